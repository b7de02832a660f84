/- A part of the proof of PackRunsSaid: YtkjbflnddfehpaaCode. -/
import Derived.Test.YtkjbflnddfehpaaKV7
/- PRINTED BY mkseat.py of this repository: the compiled functions. -/
set_option linter.unusedVariables false
namespace Go.Vm.Pk
/- 3 kaudit/kauditlaw29.PackPacks -/
def r3_0 : List CO := [
  ⟨some 4, .mv (.c (.d (.bool false))), none, 0⟩]
def r3_1 : List CO := [
  ⟨some 8, .mv (.t 0), none, 0⟩,
  ⟨some 9, .call (.c (.fn 7 [])) [(.t 8), (.c (.d (.int .i64 120)))], none, 1⟩,
  ⟨some 5, .mv (.t 9), none, 3⟩]
def r3_2 : List CO := [
  ⟨some 10, .mv (.t 5), none, 0⟩,
  ⟨some 11, .call (.c (.fn 8 [])) [(.t 10), (.c (.d (.int .i64 600)))], none, 1⟩,
  ⟨some 12, .mv (.t 1), none, 0⟩,
  ⟨some 13, .mv (.t 1), none, 0⟩,
  ⟨some 14, .len .sl (.t 13), none, 8⟩,
  ⟨some 15, .min (.t 14) [(.c (.d (.int .i64 600)))], none, 24⟩,
  ⟨some 16, .slSl 1 (.t 12) none (some (.t 15)) none, none, 60⟩,
  ⟨some 17, .bslice 1 2 [.sl .nil 0 [], .sl .nil 0 []] false [(0, (.t 11)), (1, (.t 16))], none, 127⟩,
  ⟨some 18, .len .sl (.t 17), none, 255⟩,
  ⟨some 19, .mv (.c (.d (.int .i64 0))), none, 0⟩]
def r3_3 : List CO := [
  ⟨some 20, .bin .int .lss (.t 19) (.t 18), none, 0⟩]
def r3_4 : List CO := [
  ⟨some 21, .ia 1 (.t 17) (.t 19), none, 0⟩,
  ⟨some 22, .load false 1 (.t 21), none, 1⟩,
  ⟨some 7, .mv (.t 22), none, 3⟩]
def r3_5 : List CO := [
  ⟨some 23, .mv (.t 7), none, 0⟩,
  ⟨some 24, .call (.c (.fn 10 [])) [(.t 23)], none, 1⟩,
  ⟨some 25, .mv (.t 7), none, 0⟩,
  ⟨some 26, .call (.c (.fn 11 [])) [(.t 25)], none, 7⟩,
  ⟨some 27, .call (.c (.fn 9 [])) [(.t 24), (.t 26)], none, 15⟩,
  ⟨some 28, .un .not (.t 27), none, 31⟩]
def r3_6 : List CO := [
  ⟨some 4, .mv (.c (.d (.bool false))), none, 0⟩]
def r3_7 : List CO := [
  ⟨some 29, .bin .int .add (.t 19) (.c (.d (.int .i64 1))), none, 0⟩,
  ⟨some 19, .mv (.t 29), none, 1⟩]
def l3_8 : CCode := .seq (.reg r3_3 false (some [17, 18, 19, 20])) (.seq (.cond (.t 20) (.skip) (.exit 0)) (.seq (.block 1 (.seq (.reg r3_4 false (some [7, 17, 18, 19])) (.seq (.reg r3_5 false (some [17, 18, 19, 28])) (.cond (.t 28) (.seq (.reg r3_6 false (some [4])) (.ret)) (.skip))))) (.reg r3_7 false (some [17, 18, 19]))))
def r3_9 : List CO := [
  ⟨some 30, .call (.c (.fn 12 [])) [], none, 0⟩,
  ⟨some 4, .mv (.t 30), none, 1⟩]
def c3 : CF := { body := .seq (.reg r3_0 false (some [0, 1])) (.seq (.reg r3_1 false (some [1, 5])) (.seq (.seq (.reg r3_2 true (some [17, 18, 19])) (.block 0 (.loop [(17, none), (18, none), (19, none)] l3_8))) (.seq (.reg r3_9 false (some [4])) (.ret)))), res := [.tmp 4], rowArgs := [], keep := false, rowRes := [], clone := none, dl := none }
/- 4 kaudit/kauditlaw29.PackUnpacks -/
def r4_0 : List CO := [
  ⟨some 12, .mv (.c (.d (.bool false))), none, 0⟩]
def r4_1 : List CO := [
  ⟨some 25, .mv (.t 0), none, 0⟩,
  ⟨some 26, .call (.c (.fn 7 [])) [(.t 25), (.c (.d (.int .i64 120)))], none, 1⟩,
  ⟨some 13, .mv (.t 26), none, 3⟩]
def r4_2 : List CO := [
  ⟨some 27, .mv (.t 13), none, 0⟩,
  ⟨some 28, .call (.c (.fn 8 [])) [(.t 27), (.c (.d (.int .i64 300)))], none, 1⟩,
  ⟨some 29, .call (.c (.fn 10 [])) [(.t 28)], none, 3⟩,
  ⟨some 14, .mv (.t 29), none, 7⟩]
def r4_3 : List CO := [
  ⟨some 30, .mv (.t 14), none, 0⟩,
  ⟨some 31, .len .sl (.t 30), none, 1⟩,
  ⟨some 32, .bin .int .eql (.t 31) (.c (.d (.int .i64 0))), none, 3⟩]
def r4_4 : List CO := [
  ⟨some 12, .mv (.c (.d (.bool false))), none, 0⟩]
def r4_5 : List CO := [
  ⟨some 33, .mv (.t 2), none, 0⟩,
  ⟨some 34, .conv .i64 (.t 33), none, 1⟩,
  ⟨some 35, .mv (.t 14), none, 0⟩,
  ⟨some 36, .len .sl (.t 35), none, 4⟩,
  ⟨some 37, .bin .int .rem (.t 34) (.t 36), none, 15⟩,
  ⟨some 15, .mv (.t 37), none, 31⟩]
def r4_6 : List CO := [
  ⟨some 38, .bslice 1 0 [] false [], none, 0⟩,
  ⟨some 39, .mv (.t 14), none, 0⟩,
  ⟨some 40, .app 1 1 (.t 38) (.t 39), none, 3⟩,
  ⟨some 16, .mv (.t 40), none, 7⟩]
def r4_7 : List CO := [
  ⟨some 41, .mv (.t 4), none, 0⟩,
  ⟨some 42, .bin .int .rem (.t 41) (.c (.d (.int .u8 4))), none, 1⟩]
def r4_8 : List CO := [
  ⟨some 56, .bin .int .eql (.t 42) (.c (.d (.int .u8 0))), none, 0⟩,
  ⟨some 55, .mv (.t 56), none, 1⟩]
def r4_9 : List CO := [
  ⟨some 57, .mv (.t 16), none, 0⟩,
  ⟨some 58, .mv (.t 15), none, 0⟩,
  ⟨some 59, .ia 1 (.t 57) (.t 58), none, 3⟩,
  ⟨some 60, .load false 1 (.t 59), none, 7⟩,
  ⟨some 61, .mv (.t 3), none, 0⟩,
  ⟨some 62, .bin .int .add (.t 60) (.t 61), none, 31⟩,
  ⟨some 63, .ia 1 (.t 57) (.t 58), none, 63⟩,
  ⟨none, .store 1 (.t 63) (.t 62), none, 127⟩]
def r4_10 : List CO := [
  ⟨some 65, .bin .int .eql (.t 42) (.c (.d (.int .u8 1))), none, 0⟩,
  ⟨some 64, .mv (.t 65), none, 1⟩]
def r4_11 : List CO := [
  ⟨some 66, .mv (.t 16), none, 0⟩,
  ⟨some 67, .mv (.t 15), none, 0⟩,
  ⟨some 68, .slSl 1 (.t 66) none (some (.t 67)) none, none, 3⟩,
  ⟨some 16, .mv (.t 68), none, 7⟩]
def r4_12 : List CO := [
  ⟨some 70, .bin .int .eql (.t 42) (.c (.d (.int .u8 2))), none, 0⟩,
  ⟨some 69, .mv (.t 70), none, 1⟩]
def r4_13 : List CO := [
  ⟨some 71, .mv (.t 16), none, 0⟩,
  ⟨some 72, .mv (.t 3), none, 0⟩,
  ⟨some 73, .bslice 1 1 [.int .u8 0] false [(0, (.t 72))], none, 2⟩,
  ⟨some 74, .app 1 1 (.t 71) (.t 73), none, 7⟩,
  ⟨some 16, .mv (.t 74), none, 15⟩]
def r4_14 : List CO := [
  ⟨some 43, .bslice 1 0 [] false [], none, 0⟩,
  ⟨some 44, .mv (.t 14), none, 0⟩,
  ⟨some 45, .mv (.t 15), none, 0⟩,
  ⟨some 46, .slSl 1 (.t 44) none (some (.t 45)) none, none, 6⟩,
  ⟨some 47, .app 1 1 (.t 43) (.t 46), none, 15⟩,
  ⟨some 48, .mv (.t 3), none, 0⟩,
  ⟨some 49, .bslice 1 1 [.int .u8 0] false [(0, (.t 48))], none, 32⟩,
  ⟨some 50, .app 1 1 (.t 47) (.t 49), none, 127⟩,
  ⟨some 51, .mv (.t 14), none, 0⟩,
  ⟨some 52, .mv (.t 15), none, 0⟩,
  ⟨some 53, .slSl 1 (.t 51) (some (.t 52)) none none, none, 768⟩,
  ⟨some 54, .app 1 1 (.t 50) (.t 53), none, 2047⟩,
  ⟨some 16, .mv (.t 54), none, 4095⟩]
def r4_15 : List CO := [
  ⟨some 75, .mv (.t 14), none, 0⟩,
  ⟨some 76, .mv (.t 16), none, 0⟩,
  ⟨some 77, .mv (.t 1), none, 0⟩,
  ⟨some 78, .bslice 1 3 [.sl .nil 0 [], .sl .nil 0 [], .sl .nil 0 []] false [(0, (.t 75)), (1, (.t 76)), (2, (.t 77))], none, 7⟩,
  ⟨some 79, .len .sl (.t 78), none, 15⟩,
  ⟨some 80, .mv (.c (.d (.int .i64 0))), none, 0⟩]
def r4_16 : List CO := [
  ⟨some 81, .bin .int .lss (.t 80) (.t 79), none, 0⟩]
def r4_17 : List CO := [
  ⟨some 82, .ia 1 (.t 78) (.t 80), none, 0⟩,
  ⟨some 83, .load false 1 (.t 82), none, 1⟩,
  ⟨some 18, .mv (.t 83), none, 3⟩]
def r4_18 : List CO := [
  ⟨some 84, .mv (.t 5), none, 0⟩,
  ⟨some 85, .mv (.t 13), none, 0⟩,
  ⟨some 86, .call (.c (.fn 13 [])) [(.t 85), (.c (.d (.int .i64 300)))], none, 2⟩,
  ⟨some 87, .bslice 1 3 [.int .i64 0, .int .i64 0, .int .i64 0] false [(0, (.t 84)), (1, (.c (.d (.int .i64 300)))), (2, (.t 86))], none, 7⟩,
  ⟨some 88, .len .sl (.t 87), none, 15⟩,
  ⟨some 89, .mv (.c (.d (.int .i64 0))), none, 0⟩]
def r4_19 : List CO := [
  ⟨some 90, .bin .int .lss (.t 89) (.t 88), none, 0⟩]
def r4_20 : List CO := [
  ⟨some 91, .ia 1 (.t 87) (.t 89), none, 0⟩,
  ⟨some 92, .load false 1 (.t 91), none, 1⟩,
  ⟨some 20, .mv (.t 92), none, 3⟩]
def r4_21 : List CO := [
  ⟨some 93, .mv (.t 20), none, 0⟩,
  ⟨some 94, .min (.t 93) [(.c (.d (.int .i64 100000)))], none, 1⟩,
  ⟨some 20, .mv (.t 94), none, 3⟩]
def r4_22 : List CO := [
  ⟨some 96, .mv (.t 18), none, 0⟩,
  ⟨some 97, .mv (.t 20), none, 0⟩,
  ⟨some 98, .call (.c (.fn 14 [])) [(.t 96), (.t 97)], none, 3⟩,
  ⟨some 95, .mv (.t 98), none, 7⟩,
  ⟨some 99, .ext 0 (.t 95), none, 15⟩,
  ⟨some 100, .ext 1 (.t 95), none, 15⟩,
  ⟨some 21, .mv (.t 99), none, 31⟩,
  ⟨some 22, .mv (.t 100), none, 127⟩]
def r4_23 : List CO := [
  ⟨some 102, .mv (.t 18), none, 0⟩,
  ⟨some 103, .mv (.t 20), none, 0⟩,
  ⟨some 104, .call (.c (.fn 15 [])) [(.t 102), (.t 103)], none, 3⟩,
  ⟨some 101, .mv (.t 104), none, 7⟩,
  ⟨some 105, .ext 0 (.t 101), none, 15⟩,
  ⟨some 106, .ext 1 (.t 101), none, 15⟩,
  ⟨some 23, .mv (.t 105), none, 31⟩,
  ⟨some 24, .mv (.t 106), none, 127⟩]
def r4_24 : List CO := [
  ⟨some 107, .mv (.t 22), none, 0⟩,
  ⟨some 108, .mv (.t 24), none, 0⟩,
  ⟨some 109, .bin .int .neq (.t 107) (.t 108), none, 3⟩,
  ⟨some 110, .mv (.t 109), none, 7⟩,
  ⟨some 111, .mv (.t 21), some (110, false), 15⟩,
  ⟨some 112, .mv (.t 23), some (110, false), 15⟩,
  ⟨some 113, .call (.c (.fn 9 [])) [(.t 111), (.t 112)], some (110, false), 63⟩,
  ⟨some 114, .un .not (.t 113), some (110, false), 127⟩,
  ⟨some 115, .pick (.t 110) (.c (.d (.bool true))) (.t 114), none, 255⟩]
def r4_25 : List CO := [
  ⟨some 12, .mv (.c (.d (.bool false))), none, 0⟩]
def r4_26 : List CO := [
  ⟨some 116, .bin .int .add (.t 89) (.c (.d (.int .i64 1))), none, 0⟩,
  ⟨some 89, .mv (.t 116), none, 1⟩]
def l4_27 : CCode := .seq (.reg r4_19 false (some [5, 13, 18, 78, 79, 80, 87, 88, 89, 90])) (.seq (.cond (.t 90) (.skip) (.exit 3)) (.seq (.block 4 (.seq (.reg r4_20 false (some [5, 13, 18, 20, 78, 79, 80, 87, 88, 89])) (.seq (.reg r4_21 false (some [5, 13, 18, 20, 78, 79, 80, 87, 88, 89])) (.seq (.reg r4_22 false (some [5, 13, 18, 20, 21, 22, 78, 79, 80, 87, 88, 89])) (.seq (.reg r4_23 false (some [5, 13, 18, 21, 22, 23, 24, 78, 79, 80, 87, 88, 89])) (.seq (.reg r4_24 false (some [5, 13, 18, 78, 79, 80, 87, 88, 89, 115])) (.cond (.t 115) (.seq (.reg r4_25 false (some [12])) (.ret)) (.skip)))))))) (.reg r4_26 false (some [5, 13, 18, 78, 79, 80, 87, 88, 89]))))
def r4_28 : List CO := [
  ⟨some 117, .bin .int .add (.t 80) (.c (.d (.int .i64 1))), none, 0⟩,
  ⟨some 80, .mv (.t 117), none, 1⟩]
def l4_29 : CCode := .seq (.reg r4_16 false (some [5, 13, 78, 79, 80, 81])) (.seq (.cond (.t 81) (.skip) (.exit 1)) (.seq (.block 2 (.seq (.reg r4_17 false (some [5, 13, 18, 78, 79, 80])) (.seq (.reg r4_18 false (some [5, 13, 18, 78, 79, 80, 87, 88, 89])) (.block 3 (.loop [(5, none), (13, none), (18, none), (78, none), (79, none), (80, none), (87, none), (88, none), (89, none)] l4_27))))) (.reg r4_28 false (some [5, 13, 78, 79, 80]))))
def r4_30 : List CO := [
  ⟨some 118, .call (.c (.fn 12 [])) [], none, 0⟩,
  ⟨some 12, .mv (.t 118), none, 1⟩]
def c4 : CF := { body := .seq (.reg r4_0 false (some [0, 1, 2, 3, 4, 5])) (.seq (.reg r4_1 false (some [1, 2, 3, 4, 5, 13])) (.seq (.reg r4_2 false (some [1, 2, 3, 4, 5, 13, 14])) (.seq (.seq (.reg r4_3 false (some [1, 2, 3, 4, 5, 13, 14, 32])) (.cond (.t 32) (.seq (.reg r4_4 false (some [12])) (.ret)) (.skip))) (.seq (.reg r4_5 false (some [1, 3, 4, 5, 13, 14, 15])) (.seq (.reg r4_6 false (some [1, 3, 4, 5, 13, 14, 15, 16])) (.seq (.seq (.reg r4_7 false (some [1, 3, 5, 13, 14, 15, 16, 42])) (.block 0 (.seq (.reg r4_8 false (some [1, 3, 5, 13, 14, 15, 16, 42, 55])) (.cond (.t 55) (.reg r4_9 false (some [1, 5, 13, 14, 16])) (.seq (.reg r4_10 false (some [1, 3, 5, 13, 14, 15, 16, 42, 64])) (.cond (.t 64) (.reg r4_11 false (some [1, 5, 13, 14, 16])) (.seq (.reg r4_12 false (some [1, 3, 5, 13, 14, 15, 16, 69])) (.cond (.t 69) (.reg r4_13 false (some [1, 5, 13, 14, 16])) (.reg r4_14 true (some [1, 5, 13, 14, 16])))))))))) (.seq (.seq (.reg r4_15 false (some [5, 13, 78, 79, 80])) (.block 1 (.loop [(5, none), (13, none), (78, none), (79, none), (80, none)] l4_29))) (.seq (.reg r4_30 false (some [12])) (.ret))))))))), res := [.tmp 12], rowArgs := [], keep := false, rowRes := [], clone := none, dl := none }
/- 5 kaudit/kauditlaw29.PackBack -/
def r5_0 : List CO := [
  ⟨some 4, .mv (.c (.d (.bool false))), none, 0⟩]
def r5_1 : List CO := [
  ⟨some 13, .mv (.t 0), none, 0⟩,
  ⟨some 14, .call (.c (.fn 7 [])) [(.t 13), (.c (.d (.int .i64 150)))], none, 1⟩,
  ⟨some 5, .mv (.t 14), none, 3⟩]
def r5_2 : List CO := [
  ⟨some 15, .mv (.t 5), none, 0⟩,
  ⟨some 16, .call (.c (.fn 8 [])) [(.t 15), (.c (.d (.int .i64 800)))], none, 1⟩,
  ⟨some 17, .mv (.t 1), none, 0⟩,
  ⟨some 18, .mv (.t 1), none, 0⟩,
  ⟨some 19, .len .sl (.t 18), none, 8⟩,
  ⟨some 20, .min (.t 19) [(.c (.d (.int .i64 800)))], none, 24⟩,
  ⟨some 21, .slSl 1 (.t 17) none (some (.t 20)) none, none, 60⟩,
  ⟨some 22, .bslice 1 2 [.sl .nil 0 [], .sl .nil 0 []] false [(0, (.t 16)), (1, (.t 21))], none, 127⟩,
  ⟨some 23, .len .sl (.t 22), none, 255⟩,
  ⟨some 24, .mv (.c (.d (.int .i64 0))), none, 0⟩]
def r5_3 : List CO := [
  ⟨some 25, .bin .int .lss (.t 24) (.t 23), none, 0⟩]
def r5_4 : List CO := [
  ⟨some 26, .ia 1 (.t 22) (.t 24), none, 0⟩,
  ⟨some 27, .load false 1 (.t 26), none, 1⟩,
  ⟨some 7, .mv (.t 27), none, 3⟩]
def r5_5 : List CO := [
  ⟨some 28, .mv (.t 7), none, 0⟩,
  ⟨some 29, .call (.c (.fn 10 [])) [(.t 28)], none, 1⟩,
  ⟨some 8, .mv (.t 29), none, 3⟩]
def r5_6 : List CO := [
  ⟨some 31, .mv (.t 8), none, 0⟩,
  ⟨some 32, .mv (.t 7), none, 0⟩,
  ⟨some 33, .len .sl (.t 32), none, 2⟩,
  ⟨some 34, .call (.c (.fn 14 [])) [(.t 31), (.t 33)], none, 7⟩,
  ⟨some 30, .mv (.t 34), none, 15⟩,
  ⟨some 35, .ext 0 (.t 30), none, 31⟩,
  ⟨some 36, .ext 1 (.t 30), none, 31⟩,
  ⟨some 9, .mv (.t 35), none, 63⟩,
  ⟨some 10, .mv (.t 36), none, 255⟩]
def r5_7 : List CO := [
  ⟨some 37, .mv (.t 10), none, 0⟩,
  ⟨some 38, .bin .int .neq (.t 37) (.c (.d (.int .i64 0))), none, 1⟩,
  ⟨some 39, .mv (.t 38), none, 3⟩,
  ⟨some 40, .mv (.t 9), some (39, false), 7⟩,
  ⟨some 41, .mv (.t 7), some (39, false), 7⟩,
  ⟨some 42, .call (.c (.fn 9 [])) [(.t 40), (.t 41)], some (39, false), 31⟩,
  ⟨some 43, .un .not (.t 42), some (39, false), 63⟩,
  ⟨some 44, .pick (.t 39) (.c (.d (.bool true))) (.t 43), none, 127⟩,
  ⟨some 45, .mv (.t 44), none, 255⟩,
  ⟨some 46, .mv (.t 8), some (45, false), 511⟩,
  ⟨some 47, .len .sl (.t 46), some (45, false), 1023⟩,
  ⟨some 48, .mv (.t 7), some (45, false), 511⟩,
  ⟨some 49, .len .sl (.t 48), some (45, false), 2559⟩,
  ⟨some 50, .mv (.t 7), some (45, false), 511⟩,
  ⟨some 51, .len .sl (.t 50), some (45, false), 8703⟩,
  ⟨some 52, .bin .int .add (.t 51) (.c (.d (.int .i64 126))), some (45, false), 25087⟩,
  ⟨some 53, .bin .int .quo (.t 52) (.c (.d (.int .i64 127))), some (45, false), 57855⟩,
  ⟨some 54, .bin .int .add (.t 49) (.t 53), some (45, false), 129535⟩,
  ⟨some 55, .bin .int .add (.t 54) (.c (.d (.int .i64 10))), some (45, false), 260607⟩,
  ⟨some 56, .bin .int .gtr (.t 47) (.t 55), some (45, false), 524287⟩,
  ⟨some 57, .pick (.t 45) (.c (.d (.bool true))) (.t 56), none, 1048575⟩]
def r5_8 : List CO := [
  ⟨some 4, .mv (.c (.d (.bool false))), none, 0⟩]
def r5_9 : List CO := [
  ⟨some 59, .mv (.t 8), none, 0⟩,
  ⟨some 60, .mv (.t 7), none, 0⟩,
  ⟨some 61, .len .sl (.t 60), none, 2⟩,
  ⟨some 62, .bin .int .sub (.t 61) (.c (.d (.int .i64 1))), none, 6⟩,
  ⟨some 63, .call (.c (.fn 14 [])) [(.t 59), (.t 62)], none, 15⟩,
  ⟨some 58, .mv (.t 63), none, 31⟩,
  ⟨some 64, .ext 0 (.t 58), none, 63⟩,
  ⟨some 65, .ext 1 (.t 58), none, 63⟩,
  ⟨some 11, .mv (.t 64), none, 127⟩,
  ⟨some 12, .mv (.t 65), none, 511⟩]
def r5_10 : List CO := [
  ⟨some 66, .mv (.t 12), none, 0⟩,
  ⟨some 67, .bin .int .neq (.t 66) (.c (.d (.int .i64 291))), none, 1⟩]
def r5_11 : List CO := [
  ⟨some 4, .mv (.c (.d (.bool false))), none, 0⟩]
def r5_12 : List CO := [
  ⟨some 68, .bin .int .add (.t 24) (.c (.d (.int .i64 1))), none, 0⟩,
  ⟨some 24, .mv (.t 68), none, 1⟩]
def l5_13 : CCode := .seq (.reg r5_3 false (some [22, 23, 24, 25])) (.seq (.cond (.t 25) (.skip) (.exit 0)) (.seq (.block 1 (.seq (.reg r5_4 false (some [7, 22, 23, 24])) (.seq (.reg r5_5 false (some [7, 8, 22, 23, 24])) (.seq (.reg r5_6 false (some [7, 8, 9, 10, 22, 23, 24])) (.seq (.seq (.reg r5_7 false (some [7, 8, 22, 23, 24, 57])) (.cond (.t 57) (.seq (.reg r5_8 false (some [4])) (.ret)) (.skip))) (.seq (.reg r5_9 false (some [12, 22, 23, 24])) (.seq (.reg r5_10 false (some [22, 23, 24, 67])) (.cond (.t 67) (.seq (.reg r5_11 false (some [4])) (.ret)) (.skip))))))))) (.reg r5_12 false (some [22, 23, 24]))))
def r5_14 : List CO := [
  ⟨some 69, .call (.c (.fn 12 [])) [], none, 0⟩,
  ⟨some 4, .mv (.t 69), none, 1⟩]
def c5 : CF := { body := .seq (.reg r5_0 false (some [0, 1])) (.seq (.reg r5_1 false (some [1, 5])) (.seq (.seq (.reg r5_2 true (some [22, 23, 24])) (.block 0 (.loop [(22, none), (23, none), (24, none)] l5_13))) (.seq (.reg r5_14 false (some [4])) (.ret)))), res := [.tmp 4], rowArgs := [], keep := false, rowRes := [], clone := none, dl := none }
/- 6 kaudit/kauditlaw29.PackRuns -/
def r6_0 : List CO := [
  ⟨some 4, .mv (.c (.d (.bool false))), none, 0⟩]
def r6_1 : List CO := [
  ⟨some 10, .mv (.t 0), none, 0⟩,
  ⟨some 11, .mv (.t 0), none, 0⟩,
  ⟨some 12, .len .sl (.t 11), none, 2⟩,
  ⟨some 13, .min (.t 12) [(.c (.d (.int .i64 9)))], none, 6⟩,
  ⟨some 14, .slSl 1 (.t 10) none (some (.t 13)) none, none, 15⟩,
  ⟨some 0, .mv (.t 14), none, 31⟩]
def r6_2 : List CO := [
  ⟨some 5, .mv (.c (.d (.sl .nil 0 []))), none, 0⟩]
def r6_3 : List CO := [
  ⟨some 6, .mv (.c (.d (.int .i64 0))), none, 0⟩]
def r6_4 : List CO := [
  ⟨some 15, .mv (.t 6), none, 0⟩,
  ⟨some 16, .mv (.t 1), none, 0⟩,
  ⟨some 17, .conv .i64 (.t 16), none, 2⟩,
  ⟨some 18, .bin .int .lss (.t 15) (.t 17), none, 7⟩]
def r6_5 : List CO := [
  ⟨some 21, .mv (.t 5), none, 0⟩,
  ⟨some 22, .mv (.t 0), none, 0⟩,
  ⟨some 23, .app 1 1 (.t 21) (.t 22), none, 3⟩,
  ⟨some 5, .mv (.t 23), none, 7⟩]
def r6_6 : List CO := [
  ⟨some 19, .mv (.t 6), none, 0⟩,
  ⟨some 20, .bin .int .add (.t 19) (.c (.d (.int .i64 1))), none, 1⟩,
  ⟨some 6, .mv (.t 20), none, 3⟩]
def l6_7 : CCode := .seq (.seq (.reg r6_4 false (some [0, 1, 5, 6, 18])) (.cond (.t 18) (.skip) (.exit 0))) (.seq (.block 1 (.reg r6_5 false (some [0, 1, 5, 6]))) (.reg r6_6 false (some [0, 1, 5, 6])))
def r6_8 : List CO := [
  ⟨some 24, .mv (.t 5), none, 0⟩,
  ⟨some 25, .call (.c (.fn 10 [])) [(.t 24)], none, 1⟩,
  ⟨some 7, .mv (.t 25), none, 3⟩]
def r6_9 : List CO := [
  ⟨some 27, .mv (.t 7), none, 0⟩,
  ⟨some 28, .mv (.t 5), none, 0⟩,
  ⟨some 29, .len .sl (.t 28), none, 2⟩,
  ⟨some 30, .call (.c (.fn 14 [])) [(.t 27), (.t 29)], none, 7⟩,
  ⟨some 26, .mv (.t 30), none, 15⟩,
  ⟨some 31, .ext 0 (.t 26), none, 31⟩,
  ⟨some 32, .ext 1 (.t 26), none, 31⟩,
  ⟨some 8, .mv (.t 31), none, 63⟩,
  ⟨some 9, .mv (.t 32), none, 255⟩]
def r6_10 : List CO := [
  ⟨some 33, .mv (.t 9), none, 0⟩,
  ⟨some 34, .bin .int .eql (.t 33) (.c (.d (.int .i64 0))), none, 1⟩,
  ⟨some 35, .mv (.t 34), none, 3⟩,
  ⟨some 36, .mv (.t 8), some (35, true), 7⟩,
  ⟨some 37, .mv (.t 5), some (35, true), 7⟩,
  ⟨some 38, .call (.c (.fn 9 [])) [(.t 36), (.t 37)], some (35, true), 31⟩,
  ⟨some 39, .pick (.t 35) (.t 38) (.c (.d (.bool false))), none, 63⟩,
  ⟨some 40, .mv (.t 39), none, 127⟩,
  ⟨some 41, .mv (.t 7), some (40, true), 255⟩,
  ⟨some 42, .len .sl (.t 41), some (40, true), 511⟩,
  ⟨some 43, .mv (.t 0), some (40, true), 255⟩,
  ⟨some 44, .len .sl (.t 43), some (40, true), 1279⟩,
  ⟨some 45, .bin .int .mul (.c (.d (.int .i64 2))) (.t 44), some (40, true), 3327⟩,
  ⟨some 46, .bin .int .add (.c (.d (.int .i64 5))) (.t 45), some (40, true), 7423⟩,
  ⟨some 47, .mv (.t 5), some (40, true), 255⟩,
  ⟨some 48, .len .sl (.t 47), some (40, true), 16639⟩,
  ⟨some 49, .bin .int .quo (.t 48) (.c (.d (.int .i64 131))), some (40, true), 49407⟩,
  ⟨some 50, .bin .int .add (.t 49) (.c (.d (.int .i64 2))), some (40, true), 114943⟩,
  ⟨some 51, .bin .int .mul (.c (.d (.int .i64 3))) (.t 50), some (40, true), 246015⟩,
  ⟨some 52, .bin .int .add (.t 46) (.t 51), some (40, true), 523519⟩,
  ⟨some 53, .bin .int .leq (.t 42) (.t 52), some (40, true), 1048575⟩,
  ⟨some 54, .pick (.t 40) (.t 53) (.c (.d (.bool false))), none, 2097151⟩,
  ⟨some 55, .mv (.t 54), none, 4194303⟩,
  ⟨some 56, .call (.c (.fn 12 [])) [], some (55, true), 8388607⟩,
  ⟨some 57, .pick (.t 55) (.t 56) (.c (.d (.bool false))), none, 16777215⟩,
  ⟨some 4, .mv (.t 57), none, 33554431⟩]
def c6 : CF := { body := .seq (.reg r6_0 false (some [0, 1])) (.seq (.reg r6_1 false (some [0, 1])) (.seq (.reg r6_2 false (some [0, 1, 5])) (.seq (.seq (.reg r6_3 false (some [0, 1, 5, 6])) (.block 0 (.loop [(0, none), (1, none), (5, some 1), (6, none)] l6_7))) (.seq (.reg r6_8 false (some [0, 5, 7])) (.seq (.reg r6_9 false (some [0, 5, 7, 8, 9])) (.seq (.reg r6_10 false (some [4])) (.ret))))))), res := [.tmp 4], rowArgs := [], keep := false, rowRes := [], clone := none, dl := none }
/- 7 kaudit/kauditmill.New -/
def r7_0 : List CO := [
  ⟨some 4, .mv (.c (.d (.nilp))), none, 0⟩]
def r7_1 : List CO := [
  ⟨some 5, .mv (.t 0), none, 0⟩,
  ⟨some 6, .len .sl (.t 5), none, 1⟩,
  ⟨some 7, .mv (.t 1), none, 0⟩,
  ⟨some 8, .bin .int .gtr (.t 6) (.t 7), none, 7⟩]
def r7_2 : List CO := [
  ⟨some 9, .mv (.t 0), none, 0⟩,
  ⟨some 10, .mv (.t 1), none, 0⟩,
  ⟨some 11, .slSl 1 (.t 9) none (some (.t 10)) none, none, 3⟩,
  ⟨some 0, .mv (.t 11), none, 7⟩]
def r7_3 : List CO := [
  ⟨some 12, .mv (.t 0), none, 0⟩,
  ⟨some 13, .build [.d (.sl .nil 0 []), .d (.int .i64 0)] [(0, 1, (.t 12))], none, 1⟩,
  ⟨some 14, .box 2 (.t 13) [], none, 3⟩,
  ⟨some 4, .mv (.t 14), none, 7⟩]
def c7 : CF := { body := .seq (.reg r7_0 false (some [0, 1])) (.seq (.seq (.reg r7_1 false (some [0, 1, 8])) (.cond (.t 8) (.reg r7_2 false (some [0])) (.skip))) (.seq (.reg r7_3 false (some [4])) (.ret))), res := [.tmp 4], rowArgs := [], keep := false, rowRes := [], clone := none, dl := none }
/- 8 kaudit/kauditlaw29.text -/
def r8_0 : List CO := [
  ⟨some 4, .mv (.c (.d (.sl .nil 0 []))), none, 0⟩]
def r8_1 : List CO := [
  ⟨some 5, .mv (.c (.d (.sl .nil 0 []))), none, 0⟩]
def r8_2 : List CO := [
  ⟨some 8, .mv (.t 0), none, 0⟩,
  ⟨some 9, .call (.c (.fn 16 [])) [(.t 8)], none, 1⟩,
  ⟨some 10, .mv (.t 9), none, 3⟩,
  ⟨some 11, .mv (.t 5), some (10, true), 7⟩,
  ⟨some 12, .len .sl (.t 11), some (10, true), 15⟩,
  ⟨some 13, .mv (.t 1), some (10, true), 7⟩,
  ⟨some 14, .bin .int .lss (.t 12) (.t 13), some (10, true), 63⟩,
  ⟨some 15, .pick (.t 10) (.t 14) (.c (.d (.bool false))), none, 127⟩]
def r8_3 : List CO := [
  ⟨some 16, .mv (.t 0), none, 0⟩,
  ⟨some 17, .call (.c (.fn 13 [])) [(.t 16), (.c (.d (.int .i64 3)))], none, 1⟩,
  ⟨some 6, .mv (.t 17), none, 3⟩]
def r8_4 : List CO := [
  ⟨some 18, .mv (.t 6), none, 0⟩,
  ⟨some 19, .bin .int .gtr (.t 18) (.c (.d (.int .i64 0))), none, 1⟩,
  ⟨some 20, .mv (.t 19), none, 3⟩,
  ⟨some 21, .mv (.t 5), some (20, true), 7⟩,
  ⟨some 22, .len .sl (.t 21), some (20, true), 15⟩,
  ⟨some 23, .bin .int .gtr (.t 22) (.c (.d (.int .i64 0))), some (20, true), 31⟩,
  ⟨some 24, .pick (.t 20) (.t 23) (.c (.d (.bool false))), none, 63⟩]
def r8_5 : List CO := [
  ⟨some 25, .mv (.t 0), none, 0⟩,
  ⟨some 26, .mv (.t 5), none, 0⟩,
  ⟨some 27, .len .sl (.t 26), none, 2⟩,
  ⟨some 28, .call (.c (.fn 13 [])) [(.t 25), (.t 27)], none, 7⟩,
  ⟨some 7, .mv (.t 28), none, 15⟩]
def r8_6 : List CO := [
  ⟨some 29, .mv (.t 5), none, 0⟩,
  ⟨some 30, .mv (.t 5), none, 0⟩,
  ⟨some 31, .mv (.t 7), none, 0⟩,
  ⟨some 32, .mv (.t 5), none, 0⟩,
  ⟨some 33, .len .sl (.t 32), none, 8⟩,
  ⟨some 34, .mv (.t 7), none, 0⟩,
  ⟨some 35, .mv (.t 0), none, 0⟩,
  ⟨some 36, .call (.c (.fn 13 [])) [(.t 35), (.c (.d (.int .i64 200)))], none, 64⟩,
  ⟨some 37, .bin .int .add (.t 34) (.t 36), none, 224⟩,
  ⟨some 38, .min (.t 33) [(.t 37)], none, 504⟩,
  ⟨some 39, .slSl 1 (.t 30) (some (.t 31)) (some (.t 38)) none, none, 1022⟩,
  ⟨some 40, .app 1 1 (.t 29) (.t 39), none, 2047⟩,
  ⟨some 5, .mv (.t 40), none, 4095⟩]
def r8_7 : List CO := [
  ⟨some 41, .mv (.t 5), none, 0⟩,
  ⟨some 42, .mv (.t 0), none, 0⟩,
  ⟨some 43, .call (.c (.fn 17 [])) [(.t 42), (.c (.d (.int .i64 9)))], none, 2⟩,
  ⟨some 44, .app 1 1 (.t 41) (.t 43), none, 7⟩,
  ⟨some 5, .mv (.t 44), none, 15⟩]
def l8_8 : CCode := .seq (.seq (.reg r8_2 false (some [0, 1, 5, 15])) (.cond (.t 15) (.skip) (.exit 0))) (.block 1 (.seq (.reg r8_3 false (some [0, 1, 5, 6])) (.seq (.reg r8_4 false (some [0, 1, 5, 24])) (.cond (.t 24) (.seq (.reg r8_5 false (some [0, 1, 5, 7])) (.reg r8_6 false (some [0, 1, 5]))) (.reg r8_7 false (some [0, 1, 5]))))))
def r8_9 : List CO := [
  ⟨some 45, .mv (.t 5), none, 0⟩,
  ⟨some 46, .mv (.t 1), none, 0⟩,
  ⟨some 47, .mv (.t 5), none, 0⟩,
  ⟨some 48, .len .sl (.t 47), none, 4⟩,
  ⟨some 49, .min (.t 46) [(.t 48)], none, 14⟩,
  ⟨some 50, .slSl 1 (.t 45) none (some (.t 49)) none, none, 31⟩,
  ⟨some 4, .mv (.t 50), none, 63⟩]
def c8 : CF := { body := .seq (.reg r8_0 false (some [0, 1])) (.seq (.reg r8_1 false (some [0, 1, 5])) (.seq (.block 0 (.loop [(0, none), (1, none), (5, some 1)] l8_8)) (.seq (.reg r8_9 false (some [4])) (.ret)))), res := [.tmp 4], rowArgs := [], keep := false, rowRes := [], clone := none, dl := (some [0]) }
/- 9 kaudit/kauditref24.SameBytes -/
def r9_0 : List CO := [
  ⟨some 4, .mv (.c (.d (.bool false))), none, 0⟩]
def r9_1 : List CO := [
  ⟨some 5, .mv (.t 0), none, 0⟩,
  ⟨some 6, .b2s (.t 5), none, 1⟩,
  ⟨some 7, .mv (.t 1), none, 0⟩,
  ⟨some 8, .b2s (.t 7), none, 4⟩,
  ⟨some 9, .bin .str .eql (.t 6) (.t 8), none, 15⟩,
  ⟨some 4, .mv (.t 9), none, 31⟩]
def c9 : CF := { body := .seq (.reg r9_0 false (some [0, 1])) (.seq (.reg r9_1 false (some [4])) (.ret)), res := [.tmp 4], rowArgs := [], keep := false, rowRes := [], clone := none, dl := none }
/- 10 kaudit/pack.Pack -/
def r10_0 : List CO := [
  ⟨some 1, .box 1 (.t 0) [], none, 0⟩,
  ⟨some 2, .mv (.c (.d (.sl .nil 0 []))), none, 0⟩]
def r10_1 : List CO := [
  ⟨some 11, .load false 1 (.t 1), none, 0⟩,
  ⟨some 12, .len .sl (.t 11), none, 1⟩,
  ⟨some 13, .call (.c (.fn 18 [])) [(.c (.d (.sl .nil 0 []))), (.t 12)], none, 3⟩,
  ⟨some 3, .alloc [.d (.sl .nil 0 [])] [(0, 1)], none, 0⟩,
  ⟨none, .store 1 (.t 3) (.t 13), none, 15⟩]
def r10_2 : List CO := [
  ⟨some 14, .load false 1 (.t 1), none, 0⟩,
  ⟨some 15, .mkmap true, none, 0⟩,
  ⟨some 16, .build [.d (.sl .nil 0 []), .d (.nilm), .d (.sl .nil 0 [])] [(0, 1, (.t 14)), (1, 1, (.t 15))], none, 3⟩,
  ⟨some 17, .box 3 (.t 16) [(2, 1)], none, 7⟩,
  ⟨some 4, .mv (.t 17), none, 15⟩]
def r10_3 : List CO := [
  ⟨some 5, .alloc [.d (.int .i64 0)] [], none, 0⟩,
  ⟨none, .store 1 (.t 5) (.c (.d (.int .i64 0))), none, 1⟩]
def r10_4 : List CO := [
  ⟨some 18, .mkfn 19 [(.t 5), (.t 3), (.t 1)], none, 0⟩,
  ⟨some 6, .mv (.t 18), none, 1⟩]
def r10_5 : List CO := [
  ⟨some 7, .mv (.c (.d (.int .i64 0))), none, 0⟩]
def r10_6 : List CO := [
  ⟨some 19, .mv (.t 7), none, 0⟩,
  ⟨some 20, .load false 1 (.t 1), none, 0⟩,
  ⟨some 21, .len .sl (.t 20), none, 2⟩,
  ⟨some 22, .bin .int .lss (.t 19) (.t 21), none, 7⟩]
def r10_7 : List CO := [
  ⟨some 24, .mv (.t 4), none, 0⟩,
  ⟨some 25, .mv (.t 7), none, 0⟩,
  ⟨some 26, .call (.c (.fn 20 [])) [(.t 24), (.t 25)], none, 3⟩,
  ⟨some 23, .mv (.t 26), none, 7⟩,
  ⟨some 27, .ext 0 (.t 23), none, 15⟩,
  ⟨some 28, .ext 1 (.t 23), none, 15⟩,
  ⟨some 8, .mv (.t 27), none, 31⟩,
  ⟨some 9, .mv (.t 28), none, 127⟩]
def r10_8 : List CO := [
  ⟨some 10, .mv (.c (.d (.int .i64 1))), none, 0⟩]
def r10_9 : List CO := [
  ⟨some 29, .mv (.t 8), none, 0⟩,
  ⟨some 30, .bin .int .geq (.t 29) (.c (.d (.int .i64 4))), none, 1⟩]
def r10_10 : List CO := [
  ⟨some 31, .mv (.t 6), none, 0⟩,
  ⟨some 32, .mv (.t 7), none, 0⟩,
  ⟨some 33, .call (.t 31) [(.t 32)], none, 3⟩]
def r10_11 : List CO := [
  ⟨some 34, .load false 1 (.t 3), none, 0⟩,
  ⟨some 35, .mv (.t 8), none, 0⟩,
  ⟨some 36, .bin .int .add (.c (.d (.int .i64 128))) (.t 35), none, 2⟩,
  ⟨some 37, .bin .int .sub (.t 36) (.c (.d (.int .i64 4))), none, 6⟩,
  ⟨some 38, .conv .u8 (.t 37), none, 14⟩,
  ⟨some 39, .mv (.t 9), none, 0⟩,
  ⟨some 40, .bin .int .shr (.t 39) (.c (.d (.int .u64 8))), none, 32⟩,
  ⟨some 41, .conv .u8 (.t 40), none, 96⟩,
  ⟨some 42, .mv (.t 9), none, 0⟩,
  ⟨some 43, .conv .u8 (.t 42), none, 256⟩,
  ⟨some 44, .bslice 1 3 [.int .u8 0, .int .u8 0, .int .u8 0] false [(0, (.t 38)), (1, (.t 41)), (2, (.t 43))], none, 1022⟩,
  ⟨some 45, .app 1 1 (.t 34) (.t 44), none, 2047⟩,
  ⟨none, .store 1 (.t 3) (.t 45), none, 4095⟩]
def r10_12 : List CO := [
  ⟨some 46, .mv (.t 8), none, 0⟩,
  ⟨some 47, .mv (.t 7), none, 0⟩,
  ⟨some 48, .mv (.t 8), none, 0⟩,
  ⟨some 49, .bin .int .add (.t 47) (.t 48), none, 6⟩,
  ⟨some 10, .mv (.t 46), none, 1⟩,
  ⟨none, .store 1 (.t 5) (.t 49), none, 31⟩]
def r10_13 : List CO := [
  ⟨some 50, .mv (.t 7), none, 0⟩,
  ⟨some 51, .bin .int .add (.t 50) (.c (.d (.int .i64 1))), none, 1⟩,
  ⟨some 52, .load false 1 (.t 5), none, 0⟩,
  ⟨some 53, .bin .int .sub (.t 51) (.t 52), none, 7⟩,
  ⟨some 54, .bin .int .eql (.t 53) (.c (.d (.int .i64 127))), none, 15⟩]
def r10_14 : List CO := [
  ⟨some 55, .mv (.t 6), none, 0⟩,
  ⟨some 56, .mv (.t 7), none, 0⟩,
  ⟨some 57, .bin .int .add (.t 56) (.c (.d (.int .i64 1))), none, 2⟩,
  ⟨some 58, .call (.t 55) [(.t 57)], none, 7⟩]
def r10_15 : List CO := [
  ⟨some 59, .mv (.t 10), none, 0⟩,
  ⟨some 60, .bin .int .gtr (.t 59) (.c (.d (.int .i64 0))), none, 1⟩]
def r10_16 : List CO := [
  ⟨some 63, .mv (.t 4), none, 0⟩,
  ⟨some 64, .mv (.t 7), none, 0⟩,
  ⟨some 65, .call (.c (.fn 21 [])) [(.t 63), (.t 64)], none, 3⟩]
def r10_17 : List CO := [
  ⟨some 66, .mv (.t 7), none, 0⟩,
  ⟨some 67, .bin .int .add (.t 66) (.c (.d (.int .i64 1))), none, 1⟩,
  ⟨some 7, .mv (.t 67), none, 3⟩]
def r10_18 : List CO := [
  ⟨some 61, .mv (.t 10), none, 0⟩,
  ⟨some 62, .bin .int .sub (.t 61) (.c (.d (.int .i64 1))), none, 1⟩,
  ⟨some 10, .mv (.t 62), none, 3⟩]
def l10_19 : CCode := .seq (.seq (.reg r10_15 false (some [1, 3, 4, 5, 6, 7, 10, 60])) (.cond (.t 60) (.skip) (.exit 2))) (.seq (.block 3 (.seq (.reg r10_16 false (some [1, 3, 4, 5, 6, 7, 10])) (.reg r10_17 false (some [1, 3, 4, 5, 6, 7, 10])))) (.reg r10_18 false (some [1, 3, 4, 5, 6, 7, 10])))
def l10_20 : CCode := .seq (.seq (.reg r10_6 false (some [1, 3, 4, 5, 6, 7, 22])) (.cond (.t 22) (.skip) (.exit 0))) (.block 1 (.seq (.reg r10_7 false (some [1, 3, 4, 5, 6, 7, 8, 9])) (.seq (.reg r10_8 false (some [1, 3, 4, 5, 6, 7, 8, 9, 10])) (.seq (.seq (.reg r10_9 false (some [1, 3, 4, 5, 6, 7, 8, 9, 10, 30])) (.cond (.t 30) (.seq (.reg r10_10 false (some [1, 3, 4, 5, 6, 7, 8, 9])) (.seq (.reg r10_11 false (some [1, 3, 4, 5, 6, 7, 8])) (.reg r10_12 false (some [1, 3, 4, 5, 6, 7, 10])))) (.seq (.reg r10_13 false (some [1, 3, 4, 5, 6, 7, 10, 54])) (.cond (.t 54) (.reg r10_14 false (some [1, 3, 4, 5, 6, 7, 10])) (.skip))))) (.block 2 (.loop [(1, none), (3, none), (4, none), (5, none), (6, none), (7, none), (10, none)] l10_19))))))
def r10_21 : List CO := [
  ⟨some 68, .mv (.t 6), none, 0⟩,
  ⟨some 69, .load false 1 (.t 1), none, 0⟩,
  ⟨some 70, .len .sl (.t 69), none, 2⟩,
  ⟨some 71, .call (.t 68) [(.t 70)], none, 7⟩]
def r10_22 : List CO := [
  ⟨some 72, .load false 1 (.t 3), none, 0⟩,
  ⟨some 2, .mv (.t 72), none, 1⟩]
def c10 : CF := { body := .seq (.reg r10_0 false (some [1])) (.seq (.reg r10_1 false (some [1, 3])) (.seq (.reg r10_2 false (some [1, 3, 4])) (.seq (.reg r10_3 false (some [1, 3, 4, 5])) (.seq (.reg r10_4 false (some [1, 3, 4, 5, 6])) (.seq (.seq (.reg r10_5 false (some [1, 3, 4, 5, 6, 7])) (.block 0 (.loop [(1, none), (3, none), (4, none), (5, none), (6, none), (7, none)] l10_20))) (.seq (.reg r10_21 false (some [3])) (.seq (.reg r10_22 false (some [2])) (.ret)))))))), res := [.tmp 2], rowArgs := [], keep := false, rowRes := [], clone := none, dl := none }
/- 11 kaudit/kauditref26.Pack -/
def r11_0 : List CO := [
  ⟨some 2, .mv (.c (.d (.sl .nil 0 []))), none, 0⟩]
def r11_1 : List CO := [
  ⟨some 8, .mv (.t 0), none, 0⟩,
  ⟨some 9, .len .sl (.t 8), none, 1⟩,
  ⟨some 10, .call (.c (.fn 22 [])) [(.c (.d (.sl .nil 0 []))), (.t 9)], none, 3⟩,
  ⟨some 3, .mv (.t 10), none, 7⟩]
def r11_2 : List CO := [
  ⟨some 4, .mv (.c (.d (.sl .nil 0 []))), none, 0⟩]
def r11_3 : List CO := [
  ⟨some 5, .mv (.c (.d (.int .i64 0))), none, 0⟩]
def r11_4 : List CO := [
  ⟨some 11, .mv (.t 5), none, 0⟩,
  ⟨some 12, .mv (.t 0), none, 0⟩,
  ⟨some 13, .len .sl (.t 12), none, 2⟩,
  ⟨some 14, .bin .int .lss (.t 11) (.t 13), none, 7⟩]
def r11_5 : List CO := [
  ⟨some 16, .mv (.t 0), none, 0⟩,
  ⟨some 17, .mv (.t 5), none, 0⟩,
  ⟨some 18, .call (.c (.fn 23 [])) [(.t 16), (.t 17)], none, 3⟩,
  ⟨some 15, .mv (.t 18), none, 7⟩,
  ⟨some 19, .ext 0 (.t 15), none, 15⟩,
  ⟨some 20, .ext 1 (.t 15), none, 15⟩,
  ⟨some 6, .mv (.t 19), none, 31⟩,
  ⟨some 7, .mv (.t 20), none, 127⟩]
def r11_6 : List CO := [
  ⟨some 21, .mv (.t 6), none, 0⟩,
  ⟨some 22, .bin .int .lss (.t 21) (.c (.d (.int .i64 4))), none, 1⟩]
def r11_7 : List CO := [
  ⟨some 23, .mv (.t 4), none, 0⟩,
  ⟨some 24, .mv (.t 0), none, 0⟩,
  ⟨some 25, .mv (.t 5), none, 0⟩,
  ⟨some 26, .ia 1 (.t 24) (.t 25), none, 6⟩,
  ⟨some 27, .load false 1 (.t 26), none, 14⟩,
  ⟨some 28, .bslice 1 1 [.int .u8 0] false [(0, (.t 27))], none, 30⟩,
  ⟨some 29, .app 1 1 (.t 23) (.t 28), none, 63⟩,
  ⟨some 4, .mv (.t 29), none, 127⟩]
def r11_8 : List CO := [
  ⟨some 30, .mv (.t 5), none, 0⟩,
  ⟨some 31, .bin .int .add (.t 30) (.c (.d (.int .i64 1))), none, 1⟩,
  ⟨some 5, .mv (.t 31), none, 3⟩]
def r11_9 : List CO := [
  ⟨some 32, .mv (.t 4), none, 0⟩,
  ⟨some 33, .len .sl (.t 32), none, 1⟩,
  ⟨some 34, .bin .int .eql (.t 33) (.c (.d (.int .i64 127))), none, 3⟩]
def r11_10 : List CO := [
  ⟨some 35, .mv (.t 3), none, 0⟩,
  ⟨some 36, .bslice 1 1 [.int .u8 0] false [(0, (.c (.d (.int .u8 127))))], none, 0⟩,
  ⟨some 37, .app 1 1 (.t 35) (.t 36), none, 3⟩,
  ⟨some 38, .mv (.t 4), none, 0⟩,
  ⟨some 39, .app 1 1 (.t 37) (.t 38), none, 15⟩,
  ⟨some 3, .mv (.t 39), none, 31⟩,
  ⟨some 4, .mv (.c (.d (.sl .nil 0 []))), none, 63⟩]
def r11_11 : List CO := [
  ⟨some 40, .mv (.t 4), none, 0⟩,
  ⟨some 41, .len .sl (.t 40), none, 1⟩,
  ⟨some 42, .bin .int .gtr (.t 41) (.c (.d (.int .i64 0))), none, 3⟩]
def r11_12 : List CO := [
  ⟨some 43, .mv (.t 3), none, 0⟩,
  ⟨some 44, .mv (.t 4), none, 0⟩,
  ⟨some 45, .len .sl (.t 44), none, 2⟩,
  ⟨some 46, .conv .u8 (.t 45), none, 6⟩,
  ⟨some 47, .bslice 1 1 [.int .u8 0] false [(0, (.t 46))], none, 14⟩,
  ⟨some 48, .app 1 1 (.t 43) (.t 47), none, 31⟩,
  ⟨some 49, .mv (.t 4), none, 0⟩,
  ⟨some 50, .app 1 1 (.t 48) (.t 49), none, 127⟩,
  ⟨some 3, .mv (.t 50), none, 255⟩,
  ⟨some 4, .mv (.c (.d (.sl .nil 0 []))), none, 511⟩]
def r11_13 : List CO := [
  ⟨some 51, .mv (.t 3), none, 0⟩,
  ⟨some 52, .mv (.t 6), none, 0⟩,
  ⟨some 53, .bin .int .add (.c (.d (.int .i64 128))) (.t 52), none, 2⟩,
  ⟨some 54, .bin .int .sub (.t 53) (.c (.d (.int .i64 4))), none, 6⟩,
  ⟨some 55, .conv .u8 (.t 54), none, 14⟩,
  ⟨some 56, .mv (.t 7), none, 0⟩,
  ⟨some 57, .bin .int .shr (.t 56) (.c (.d (.int .u64 8))), none, 32⟩,
  ⟨some 58, .conv .u8 (.t 57), none, 96⟩,
  ⟨some 59, .mv (.t 7), none, 0⟩,
  ⟨some 60, .conv .u8 (.t 59), none, 256⟩,
  ⟨some 61, .bslice 1 3 [.int .u8 0, .int .u8 0, .int .u8 0] false [(0, (.t 55)), (1, (.t 58)), (2, (.t 60))], none, 1022⟩,
  ⟨some 62, .app 1 1 (.t 51) (.t 61), none, 2047⟩,
  ⟨some 3, .mv (.t 62), none, 4095⟩]
def r11_14 : List CO := [
  ⟨some 63, .mv (.t 5), none, 0⟩,
  ⟨some 64, .mv (.t 6), none, 0⟩,
  ⟨some 65, .bin .int .add (.t 63) (.t 64), none, 3⟩,
  ⟨some 5, .mv (.t 65), none, 7⟩]
def l11_15 : CCode := .seq (.seq (.reg r11_4 false (some [0, 3, 4, 5, 14])) (.cond (.t 14) (.skip) (.exit 0))) (.block 1 (.seq (.reg r11_5 false (some [0, 3, 4, 5, 6, 7])) (.seq (.seq (.reg r11_6 false (some [0, 3, 4, 5, 6, 7, 22])) (.cond (.t 22) (.seq (.reg r11_7 false (some [0, 3, 4, 5])) (.seq (.reg r11_8 false (some [0, 3, 4, 5])) (.seq (.seq (.reg r11_9 false (some [0, 3, 4, 5, 34])) (.cond (.t 34) (.reg r11_10 false (some [0, 3, 4, 5])) (.skip))) (.exit 1)))) (.skip))) (.seq (.seq (.reg r11_11 false (some [0, 3, 4, 5, 6, 7, 42])) (.cond (.t 42) (.reg r11_12 false (some [0, 3, 4, 5, 6, 7])) (.skip))) (.seq (.reg r11_13 false (some [0, 3, 4, 5, 6])) (.reg r11_14 false (some [0, 3, 4, 5])))))))
def r11_16 : List CO := [
  ⟨some 66, .mv (.t 4), none, 0⟩,
  ⟨some 67, .len .sl (.t 66), none, 1⟩,
  ⟨some 68, .bin .int .gtr (.t 67) (.c (.d (.int .i64 0))), none, 3⟩]
def r11_17 : List CO := [
  ⟨some 69, .mv (.t 3), none, 0⟩,
  ⟨some 70, .mv (.t 4), none, 0⟩,
  ⟨some 71, .len .sl (.t 70), none, 2⟩,
  ⟨some 72, .conv .u8 (.t 71), none, 6⟩,
  ⟨some 73, .bslice 1 1 [.int .u8 0] false [(0, (.t 72))], none, 14⟩,
  ⟨some 74, .app 1 1 (.t 69) (.t 73), none, 31⟩,
  ⟨some 75, .mv (.t 4), none, 0⟩,
  ⟨some 76, .app 1 1 (.t 74) (.t 75), none, 127⟩,
  ⟨some 3, .mv (.t 76), none, 255⟩]
def r11_18 : List CO := [
  ⟨some 77, .mv (.t 3), none, 0⟩,
  ⟨some 2, .mv (.t 77), none, 1⟩]
def c11 : CF := { body := .seq (.reg r11_0 false (some [0])) (.seq (.reg r11_1 false (some [0, 3])) (.seq (.reg r11_2 false (some [0, 3, 4])) (.seq (.seq (.reg r11_3 false (some [0, 3, 4, 5])) (.block 0 (.loop [(0, none), (3, some 1), (4, some 1), (5, none)] l11_15))) (.seq (.seq (.reg r11_16 false (some [3, 4, 68])) (.cond (.t 68) (.reg r11_17 false (some [3])) (.skip))) (.seq (.reg r11_18 false (some [2])) (.ret)))))), res := [.tmp 2], rowArgs := [], keep := false, rowRes := [], clone := none, dl := none }
/- 12 kaudit/kauditlaw29.begun -/
def r12_0 : List CO := [
  ⟨some 0, .mv (.c (.d (.bool false))), none, 0⟩]
def r12_1 : List CO := [
  ⟨some 4, .bslice 1 8 [.int .u8 0, .int .u8 0, .int .u8 0, .int .u8 0, .int .u8 0, .int .u8 0, .int .u8 0, .int .u8 0] false [(0, (.c (.d (.int .u8 9)))), (1, (.c (.d (.int .u8 3)))), (2, (.c (.d (.int .u8 97)))), (3, (.c (.d (.int .u8 98)))), (4, (.c (.d (.int .u8 99)))), (5, (.c (.d (.int .u8 130)))), (6, (.c (.d (.int .u8 0)))), (7, (.c (.d (.int .u8 3))))], none, 0⟩,
  ⟨some 5, .call (.c (.fn 14 [])) [(.t 4), (.c (.d (.int .i64 9)))], none, 1⟩,
  ⟨some 3, .mv (.t 5), none, 3⟩,
  ⟨some 6, .ext 0 (.t 3), none, 7⟩,
  ⟨some 7, .ext 1 (.t 3), none, 7⟩,
  ⟨some 1, .mv (.t 6), none, 15⟩,
  ⟨some 2, .mv (.t 7), none, 63⟩]
def r12_2 : List CO := [
  ⟨some 8, .mv (.t 2), none, 0⟩,
  ⟨some 9, .bin .int .eql (.t 8) (.c (.d (.int .i64 0))), none, 1⟩,
  ⟨some 10, .mv (.t 9), none, 3⟩,
  ⟨some 11, .mv (.t 1), some (10, true), 7⟩,
  ⟨some 12, .b2s (.t 11), some (10, true), 15⟩,
  ⟨some 13, .bin .str .eql (.t 12) (.c (.d (.str ⟨⟨[97, 98, 99, 97, 98, 99, 97, 98, 99]⟩⟩))), some (10, true), 31⟩,
  ⟨some 14, .pick (.t 10) (.t 13) (.c (.d (.bool false))), none, 63⟩,
  ⟨some 15, .mv (.t 14), none, 127⟩,
  ⟨some 16, .bslice 1 9 [.int .u8 0, .int .u8 0, .int .u8 0, .int .u8 0, .int .u8 0, .int .u8 0, .int .u8 0, .int .u8 0, .int .u8 0] false [(0, (.c (.d (.int .u8 97)))), (1, (.c (.d (.int .u8 98)))), (2, (.c (.d (.int .u8 99)))), (3, (.c (.d (.int .u8 97)))), (4, (.c (.d (.int .u8 98)))), (5, (.c (.d (.int .u8 99)))), (6, (.c (.d (.int .u8 97)))), (7, (.c (.d (.int .u8 98)))), (8, (.c (.d (.int .u8 99))))], some (15, true), 255⟩,
  ⟨some 17, .strish (.t 16), some (15, true), 511⟩,
  ⟨some 18, .call (.c (.fn 10 [])) [(.t 17)], some (15, true), 1023⟩,
  ⟨some 19, .bslice 1 8 [.int .u8 0, .int .u8 0, .int .u8 0, .int .u8 0, .int .u8 0, .int .u8 0, .int .u8 0, .int .u8 0] false [(0, (.c (.d (.int .u8 9)))), (1, (.c (.d (.int .u8 3)))), (2, (.c (.d (.int .u8 97)))), (3, (.c (.d (.int .u8 98)))), (4, (.c (.d (.int .u8 99)))), (5, (.c (.d (.int .u8 130)))), (6, (.c (.d (.int .u8 0)))), (7, (.c (.d (.int .u8 3))))], some (15, true), 255⟩,
  ⟨some 20, .call (.c (.fn 9 [])) [(.t 18), (.t 19)], some (15, true), 4095⟩,
  ⟨some 21, .pick (.t 15) (.t 20) (.c (.d (.bool false))), none, 8191⟩,
  ⟨some 0, .mv (.t 21), none, 16383⟩]
def c12 : CF := { body := .seq (.reg r12_0 false (some [])) (.seq (.reg r12_1 false (some [1, 2])) (.seq (.reg r12_2 false (some [0])) (.ret))), res := [.tmp 0], rowArgs := [], keep := false, rowRes := [], clone := none, dl := none }
/- 13 (kaudit/kauditmill.Case).Int -/
def r13_0 : List CO := [
  ⟨some 4, .mv (.c (.d (.int .i64 0))), none, 0⟩]
def r13_1 : List CO := [
  ⟨some 5, .mv (.t 1), none, 0⟩,
  ⟨some 6, .bin .int .lss (.t 5) (.c (.d (.int .i64 2))), none, 1⟩,
  ⟨some 7, .mv (.t 6), none, 3⟩,
  ⟨some 8, .mv (.t 0), some (7, false), 7⟩,
  ⟨some 9, .nilck (.t 8), some (7, false), 15⟩,
  ⟨some 10, .fa 1 (.t 9), some (7, false), 31⟩,
  ⟨some 11, .load false 1 (.t 10), some (7, false), 63⟩,
  ⟨some 12, .mv (.t 0), some (7, false), 7⟩,
  ⟨some 13, .nilck (.t 12), some (7, false), 135⟩,
  ⟨some 14, .fa 0 (.t 13), some (7, false), 391⟩,
  ⟨some 15, .load false 1 (.t 14), some (7, false), 903⟩,
  ⟨some 16, .len .sl (.t 15), some (7, false), 1927⟩,
  ⟨some 17, .bin .int .geq (.t 11) (.t 16), some (7, false), 4095⟩,
  ⟨some 18, .pick (.t 7) (.c (.d (.bool true))) (.t 17), none, 8191⟩]
def r13_2 : List CO := [
  ⟨some 4, .mv (.c (.d (.int .i64 0))), none, 0⟩]
def r13_3 : List CO := [
  ⟨some 19, .mv (.t 0), none, 0⟩,
  ⟨some 20, .nilck (.t 19), none, 1⟩,
  ⟨some 21, .fa 1 (.t 20), none, 3⟩,
  ⟨some 22, .load false 1 (.t 21), none, 7⟩,
  ⟨some 23, .bin .int .add (.t 22) (.c (.d (.int .i64 1))), none, 15⟩,
  ⟨some 24, .nilck (.t 19), none, 31⟩,
  ⟨some 25, .fa 1 (.t 24), none, 63⟩,
  ⟨none, .store 1 (.t 25) (.t 23), none, 127⟩]
def r13_4 : List CO := [
  ⟨some 26, .mv (.t 0), none, 0⟩,
  ⟨some 27, .nilck (.t 26), none, 1⟩,
  ⟨some 28, .fa 0 (.t 27), none, 3⟩,
  ⟨some 29, .load false 1 (.t 28), none, 7⟩,
  ⟨some 30, .mv (.t 0), none, 0⟩,
  ⟨some 31, .nilck (.t 30), none, 16⟩,
  ⟨some 32, .fa 1 (.t 31), none, 48⟩,
  ⟨some 33, .load false 1 (.t 32), none, 112⟩,
  ⟨some 34, .bin .int .sub (.t 33) (.c (.d (.int .i64 1))), none, 240⟩,
  ⟨some 35, .ia 1 (.t 29) (.t 34), none, 511⟩,
  ⟨some 36, .load false 1 (.t 35), none, 1023⟩,
  ⟨some 37, .conv .i64 (.t 36), none, 2047⟩,
  ⟨some 38, .mv (.t 1), none, 0⟩,
  ⟨some 39, .bin .int .rem (.t 37) (.t 38), none, 8191⟩,
  ⟨some 4, .mv (.t 39), none, 16383⟩]
def c13 : CF := { body := .seq (.reg r13_0 false (some [0, 1])) (.seq (.seq (.reg r13_1 true (some [0, 1, 18])) (.cond (.t 18) (.seq (.reg r13_2 false (some [4])) (.ret)) (.skip))) (.seq (.reg r13_3 false (some [0, 1])) (.seq (.reg r13_4 true (some [4])) (.ret)))), res := [.tmp 4], rowArgs := [], keep := false, rowRes := [], clone := none, dl := (some [0]) }
/- 14 kaudit/pack.Unpack -/
def r14_0 : List CO := [
  ⟨some 4, .mv (.c (.d (.sl .nil 0 []))), none, 0⟩,
  ⟨some 5, .mv (.c (.d (.int .i64 0))), none, 1⟩]
def r14_1 : List CO := [
  ⟨some 13, .mv (.t 0), none, 0⟩,
  ⟨some 14, .call (.c (.fn 24 [])) [(.t 13)], none, 1⟩,
  ⟨some 12, .mv (.t 14), none, 3⟩,
  ⟨some 15, .ext 0 (.t 12), none, 7⟩,
  ⟨some 16, .ext 1 (.t 12), none, 7⟩,
  ⟨some 17, .ext 2 (.t 12), none, 7⟩,
  ⟨some 6, .mv (.t 15), none, 15⟩,
  ⟨some 7, .mv (.t 16), none, 95⟩,
  ⟨some 8, .mv (.t 17), none, 255⟩]
def r14_2 : List CO := [
  ⟨some 18, .mv (.t 8), none, 0⟩,
  ⟨some 19, .un .not (.t 18), none, 1⟩]
def r14_3 : List CO := [
  ⟨some 4, .mv (.c (.d (.sl .nil 0 []))), none, 0⟩,
  ⟨some 5, .mv (.c (.d (.int .i64 290))), none, 1⟩]
def r14_4 : List CO := [
  ⟨some 20, .mv (.t 6), none, 0⟩,
  ⟨some 21, .mv (.t 1), none, 0⟩,
  ⟨some 22, .bin .int .gtr (.t 20) (.t 21), none, 3⟩]
def r14_5 : List CO := [
  ⟨some 4, .mv (.c (.d (.sl .nil 0 []))), none, 0⟩,
  ⟨some 5, .mv (.c (.d (.int .i64 291))), none, 1⟩]
def r14_6 : List CO := [
  ⟨some 23, .mv (.t 0), none, 0⟩,
  ⟨some 24, .mv (.t 7), none, 0⟩,
  ⟨some 25, .slSl 1 (.t 23) (some (.t 24)) none none, none, 3⟩,
  ⟨some 0, .mv (.t 25), none, 7⟩]
def r14_7 : List CO := [
  ⟨some 9, .mv (.c (.d (.sl .nil 0 []))), none, 0⟩]
def r14_8 : List CO := [
  ⟨some 26, .mv (.t 9), none, 0⟩,
  ⟨some 27, .len .sl (.t 26), none, 1⟩,
  ⟨some 28, .mv (.t 6), none, 0⟩,
  ⟨some 29, .bin .int .lss (.t 27) (.t 28), none, 7⟩]
def r14_9 : List CO := [
  ⟨some 30, .mv (.t 0), none, 0⟩,
  ⟨some 31, .len .sl (.t 30), none, 1⟩,
  ⟨some 32, .bin .int .eql (.t 31) (.c (.d (.int .i64 0))), none, 3⟩,
  ⟨some 33, .mv (.t 32), none, 7⟩,
  ⟨some 34, .mv (.t 0), some (33, false), 15⟩,
  ⟨some 35, .ia 1 (.t 34) (.c (.d (.int .i64 0))), some (33, false), 31⟩,
  ⟨some 36, .load false 1 (.t 35), some (33, false), 63⟩,
  ⟨some 37, .bin .int .eql (.t 36) (.c (.d (.int .u8 0))), some (33, false), 127⟩,
  ⟨some 38, .pick (.t 33) (.c (.d (.bool true))) (.t 37), none, 255⟩]
def r14_10 : List CO := [
  ⟨some 4, .mv (.c (.d (.sl .nil 0 []))), none, 0⟩,
  ⟨some 5, .mv (.c (.d (.int .i64 290))), none, 1⟩]
def r14_11 : List CO := [
  ⟨some 39, .mv (.t 0), none, 0⟩,
  ⟨some 40, .ia 1 (.t 39) (.c (.d (.int .i64 0))), none, 1⟩,
  ⟨some 41, .load false 1 (.t 40), none, 3⟩,
  ⟨some 42, .conv .i64 (.t 41), none, 7⟩,
  ⟨some 10, .mv (.t 42), none, 15⟩]
def r14_12 : List CO := [
  ⟨some 43, .mv (.t 10), none, 0⟩,
  ⟨some 44, .bin .int .lss (.t 43) (.c (.d (.int .i64 128))), none, 1⟩]
def r14_13 : List CO := [
  ⟨some 45, .mv (.t 0), none, 0⟩,
  ⟨some 46, .len .sl (.t 45), none, 1⟩,
  ⟨some 47, .mv (.t 10), none, 0⟩,
  ⟨some 48, .bin .int .add (.t 47) (.c (.d (.int .i64 1))), none, 4⟩,
  ⟨some 49, .bin .int .lss (.t 46) (.t 48), none, 15⟩,
  ⟨some 50, .mv (.t 49), none, 31⟩,
  ⟨some 51, .mv (.t 10), some (50, false), 63⟩,
  ⟨some 52, .mv (.t 6), some (50, false), 63⟩,
  ⟨some 53, .mv (.t 9), some (50, false), 63⟩,
  ⟨some 54, .len .sl (.t 53), some (50, false), 319⟩,
  ⟨some 55, .bin .int .sub (.t 52) (.t 54), some (50, false), 959⟩,
  ⟨some 56, .bin .int .gtr (.t 51) (.t 55), some (50, false), 2047⟩,
  ⟨some 57, .pick (.t 50) (.c (.d (.bool true))) (.t 56), none, 4095⟩]
def r14_14 : List CO := [
  ⟨some 4, .mv (.c (.d (.sl .nil 0 []))), none, 0⟩,
  ⟨some 5, .mv (.c (.d (.int .i64 290))), none, 1⟩]
def r14_15 : List CO := [
  ⟨some 58, .mv (.t 9), none, 0⟩,
  ⟨some 59, .mv (.t 0), none, 0⟩,
  ⟨some 60, .mv (.t 10), none, 0⟩,
  ⟨some 61, .bin .int .add (.t 60) (.c (.d (.int .i64 1))), none, 4⟩,
  ⟨some 62, .slSl 1 (.t 59) (some (.c (.d (.int .i64 1)))) (some (.t 61)) none, none, 14⟩,
  ⟨some 63, .app 1 1 (.t 58) (.t 62), none, 31⟩,
  ⟨some 64, .mv (.t 0), none, 0⟩,
  ⟨some 65, .mv (.t 10), none, 0⟩,
  ⟨some 66, .bin .int .add (.t 65) (.c (.d (.int .i64 1))), none, 128⟩,
  ⟨some 67, .slSl 1 (.t 64) (some (.t 66)) none none, none, 448⟩,
  ⟨some 9, .mv (.t 63), none, 63⟩,
  ⟨some 0, .mv (.t 67), none, 2047⟩]
def r14_16 : List CO := [
  ⟨some 68, .mv (.t 0), none, 0⟩,
  ⟨some 69, .len .sl (.t 68), none, 1⟩,
  ⟨some 70, .bin .int .lss (.t 69) (.c (.d (.int .i64 3))), none, 3⟩]
def r14_17 : List CO := [
  ⟨some 4, .mv (.c (.d (.sl .nil 0 []))), none, 0⟩,
  ⟨some 5, .mv (.c (.d (.int .i64 290))), none, 1⟩]
def r14_18 : List CO := [
  ⟨some 71, .mv (.t 0), none, 0⟩,
  ⟨some 72, .ia 1 (.t 71) (.c (.d (.int .i64 1))), none, 1⟩,
  ⟨some 73, .load false 1 (.t 72), none, 3⟩,
  ⟨some 74, .conv .i64 (.t 73), none, 7⟩,
  ⟨some 75, .bin .int .shl (.t 74) (.c (.d (.int .u64 8))), none, 15⟩,
  ⟨some 76, .mv (.t 0), none, 0⟩,
  ⟨some 77, .ia 1 (.t 76) (.c (.d (.int .i64 2))), none, 32⟩,
  ⟨some 78, .load false 1 (.t 77), none, 96⟩,
  ⟨some 79, .conv .i64 (.t 78), none, 224⟩,
  ⟨some 80, .bin .int .or (.t 75) (.t 79), none, 511⟩,
  ⟨some 11, .mv (.t 80), none, 1023⟩]
def r14_19 : List CO := [
  ⟨some 81, .mv (.t 10), none, 0⟩,
  ⟨some 82, .bin .int .sub (.t 81) (.c (.d (.int .i64 128))), none, 1⟩,
  ⟨some 83, .bin .int .add (.t 82) (.c (.d (.int .i64 4))), none, 3⟩,
  ⟨some 10, .mv (.t 83), none, 7⟩]
def r14_20 : List CO := [
  ⟨some 84, .mv (.t 11), none, 0⟩,
  ⟨some 85, .bin .int .lss (.t 84) (.c (.d (.int .i64 1))), none, 1⟩,
  ⟨some 86, .mv (.t 85), none, 3⟩,
  ⟨some 87, .mv (.t 11), some (86, false), 7⟩,
  ⟨some 88, .bin .int .gtr (.t 87) (.c (.d (.int .i64 2048))), some (86, false), 15⟩,
  ⟨some 89, .pick (.t 86) (.c (.d (.bool true))) (.t 88), none, 31⟩,
  ⟨some 90, .mv (.t 89), none, 63⟩,
  ⟨some 91, .mv (.t 11), some (90, false), 127⟩,
  ⟨some 92, .mv (.t 9), some (90, false), 127⟩,
  ⟨some 93, .len .sl (.t 92), some (90, false), 383⟩,
  ⟨some 94, .bin .int .gtr (.t 91) (.t 93), some (90, false), 1023⟩,
  ⟨some 95, .pick (.t 90) (.c (.d (.bool true))) (.t 94), none, 2047⟩,
  ⟨some 96, .mv (.t 95), none, 4095⟩,
  ⟨some 97, .mv (.t 10), some (96, false), 8191⟩,
  ⟨some 98, .mv (.t 6), some (96, false), 8191⟩,
  ⟨some 99, .mv (.t 9), some (96, false), 8191⟩,
  ⟨some 100, .len .sl (.t 99), some (96, false), 40959⟩,
  ⟨some 101, .bin .int .sub (.t 98) (.t 100), some (96, false), 122879⟩,
  ⟨some 102, .bin .int .gtr (.t 97) (.t 101), some (96, false), 262143⟩,
  ⟨some 103, .pick (.t 96) (.c (.d (.bool true))) (.t 102), none, 524287⟩]
def r14_21 : List CO := [
  ⟨some 4, .mv (.c (.d (.sl .nil 0 []))), none, 0⟩,
  ⟨some 5, .mv (.c (.d (.int .i64 290))), none, 1⟩]
def r14_22 : List CO := [
  ⟨some 104, .mv (.t 10), none, 0⟩,
  ⟨some 105, .bin .int .gtr (.t 104) (.c (.d (.int .i64 0))), none, 1⟩]
def r14_23 : List CO := [
  ⟨some 108, .mv (.t 9), none, 0⟩,
  ⟨some 109, .mv (.t 9), none, 0⟩,
  ⟨some 110, .mv (.t 9), none, 0⟩,
  ⟨some 111, .len .sl (.t 110), none, 4⟩,
  ⟨some 112, .mv (.t 11), none, 0⟩,
  ⟨some 113, .bin .int .sub (.t 111) (.t 112), none, 28⟩,
  ⟨some 114, .ia 1 (.t 109) (.t 113), none, 62⟩,
  ⟨some 115, .load false 1 (.t 114), none, 126⟩,
  ⟨some 116, .bslice 1 1 [.int .u8 0] false [(0, (.t 115))], none, 254⟩,
  ⟨some 117, .app 1 1 (.t 108) (.t 116), none, 511⟩,
  ⟨some 9, .mv (.t 117), none, 1023⟩]
def r14_24 : List CO := [
  ⟨some 106, .mv (.t 10), none, 0⟩,
  ⟨some 107, .bin .int .sub (.t 106) (.c (.d (.int .i64 1))), none, 1⟩,
  ⟨some 10, .mv (.t 107), none, 3⟩]
def l14_25 : CCode := .seq (.seq (.reg r14_22 false (some [0, 6, 9, 10, 11, 105])) (.cond (.t 105) (.skip) (.exit 2))) (.seq (.block 3 (.reg r14_23 false (some [0, 6, 9, 10, 11]))) (.reg r14_24 false (some [0, 6, 9, 10, 11])))
def r14_26 : List CO := [
  ⟨some 118, .mv (.t 0), none, 0⟩,
  ⟨some 119, .slSl 1 (.t 118) (some (.c (.d (.int .i64 3)))) none none, none, 1⟩,
  ⟨some 0, .mv (.t 119), none, 3⟩]
def l14_27 : CCode := .seq (.seq (.reg r14_8 false (some [0, 6, 9, 29])) (.cond (.t 29) (.skip) (.exit 0))) (.block 1 (.seq (.seq (.reg r14_9 false (some [0, 6, 9, 38])) (.cond (.t 38) (.seq (.reg r14_10 false (some [4, 5])) (.ret)) (.skip))) (.seq (.reg r14_11 false (some [0, 6, 9, 10])) (.seq (.seq (.reg r14_12 false (some [0, 6, 9, 10, 44])) (.cond (.t 44) (.seq (.seq (.reg r14_13 false (some [0, 6, 9, 10, 57])) (.cond (.t 57) (.seq (.reg r14_14 false (some [4, 5])) (.ret)) (.skip))) (.seq (.reg r14_15 true (some [0, 6, 9])) (.exit 1))) (.skip))) (.seq (.seq (.reg r14_16 false (some [0, 6, 9, 10, 70])) (.cond (.t 70) (.seq (.reg r14_17 false (some [4, 5])) (.ret)) (.skip))) (.seq (.reg r14_18 true (some [0, 6, 9, 10, 11])) (.seq (.reg r14_19 false (some [0, 6, 9, 10, 11])) (.seq (.seq (.reg r14_20 false (some [0, 6, 9, 10, 11, 103])) (.cond (.t 103) (.seq (.reg r14_21 false (some [4, 5])) (.ret)) (.skip))) (.seq (.block 2 (.loop [(0, none), (6, none), (9, some 1), (10, none), (11, none)] l14_25)) (.reg r14_26 false (some [0, 6, 9])))))))))))
def r14_28 : List CO := [
  ⟨some 120, .mv (.t 0), none, 0⟩,
  ⟨some 121, .len .sl (.t 120), none, 1⟩,
  ⟨some 122, .bin .int .gtr (.t 121) (.c (.d (.int .i64 0))), none, 3⟩]
def r14_29 : List CO := [
  ⟨some 4, .mv (.c (.d (.sl .nil 0 []))), none, 0⟩,
  ⟨some 5, .mv (.c (.d (.int .i64 290))), none, 1⟩]
def r14_30 : List CO := [
  ⟨some 123, .mv (.t 9), none, 0⟩,
  ⟨some 4, .mv (.t 123), none, 1⟩,
  ⟨some 5, .mv (.c (.d (.int .i64 0))), none, 3⟩]
def c14 : CF := { body := .seq (.reg r14_0 false (some [0, 1])) (.seq (.reg r14_1 false (some [0, 1, 6, 7, 8])) (.seq (.seq (.reg r14_2 false (some [0, 1, 6, 7, 19])) (.cond (.t 19) (.seq (.reg r14_3 false (some [4, 5])) (.ret)) (.skip))) (.seq (.seq (.reg r14_4 false (some [0, 6, 7, 22])) (.cond (.t 22) (.seq (.reg r14_5 false (some [4, 5])) (.ret)) (.skip))) (.seq (.reg r14_6 false (some [0, 6])) (.seq (.reg r14_7 false (some [0, 6, 9])) (.seq (.block 0 (.loop [(0, none), (6, none), (9, some 1)] l14_27)) (.seq (.seq (.reg r14_28 false (some [9, 122])) (.cond (.t 122) (.seq (.reg r14_29 false (some [4, 5])) (.ret)) (.skip))) (.seq (.reg r14_30 false (some [4, 5])) (.ret))))))))), res := [.tmp 4, .tmp 5], rowArgs := [], keep := false, rowRes := [], clone := none, dl := none }
/- 15 kaudit/kauditref26.Unpack -/
def r15_0 : List CO := [
  ⟨some 4, .mv (.c (.d (.sl .nil 0 []))), none, 0⟩,
  ⟨some 5, .mv (.c (.d (.int .i64 0))), none, 1⟩]
def r15_1 : List CO := [
  ⟨some 14, .mv (.t 0), none, 0⟩,
  ⟨some 15, .call (.c (.fn 25 [])) [(.t 14)], none, 1⟩,
  ⟨some 13, .mv (.t 15), none, 3⟩,
  ⟨some 16, .ext 0 (.t 13), none, 7⟩,
  ⟨some 17, .ext 1 (.t 13), none, 7⟩,
  ⟨some 18, .ext 2 (.t 13), none, 7⟩,
  ⟨some 6, .mv (.t 16), none, 15⟩,
  ⟨some 7, .mv (.t 17), none, 95⟩,
  ⟨some 8, .mv (.t 18), none, 255⟩]
def r15_2 : List CO := [
  ⟨some 19, .mv (.t 8), none, 0⟩,
  ⟨some 20, .un .not (.t 19), none, 1⟩]
def r15_3 : List CO := [
  ⟨some 4, .mv (.c (.d (.sl .nil 0 []))), none, 0⟩,
  ⟨some 5, .mv (.c (.d (.int .i64 290))), none, 1⟩]
def r15_4 : List CO := [
  ⟨some 21, .mv (.t 1), none, 0⟩,
  ⟨some 22, .bin .int .lss (.t 21) (.c (.d (.int .i64 0))), none, 1⟩,
  ⟨some 23, .mv (.t 22), none, 3⟩,
  ⟨some 24, .mv (.t 6), some (23, false), 7⟩,
  ⟨some 25, .mv (.t 1), some (23, false), 7⟩,
  ⟨some 26, .bin .int .gtr (.t 24) (.t 25), some (23, false), 31⟩,
  ⟨some 27, .pick (.t 23) (.c (.d (.bool true))) (.t 26), none, 63⟩]
def r15_5 : List CO := [
  ⟨some 4, .mv (.c (.d (.sl .nil 0 []))), none, 0⟩,
  ⟨some 5, .mv (.c (.d (.int .i64 291))), none, 1⟩]
def r15_6 : List CO := [
  ⟨some 28, .mv (.t 0), none, 0⟩,
  ⟨some 29, .mv (.t 7), none, 0⟩,
  ⟨some 30, .slSl 1 (.t 28) (some (.t 29)) none none, none, 3⟩,
  ⟨some 0, .mv (.t 30), none, 7⟩]
def r15_7 : List CO := [
  ⟨some 9, .mv (.c (.d (.sl .nil 0 []))), none, 0⟩]
def r15_8 : List CO := [
  ⟨some 31, .mv (.t 9), none, 0⟩,
  ⟨some 32, .len .sl (.t 31), none, 1⟩,
  ⟨some 33, .mv (.t 6), none, 0⟩,
  ⟨some 34, .bin .int .lss (.t 32) (.t 33), none, 7⟩]
def r15_9 : List CO := [
  ⟨some 35, .mv (.t 0), none, 0⟩,
  ⟨some 36, .len .sl (.t 35), none, 1⟩,
  ⟨some 37, .bin .int .eql (.t 36) (.c (.d (.int .i64 0))), none, 3⟩,
  ⟨some 38, .mv (.t 37), none, 7⟩,
  ⟨some 39, .mv (.t 0), some (38, false), 15⟩,
  ⟨some 40, .ia 1 (.t 39) (.c (.d (.int .i64 0))), some (38, false), 31⟩,
  ⟨some 41, .load false 1 (.t 40), some (38, false), 63⟩,
  ⟨some 42, .bin .int .eql (.t 41) (.c (.d (.int .u8 0))), some (38, false), 127⟩,
  ⟨some 43, .pick (.t 38) (.c (.d (.bool true))) (.t 42), none, 255⟩]
def r15_10 : List CO := [
  ⟨some 4, .mv (.c (.d (.sl .nil 0 []))), none, 0⟩,
  ⟨some 5, .mv (.c (.d (.int .i64 290))), none, 1⟩]
def r15_11 : List CO := [
  ⟨some 44, .mv (.t 0), none, 0⟩,
  ⟨some 45, .ia 1 (.t 44) (.c (.d (.int .i64 0))), none, 1⟩,
  ⟨some 46, .load false 1 (.t 45), none, 3⟩,
  ⟨some 47, .conv .i64 (.t 46), none, 7⟩,
  ⟨some 10, .mv (.t 47), none, 15⟩]
def r15_12 : List CO := [
  ⟨some 48, .mv (.t 10), none, 0⟩,
  ⟨some 49, .bin .int .lss (.t 48) (.c (.d (.int .i64 128))), none, 1⟩]
def r15_13 : List CO := [
  ⟨some 50, .mv (.t 0), none, 0⟩,
  ⟨some 51, .len .sl (.t 50), none, 1⟩,
  ⟨some 52, .mv (.t 10), none, 0⟩,
  ⟨some 53, .bin .int .add (.c (.d (.int .i64 1))) (.t 52), none, 4⟩,
  ⟨some 54, .bin .int .lss (.t 51) (.t 53), none, 15⟩,
  ⟨some 55, .mv (.t 54), none, 31⟩,
  ⟨some 56, .mv (.t 10), some (55, false), 63⟩,
  ⟨some 57, .mv (.t 6), some (55, false), 63⟩,
  ⟨some 58, .mv (.t 9), some (55, false), 63⟩,
  ⟨some 59, .len .sl (.t 58), some (55, false), 319⟩,
  ⟨some 60, .bin .int .sub (.t 57) (.t 59), some (55, false), 959⟩,
  ⟨some 61, .bin .int .gtr (.t 56) (.t 60), some (55, false), 2047⟩,
  ⟨some 62, .pick (.t 55) (.c (.d (.bool true))) (.t 61), none, 4095⟩]
def r15_14 : List CO := [
  ⟨some 4, .mv (.c (.d (.sl .nil 0 []))), none, 0⟩,
  ⟨some 5, .mv (.c (.d (.int .i64 290))), none, 1⟩]
def r15_15 : List CO := [
  ⟨some 63, .mv (.t 9), none, 0⟩,
  ⟨some 64, .mv (.t 0), none, 0⟩,
  ⟨some 65, .mv (.t 10), none, 0⟩,
  ⟨some 66, .bin .int .add (.c (.d (.int .i64 1))) (.t 65), none, 4⟩,
  ⟨some 67, .slSl 1 (.t 64) (some (.c (.d (.int .i64 1)))) (some (.t 66)) none, none, 14⟩,
  ⟨some 68, .app 1 1 (.t 63) (.t 67), none, 31⟩,
  ⟨some 69, .mv (.t 0), none, 0⟩,
  ⟨some 70, .mv (.t 10), none, 0⟩,
  ⟨some 71, .bin .int .add (.c (.d (.int .i64 1))) (.t 70), none, 128⟩,
  ⟨some 72, .slSl 1 (.t 69) (some (.t 71)) none none, none, 448⟩,
  ⟨some 9, .mv (.t 68), none, 63⟩,
  ⟨some 0, .mv (.t 72), none, 2047⟩]
def r15_16 : List CO := [
  ⟨some 73, .mv (.t 0), none, 0⟩,
  ⟨some 74, .len .sl (.t 73), none, 1⟩,
  ⟨some 75, .bin .int .lss (.t 74) (.c (.d (.int .i64 3))), none, 3⟩]
def r15_17 : List CO := [
  ⟨some 4, .mv (.c (.d (.sl .nil 0 []))), none, 0⟩,
  ⟨some 5, .mv (.c (.d (.int .i64 290))), none, 1⟩]
def r15_18 : List CO := [
  ⟨some 76, .mv (.t 0), none, 0⟩,
  ⟨some 77, .ia 1 (.t 76) (.c (.d (.int .i64 0))), none, 1⟩,
  ⟨some 78, .load false 1 (.t 77), none, 3⟩,
  ⟨some 79, .conv .i64 (.t 78), none, 7⟩,
  ⟨some 80, .bin .int .sub (.t 79) (.c (.d (.int .i64 128))), none, 15⟩,
  ⟨some 81, .bin .int .add (.t 80) (.c (.d (.int .i64 4))), none, 31⟩,
  ⟨some 82, .mv (.t 0), none, 0⟩,
  ⟨some 83, .ia 1 (.t 82) (.c (.d (.int .i64 1))), none, 64⟩,
  ⟨some 84, .load false 1 (.t 83), none, 192⟩,
  ⟨some 85, .conv .i64 (.t 84), none, 448⟩,
  ⟨some 86, .bin .int .shl (.t 85) (.c (.d (.int .u64 8))), none, 960⟩,
  ⟨some 87, .mv (.t 0), none, 0⟩,
  ⟨some 88, .ia 1 (.t 87) (.c (.d (.int .i64 2))), none, 2048⟩,
  ⟨some 89, .load false 1 (.t 88), none, 6144⟩,
  ⟨some 90, .conv .i64 (.t 89), none, 14336⟩,
  ⟨some 91, .bin .int .or (.t 86) (.t 90), none, 32704⟩,
  ⟨some 11, .mv (.t 81), none, 63⟩,
  ⟨some 12, .mv (.t 91), none, 131071⟩]
def r15_19 : List CO := [
  ⟨some 92, .mv (.t 12), none, 0⟩,
  ⟨some 93, .bin .int .lss (.t 92) (.c (.d (.int .i64 1))), none, 1⟩,
  ⟨some 94, .mv (.t 93), none, 3⟩,
  ⟨some 95, .mv (.t 12), some (94, false), 7⟩,
  ⟨some 96, .bin .int .gtr (.t 95) (.c (.d (.int .i64 2048))), some (94, false), 15⟩,
  ⟨some 97, .pick (.t 94) (.c (.d (.bool true))) (.t 96), none, 31⟩,
  ⟨some 98, .mv (.t 97), none, 63⟩,
  ⟨some 99, .mv (.t 12), some (98, false), 127⟩,
  ⟨some 100, .mv (.t 9), some (98, false), 127⟩,
  ⟨some 101, .len .sl (.t 100), some (98, false), 383⟩,
  ⟨some 102, .bin .int .gtr (.t 99) (.t 101), some (98, false), 1023⟩,
  ⟨some 103, .pick (.t 98) (.c (.d (.bool true))) (.t 102), none, 2047⟩,
  ⟨some 104, .mv (.t 103), none, 4095⟩,
  ⟨some 105, .mv (.t 11), some (104, false), 8191⟩,
  ⟨some 106, .mv (.t 6), some (104, false), 8191⟩,
  ⟨some 107, .mv (.t 9), some (104, false), 8191⟩,
  ⟨some 108, .len .sl (.t 107), some (104, false), 40959⟩,
  ⟨some 109, .bin .int .sub (.t 106) (.t 108), some (104, false), 122879⟩,
  ⟨some 110, .bin .int .gtr (.t 105) (.t 109), some (104, false), 262143⟩,
  ⟨some 111, .pick (.t 104) (.c (.d (.bool true))) (.t 110), none, 524287⟩]
def r15_20 : List CO := [
  ⟨some 4, .mv (.c (.d (.sl .nil 0 []))), none, 0⟩,
  ⟨some 5, .mv (.c (.d (.int .i64 290))), none, 1⟩]
def r15_21 : List CO := [
  ⟨some 112, .mv (.t 11), none, 0⟩,
  ⟨some 113, .bin .int .gtr (.t 112) (.c (.d (.int .i64 0))), none, 1⟩]
def r15_22 : List CO := [
  ⟨some 116, .mv (.t 9), none, 0⟩,
  ⟨some 117, .mv (.t 9), none, 0⟩,
  ⟨some 118, .mv (.t 9), none, 0⟩,
  ⟨some 119, .len .sl (.t 118), none, 4⟩,
  ⟨some 120, .mv (.t 12), none, 0⟩,
  ⟨some 121, .bin .int .sub (.t 119) (.t 120), none, 28⟩,
  ⟨some 122, .ia 1 (.t 117) (.t 121), none, 62⟩,
  ⟨some 123, .load false 1 (.t 122), none, 126⟩,
  ⟨some 124, .bslice 1 1 [.int .u8 0] false [(0, (.t 123))], none, 254⟩,
  ⟨some 125, .app 1 1 (.t 116) (.t 124), none, 511⟩,
  ⟨some 9, .mv (.t 125), none, 1023⟩]
def r15_23 : List CO := [
  ⟨some 114, .mv (.t 11), none, 0⟩,
  ⟨some 115, .bin .int .sub (.t 114) (.c (.d (.int .i64 1))), none, 1⟩,
  ⟨some 11, .mv (.t 115), none, 3⟩]
def l15_24 : CCode := .seq (.seq (.reg r15_21 false (some [0, 6, 9, 11, 12, 113])) (.cond (.t 113) (.skip) (.exit 2))) (.seq (.block 3 (.reg r15_22 false (some [0, 6, 9, 11, 12]))) (.reg r15_23 false (some [0, 6, 9, 11, 12])))
def r15_25 : List CO := [
  ⟨some 126, .mv (.t 0), none, 0⟩,
  ⟨some 127, .slSl 1 (.t 126) (some (.c (.d (.int .i64 3)))) none none, none, 1⟩,
  ⟨some 0, .mv (.t 127), none, 3⟩]
def l15_26 : CCode := .seq (.seq (.reg r15_8 false (some [0, 6, 9, 34])) (.cond (.t 34) (.skip) (.exit 0))) (.block 1 (.seq (.seq (.reg r15_9 false (some [0, 6, 9, 43])) (.cond (.t 43) (.seq (.reg r15_10 false (some [4, 5])) (.ret)) (.skip))) (.seq (.seq (.reg r15_11 false (some [0, 6, 9, 10])) (.seq (.reg r15_12 false (some [0, 6, 9, 10, 49])) (.cond (.t 49) (.seq (.seq (.reg r15_13 false (some [0, 6, 9, 10, 62])) (.cond (.t 62) (.seq (.reg r15_14 false (some [4, 5])) (.ret)) (.skip))) (.seq (.reg r15_15 true (some [0, 6, 9])) (.exit 1))) (.skip)))) (.seq (.seq (.reg r15_16 false (some [0, 6, 9, 75])) (.cond (.t 75) (.seq (.reg r15_17 false (some [4, 5])) (.ret)) (.skip))) (.seq (.reg r15_18 true (some [0, 6, 9, 11, 12])) (.seq (.seq (.reg r15_19 false (some [0, 6, 9, 11, 12, 111])) (.cond (.t 111) (.seq (.reg r15_20 false (some [4, 5])) (.ret)) (.skip))) (.seq (.block 2 (.loop [(0, none), (6, none), (9, some 1), (11, none), (12, none)] l15_24)) (.reg r15_25 false (some [0, 6, 9])))))))))
def r15_27 : List CO := [
  ⟨some 128, .mv (.t 0), none, 0⟩,
  ⟨some 129, .len .sl (.t 128), none, 1⟩,
  ⟨some 130, .bin .int .gtr (.t 129) (.c (.d (.int .i64 0))), none, 3⟩]
def r15_28 : List CO := [
  ⟨some 4, .mv (.c (.d (.sl .nil 0 []))), none, 0⟩,
  ⟨some 5, .mv (.c (.d (.int .i64 290))), none, 1⟩]
def r15_29 : List CO := [
  ⟨some 131, .mv (.t 9), none, 0⟩,
  ⟨some 4, .mv (.t 131), none, 1⟩,
  ⟨some 5, .mv (.c (.d (.int .i64 0))), none, 3⟩]
def c15 : CF := { body := .seq (.reg r15_0 false (some [0, 1])) (.seq (.reg r15_1 false (some [0, 1, 6, 7, 8])) (.seq (.seq (.reg r15_2 false (some [0, 1, 6, 7, 20])) (.cond (.t 20) (.seq (.reg r15_3 false (some [4, 5])) (.ret)) (.skip))) (.seq (.seq (.reg r15_4 false (some [0, 6, 7, 27])) (.cond (.t 27) (.seq (.reg r15_5 false (some [4, 5])) (.ret)) (.skip))) (.seq (.reg r15_6 false (some [0, 6])) (.seq (.reg r15_7 false (some [0, 6, 9])) (.seq (.block 0 (.loop [(0, none), (6, none), (9, some 1)] l15_26)) (.seq (.seq (.reg r15_27 false (some [9, 130])) (.cond (.t 130) (.seq (.reg r15_28 false (some [4, 5])) (.ret)) (.skip))) (.seq (.reg r15_29 false (some [4, 5])) (.ret))))))))), res := [.tmp 4, .tmp 5], rowArgs := [], keep := false, rowRes := [], clone := none, dl := none }
/- 16 (kaudit/kauditmill.Case).Left -/
def r16_0 : List CO := [
  ⟨some 2, .mv (.c (.d (.bool false))), none, 0⟩]
def r16_1 : List CO := [
  ⟨some 3, .mv (.t 0), none, 0⟩,
  ⟨some 4, .nilck (.t 3), none, 1⟩,
  ⟨some 5, .fa 1 (.t 4), none, 3⟩,
  ⟨some 6, .load false 1 (.t 5), none, 7⟩,
  ⟨some 7, .mv (.t 0), none, 0⟩,
  ⟨some 8, .nilck (.t 7), none, 16⟩,
  ⟨some 9, .fa 0 (.t 8), none, 48⟩,
  ⟨some 10, .load false 1 (.t 9), none, 112⟩,
  ⟨some 11, .len .sl (.t 10), none, 240⟩,
  ⟨some 12, .bin .int .lss (.t 6) (.t 11), none, 511⟩,
  ⟨some 2, .mv (.t 12), none, 1023⟩]
def c16 : CF := { body := .seq (.reg r16_0 false (some [0])) (.seq (.reg r16_1 true (some [2])) (.ret)), res := [.tmp 2], rowArgs := [], keep := false, rowRes := [], clone := none, dl := none }
/- 17 (kaudit/kauditmill.Case).Bytes -/
def r17_0 : List CO := [
  ⟨some 4, .mv (.c (.d (.sl .nil 0 []))), none, 0⟩]
def r17_1 : List CO := [
  ⟨some 5, .mv (.c (.d (.sl .nil 0 []))), none, 0⟩]
def r17_2 : List CO := [
  ⟨some 7, .mv (.t 0), none, 0⟩,
  ⟨some 8, .mv (.t 1), none, 0⟩,
  ⟨some 9, .bin .int .add (.t 8) (.c (.d (.int .i64 1))), none, 2⟩,
  ⟨some 10, .call (.c (.fn 13 [])) [(.t 7), (.t 9)], none, 7⟩,
  ⟨some 6, .mv (.t 10), none, 15⟩]
def r17_3 : List CO := [
  ⟨some 11, .mv (.t 6), none, 0⟩,
  ⟨some 12, .bin .int .gtr (.t 11) (.c (.d (.int .i64 0))), none, 1⟩]
def r17_4 : List CO := [
  ⟨some 15, .mv (.t 5), none, 0⟩,
  ⟨some 16, .mv (.t 0), none, 0⟩,
  ⟨some 17, .mv (.t 0), none, 0⟩,
  ⟨some 18, .call (.c (.fn 13 [])) [(.t 17), (.c (.d (.int .i64 256)))], none, 4⟩,
  ⟨some 19, .bslice 1 6 [.int .i64 0, .int .i64 0, .int .i64 0, .int .i64 0, .int .i64 0, .int .i64 0] false [(0, (.c (.d (.int .i64 97)))), (1, (.c (.d (.int .i64 98)))), (2, (.c (.d (.int .i64 97)))), (3, (.c (.d (.int .i64 0)))), (4, (.c (.d (.int .i64 255)))), (5, (.t 18))], none, 12⟩,
  ⟨some 20, .call (.c (.fn 26 [])) [(.t 16), (.t 19)], none, 30⟩,
  ⟨some 21, .conv .u8 (.t 20), none, 62⟩,
  ⟨some 22, .bslice 1 1 [.int .u8 0] false [(0, (.t 21))], none, 126⟩,
  ⟨some 23, .app 1 1 (.t 15) (.t 22), none, 255⟩,
  ⟨some 5, .mv (.t 23), none, 511⟩]
def r17_5 : List CO := [
  ⟨some 13, .mv (.t 6), none, 0⟩,
  ⟨some 14, .bin .int .sub (.t 13) (.c (.d (.int .i64 1))), none, 1⟩,
  ⟨some 6, .mv (.t 14), none, 3⟩]
def l17_6 : CCode := .seq (.seq (.reg r17_3 false (some [0, 5, 6, 12])) (.cond (.t 12) (.skip) (.exit 0))) (.seq (.block 1 (.reg r17_4 false (some [0, 5, 6]))) (.reg r17_5 false (some [0, 5, 6])))
def r17_7 : List CO := [
  ⟨some 24, .mv (.t 5), none, 0⟩,
  ⟨some 4, .mv (.t 24), none, 1⟩]
def c17 : CF := { body := .seq (.reg r17_0 false (some [0, 1])) (.seq (.reg r17_1 false (some [0, 1, 5])) (.seq (.seq (.reg r17_2 false (some [0, 5, 6])) (.block 0 (.loop [(0, none), (5, some 1), (6, none)] l17_6))) (.seq (.reg r17_7 false (some [4])) (.ret)))), res := [.tmp 4], rowArgs := [], keep := false, rowRes := [], clone := none, dl := (some [0]) }
/- 18 kaudit/fresh.AppendNumber -/
def r18_0 : List CO := [
  ⟨some 4, .mv (.c (.d (.sl .nil 0 []))), none, 0⟩]
def r18_1 : List CO := [
  ⟨some 5, .mv (.t 1), none, 0⟩,
  ⟨some 6, .bin .int .geq (.t 5) (.c (.d (.int .i64 128))), none, 1⟩]
def r18_2 : List CO := [
  ⟨some 7, .mv (.t 0), none, 0⟩,
  ⟨some 8, .mv (.t 1), none, 0⟩,
  ⟨some 9, .conv .u8 (.t 8), none, 2⟩,
  ⟨some 10, .bin .int .or (.t 9) (.c (.d (.int .u8 128))), none, 6⟩,
  ⟨some 11, .bslice 1 1 [.int .u8 0] false [(0, (.t 10))], none, 14⟩,
  ⟨some 12, .app 1 1 (.t 7) (.t 11), none, 31⟩,
  ⟨some 0, .mv (.t 12), none, 63⟩]
def r18_3 : List CO := [
  ⟨some 13, .mv (.t 1), none, 0⟩,
  ⟨some 14, .bin .int .shr (.t 13) (.c (.d (.int .u64 7))), none, 1⟩,
  ⟨some 1, .mv (.t 14), none, 3⟩]
def l18_4 : CCode := .seq (.seq (.reg r18_1 false (some [0, 1, 6])) (.cond (.t 6) (.skip) (.exit 0))) (.block 1 (.seq (.reg r18_2 false (some [0, 1])) (.reg r18_3 false (some [0, 1]))))
def r18_5 : List CO := [
  ⟨some 15, .mv (.t 0), none, 0⟩,
  ⟨some 16, .mv (.t 1), none, 0⟩,
  ⟨some 17, .conv .u8 (.t 16), none, 2⟩,
  ⟨some 18, .bslice 1 1 [.int .u8 0] false [(0, (.t 17))], none, 6⟩,
  ⟨some 19, .app 1 1 (.t 15) (.t 18), none, 15⟩,
  ⟨some 4, .mv (.t 19), none, 31⟩]
def c18 : CF := { body := .seq (.reg r18_0 false (some [0, 1])) (.seq (.block 0 (.loop [(0, some 1), (1, none)] l18_4)) (.seq (.reg r18_5 false (some [4])) (.ret))), res := [.tmp 4], rowArgs := [(0, 1)], keep := true, rowRes := [], clone := none, dl := none }
/- 19 kaudit/pack.Pack$1 -/
def r19_0 : List CO := [
  ⟨some 5, .mv (.t 0), none, 0⟩,
  ⟨some 6, .load false 1 (.t 1), none, 0⟩,
  ⟨some 7, .bin .int .gtr (.t 5) (.t 6), none, 3⟩]
def r19_1 : List CO := [
  ⟨some 8, .load false 1 (.t 2), none, 0⟩,
  ⟨some 9, .mv (.t 0), none, 0⟩,
  ⟨some 10, .load false 1 (.t 1), none, 0⟩,
  ⟨some 11, .bin .int .sub (.t 9) (.t 10), none, 6⟩,
  ⟨some 12, .conv .u8 (.t 11), none, 14⟩,
  ⟨some 13, .bslice 1 1 [.int .u8 0] false [(0, (.t 12))], none, 30⟩,
  ⟨some 14, .app 1 1 (.t 8) (.t 13), none, 63⟩,
  ⟨some 15, .load false 1 (.t 3), none, 0⟩,
  ⟨some 16, .load false 1 (.t 1), none, 0⟩,
  ⟨some 17, .mv (.t 0), none, 0⟩,
  ⟨some 18, .slSl 1 (.t 15) (some (.t 16)) (some (.t 17)) none, none, 896⟩,
  ⟨some 19, .app 1 1 (.t 14) (.t 18), none, 2047⟩,
  ⟨none, .store 1 (.t 2) (.t 19), none, 4095⟩]
def r19_2 : List CO := [
  ⟨some 20, .mv (.t 0), none, 0⟩,
  ⟨none, .store 1 (.t 1) (.t 20), none, 1⟩]
def c19 : CF := { body := .seq (.seq (.reg r19_0 false (some [0, 1, 2, 3, 7])) (.cond (.t 7) (.reg r19_1 true (some [0, 1])) (.skip))) (.reg r19_2 false (some [])), res := [], rowArgs := [], keep := false, rowRes := [], clone := none, dl := (some [0, 1, 2, 3]) }
/- 20 (kaudit/pack.finder).copyAt -/
def r20_0 : List CO := [
  ⟨some 4, .mv (.c (.d (.int .i64 0))), none, 0⟩,
  ⟨some 5, .mv (.c (.d (.int .i64 0))), none, 1⟩]
def r20_1 : List CO := [
  ⟨some 12, .mv (.t 1), none, 0⟩,
  ⟨some 13, .bin .int .add (.t 12) (.c (.d (.int .i64 4))), none, 1⟩,
  ⟨some 14, .mv (.t 0), none, 0⟩,
  ⟨some 15, .nilck (.t 14), none, 4⟩,
  ⟨some 16, .fa 0 (.t 15), none, 12⟩,
  ⟨some 17, .load false 1 (.t 16), none, 28⟩,
  ⟨some 18, .len .sl (.t 17), none, 60⟩,
  ⟨some 19, .bin .int .gtr (.t 13) (.t 18), none, 127⟩]
def r20_2 : List CO := [
  ⟨some 4, .mv (.c (.d (.int .i64 0))), none, 0⟩,
  ⟨some 5, .mv (.c (.d (.int .i64 0))), none, 1⟩]
def r20_3 : List CO := [
  ⟨some 21, .mv (.t 0), none, 0⟩,
  ⟨some 22, .nilck (.t 21), none, 1⟩,
  ⟨some 23, .fa 1 (.t 22), none, 3⟩,
  ⟨some 24, .load false 1 (.t 23), none, 7⟩,
  ⟨some 25, .mv (.t 0), none, 0⟩,
  ⟨some 26, .nilck (.t 25), none, 16⟩,
  ⟨some 27, .fa 0 (.t 26), none, 48⟩,
  ⟨some 28, .load false 1 (.t 27), none, 112⟩,
  ⟨some 29, .mv (.t 1), none, 0⟩,
  ⟨some 30, .slSl 1 (.t 28) (some (.t 29)) none none, none, 496⟩,
  ⟨some 31, .s2a 4 (.t 30), none, 1008⟩,
  ⟨some 32, .load true 4 (.t 31), none, 2032⟩,
  ⟨some 33, .look [.int, .int, .int, .int] true true (.int .i64 0) (.t 24) (.t 32), none, 4095⟩,
  ⟨some 20, .mv (.t 33), none, 8191⟩,
  ⟨some 34, .ext 0 (.t 20), none, 16383⟩,
  ⟨some 35, .ext 1 (.t 20), none, 16383⟩,
  ⟨some 6, .mv (.t 34), none, 32767⟩,
  ⟨some 7, .mv (.t 35), none, 131071⟩]
def r20_4 : List CO := [
  ⟨some 36, .mv (.t 7), none, 0⟩,
  ⟨some 37, .un .not (.t 36), none, 1⟩]
def r20_5 : List CO := [
  ⟨some 4, .mv (.c (.d (.int .i64 0))), none, 0⟩,
  ⟨some 5, .mv (.c (.d (.int .i64 0))), none, 1⟩]
def r20_6 : List CO := [
  ⟨some 38, .mv (.t 0), none, 0⟩,
  ⟨some 39, .nilck (.t 38), none, 1⟩,
  ⟨some 40, .fa 0 (.t 39), none, 3⟩,
  ⟨some 41, .load false 1 (.t 40), none, 7⟩,
  ⟨some 42, .len .sl (.t 41), none, 15⟩,
  ⟨some 43, .mv (.t 1), none, 0⟩,
  ⟨some 44, .bin .int .sub (.t 42) (.t 43), none, 63⟩,
  ⟨some 45, .min (.c (.d (.int .i64 131))) [(.t 44)], none, 127⟩,
  ⟨some 8, .mv (.t 45), none, 255⟩]
def r20_7 : List CO := [
  ⟨some 9, .mv (.c (.d (.int .i64 0))), none, 0⟩,
  ⟨some 10, .mv (.c (.d (.int .i64 0))), none, 1⟩]
def r20_8 : List CO := [
  ⟨some 46, .mv (.t 6), none, 0⟩,
  ⟨some 47, .bin .int .geq (.t 46) (.c (.d (.int .i64 0))), none, 1⟩,
  ⟨some 48, .mv (.t 47), none, 3⟩,
  ⟨some 49, .mv (.t 1), some (48, true), 7⟩,
  ⟨some 50, .mv (.t 6), some (48, true), 7⟩,
  ⟨some 51, .bin .int .sub (.t 49) (.t 50), some (48, true), 31⟩,
  ⟨some 52, .bin .int .leq (.t 51) (.c (.d (.int .i64 2048))), some (48, true), 63⟩,
  ⟨some 53, .pick (.t 48) (.t 52) (.c (.d (.bool false))), none, 127⟩]
def r20_9 : List CO := [
  ⟨some 11, .mv (.c (.d (.int .i64 0))), none, 0⟩]
def r20_10 : List CO := [
  ⟨some 61, .mv (.t 11), none, 0⟩,
  ⟨some 62, .mv (.t 8), none, 0⟩,
  ⟨some 63, .bin .int .lss (.t 61) (.t 62), none, 3⟩]
def r20_11 : List CO := [
  ⟨some 64, .mv (.t 0), none, 0⟩,
  ⟨some 65, .nilck (.t 64), none, 1⟩,
  ⟨some 66, .fa 0 (.t 65), none, 3⟩,
  ⟨some 67, .load false 1 (.t 66), none, 7⟩,
  ⟨some 68, .mv (.t 6), none, 0⟩,
  ⟨some 69, .mv (.t 11), none, 0⟩,
  ⟨some 70, .bin .int .add (.t 68) (.t 69), none, 48⟩,
  ⟨some 71, .ia 1 (.t 67) (.t 70), none, 127⟩,
  ⟨some 72, .load false 1 (.t 71), none, 255⟩,
  ⟨some 73, .mv (.t 0), none, 0⟩,
  ⟨some 74, .nilck (.t 73), none, 512⟩,
  ⟨some 75, .fa 0 (.t 74), none, 1536⟩,
  ⟨some 76, .load false 1 (.t 75), none, 3584⟩,
  ⟨some 77, .mv (.t 1), none, 0⟩,
  ⟨some 78, .mv (.t 11), none, 0⟩,
  ⟨some 79, .bin .int .add (.t 77) (.t 78), none, 24576⟩,
  ⟨some 80, .ia 1 (.t 76) (.t 79), none, 65024⟩,
  ⟨some 81, .load false 1 (.t 80), none, 130560⟩,
  ⟨some 82, .bin .int .neq (.t 72) (.t 81), none, 262143⟩]
def r20_12 : List CO := [
  ⟨some 83, .mv (.t 11), none, 0⟩,
  ⟨some 84, .bin .int .add (.t 83) (.c (.d (.int .i64 1))), none, 1⟩,
  ⟨some 11, .mv (.t 84), none, 3⟩]
def l20_13 : CCode := .seq (.seq (.reg r20_10 false (some [0, 1, 6, 8, 9, 10, 11, 63])) (.cond (.t 63) (.skip) (.exit 2))) (.block 3 (.seq (.seq (.reg r20_11 true (some [0, 1, 6, 8, 9, 10, 11, 82])) (.cond (.t 82) (.exit 2) (.skip))) (.reg r20_12 false (some [0, 1, 6, 8, 9, 10, 11]))))
def r20_14 : List CO := [
  ⟨some 85, .mv (.t 11), none, 0⟩,
  ⟨some 86, .mv (.t 9), none, 0⟩,
  ⟨some 87, .bin .int .gtr (.t 85) (.t 86), none, 3⟩]
def r20_15 : List CO := [
  ⟨some 88, .mv (.t 11), none, 0⟩,
  ⟨some 89, .mv (.t 1), none, 0⟩,
  ⟨some 90, .mv (.t 6), none, 0⟩,
  ⟨some 91, .bin .int .sub (.t 89) (.t 90), none, 6⟩,
  ⟨some 9, .mv (.t 88), none, 1⟩,
  ⟨some 10, .mv (.t 91), none, 31⟩]
def r20_16 : List CO := [
  ⟨some 92, .mv (.t 11), none, 0⟩,
  ⟨some 93, .mv (.t 8), none, 0⟩,
  ⟨some 94, .bin .int .eql (.t 92) (.t 93), none, 3⟩]
def r20_17 : List CO := [
  ⟨some 54, .mv (.t 0), none, 0⟩,
  ⟨some 55, .nilck (.t 54), none, 1⟩,
  ⟨some 56, .fa 2 (.t 55), none, 3⟩,
  ⟨some 57, .load false 1 (.t 56), none, 7⟩,
  ⟨some 58, .mv (.t 6), none, 0⟩,
  ⟨some 59, .ia 1 (.t 57) (.t 58), none, 31⟩,
  ⟨some 60, .load false 1 (.t 59), none, 63⟩,
  ⟨some 6, .mv (.t 60), none, 127⟩]
def l20_18 : CCode := .seq (.seq (.reg r20_8 false (some [0, 1, 6, 8, 9, 10, 53])) (.cond (.t 53) (.skip) (.exit 0))) (.seq (.block 1 (.seq (.reg r20_9 false (some [0, 1, 6, 8, 9, 10, 11])) (.seq (.block 2 (.loop [(0, none), (1, none), (6, none), (8, none), (9, none), (10, none), (11, none)] l20_13)) (.seq (.seq (.reg r20_14 false (some [0, 1, 6, 8, 9, 10, 11, 87])) (.cond (.t 87) (.reg r20_15 false (some [0, 1, 6, 8, 9, 10, 11])) (.skip))) (.seq (.reg r20_16 false (some [0, 1, 6, 8, 9, 10, 94])) (.cond (.t 94) (.exit 0) (.skip))))))) (.reg r20_17 false (some [0, 1, 6, 8, 9, 10])))
def r20_19 : List CO := [
  ⟨some 95, .mv (.t 9), none, 0⟩,
  ⟨some 96, .mv (.t 10), none, 0⟩,
  ⟨some 4, .mv (.t 95), none, 1⟩,
  ⟨some 5, .mv (.t 96), none, 7⟩]
def c20 : CF := { body := .seq (.reg r20_0 false (some [0, 1])) (.seq (.seq (.reg r20_1 false (some [0, 1, 19])) (.cond (.t 19) (.seq (.reg r20_2 false (some [4, 5])) (.ret)) (.skip))) (.seq (.reg r20_3 true (some [0, 1, 6, 7])) (.seq (.seq (.reg r20_4 false (some [0, 1, 6, 37])) (.cond (.t 37) (.seq (.reg r20_5 false (some [4, 5])) (.ret)) (.skip))) (.seq (.reg r20_6 false (some [0, 1, 6, 8])) (.seq (.reg r20_7 false (some [0, 1, 6, 8, 9, 10])) (.seq (.skip) (.seq (.block 0 (.loop [(0, none), (1, none), (6, none), (8, none), (9, none), (10, none)] l20_18)) (.seq (.reg r20_19 false (some [4, 5])) (.ret))))))))), res := [.tmp 4, .tmp 5], rowArgs := [], keep := false, rowRes := [], clone := none, dl := none }
/- 21 (kaudit/pack.finder).enter -/
def r21_0 : List CO := [
  ⟨some 7, .mv (.t 1), none, 0⟩,
  ⟨some 8, .bin .int .add (.t 7) (.c (.d (.int .i64 4))), none, 1⟩,
  ⟨some 9, .mv (.t 0), none, 0⟩,
  ⟨some 10, .nilck (.t 9), none, 4⟩,
  ⟨some 11, .fa 0 (.t 10), none, 12⟩,
  ⟨some 12, .load false 1 (.t 11), none, 28⟩,
  ⟨some 13, .len .sl (.t 12), none, 60⟩,
  ⟨some 14, .bin .int .gtr (.t 8) (.t 13), none, 127⟩]
def r21_1 : List CO := [
  ⟨some 15, .mv (.t 0), none, 0⟩,
  ⟨some 16, .mv (.t 0), none, 0⟩,
  ⟨some 17, .nilck (.t 16), none, 2⟩,
  ⟨some 18, .fa 2 (.t 17), none, 6⟩,
  ⟨some 19, .load false 1 (.t 18), none, 14⟩,
  ⟨some 20, .bslice 1 1 [.int .i64 0] false [(0, (.c (.d (.int .i64 (-1)))))], none, 0⟩,
  ⟨some 21, .app 1 8 (.t 19) (.t 20), none, 62⟩,
  ⟨some 22, .nilck (.t 15), none, 127⟩,
  ⟨some 23, .fa 2 (.t 22), none, 255⟩,
  ⟨none, .store 1 (.t 23) (.t 21), none, 511⟩]
def r21_2 : List CO := [
  ⟨some 24, .mv (.t 0), none, 0⟩,
  ⟨some 25, .nilck (.t 24), none, 1⟩,
  ⟨some 26, .fa 0 (.t 25), none, 3⟩,
  ⟨some 27, .load false 1 (.t 26), none, 7⟩,
  ⟨some 28, .mv (.t 1), none, 0⟩,
  ⟨some 29, .slSl 1 (.t 27) (some (.t 28)) none none, none, 31⟩,
  ⟨some 30, .s2a 4 (.t 29), none, 63⟩,
  ⟨some 31, .load true 4 (.t 30), none, 127⟩,
  ⟨some 4, .alloc [.d (.int .u8 0), .d (.int .u8 0), .d (.int .u8 0), .d (.int .u8 0)] [], none, 0⟩,
  ⟨none, .store 4 (.t 4) (.t 31), none, 511⟩]
def r21_3 : List CO := [
  ⟨some 33, .mv (.t 0), none, 0⟩,
  ⟨some 34, .nilck (.t 33), none, 1⟩,
  ⟨some 35, .fa 1 (.t 34), none, 3⟩,
  ⟨some 36, .load false 1 (.t 35), none, 7⟩,
  ⟨some 37, .load true 4 (.t 4), none, 0⟩,
  ⟨some 38, .look [.int, .int, .int, .int] true true (.int .i64 0) (.t 36) (.t 37), none, 31⟩,
  ⟨some 32, .mv (.t 38), none, 63⟩,
  ⟨some 39, .ext 0 (.t 32), none, 127⟩,
  ⟨some 40, .ext 1 (.t 32), none, 127⟩,
  ⟨some 5, .mv (.t 39), none, 255⟩,
  ⟨some 6, .mv (.t 40), none, 1023⟩]
def r21_4 : List CO := [
  ⟨some 41, .mv (.t 6), none, 0⟩,
  ⟨some 42, .un .not (.t 41), none, 1⟩]
def r21_5 : List CO := [
  ⟨some 5, .mv (.c (.d (.int .i64 (-1)))), none, 0⟩]
def r21_6 : List CO := [
  ⟨some 43, .mv (.t 0), none, 0⟩,
  ⟨some 44, .mv (.t 0), none, 0⟩,
  ⟨some 45, .nilck (.t 44), none, 2⟩,
  ⟨some 46, .fa 2 (.t 45), none, 6⟩,
  ⟨some 47, .load false 1 (.t 46), none, 14⟩,
  ⟨some 48, .mv (.t 5), none, 0⟩,
  ⟨some 49, .bslice 1 1 [.int .i64 0] false [(0, (.t 48))], none, 32⟩,
  ⟨some 50, .app 1 8 (.t 47) (.t 49), none, 126⟩,
  ⟨some 51, .nilck (.t 43), none, 255⟩,
  ⟨some 52, .fa 2 (.t 51), none, 511⟩,
  ⟨none, .store 1 (.t 52) (.t 50), none, 1023⟩]
def r21_7 : List CO := [
  ⟨some 53, .mv (.t 0), none, 0⟩,
  ⟨some 54, .nilck (.t 53), none, 1⟩,
  ⟨some 55, .fa 1 (.t 54), none, 3⟩,
  ⟨some 56, .load false 1 (.t 55), none, 7⟩,
  ⟨some 57, .load true 4 (.t 4), none, 0⟩,
  ⟨some 58, .mv (.t 1), none, 0⟩,
  ⟨none, .mput [.int, .int, .int, .int] true (.t 56) (.t 57) (.t 58), none, 63⟩]
def c21 : CF := { body := .seq (.seq (.reg r21_0 false (some [0, 1, 14])) (.cond (.t 14) (.seq (.reg r21_1 false (some [])) (.ret)) (.skip))) (.seq (.reg r21_2 false (some [0, 1, 4])) (.seq (.reg r21_3 true (some [0, 1, 4, 5, 6])) (.seq (.seq (.reg r21_4 false (some [0, 1, 4, 5, 42])) (.cond (.t 42) (.reg r21_5 false (some [0, 1, 4, 5])) (.skip))) (.seq (.reg r21_6 false (some [0, 1, 4])) (.reg r21_7 true (some [])))))), res := [], rowArgs := [], keep := false, rowRes := [], clone := none, dl := (some [0, 1, 2]) }
/- 22 kaudit/kauditref25.Put -/
def r22_0 : List CO := [
  ⟨some 4, .mv (.c (.d (.sl .nil 0 []))), none, 0⟩]
def r22_1 : List CO := [
  ⟨some 5, .mv (.t 1), none, 0⟩,
  ⟨some 6, .bin .int .geq (.t 5) (.c (.d (.int .i64 128))), none, 1⟩]
def r22_2 : List CO := [
  ⟨some 7, .mv (.t 0), none, 0⟩,
  ⟨some 8, .mv (.t 1), none, 0⟩,
  ⟨some 9, .bin .int .rem (.t 8) (.c (.d (.int .i64 128))), none, 2⟩,
  ⟨some 10, .conv .u8 (.t 9), none, 6⟩,
  ⟨some 11, .bin .int .add (.t 10) (.c (.d (.int .u8 128))), none, 14⟩,
  ⟨some 12, .bslice 1 1 [.int .u8 0] false [(0, (.t 11))], none, 30⟩,
  ⟨some 13, .app 1 1 (.t 7) (.t 12), none, 63⟩,
  ⟨some 0, .mv (.t 13), none, 127⟩]
def r22_3 : List CO := [
  ⟨some 14, .mv (.t 1), none, 0⟩,
  ⟨some 15, .bin .int .quo (.t 14) (.c (.d (.int .i64 128))), none, 1⟩,
  ⟨some 1, .mv (.t 15), none, 3⟩]
def l22_4 : CCode := .seq (.seq (.reg r22_1 false (some [0, 1, 6])) (.cond (.t 6) (.skip) (.exit 0))) (.block 1 (.seq (.reg r22_2 false (some [0, 1])) (.reg r22_3 false (some [0, 1]))))
def r22_5 : List CO := [
  ⟨some 16, .mv (.t 0), none, 0⟩,
  ⟨some 17, .mv (.t 1), none, 0⟩,
  ⟨some 18, .conv .u8 (.t 17), none, 2⟩,
  ⟨some 19, .bslice 1 1 [.int .u8 0] false [(0, (.t 18))], none, 6⟩,
  ⟨some 20, .app 1 1 (.t 16) (.t 19), none, 15⟩,
  ⟨some 4, .mv (.t 20), none, 31⟩]
def c22 : CF := { body := .seq (.reg r22_0 false (some [0, 1])) (.seq (.block 0 (.loop [(0, some 1), (1, none)] l22_4)) (.seq (.reg r22_5 false (some [4])) (.ret))), res := [.tmp 4], rowArgs := [(0, 1)], keep := true, rowRes := [], clone := none, dl := none }
/- 23 kaudit/kauditref26.copied -/
def r23_0 : List CO := [
  ⟨some 4, .mv (.c (.d (.int .i64 0))), none, 0⟩,
  ⟨some 5, .mv (.c (.d (.int .i64 0))), none, 1⟩]
def r23_1 : List CO := [
  ⟨some 6, .mv (.c (.d (.int .i64 0))), none, 0⟩,
  ⟨some 7, .mv (.c (.d (.int .i64 0))), none, 1⟩]
def r23_2 : List CO := [
  ⟨some 8, .mv (.c (.d (.int .i64 1))), none, 0⟩]
def r23_3 : List CO := [
  ⟨some 10, .mv (.t 8), none, 0⟩,
  ⟨some 11, .mv (.t 1), none, 0⟩,
  ⟨some 12, .min (.t 11) [(.c (.d (.int .i64 2048)))], none, 2⟩,
  ⟨some 13, .bin .int .leq (.t 10) (.t 12), none, 7⟩]
def r23_4 : List CO := [
  ⟨some 9, .mv (.c (.d (.int .i64 0))), none, 0⟩]
def r23_5 : List CO := [
  ⟨some 16, .mv (.t 9), none, 0⟩,
  ⟨some 17, .bin .int .lss (.t 16) (.c (.d (.int .i64 131))), none, 1⟩,
  ⟨some 18, .mv (.t 17), none, 3⟩,
  ⟨some 19, .mv (.t 1), some (18, true), 7⟩,
  ⟨some 20, .mv (.t 9), some (18, true), 7⟩,
  ⟨some 21, .bin .int .add (.t 19) (.t 20), some (18, true), 31⟩,
  ⟨some 22, .mv (.t 0), some (18, true), 7⟩,
  ⟨some 23, .len .sl (.t 22), some (18, true), 71⟩,
  ⟨some 24, .bin .int .lss (.t 21) (.t 23), some (18, true), 255⟩,
  ⟨some 25, .pick (.t 18) (.t 24) (.c (.d (.bool false))), none, 511⟩,
  ⟨some 26, .mv (.t 25), none, 1023⟩,
  ⟨some 27, .mv (.t 0), some (26, true), 2047⟩,
  ⟨some 28, .mv (.t 1), some (26, true), 2047⟩,
  ⟨some 29, .mv (.t 9), some (26, true), 2047⟩,
  ⟨some 30, .bin .int .add (.t 28) (.t 29), some (26, true), 14335⟩,
  ⟨some 31, .ia 1 (.t 27) (.t 30), some (26, true), 32767⟩,
  ⟨some 32, .load false 1 (.t 31), some (26, true), 65535⟩,
  ⟨some 33, .mv (.t 0), some (26, true), 2047⟩,
  ⟨some 34, .mv (.t 1), some (26, true), 2047⟩,
  ⟨some 35, .mv (.t 9), some (26, true), 2047⟩,
  ⟨some 36, .bin .int .add (.t 34) (.t 35), some (26, true), 788479⟩,
  ⟨some 37, .mv (.t 8), some (26, true), 2047⟩,
  ⟨some 38, .bin .int .sub (.t 36) (.t 37), some (26, true), 3934207⟩,
  ⟨some 39, .ia 1 (.t 33) (.t 38), some (26, true), 8259583⟩,
  ⟨some 40, .load false 1 (.t 39), some (26, true), 16648191⟩,
  ⟨some 41, .bin .int .eql (.t 32) (.t 40), some (26, true), 33554431⟩,
  ⟨some 42, .pick (.t 26) (.t 41) (.c (.d (.bool false))), none, 67108863⟩]
def r23_6 : List CO := [
  ⟨some 43, .mv (.t 9), none, 0⟩,
  ⟨some 44, .bin .int .add (.t 43) (.c (.d (.int .i64 1))), none, 1⟩,
  ⟨some 9, .mv (.t 44), none, 3⟩]
def l23_7 : CCode := .seq (.seq (.reg r23_5 true (some [0, 1, 6, 7, 8, 9, 42])) (.cond (.t 42) (.skip) (.exit 2))) (.block 3 (.reg r23_6 false (some [0, 1, 6, 7, 8, 9])))
def r23_8 : List CO := [
  ⟨some 45, .mv (.t 9), none, 0⟩,
  ⟨some 46, .mv (.t 6), none, 0⟩,
  ⟨some 47, .bin .int .gtr (.t 45) (.t 46), none, 3⟩]
def r23_9 : List CO := [
  ⟨some 48, .mv (.t 9), none, 0⟩,
  ⟨some 49, .mv (.t 8), none, 0⟩,
  ⟨some 6, .mv (.t 48), none, 1⟩,
  ⟨some 7, .mv (.t 49), none, 7⟩]
def r23_10 : List CO := [
  ⟨some 14, .mv (.t 8), none, 0⟩,
  ⟨some 15, .bin .int .add (.t 14) (.c (.d (.int .i64 1))), none, 1⟩,
  ⟨some 8, .mv (.t 15), none, 3⟩]
def l23_11 : CCode := .seq (.seq (.reg r23_3 false (some [0, 1, 6, 7, 8, 13])) (.cond (.t 13) (.skip) (.exit 0))) (.seq (.block 1 (.seq (.reg r23_4 false (some [0, 1, 6, 7, 8, 9])) (.seq (.block 2 (.loop [(0, none), (1, none), (6, none), (7, none), (8, none), (9, none)] l23_7)) (.seq (.reg r23_8 false (some [0, 1, 6, 7, 8, 9, 47])) (.cond (.t 47) (.reg r23_9 false (some [0, 1, 6, 7, 8])) (.skip)))))) (.reg r23_10 false (some [0, 1, 6, 7, 8])))
def r23_12 : List CO := [
  ⟨some 50, .mv (.t 6), none, 0⟩,
  ⟨some 51, .mv (.t 7), none, 0⟩,
  ⟨some 4, .mv (.t 50), none, 1⟩,
  ⟨some 5, .mv (.t 51), none, 7⟩]
def c23 : CF := { body := .seq (.reg r23_0 false (some [0, 1])) (.seq (.reg r23_1 false (some [0, 1, 6, 7])) (.seq (.seq (.reg r23_2 false (some [0, 1, 6, 7, 8])) (.block 0 (.loop [(0, none), (1, none), (6, none), (7, none), (8, none)] l23_11))) (.seq (.reg r23_12 false (some [4, 5])) (.ret)))), res := [.tmp 4, .tmp 5], rowArgs := [], keep := false, rowRes := [], clone := none, dl := none }
/- 24 kaudit/fresh.Number -/
def r24_0 : List CO := [
  ⟨some 2, .mv (.c (.d (.int .i64 0))), none, 0⟩,
  ⟨some 3, .mv (.c (.d (.int .i64 0))), none, 1⟩,
  ⟨some 4, .mv (.c (.d (.bool false))), none, 3⟩]
def r24_1 : List CO := [
  ⟨some 5, .mv (.c (.d (.int .u64 0))), none, 0⟩]
def r24_2 : List CO := [
  ⟨some 8, .mv (.t 0), none, 0⟩,
  ⟨some 9, .len .sl (.t 8), none, 1⟩,
  ⟨some 10, .mv (.c (.d (.int .i64 0))), none, 0⟩]
def r24_3 : List CO := [
  ⟨some 11, .bin .int .lss (.t 10) (.t 9), none, 0⟩]
def r24_4 : List CO := [
  ⟨some 12, .mv (.t 10), none, 0⟩,
  ⟨some 13, .ia 1 (.t 8) (.t 10), none, 0⟩,
  ⟨some 14, .load false 1 (.t 13), none, 2⟩,
  ⟨some 6, .mv (.t 12), none, 7⟩,
  ⟨some 7, .mv (.t 14), none, 15⟩]
def r24_5 : List CO := [
  ⟨some 15, .mv (.t 6), none, 0⟩,
  ⟨some 16, .bin .int .eql (.t 15) (.c (.d (.int .i64 9))), none, 1⟩,
  ⟨some 17, .mv (.t 16), none, 3⟩,
  ⟨some 18, .mv (.t 6), some (17, false), 7⟩,
  ⟨some 19, .bin .int .gtr (.t 18) (.c (.d (.int .i64 0))), some (17, false), 15⟩,
  ⟨some 20, .mv (.t 19), some (17, false), 31⟩,
  ⟨some 21, .mv (.t 7), some (20, true), 63⟩,
  ⟨some 22, .bin .int .eql (.t 21) (.c (.d (.int .u8 0))), some (20, true), 127⟩,
  ⟨some 23, .pick (.t 20) (.t 22) (.c (.d (.bool false))), some (17, false), 255⟩,
  ⟨some 24, .pick (.t 17) (.c (.d (.bool true))) (.t 23), none, 511⟩]
def r24_6 : List CO := [
  ⟨some 2, .mv (.c (.d (.int .i64 0))), none, 0⟩,
  ⟨some 3, .mv (.c (.d (.int .i64 0))), none, 1⟩,
  ⟨some 4, .mv (.c (.d (.bool false))), none, 3⟩]
def r24_7 : List CO := [
  ⟨some 25, .mv (.t 5), none, 0⟩,
  ⟨some 26, .mv (.t 7), none, 0⟩,
  ⟨some 27, .bin .int .and (.t 26) (.c (.d (.int .u8 127))), none, 2⟩,
  ⟨some 28, .conv .u64 (.t 27), none, 6⟩,
  ⟨some 29, .mv (.t 6), none, 0⟩,
  ⟨some 30, .bin .int .mul (.c (.d (.int .i64 7))) (.t 29), none, 16⟩,
  ⟨some 31, .bin .int .shl (.t 28) (.t 30), none, 62⟩,
  ⟨some 32, .bin .int .or (.t 25) (.t 31), none, 127⟩,
  ⟨some 5, .mv (.t 32), none, 255⟩]
def r24_8 : List CO := [
  ⟨some 33, .mv (.t 7), none, 0⟩,
  ⟨some 34, .bin .int .lss (.t 33) (.c (.d (.int .u8 128))), none, 1⟩]
def r24_9 : List CO := [
  ⟨some 35, .mv (.t 5), none, 0⟩,
  ⟨some 36, .conv .i64 (.t 35), none, 1⟩,
  ⟨some 37, .mv (.t 6), none, 0⟩,
  ⟨some 38, .bin .int .add (.t 37) (.c (.d (.int .i64 1))), none, 4⟩,
  ⟨some 2, .mv (.t 36), none, 3⟩,
  ⟨some 3, .mv (.t 38), none, 31⟩,
  ⟨some 4, .mv (.c (.d (.bool true))), none, 63⟩]
def r24_10 : List CO := [
  ⟨some 39, .bin .int .add (.t 10) (.c (.d (.int .i64 1))), none, 0⟩,
  ⟨some 10, .mv (.t 39), none, 1⟩]
def l24_11 : CCode := .seq (.reg r24_3 false (some [5, 8, 9, 10, 11])) (.seq (.cond (.t 11) (.skip) (.exit 0)) (.seq (.block 1 (.seq (.reg r24_4 false (some [5, 6, 7, 8, 9, 10])) (.seq (.seq (.reg r24_5 false (some [5, 6, 7, 8, 9, 10, 24])) (.cond (.t 24) (.seq (.reg r24_6 false (some [2, 3, 4])) (.ret)) (.skip))) (.seq (.reg r24_7 false (some [5, 6, 7, 8, 9, 10])) (.seq (.reg r24_8 false (some [5, 6, 8, 9, 10, 34])) (.cond (.t 34) (.seq (.reg r24_9 false (some [2, 3, 4])) (.ret)) (.skip))))))) (.reg r24_10 false (some [5, 8, 9, 10]))))
def r24_12 : List CO := [
  ⟨some 2, .mv (.c (.d (.int .i64 0))), none, 0⟩,
  ⟨some 3, .mv (.c (.d (.int .i64 0))), none, 1⟩,
  ⟨some 4, .mv (.c (.d (.bool false))), none, 3⟩]
def c24 : CF := { body := .seq (.reg r24_0 false (some [0])) (.seq (.reg r24_1 false (some [0, 5])) (.seq (.seq (.reg r24_2 false (some [5, 8, 9, 10])) (.block 0 (.loop [(5, none), (8, none), (9, none), (10, none)] l24_11))) (.seq (.reg r24_12 false (some [2, 3, 4])) (.ret)))), res := [.tmp 2, .tmp 3, .tmp 4], rowArgs := [], keep := false, rowRes := [], clone := none, dl := none }
/- 25 kaudit/kauditref25.Take -/
def r25_0 : List CO := [
  ⟨some 2, .mv (.c (.d (.int .i64 0))), none, 0⟩,
  ⟨some 3, .mv (.c (.d (.int .i64 0))), none, 1⟩,
  ⟨some 4, .mv (.c (.d (.bool false))), none, 3⟩]
def r25_1 : List CO := [
  ⟨some 5, .mv (.c (.d (.int .i64 0))), none, 0⟩]
def r25_2 : List CO := [
  ⟨some 6, .mv (.c (.d (.int .i64 0))), none, 0⟩]
def r25_3 : List CO := [
  ⟨some 7, .mv (.t 6), none, 0⟩,
  ⟨some 8, .mv (.t 0), none, 0⟩,
  ⟨some 9, .len .sl (.t 8), none, 2⟩,
  ⟨some 10, .bin .int .lss (.t 7) (.t 9), none, 7⟩,
  ⟨some 11, .mv (.t 10), none, 15⟩,
  ⟨some 12, .mv (.t 6), some (11, true), 31⟩,
  ⟨some 13, .bin .int .lss (.t 12) (.c (.d (.int .i64 9))), some (11, true), 63⟩,
  ⟨some 14, .pick (.t 11) (.t 13) (.c (.d (.bool false))), none, 127⟩]
def r25_4 : List CO := [
  ⟨some 17, .mv (.t 5), none, 0⟩,
  ⟨some 18, .mv (.t 0), none, 0⟩,
  ⟨some 19, .mv (.t 6), none, 0⟩,
  ⟨some 20, .ia 1 (.t 18) (.t 19), none, 6⟩,
  ⟨some 21, .load false 1 (.t 20), none, 14⟩,
  ⟨some 22, .bin .int .and (.t 21) (.c (.d (.int .u8 127))), none, 30⟩,
  ⟨some 23, .conv .i64 (.t 22), none, 62⟩,
  ⟨some 24, .mv (.t 6), none, 0⟩,
  ⟨some 25, .bin .int .mul (.c (.d (.int .i64 7))) (.t 24), none, 128⟩,
  ⟨some 26, .bin .int .shl (.t 23) (.t 25), none, 510⟩,
  ⟨some 27, .bin .int .or (.t 17) (.t 26), none, 1023⟩,
  ⟨some 5, .mv (.t 27), none, 2047⟩]
def r25_5 : List CO := [
  ⟨some 28, .mv (.t 0), none, 0⟩,
  ⟨some 29, .mv (.t 6), none, 0⟩,
  ⟨some 30, .ia 1 (.t 28) (.t 29), none, 3⟩,
  ⟨some 31, .load false 1 (.t 30), none, 7⟩,
  ⟨some 32, .bin .int .lss (.t 31) (.c (.d (.int .u8 128))), none, 15⟩]
def r25_6 : List CO := [
  ⟨some 33, .mv (.t 5), none, 0⟩,
  ⟨some 34, .mv (.t 6), none, 0⟩,
  ⟨some 35, .bin .int .add (.t 34) (.c (.d (.int .i64 1))), none, 2⟩,
  ⟨some 36, .mv (.t 6), none, 0⟩,
  ⟨some 37, .bin .int .eql (.t 36) (.c (.d (.int .i64 0))), none, 8⟩,
  ⟨some 38, .mv (.t 37), none, 24⟩,
  ⟨some 39, .mv (.t 0), some (38, false), 56⟩,
  ⟨some 40, .mv (.t 6), some (38, false), 56⟩,
  ⟨some 41, .ia 1 (.t 39) (.t 40), some (38, false), 248⟩,
  ⟨some 42, .load false 1 (.t 41), some (38, false), 504⟩,
  ⟨some 43, .bin .int .gtr (.t 42) (.c (.d (.int .u8 0))), some (38, false), 1016⟩,
  ⟨some 44, .pick (.t 38) (.c (.d (.bool true))) (.t 43), none, 2040⟩,
  ⟨some 2, .mv (.t 33), none, 57⟩,
  ⟨some 3, .mv (.t 35), none, 4159⟩,
  ⟨some 4, .mv (.t 44), none, 16383⟩]
def r25_7 : List CO := [
  ⟨some 15, .mv (.t 6), none, 0⟩,
  ⟨some 16, .bin .int .add (.t 15) (.c (.d (.int .i64 1))), none, 1⟩,
  ⟨some 6, .mv (.t 16), none, 3⟩]
def l25_8 : CCode := .seq (.seq (.reg r25_3 false (some [0, 5, 6, 14])) (.cond (.t 14) (.skip) (.exit 0))) (.seq (.block 1 (.seq (.reg r25_4 false (some [0, 5, 6])) (.seq (.reg r25_5 false (some [0, 5, 6, 32])) (.cond (.t 32) (.seq (.reg r25_6 true (some [2, 3, 4])) (.ret)) (.skip))))) (.reg r25_7 false (some [0, 5, 6])))
def r25_9 : List CO := [
  ⟨some 2, .mv (.c (.d (.int .i64 0))), none, 0⟩,
  ⟨some 3, .mv (.c (.d (.int .i64 0))), none, 1⟩,
  ⟨some 4, .mv (.c (.d (.bool false))), none, 3⟩]
def c25 : CF := { body := .seq (.reg r25_0 false (some [0])) (.seq (.reg r25_1 false (some [0, 5])) (.seq (.seq (.reg r25_2 false (some [0, 5, 6])) (.block 0 (.loop [(0, none), (5, none), (6, none)] l25_8))) (.seq (.reg r25_9 false (some [2, 3, 4])) (.ret)))), res := [.tmp 2, .tmp 3, .tmp 4], rowArgs := [], keep := false, rowRes := [], clone := none, dl := none }
/- 26 (kaudit/kauditmill.Case).Pick -/
def r26_0 : List CO := [
  ⟨some 4, .mv (.c (.d (.int .i64 0))), none, 0⟩]
def r26_1 : List CO := [
  ⟨some 5, .mv (.t 1), none, 0⟩,
  ⟨some 6, .mv (.t 0), none, 0⟩,
  ⟨some 7, .mv (.t 1), none, 0⟩,
  ⟨some 8, .len .sl (.t 7), none, 4⟩,
  ⟨some 9, .call (.c (.fn 13 [])) [(.t 6), (.t 8)], none, 14⟩,
  ⟨some 10, .ia 1 (.t 5) (.t 9), none, 31⟩,
  ⟨some 11, .load false 1 (.t 10), none, 63⟩,
  ⟨some 4, .mv (.t 11), none, 127⟩]
def c26 : CF := { body := .seq (.reg r26_0 false (some [0, 1])) (.seq (.reg r26_1 false (some [4])) (.ret)), res := [.tmp 4], rowArgs := [], keep := false, rowRes := [], clone := none, dl := (some [0]) }
def prog : FuncId → Option CF := fun
  | 3 => some c3
  | 4 => some c4
  | 5 => some c5
  | 6 => some c6
  | 7 => some c7
  | 8 => some c8
  | 9 => some c9
  | 10 => some c10
  | 11 => some c11
  | 12 => some c12
  | 13 => some c13
  | 14 => some c14
  | 15 => some c15
  | 16 => some c16
  | 17 => some c17
  | 18 => some c18
  | 19 => some c19
  | 20 => some c20
  | 21 => some c21
  | 22 => some c22
  | 23 => some c23
  | 24 => some c24
  | 25 => some c25
  | 26 => some c26
  | _ => none
end Go.Vm.Pk
