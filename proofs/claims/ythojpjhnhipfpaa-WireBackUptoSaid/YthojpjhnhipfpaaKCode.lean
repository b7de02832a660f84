/- A part of the proof of WireBackUptoSaid: YthojpjhnhipfpaaCode. -/
import Derived.Test.YthojpjhnhipfpaaKV7
/- PRINTED BY mkseat.py of this repository: the compiled functions. -/
set_option linter.unusedVariables false
namespace Go.Vm.Wr
/- 7 kaudit/kauditlaw33.WirePieces -/
def r7_0 : List CO := [
  ⟨some 4, .mv (.c (.d (.bool false))), none, 0⟩]
def r7_1 : List CO := [
  ⟨some 19, .mv (.t 0), none, 0⟩,
  ⟨some 20, .call (.c (.fn 9 [])) [(.t 19), (.c (.d (.int .i64 200)))], none, 1⟩,
  ⟨some 21, .call (.c (.fn 29 [])) [(.t 20)], none, 3⟩,
  ⟨some 18, .mv (.t 21), none, 7⟩,
  ⟨some 22, .ext 0 (.t 18), none, 15⟩,
  ⟨some 23, .ext 1 (.t 18), none, 15⟩,
  ⟨some 5, .mv (.t 22), none, 31⟩,
  ⟨some 6, .mv (.t 23), none, 127⟩]
def r7_2 : List CO := [
  ⟨some 7, .mv (.c (.d (.sl .nil 0 []))), none, 0⟩]
def r7_3 : List CO := [
  ⟨some 8, .mv (.c (.d (.sl .nil 0 []))), none, 0⟩]
def r7_4 : List CO := [
  ⟨some 24, .mv (.t 1), none, 0⟩,
  ⟨some 25, .len .sl (.t 24), none, 1⟩,
  ⟨some 26, .mv (.c (.d (.int .i64 0))), none, 0⟩]
def r7_5 : List CO := [
  ⟨some 27, .bin .int .lss (.t 26) (.t 25), none, 0⟩]
def r7_6 : List CO := [
  ⟨some 28, .ia 1 (.t 24) (.t 26), none, 0⟩,
  ⟨some 29, .load false 1 (.t 28), none, 1⟩,
  ⟨some 10, .mv (.t 29), none, 3⟩]
def r7_7 : List CO := [
  ⟨some 30, .mv (.t 10), none, 0⟩,
  ⟨some 31, .conv .i64 (.t 30), none, 1⟩,
  ⟨some 32, .mv (.t 6), none, 0⟩,
  ⟨some 33, .len .sl (.t 32), none, 4⟩,
  ⟨some 34, .min (.t 31) [(.t 33)], none, 15⟩,
  ⟨some 11, .mv (.t 34), none, 31⟩]
def r7_8 : List CO := [
  ⟨some 36, .mv (.t 8), none, 0⟩,
  ⟨some 37, .mv (.t 6), none, 0⟩,
  ⟨some 38, .mv (.t 11), none, 0⟩,
  ⟨some 39, .slSl 1 (.t 37) none (some (.t 38)) none, none, 6⟩,
  ⟨some 40, .call (.c (.fn 30 [])) [(.t 36), (.t 39)], none, 15⟩,
  ⟨some 35, .mv (.t 40), none, 31⟩,
  ⟨some 41, .ext 0 (.t 35), none, 63⟩,
  ⟨some 42, .ext 1 (.t 35), none, 63⟩,
  ⟨some 43, .ext 2 (.t 35), none, 63⟩,
  ⟨some 12, .mv (.t 41), none, 127⟩,
  ⟨some 13, .mv (.t 42), none, 767⟩,
  ⟨some 14, .mv (.t 43), none, 2047⟩]
def r7_9 : List CO := [
  ⟨some 44, .mv (.t 14), none, 0⟩,
  ⟨some 45, .bin .int .neq (.t 44) (.c (.d (.int .i64 0))), none, 1⟩]
def r7_10 : List CO := [
  ⟨some 4, .mv (.c (.d (.bool false))), none, 0⟩]
def r7_11 : List CO := [
  ⟨some 46, .mv (.t 7), none, 0⟩,
  ⟨some 47, .mv (.t 12), none, 0⟩,
  ⟨some 48, .app 6 72 (.t 46) (.t 47), none, 3⟩,
  ⟨some 49, .mv (.t 13), none, 0⟩,
  ⟨some 50, .mv (.t 6), none, 0⟩,
  ⟨some 51, .mv (.t 11), none, 0⟩,
  ⟨some 52, .slSl 1 (.t 50) (some (.t 51)) none none, none, 48⟩,
  ⟨some 7, .mv (.t 48), none, 7⟩,
  ⟨some 8, .mv (.t 49), none, 143⟩,
  ⟨some 6, .mv (.t 52), none, 511⟩]
def r7_12 : List CO := [
  ⟨some 53, .bin .int .add (.t 26) (.c (.d (.int .i64 1))), none, 0⟩,
  ⟨some 26, .mv (.t 53), none, 1⟩]
def l7_13 : CCode := .seq (.reg r7_5 false (some [5, 6, 7, 8, 24, 25, 26, 27])) (.seq (.cond (.t 27) (.skip) (.exit 0)) (.seq (.block 1 (.seq (.reg r7_6 false (some [5, 6, 7, 8, 10, 24, 25, 26])) (.seq (.reg r7_7 false (some [5, 6, 7, 8, 11, 24, 25, 26])) (.seq (.reg r7_8 false (some [5, 6, 7, 11, 12, 13, 14, 24, 25, 26])) (.seq (.seq (.reg r7_9 false (some [5, 6, 7, 11, 12, 13, 24, 25, 26, 45])) (.cond (.t 45) (.seq (.reg r7_10 false (some [4])) (.ret)) (.skip))) (.reg r7_11 true (some [5, 6, 7, 8, 24, 25, 26]))))))) (.reg r7_12 false (some [5, 6, 7, 8, 24, 25, 26]))))
def r7_14 : List CO := [
  ⟨some 55, .mv (.t 8), none, 0⟩,
  ⟨some 56, .mv (.t 6), none, 0⟩,
  ⟨some 57, .call (.c (.fn 30 [])) [(.t 55), (.t 56)], none, 3⟩,
  ⟨some 54, .mv (.t 57), none, 7⟩,
  ⟨some 58, .ext 0 (.t 54), none, 15⟩,
  ⟨some 59, .ext 1 (.t 54), none, 15⟩,
  ⟨some 60, .ext 2 (.t 54), none, 15⟩,
  ⟨some 15, .mv (.t 58), none, 31⟩,
  ⟨some 16, .mv (.t 59), none, 191⟩,
  ⟨some 17, .mv (.t 60), none, 511⟩]
def r7_15 : List CO := [
  ⟨some 61, .mv (.t 17), none, 0⟩,
  ⟨some 62, .bin .int .eql (.t 61) (.c (.d (.int .i64 0))), none, 1⟩,
  ⟨some 63, .mv (.t 62), none, 3⟩,
  ⟨some 64, .mv (.t 16), some (63, true), 7⟩,
  ⟨some 65, .len .sl (.t 64), some (63, true), 15⟩,
  ⟨some 66, .bin .int .eql (.t 65) (.c (.d (.int .i64 0))), some (63, true), 31⟩,
  ⟨some 67, .pick (.t 63) (.t 66) (.c (.d (.bool false))), none, 63⟩,
  ⟨some 68, .mv (.t 67), none, 127⟩,
  ⟨some 69, .mv (.t 7), some (68, true), 255⟩,
  ⟨some 70, .mv (.t 15), some (68, true), 255⟩,
  ⟨some 71, .app 6 72 (.t 69) (.t 70), some (68, true), 1023⟩,
  ⟨some 72, .mv (.t 5), some (68, true), 255⟩,
  ⟨some 73, .call (.c (.fn 31 [])) [(.t 71), (.t 72)], some (68, true), 4095⟩,
  ⟨some 74, .pick (.t 68) (.t 73) (.c (.d (.bool false))), none, 8191⟩,
  ⟨some 75, .mv (.t 74), none, 16383⟩,
  ⟨some 76, .call (.c (.fn 28 [])) [], some (75, true), 32767⟩,
  ⟨some 77, .pick (.t 75) (.t 76) (.c (.d (.bool false))), none, 65535⟩,
  ⟨some 4, .mv (.t 77), none, 131071⟩]
def c7 : CF := { body := .seq (.reg r7_0 false (some [0, 1])) (.seq (.reg r7_1 false (some [1, 5, 6])) (.seq (.reg r7_2 false (some [1, 5, 6, 7])) (.seq (.reg r7_3 false (some [1, 5, 6, 7, 8])) (.seq (.seq (.reg r7_4 false (some [5, 6, 7, 8, 24, 25, 26])) (.block 0 (.loop [(5, none), (6, none), (7, some 6), (8, none), (24, none), (25, none), (26, none)] l7_13))) (.seq (.reg r7_14 false (some [5, 7, 15, 16, 17])) (.seq (.reg r7_15 false (some [4])) (.ret))))))), res := [.tmp 4], rowArgs := [], keep := false, rowRes := [], clone := none, dl := none }
/- 8 kaudit/kauditlaw33.WireBack -/
def r8_0 : List CO := [
  ⟨some 4, .mv (.c (.d (.bool false))), none, 0⟩]
def r8_1 : List CO := [
  ⟨some 19, .mv (.t 0), none, 0⟩,
  ⟨some 20, .call (.c (.fn 9 [])) [(.t 19), (.c (.d (.int .i64 100)))], none, 1⟩,
  ⟨some 21, .call (.c (.fn 23 [])) [(.t 20)], none, 3⟩,
  ⟨some 5, .alloc [.d (.int .i64 0), .d (.str ⟨⟨[]⟩⟩), .d (.int .i64 0), .d (.int .i64 0), .d (.int .i64 0), .d (.sl .nil 0 [])] [], none, 0⟩,
  ⟨none, .store 6 (.t 5) (.t 21), none, 15⟩]
def r8_2 : List CO := [
  ⟨some 23, .load true 6 (.t 5), none, 0⟩,
  ⟨some 24, .call (.c (.fn 17 [])) [(.t 23)], none, 1⟩,
  ⟨some 22, .mv (.t 24), none, 3⟩,
  ⟨some 25, .ext 0 (.t 22), none, 7⟩,
  ⟨some 26, .ext 1 (.t 22), none, 7⟩,
  ⟨some 6, .mv (.t 25), none, 15⟩,
  ⟨some 7, .mv (.t 26), none, 63⟩]
def r8_3 : List CO := [
  ⟨some 28, .mv (.t 6), none, 0⟩,
  ⟨some 29, .call (.c (.fn 30 [])) [(.c (.d (.sl .nil 0 []))), (.t 28)], none, 1⟩,
  ⟨some 27, .mv (.t 29), none, 3⟩,
  ⟨some 30, .ext 0 (.t 27), none, 7⟩,
  ⟨some 31, .ext 1 (.t 27), none, 7⟩,
  ⟨some 32, .ext 2 (.t 27), none, 7⟩,
  ⟨some 8, .mv (.t 30), none, 15⟩,
  ⟨some 9, .mv (.t 31), none, 95⟩,
  ⟨some 10, .mv (.t 32), none, 255⟩]
def r8_4 : List CO := [
  ⟨some 33, .mv (.t 7), none, 0⟩,
  ⟨some 34, .bin .int .neq (.t 33) (.c (.d (.int .i64 0))), none, 1⟩,
  ⟨some 35, .mv (.t 34), none, 3⟩,
  ⟨some 36, .mv (.t 10), some (35, false), 7⟩,
  ⟨some 37, .bin .int .neq (.t 36) (.c (.d (.int .i64 0))), some (35, false), 15⟩,
  ⟨some 38, .pick (.t 35) (.c (.d (.bool true))) (.t 37), none, 31⟩,
  ⟨some 39, .mv (.t 38), none, 63⟩,
  ⟨some 40, .mv (.t 8), some (39, false), 127⟩,
  ⟨some 41, .len .sl (.t 40), some (39, false), 255⟩,
  ⟨some 42, .bin .int .neq (.t 41) (.c (.d (.int .i64 1))), some (39, false), 511⟩,
  ⟨some 43, .pick (.t 39) (.c (.d (.bool true))) (.t 42), none, 1023⟩,
  ⟨some 44, .mv (.t 43), none, 2047⟩,
  ⟨some 45, .mv (.t 9), some (44, false), 4095⟩,
  ⟨some 46, .len .sl (.t 45), some (44, false), 8191⟩,
  ⟨some 47, .bin .int .neq (.t 46) (.c (.d (.int .i64 0))), some (44, false), 16383⟩,
  ⟨some 48, .pick (.t 44) (.c (.d (.bool true))) (.t 47), none, 32767⟩,
  ⟨some 49, .mv (.t 48), none, 65535⟩,
  ⟨some 50, .mv (.t 8), some (49, false), 131071⟩,
  ⟨some 51, .ia 6 (.t 50) (.c (.d (.int .i64 0))), some (49, false), 262143⟩,
  ⟨some 52, .load true 6 (.t 51), some (49, false), 524287⟩,
  ⟨some 53, .load true 6 (.t 5), some (49, false), 131071⟩,
  ⟨some 54, .call (.c (.fn 32 [])) [(.t 52), (.t 53)], some (49, false), 2097151⟩,
  ⟨some 55, .un .not (.t 54), some (49, false), 4194303⟩,
  ⟨some 56, .pick (.t 49) (.c (.d (.bool true))) (.t 55), none, 8388607⟩]
def r8_5 : List CO := [
  ⟨some 4, .mv (.c (.d (.bool false))), none, 0⟩]
def r8_6 : List CO := [
  ⟨some 58, .mv (.t 1), none, 0⟩,
  ⟨some 59, .call (.c (.fn 30 [])) [(.c (.d (.sl .nil 0 []))), (.t 58)], none, 1⟩,
  ⟨some 57, .mv (.t 59), none, 3⟩,
  ⟨some 60, .ext 0 (.t 57), none, 7⟩,
  ⟨some 61, .ext 1 (.t 57), none, 7⟩,
  ⟨some 62, .ext 2 (.t 57), none, 7⟩,
  ⟨some 11, .mv (.t 60), none, 15⟩,
  ⟨some 12, .mv (.t 61), none, 95⟩,
  ⟨some 13, .mv (.t 62), none, 255⟩]
def r8_7 : List CO := [
  ⟨some 14, .mv (.c (.d (.sl .nil 0 []))), none, 0⟩]
def r8_8 : List CO := [
  ⟨some 63, .mv (.t 11), none, 0⟩,
  ⟨some 64, .len .sl (.t 63), none, 1⟩,
  ⟨some 65, .mv (.c (.d (.int .i64 0))), none, 0⟩]
def r8_9 : List CO := [
  ⟨some 66, .bin .int .lss (.t 65) (.t 64), none, 0⟩]
def r8_10 : List CO := [
  ⟨some 67, .ia 6 (.t 63) (.t 65), none, 0⟩,
  ⟨some 68, .load true 6 (.t 67), none, 1⟩,
  ⟨some 16, .alloc [.d (.int .i64 0), .d (.str ⟨⟨[]⟩⟩), .d (.int .i64 0), .d (.int .i64 0), .d (.int .i64 0), .d (.sl .nil 0 [])] [], none, 0⟩,
  ⟨none, .store 6 (.t 16) (.t 68), none, 7⟩]
def r8_11 : List CO := [
  ⟨some 70, .load true 6 (.t 16), none, 0⟩,
  ⟨some 71, .call (.c (.fn 17 [])) [(.t 70)], none, 1⟩,
  ⟨some 69, .mv (.t 71), none, 3⟩,
  ⟨some 72, .ext 0 (.t 69), none, 7⟩,
  ⟨some 73, .ext 1 (.t 69), none, 7⟩,
  ⟨some 17, .mv (.t 72), none, 15⟩,
  ⟨some 18, .mv (.t 73), none, 63⟩]
def r8_12 : List CO := [
  ⟨some 74, .mv (.t 18), none, 0⟩,
  ⟨some 75, .bin .int .neq (.t 74) (.c (.d (.int .i64 0))), none, 1⟩]
def r8_13 : List CO := [
  ⟨some 4, .mv (.c (.d (.bool false))), none, 0⟩]
def r8_14 : List CO := [
  ⟨some 76, .mv (.t 14), none, 0⟩,
  ⟨some 77, .mv (.t 17), none, 0⟩,
  ⟨some 78, .app 1 1 (.t 76) (.t 77), none, 3⟩,
  ⟨some 14, .mv (.t 78), none, 7⟩]
def r8_15 : List CO := [
  ⟨some 79, .bin .int .add (.t 65) (.c (.d (.int .i64 1))), none, 0⟩,
  ⟨some 65, .mv (.t 79), none, 1⟩]
def l8_16 : CCode := .seq (.reg r8_9 false (some [1, 12, 13, 14, 63, 64, 65, 66])) (.seq (.cond (.t 66) (.skip) (.exit 0)) (.seq (.block 1 (.seq (.reg r8_10 false (some [1, 12, 13, 14, 16, 63, 64, 65])) (.seq (.reg r8_11 false (some [1, 12, 13, 14, 17, 18, 63, 64, 65])) (.seq (.seq (.reg r8_12 false (some [1, 12, 13, 14, 17, 63, 64, 65, 75])) (.cond (.t 75) (.seq (.reg r8_13 false (some [4])) (.ret)) (.skip))) (.reg r8_14 false (some [1, 12, 13, 14, 63, 64, 65])))))) (.reg r8_15 false (some [1, 12, 13, 14, 63, 64, 65]))))
def r8_17 : List CO := [
  ⟨some 80, .mv (.t 13), none, 0⟩,
  ⟨some 81, .bin .int .neq (.t 80) (.c (.d (.int .i64 0))), none, 1⟩]
def r8_18 : List CO := [
  ⟨some 82, .mv (.t 12), none, 0⟩,
  ⟨some 83, .len .sl (.t 82), none, 1⟩,
  ⟨some 84, .bin .int .eql (.t 83) (.c (.d (.int .i64 0))), none, 3⟩,
  ⟨some 85, .mv (.t 84), none, 7⟩,
  ⟨some 86, .mv (.t 14), some (85, true), 15⟩,
  ⟨some 87, .len .sl (.t 86), some (85, true), 31⟩,
  ⟨some 88, .mv (.t 1), some (85, true), 15⟩,
  ⟨some 89, .len .sl (.t 88), some (85, true), 79⟩,
  ⟨some 90, .bin .int .leq (.t 87) (.t 89), some (85, true), 255⟩,
  ⟨some 91, .pick (.t 85) (.t 90) (.c (.d (.bool false))), none, 511⟩,
  ⟨some 92, .mv (.t 91), none, 1023⟩,
  ⟨some 93, .mv (.t 14), some (92, true), 2047⟩,
  ⟨some 94, .mv (.t 1), some (92, true), 2047⟩,
  ⟨some 95, .mv (.t 14), some (92, true), 2047⟩,
  ⟨some 96, .len .sl (.t 95), some (92, true), 10239⟩,
  ⟨some 97, .slSl 1 (.t 94) none (some (.t 96)) none, some (92, true), 30719⟩,
  ⟨some 98, .call (.c (.fn 22 [])) [(.t 93), (.t 97)], some (92, true), 65535⟩,
  ⟨some 99, .pick (.t 92) (.t 98) (.c (.d (.bool false))), none, 131071⟩,
  ⟨some 100, .mv (.t 99), none, 262143⟩,
  ⟨some 101, .call (.c (.fn 28 [])) [], some (100, true), 524287⟩,
  ⟨some 102, .pick (.t 100) (.t 101) (.c (.d (.bool false))), none, 1048575⟩,
  ⟨some 4, .mv (.t 102), none, 2097151⟩]
def r8_19 : List CO := [
  ⟨some 103, .mv (.t 14), none, 0⟩,
  ⟨some 104, .mv (.t 12), none, 0⟩,
  ⟨some 105, .app 1 1 (.t 103) (.t 104), none, 3⟩,
  ⟨some 106, .mv (.t 1), none, 0⟩,
  ⟨some 107, .call (.c (.fn 22 [])) [(.t 105), (.t 106)], none, 15⟩,
  ⟨some 108, .mv (.t 107), none, 31⟩,
  ⟨some 109, .call (.c (.fn 28 [])) [], some (108, true), 63⟩,
  ⟨some 110, .pick (.t 108) (.t 109) (.c (.d (.bool false))), none, 127⟩,
  ⟨some 4, .mv (.t 110), none, 255⟩]
def c8 : CF := { body := .seq (.reg r8_0 false (some [0, 1])) (.seq (.reg r8_1 false (some [1, 5])) (.seq (.reg r8_2 false (some [1, 5, 6, 7])) (.seq (.reg r8_3 false (some [1, 5, 7, 8, 9, 10])) (.seq (.seq (.reg r8_4 true (some [1, 56])) (.cond (.t 56) (.seq (.reg r8_5 false (some [4])) (.ret)) (.skip))) (.seq (.reg r8_6 false (some [1, 11, 12, 13])) (.seq (.reg r8_7 false (some [1, 11, 12, 13, 14])) (.seq (.seq (.reg r8_8 false (some [1, 12, 13, 14, 63, 64, 65])) (.block 0 (.loop [(1, none), (12, none), (13, none), (14, some 1), (63, none), (64, none), (65, none)] l8_16))) (.seq (.seq (.reg r8_17 false (some [1, 12, 14, 81])) (.cond (.t 81) (.seq (.reg r8_18 false (some [4])) (.ret)) (.skip))) (.seq (.reg r8_19 false (some [4])) (.ret)))))))))), res := [.tmp 4], rowArgs := [], keep := false, rowRes := [], clone := none, dl := none }
/- 9 kaudit/kauditmill.New -/
def r9_0 : List CO := [
  ⟨some 4, .mv (.c (.d (.nilp))), none, 0⟩]
def r9_1 : List CO := [
  ⟨some 5, .mv (.t 0), none, 0⟩,
  ⟨some 6, .len .sl (.t 5), none, 1⟩,
  ⟨some 7, .mv (.t 1), none, 0⟩,
  ⟨some 8, .bin .int .gtr (.t 6) (.t 7), none, 7⟩]
def r9_2 : List CO := [
  ⟨some 9, .mv (.t 0), none, 0⟩,
  ⟨some 10, .mv (.t 1), none, 0⟩,
  ⟨some 11, .slSl 1 (.t 9) none (some (.t 10)) none, none, 3⟩,
  ⟨some 0, .mv (.t 11), none, 7⟩]
def r9_3 : List CO := [
  ⟨some 12, .mv (.t 0), none, 0⟩,
  ⟨some 13, .build [.d (.sl .nil 0 []), .d (.int .i64 0)] [(0, 1, (.t 12))], none, 1⟩,
  ⟨some 14, .box 2 (.t 13) [], none, 3⟩,
  ⟨some 4, .mv (.t 14), none, 7⟩]
def c9 : CF := { body := .seq (.reg r9_0 false (some [0, 1])) (.seq (.seq (.reg r9_1 false (some [0, 1, 8])) (.cond (.t 8) (.reg r9_2 false (some [0])) (.skip))) (.seq (.reg r9_3 false (some [4])) (.ret))), res := [.tmp 4], rowArgs := [], keep := false, rowRes := [], clone := none, dl := none }
/- 11 (kaudit/kauditmill.Case).Host -/
def r11_0 : List CO := [
  ⟨some 2, .mv (.c (.d (.str ⟨⟨[]⟩⟩))), none, 0⟩]
def r11_1 : List CO := [
  ⟨some 3, .mv (.t 0), none, 0⟩,
  ⟨some 4, .bslice 1 4 [.str ⟨⟨[]⟩⟩, .str ⟨⟨[]⟩⟩, .str ⟨⟨[]⟩⟩, .str ⟨⟨[]⟩⟩] false [(0, (.c (.d (.str ⟨⟨[97]⟩⟩)))), (1, (.c (.d (.str ⟨⟨[98]⟩⟩)))), (2, (.c (.d (.str ⟨⟨[99, 57]⟩⟩)))), (3, (.c (.d (.str ⟨⟨[104, 111, 115, 116, 110, 97, 109, 101, 49, 54, 98, 121, 116, 101, 115, 48]⟩⟩))))], none, 0⟩,
  ⟨some 5, .call (.c (.fn 34 [])) [(.t 3), (.t 4)], none, 3⟩,
  ⟨some 2, .mv (.t 5), none, 7⟩]
def c11 : CF := { body := .seq (.reg r11_0 false (some [0])) (.seq (.reg r11_1 false (some [2])) (.ret)), res := [.tmp 2], rowArgs := [], keep := false, rowRes := [], clone := none, dl := none }
/- 16 kaudit/kauditref33.Feed -/
def r16_0 : List CO := [
  ⟨some 4, .mv (.c (.d (.sl .nil 0 []))), none, 0⟩,
  ⟨some 5, .mv (.c (.d (.sl .nil 0 []))), none, 1⟩,
  ⟨some 6, .mv (.c (.d (.int .i64 0))), none, 3⟩]
def r16_1 : List CO := [
  ⟨some 14, .bslice 1 0 [] false [], none, 0⟩,
  ⟨some 15, .mv (.t 0), none, 0⟩,
  ⟨some 16, .app 1 1 (.t 14) (.t 15), none, 3⟩,
  ⟨some 17, .mv (.t 1), none, 0⟩,
  ⟨some 18, .app 1 1 (.t 16) (.t 17), none, 15⟩,
  ⟨some 7, .mv (.t 18), none, 31⟩]
def r16_2 : List CO := [
  ⟨some 8, .mv (.c (.d (.sl .nil 0 []))), none, 0⟩]
def r16_3 : List CO := [
  ⟨some 19, .mv (.t 7), none, 0⟩,
  ⟨some 20, .len .sl (.t 19), none, 1⟩,
  ⟨some 21, .bin .int .geq (.t 20) (.c (.d (.int .i64 4))), none, 3⟩]
def r16_4 : List CO := [
  ⟨some 22, .mv (.t 7), none, 0⟩,
  ⟨some 23, .ia 1 (.t 22) (.c (.d (.int .i64 0))), none, 1⟩,
  ⟨some 24, .load false 1 (.t 23), none, 3⟩,
  ⟨some 25, .conv .i64 (.t 24), none, 7⟩,
  ⟨some 26, .bin .int .shl (.t 25) (.c (.d (.int .u64 24))), none, 15⟩,
  ⟨some 27, .mv (.t 7), none, 0⟩,
  ⟨some 28, .ia 1 (.t 27) (.c (.d (.int .i64 1))), none, 32⟩,
  ⟨some 29, .load false 1 (.t 28), none, 96⟩,
  ⟨some 30, .conv .i64 (.t 29), none, 224⟩,
  ⟨some 31, .bin .int .shl (.t 30) (.c (.d (.int .u64 16))), none, 480⟩,
  ⟨some 32, .bin .int .or (.t 26) (.t 31), none, 1023⟩,
  ⟨some 33, .mv (.t 7), none, 0⟩,
  ⟨some 34, .ia 1 (.t 33) (.c (.d (.int .i64 2))), none, 2048⟩,
  ⟨some 35, .load false 1 (.t 34), none, 6144⟩,
  ⟨some 36, .conv .i64 (.t 35), none, 14336⟩,
  ⟨some 37, .bin .int .shl (.t 36) (.c (.d (.int .u64 8))), none, 30720⟩,
  ⟨some 38, .bin .int .or (.t 32) (.t 37), none, 65535⟩,
  ⟨some 39, .mv (.t 7), none, 0⟩,
  ⟨some 40, .ia 1 (.t 39) (.c (.d (.int .i64 3))), none, 131072⟩,
  ⟨some 41, .load false 1 (.t 40), none, 393216⟩,
  ⟨some 42, .conv .i64 (.t 41), none, 917504⟩,
  ⟨some 43, .bin .int .or (.t 38) (.t 42), none, 2097151⟩,
  ⟨some 9, .mv (.t 43), none, 4194303⟩]
def r16_5 : List CO := [
  ⟨some 44, .mv (.t 9), none, 0⟩,
  ⟨some 45, .bin .int .lss (.t 44) (.c (.d (.int .i64 1))), none, 1⟩,
  ⟨some 46, .mv (.t 45), none, 3⟩,
  ⟨some 47, .mv (.t 9), some (46, false), 7⟩,
  ⟨some 48, .bin .int .gtr (.t 47) (.c (.d (.int .i64 16512))), some (46, false), 15⟩,
  ⟨some 49, .pick (.t 46) (.c (.d (.bool true))) (.t 48), none, 31⟩]
def r16_6 : List CO := [
  ⟨some 50, .mv (.t 8), none, 0⟩,
  ⟨some 4, .mv (.t 50), none, 1⟩,
  ⟨some 5, .mv (.c (.d (.sl .nil 0 []))), none, 3⟩,
  ⟨some 6, .mv (.c (.d (.int .i64 331))), none, 7⟩]
def r16_7 : List CO := [
  ⟨some 51, .mv (.t 7), none, 0⟩,
  ⟨some 52, .len .sl (.t 51), none, 1⟩,
  ⟨some 53, .mv (.t 9), none, 0⟩,
  ⟨some 54, .bin .int .add (.c (.d (.int .i64 4))) (.t 53), none, 4⟩,
  ⟨some 55, .bin .int .lss (.t 52) (.t 54), none, 15⟩]
def r16_8 : List CO := [
  ⟨some 57, .mv (.t 7), none, 0⟩,
  ⟨some 58, .mv (.t 9), none, 0⟩,
  ⟨some 59, .bin .int .add (.c (.d (.int .i64 4))) (.t 58), none, 2⟩,
  ⟨some 60, .slSl 1 (.t 57) (some (.c (.d (.int .i64 4)))) (some (.t 59)) none, none, 7⟩,
  ⟨some 61, .call (.c (.fn 44 [])) [(.t 60)], none, 15⟩,
  ⟨some 56, .mv (.t 61), none, 31⟩,
  ⟨some 62, .ext 0 (.t 56), none, 63⟩,
  ⟨some 63, .ext 1 (.t 56), none, 63⟩,
  ⟨some 10, .alloc [.d (.int .i64 0), .d (.str ⟨⟨[]⟩⟩), .d (.int .i64 0), .d (.int .i64 0), .d (.int .i64 0), .d (.sl .nil 0 [])] [], none, 0⟩,
  ⟨none, .store 6 (.t 10) (.t 62), none, 383⟩,
  ⟨some 11, .mv (.t 63), none, 1023⟩]
def r16_9 : List CO := [
  ⟨some 65, .load true 6 (.t 10), none, 0⟩,
  ⟨some 66, .call (.c (.fn 25 [])) [(.t 65)], none, 1⟩,
  ⟨some 64, .mv (.t 66), none, 3⟩,
  ⟨some 67, .ext 0 (.t 64), none, 7⟩,
  ⟨some 68, .ext 1 (.t 64), none, 7⟩,
  ⟨some 12, .mv (.t 67), none, 15⟩,
  ⟨some 13, .mv (.t 68), none, 63⟩]
def r16_10 : List CO := [
  ⟨some 69, .mv (.t 11), none, 0⟩,
  ⟨some 70, .un .not (.t 69), none, 1⟩,
  ⟨some 71, .mv (.t 70), none, 3⟩,
  ⟨some 72, .mv (.t 13), some (71, false), 7⟩,
  ⟨some 73, .bin .int .neq (.t 72) (.c (.d (.int .i64 0))), some (71, false), 15⟩,
  ⟨some 74, .pick (.t 71) (.c (.d (.bool true))) (.t 73), none, 31⟩,
  ⟨some 75, .mv (.t 74), none, 63⟩,
  ⟨some 76, .mv (.t 12), some (75, false), 127⟩,
  ⟨some 77, .mv (.t 7), some (75, false), 127⟩,
  ⟨some 78, .mv (.t 9), some (75, false), 127⟩,
  ⟨some 79, .bin .int .add (.c (.d (.int .i64 4))) (.t 78), some (75, false), 639⟩,
  ⟨some 80, .slSl 1 (.t 77) none (some (.t 79)) none, some (75, false), 1919⟩,
  ⟨some 81, .call (.c (.fn 22 [])) [(.t 76), (.t 80)], some (75, false), 4095⟩,
  ⟨some 82, .un .not (.t 81), some (75, false), 8191⟩,
  ⟨some 83, .pick (.t 75) (.c (.d (.bool true))) (.t 82), none, 16383⟩]
def r16_11 : List CO := [
  ⟨some 84, .mv (.t 8), none, 0⟩,
  ⟨some 4, .mv (.t 84), none, 1⟩,
  ⟨some 5, .mv (.c (.d (.sl .nil 0 []))), none, 3⟩,
  ⟨some 6, .mv (.c (.d (.int .i64 331))), none, 7⟩]
def r16_12 : List CO := [
  ⟨some 85, .mv (.t 8), none, 0⟩,
  ⟨some 86, .load true 6 (.t 10), none, 0⟩,
  ⟨some 87, .bslice 6 1 [.int .i64 0, .str ⟨⟨[]⟩⟩, .int .i64 0, .int .i64 0, .int .i64 0, .sl .nil 0 []] false [(0, (.t 86))], none, 2⟩,
  ⟨some 88, .app 6 72 (.t 85) (.t 87), none, 7⟩,
  ⟨some 89, .mv (.t 7), none, 0⟩,
  ⟨some 90, .mv (.t 9), none, 0⟩,
  ⟨some 91, .bin .int .add (.c (.d (.int .i64 4))) (.t 90), none, 32⟩,
  ⟨some 92, .slSl 1 (.t 89) (some (.t 91)) none none, none, 112⟩,
  ⟨some 8, .mv (.t 88), none, 15⟩,
  ⟨some 7, .mv (.t 92), none, 511⟩]
def l16_13 : CCode := .seq (.seq (.reg r16_3 false (some [7, 8, 21])) (.cond (.t 21) (.skip) (.exit 0))) (.block 1 (.seq (.reg r16_4 true (some [7, 8, 9])) (.seq (.seq (.reg r16_5 false (some [7, 8, 9, 49])) (.cond (.t 49) (.seq (.reg r16_6 false (some [4, 5, 6])) (.ret)) (.skip))) (.seq (.seq (.reg r16_7 false (some [7, 8, 9, 55])) (.cond (.t 55) (.exit 0) (.skip))) (.seq (.reg r16_8 false (some [7, 8, 9, 10, 11])) (.seq (.reg r16_9 false (some [7, 8, 9, 10, 11, 12, 13])) (.seq (.seq (.reg r16_10 false (some [7, 8, 9, 10, 83])) (.cond (.t 83) (.seq (.reg r16_11 false (some [4, 5, 6])) (.ret)) (.skip))) (.reg r16_12 true (some [7, 8])))))))))
def r16_14 : List CO := [
  ⟨some 93, .mv (.t 8), none, 0⟩,
  ⟨some 94, .mv (.t 7), none, 0⟩,
  ⟨some 4, .mv (.t 93), none, 1⟩,
  ⟨some 5, .mv (.t 94), none, 7⟩,
  ⟨some 6, .mv (.c (.d (.int .i64 0))), none, 15⟩]
def c16 : CF := { body := .seq (.reg r16_0 false (some [0, 1])) (.seq (.reg r16_1 false (some [7])) (.seq (.reg r16_2 false (some [7, 8])) (.seq (.block 0 (.loop [(7, some 1), (8, some 6)] l16_13)) (.seq (.reg r16_14 false (some [4, 5, 6])) (.ret))))), res := [.tmp 4, .tmp 5, .tmp 6], rowArgs := [], keep := false, rowRes := [], clone := none, dl := none }
/- 17 kaudit/wire.Encode -/
def r17_0 : List CO := [
  ⟨some 1, .box 6 (.t 0) [], none, 0⟩,
  ⟨some 2, .mv (.c (.d (.sl .nil 0 []))), none, 0⟩,
  ⟨some 3, .mv (.c (.d (.int .i64 0))), none, 2⟩]
def r17_1 : List CO := [
  ⟨some 8, .load true 6 (.t 1), none, 0⟩,
  ⟨some 9, .call (.c (.fn 26 [])) [(.t 8)], none, 1⟩,
  ⟨some 10, .un .not (.t 9), none, 3⟩]
def r17_2 : List CO := [
  ⟨some 2, .mv (.c (.d (.sl .nil 0 []))), none, 0⟩,
  ⟨some 3, .mv (.c (.d (.int .i64 330))), none, 1⟩]
def r17_3 : List CO := [
  ⟨some 11, .fa 0 (.t 1), none, 0⟩,
  ⟨some 12, .load false 1 (.t 11), none, 1⟩,
  ⟨some 13, .conv .u8 (.t 12), none, 3⟩,
  ⟨some 14, .bslice 1 5 [.int .u8 0, .int .u8 0, .int .u8 0, .int .u8 0, .int .u8 0] false [(0, (.c (.d (.int .u8 0)))), (1, (.c (.d (.int .u8 0)))), (2, (.c (.d (.int .u8 0)))), (3, (.c (.d (.int .u8 0)))), (4, (.t 13))], none, 7⟩,
  ⟨some 4, .mv (.t 14), none, 15⟩]
def r17_4 : List CO := [
  ⟨some 15, .call (.c (.fn 45 [])) [], none, 0⟩,
  ⟨some 16, .fa 0 (.t 1), none, 0⟩,
  ⟨some 17, .load false 1 (.t 16), none, 2⟩,
  ⟨some 18, .look [.int] false false (.sl .nil 0 []) (.t 15) (.t 17), none, 7⟩,
  ⟨some 19, .len .sl (.t 18), none, 15⟩,
  ⟨some 20, .mv (.c (.d (.int .i64 0))), none, 0⟩]
def r17_5 : List CO := [
  ⟨some 21, .bin .int .lss (.t 20) (.t 19), none, 0⟩]
def r17_6 : List CO := [
  ⟨some 22, .ia 1 (.t 18) (.t 20), none, 0⟩,
  ⟨some 23, .load false 1 (.t 22), none, 1⟩,
  ⟨some 6, .mv (.t 23), none, 3⟩]
def r17_7 : List CO := [
  ⟨some 24, .mv (.t 6), none, 0⟩]
def r17_8 : List CO := [
  ⟨some 26, .bin .int .eql (.t 24) (.c (.d (.int .i64 1))), none, 0⟩,
  ⟨some 25, .mv (.t 26), none, 1⟩]
def r17_9 : List CO := [
  ⟨some 27, .mv (.t 4), none, 0⟩,
  ⟨some 28, .fa 1 (.t 1), none, 0⟩,
  ⟨some 29, .load false 1 (.t 28), none, 2⟩,
  ⟨some 30, .len .str (.t 29), none, 6⟩,
  ⟨some 31, .conv .u8 (.t 30), none, 14⟩,
  ⟨some 32, .bslice 1 1 [.int .u8 0] false [(0, (.t 31))], none, 30⟩,
  ⟨some 33, .app 1 1 (.t 27) (.t 32), none, 63⟩,
  ⟨some 34, .fa 1 (.t 1), none, 0⟩,
  ⟨some 35, .load false 1 (.t 34), none, 128⟩,
  ⟨some 36, .app 1 1 (.t 33) (.t 35), none, 511⟩,
  ⟨some 4, .mv (.t 36), none, 1023⟩]
def r17_10 : List CO := [
  ⟨some 38, .bin .int .eql (.t 24) (.c (.d (.int .i64 2))), none, 0⟩,
  ⟨some 37, .mv (.t 38), none, 1⟩]
def r17_11 : List CO := [
  ⟨some 39, .mv (.t 4), none, 0⟩,
  ⟨some 40, .fa 2 (.t 1), none, 0⟩,
  ⟨some 41, .load false 1 (.t 40), none, 2⟩,
  ⟨some 42, .call (.c (.fn 46 [])) [(.t 39), (.t 41)], none, 7⟩,
  ⟨some 4, .mv (.t 42), none, 15⟩]
def r17_12 : List CO := [
  ⟨some 44, .bin .int .eql (.t 24) (.c (.d (.int .i64 3))), none, 0⟩,
  ⟨some 43, .mv (.t 44), none, 1⟩]
def r17_13 : List CO := [
  ⟨some 45, .mv (.t 4), none, 0⟩,
  ⟨some 46, .fa 3 (.t 1), none, 0⟩,
  ⟨some 47, .load false 1 (.t 46), none, 2⟩,
  ⟨some 48, .call (.c (.fn 46 [])) [(.t 45), (.t 47)], none, 7⟩,
  ⟨some 4, .mv (.t 48), none, 15⟩]
def r17_14 : List CO := [
  ⟨some 50, .bin .int .eql (.t 24) (.c (.d (.int .i64 4))), none, 0⟩,
  ⟨some 49, .mv (.t 50), none, 1⟩]
def r17_15 : List CO := [
  ⟨some 51, .mv (.t 4), none, 0⟩,
  ⟨some 52, .fa 4 (.t 1), none, 0⟩,
  ⟨some 53, .load false 1 (.t 52), none, 2⟩,
  ⟨some 54, .call (.c (.fn 46 [])) [(.t 51), (.t 53)], none, 7⟩,
  ⟨some 4, .mv (.t 54), none, 15⟩]
def r17_16 : List CO := [
  ⟨some 56, .bin .int .eql (.t 24) (.c (.d (.int .i64 5))), none, 0⟩,
  ⟨some 55, .mv (.t 56), none, 1⟩]
def r17_17 : List CO := [
  ⟨some 57, .mv (.t 4), none, 0⟩,
  ⟨some 58, .fa 5 (.t 1), none, 0⟩,
  ⟨some 59, .load false 1 (.t 58), none, 2⟩,
  ⟨some 60, .app 1 1 (.t 57) (.t 59), none, 7⟩,
  ⟨some 4, .mv (.t 60), none, 15⟩]
def r17_18 : List CO := [
  ⟨some 61, .bin .int .add (.t 20) (.c (.d (.int .i64 1))), none, 0⟩,
  ⟨some 20, .mv (.t 61), none, 1⟩]
def l17_19 : CCode := .seq (.reg r17_5 false (some [1, 4, 18, 19, 20, 21])) (.seq (.cond (.t 21) (.skip) (.exit 0)) (.seq (.block 1 (.seq (.reg r17_6 false (some [1, 4, 6, 18, 19, 20])) (.seq (.reg r17_7 false (some [1, 4, 18, 19, 20, 24])) (.block 2 (.seq (.reg r17_8 false (some [1, 4, 18, 19, 20, 24, 25])) (.cond (.t 25) (.reg r17_9 true (some [1, 4, 18, 19, 20])) (.seq (.reg r17_10 false (some [1, 4, 18, 19, 20, 24, 37])) (.cond (.t 37) (.reg r17_11 false (some [1, 4, 18, 19, 20])) (.seq (.reg r17_12 false (some [1, 4, 18, 19, 20, 24, 43])) (.cond (.t 43) (.reg r17_13 false (some [1, 4, 18, 19, 20])) (.seq (.reg r17_14 false (some [1, 4, 18, 19, 20, 24, 49])) (.cond (.t 49) (.reg r17_15 false (some [1, 4, 18, 19, 20])) (.seq (.reg r17_16 false (some [1, 4, 18, 19, 20, 55])) (.cond (.t 55) (.reg r17_17 false (some [1, 4, 18, 19, 20])) (.skip))))))))))))))) (.reg r17_18 false (some [1, 4, 18, 19, 20]))))
def r17_20 : List CO := [
  ⟨some 62, .mv (.t 4), none, 0⟩,
  ⟨some 63, .len .sl (.t 62), none, 1⟩,
  ⟨some 64, .bin .int .sub (.t 63) (.c (.d (.int .i64 4))), none, 3⟩,
  ⟨some 7, .mv (.t 64), none, 7⟩]
def r17_21 : List CO := [
  ⟨some 65, .mv (.t 4), none, 0⟩,
  ⟨some 66, .mv (.t 4), none, 0⟩,
  ⟨some 67, .mv (.t 4), none, 0⟩,
  ⟨some 68, .mv (.t 4), none, 0⟩,
  ⟨some 69, .mv (.t 7), none, 0⟩,
  ⟨some 70, .bin .int .shr (.t 69) (.c (.d (.int .u64 24))), none, 16⟩,
  ⟨some 71, .conv .u8 (.t 70), none, 48⟩,
  ⟨some 72, .mv (.t 7), none, 0⟩,
  ⟨some 73, .bin .int .shr (.t 72) (.c (.d (.int .u64 16))), none, 128⟩,
  ⟨some 74, .conv .u8 (.t 73), none, 384⟩,
  ⟨some 75, .mv (.t 7), none, 0⟩,
  ⟨some 76, .bin .int .shr (.t 75) (.c (.d (.int .u64 8))), none, 1024⟩,
  ⟨some 77, .conv .u8 (.t 76), none, 3072⟩,
  ⟨some 78, .mv (.t 7), none, 0⟩,
  ⟨some 79, .conv .u8 (.t 78), none, 8192⟩,
  ⟨some 80, .ia 1 (.t 65) (.c (.d (.int .i64 0))), none, 113⟩,
  ⟨none, .store 1 (.t 80) (.t 71), none, 32881⟩,
  ⟨some 81, .ia 1 (.t 66) (.c (.d (.int .i64 1))), none, 99315⟩,
  ⟨none, .store 1 (.t 81) (.t 74), none, 230387⟩,
  ⟨some 82, .ia 1 (.t 67) (.c (.d (.int .i64 2))), none, 499703⟩,
  ⟨none, .store 1 (.t 82) (.t 77), none, 1023991⟩,
  ⟨some 83, .ia 1 (.t 68) (.c (.d (.int .i64 3))), none, 2097151⟩,
  ⟨none, .store 1 (.t 83) (.t 79), none, 4194303⟩]
def r17_22 : List CO := [
  ⟨some 84, .mv (.t 4), none, 0⟩,
  ⟨some 2, .mv (.t 84), none, 1⟩,
  ⟨some 3, .mv (.c (.d (.int .i64 0))), none, 3⟩]
def c17 : CF := { body := .seq (.reg r17_0 false (some [1])) (.seq (.seq (.reg r17_1 false (some [1, 10])) (.cond (.t 10) (.seq (.reg r17_2 false (some [2, 3])) (.ret)) (.skip))) (.seq (.reg r17_3 false (some [1, 4])) (.seq (.seq (.reg r17_4 true (some [1, 4, 18, 19, 20])) (.block 0 (.loop [(1, none), (4, some 1), (18, none), (19, none), (20, none)] l17_19))) (.seq (.reg r17_20 false (some [4, 7])) (.seq (.reg r17_21 false (some [4])) (.seq (.reg r17_22 false (some [2, 3])) (.ret))))))), res := [.tmp 2, .tmp 3], rowArgs := [], keep := false, rowRes := [], clone := none, dl := none }
/- 22 kaudit/kauditref24.SameBytes -/
def r22_0 : List CO := [
  ⟨some 4, .mv (.c (.d (.bool false))), none, 0⟩]
def r22_1 : List CO := [
  ⟨some 5, .mv (.t 0), none, 0⟩,
  ⟨some 6, .b2s (.t 5), none, 1⟩,
  ⟨some 7, .mv (.t 1), none, 0⟩,
  ⟨some 8, .b2s (.t 7), none, 4⟩,
  ⟨some 9, .bin .str .eql (.t 6) (.t 8), none, 15⟩,
  ⟨some 4, .mv (.t 9), none, 31⟩]
def c22 : CF := { body := .seq (.reg r22_0 false (some [0, 1])) (.seq (.reg r22_1 false (some [4])) (.ret)), res := [.tmp 4], rowArgs := [], keep := false, rowRes := [], clone := none, dl := none }
/- 23 kaudit/kauditlaw33.message -/
def r23_0 : List CO := [
  ⟨some 2, .alloc [.d (.int .i64 0), .d (.str ⟨⟨[]⟩⟩), .d (.int .i64 0), .d (.int .i64 0), .d (.int .i64 0), .d (.sl .nil 0 [])] [], none, 0⟩]
def r23_1 : List CO := [
  ⟨some 4, .mv (.t 0), none, 0⟩,
  ⟨some 5, .bslice 1 6 [.int .i64 0, .int .i64 0, .int .i64 0, .int .i64 0, .int .i64 0, .int .i64 0] false [(0, (.c (.d (.int .i64 1)))), (1, (.c (.d (.int .i64 2)))), (2, (.c (.d (.int .i64 127)))), (3, (.c (.d (.int .i64 128)))), (4, (.c (.d (.int .i64 300)))), (5, (.c (.d (.int .i64 1099511627776))))], none, 0⟩,
  ⟨some 6, .call (.c (.fn 51 [])) [(.t 4), (.t 5)], none, 3⟩,
  ⟨some 3, .mv (.t 6), none, 7⟩]
def r23_2 : List CO := [
  ⟨some 7, .mv (.t 0), none, 0⟩,
  ⟨some 8, .call (.c (.fn 33 [])) [(.t 7), (.c (.d (.int .i64 7)))], none, 1⟩]
def r23_3 : List CO := [
  ⟨some 10, .bin .int .eql (.t 8) (.c (.d (.int .i64 0))), none, 0⟩,
  ⟨some 9, .mv (.t 10), none, 1⟩]
def r23_4 : List CO := [
  ⟨some 11, .mv (.t 0), none, 0⟩,
  ⟨some 12, .call (.c (.fn 11 [])) [(.t 11)], none, 1⟩,
  ⟨some 13, .mv (.t 0), none, 0⟩,
  ⟨some 14, .call (.c (.fn 33 [])) [(.t 13), (.c (.d (.int .i64 3)))], none, 7⟩,
  ⟨some 15, .bin .int .add (.c (.d (.int .i64 1))) (.t 14), none, 15⟩,
  ⟨some 16, .mv (.t 3), none, 0⟩,
  ⟨some 17, .build [.d (.int .i64 0), .d (.str ⟨⟨[]⟩⟩), .d (.int .i64 0), .d (.int .i64 0), .d (.int .i64 0), .d (.sl .nil 0 [])] [(0, 1, (.c (.d (.int .i64 1)))), (1, 1, (.t 12)), (2, 1, (.t 15)), (3, 1, (.t 16))], none, 63⟩,
  ⟨none, .store 6 (.t 2) (.t 17), none, 127⟩]
def r23_5 : List CO := [
  ⟨some 19, .bin .int .eql (.t 8) (.c (.d (.int .i64 1))), none, 0⟩,
  ⟨some 18, .mv (.t 19), none, 1⟩]
def r23_6 : List CO := [
  ⟨some 20, .mv (.t 3), none, 0⟩,
  ⟨some 21, .mv (.t 0), none, 0⟩,
  ⟨some 22, .call (.c (.fn 33 [])) [(.t 21), (.c (.d (.int .i64 2)))], none, 2⟩,
  ⟨some 23, .bin .int .sub (.t 20) (.t 22), none, 7⟩,
  ⟨some 24, .build [.d (.int .i64 0), .d (.str ⟨⟨[]⟩⟩), .d (.int .i64 0), .d (.int .i64 0), .d (.int .i64 0), .d (.sl .nil 0 [])] [(0, 1, (.c (.d (.int .i64 2)))), (3, 1, (.t 23))], none, 15⟩,
  ⟨none, .store 6 (.t 2) (.t 24), none, 31⟩]
def r23_7 : List CO := [
  ⟨some 26, .bin .int .eql (.t 8) (.c (.d (.int .i64 2))), none, 0⟩,
  ⟨some 25, .mv (.t 26), none, 1⟩]
def r23_8 : List CO := [
  ⟨some 27, .mv (.t 3), none, 0⟩,
  ⟨some 28, .mv (.t 3), none, 0⟩,
  ⟨some 29, .mv (.t 0), none, 0⟩,
  ⟨some 30, .call (.c (.fn 33 [])) [(.t 29), (.c (.d (.int .i64 200)))], none, 4⟩,
  ⟨some 31, .bin .int .add (.t 28) (.t 30), none, 14⟩,
  ⟨some 32, .min (.t 31) [(.c (.d (.int .i64 1099511627776)))], none, 30⟩,
  ⟨some 33, .build [.d (.int .i64 0), .d (.str ⟨⟨[]⟩⟩), .d (.int .i64 0), .d (.int .i64 0), .d (.int .i64 0), .d (.sl .nil 0 [])] [(0, 1, (.c (.d (.int .i64 4)))), (3, 1, (.t 27)), (4, 1, (.t 32))], none, 63⟩,
  ⟨none, .store 6 (.t 2) (.t 33), none, 127⟩]
def r23_9 : List CO := [
  ⟨some 35, .bin .int .eql (.t 8) (.c (.d (.int .i64 3))), none, 0⟩,
  ⟨some 34, .mv (.t 35), none, 1⟩]
def r23_10 : List CO := [
  ⟨some 36, .mv (.t 3), none, 0⟩,
  ⟨some 37, .mv (.t 0), none, 0⟩,
  ⟨some 38, .call (.c (.fn 33 [])) [(.t 37), (.c (.d (.int .i64 2)))], none, 2⟩,
  ⟨some 39, .bin .int .sub (.t 36) (.t 38), none, 7⟩,
  ⟨some 40, .build [.d (.int .i64 0), .d (.str ⟨⟨[]⟩⟩), .d (.int .i64 0), .d (.int .i64 0), .d (.int .i64 0), .d (.sl .nil 0 [])] [(0, 1, (.c (.d (.int .i64 5)))), (3, 1, (.t 39))], none, 15⟩,
  ⟨none, .store 6 (.t 2) (.t 40), none, 31⟩]
def r23_11 : List CO := [
  ⟨some 42, .bin .int .eql (.t 8) (.c (.d (.int .i64 4))), none, 0⟩,
  ⟨some 41, .mv (.t 42), none, 1⟩]
def r23_12 : List CO := [
  ⟨some 43, .mv (.t 0), none, 0⟩,
  ⟨some 44, .call (.c (.fn 33 [])) [(.t 43), (.c (.d (.int .i64 2)))], none, 1⟩,
  ⟨some 45, .bin .int .add (.c (.d (.int .i64 6))) (.t 44), none, 3⟩,
  ⟨some 46, .build [.d (.int .i64 0), .d (.str ⟨⟨[]⟩⟩), .d (.int .i64 0), .d (.int .i64 0), .d (.int .i64 0), .d (.sl .nil 0 [])] [(0, 1, (.t 45))], none, 7⟩,
  ⟨none, .store 6 (.t 2) (.t 46), none, 15⟩]
def r23_13 : List CO := [
  ⟨some 47, .mv (.t 3), none, 0⟩,
  ⟨some 48, .bslice 1 1 [.int .u8 0] false [(0, (.c (.d (.int .u8 1))))], none, 0⟩,
  ⟨some 49, .mv (.t 0), none, 0⟩,
  ⟨some 50, .call (.c (.fn 36 [])) [(.t 49), (.c (.d (.int .i64 30)))], none, 4⟩,
  ⟨some 51, .app 1 1 (.t 48) (.t 50), none, 14⟩,
  ⟨some 52, .build [.d (.int .i64 0), .d (.str ⟨⟨[]⟩⟩), .d (.int .i64 0), .d (.int .i64 0), .d (.int .i64 0), .d (.sl .nil 0 [])] [(0, 1, (.c (.d (.int .i64 3)))), (3, 1, (.t 47)), (5, 1, (.t 51))], none, 31⟩,
  ⟨none, .store 6 (.t 2) (.t 52), none, 63⟩]
def c23 : CF := { body := .seq (.reg r23_0 false (some [0, 2])) (.seq (.reg r23_1 false (some [0, 2, 3])) (.seq (.seq (.reg r23_2 false (some [0, 2, 3, 8])) (.block 0 (.seq (.reg r23_3 false (some [0, 2, 3, 8, 9])) (.cond (.t 9) (.seq (.reg r23_4 false (some [2])) (.ret)) (.seq (.reg r23_5 false (some [0, 2, 3, 8, 18])) (.cond (.t 18) (.seq (.reg r23_6 false (some [2])) (.ret)) (.seq (.reg r23_7 false (some [0, 2, 3, 8, 25])) (.cond (.t 25) (.seq (.reg r23_8 false (some [2])) (.ret)) (.seq (.reg r23_9 false (some [0, 2, 3, 8, 34])) (.cond (.t 34) (.seq (.reg r23_10 false (some [2])) (.ret)) (.seq (.reg r23_11 false (some [0, 2, 3, 41])) (.cond (.t 41) (.seq (.reg r23_12 false (some [2])) (.ret)) (.skip))))))))))))) (.seq (.reg r23_13 false (some [2])) (.ret)))), res := [.cell 2 true 6], rowArgs := [], keep := false, rowRes := [], clone := none, dl := none }
/- 24 kaudit/kauditlaw33.spoilt -/
def r24_0 : List CO := [
  ⟨some 3, .box 6 (.t 1) [], none, 0⟩,
  ⟨some 4, .alloc [.d (.int .i64 0), .d (.str ⟨⟨[]⟩⟩), .d (.int .i64 0), .d (.int .i64 0), .d (.int .i64 0), .d (.sl .nil 0 [])] [], none, 0⟩]
def r24_1 : List CO := [
  ⟨some 6, .mv (.t 0), none, 0⟩,
  ⟨some 7, .bslice 1 4 [.int .i64 0, .int .i64 0, .int .i64 0, .int .i64 0] false [(0, (.c (.d (.int .i64 (-1))))), (1, (.c (.d (.int .i64 0)))), (2, (.c (.d (.int .i64 1)))), (3, (.c (.d (.int .i64 1099511627777))))], none, 0⟩,
  ⟨some 8, .call (.c (.fn 51 [])) [(.t 6), (.t 7)], none, 3⟩,
  ⟨some 5, .mv (.t 8), none, 7⟩]
def r24_2 : List CO := [
  ⟨some 9, .mv (.t 0), none, 0⟩,
  ⟨some 10, .call (.c (.fn 33 [])) [(.t 9), (.c (.d (.int .i64 6)))], none, 1⟩]
def r24_3 : List CO := [
  ⟨some 15, .bin .int .eql (.t 10) (.c (.d (.int .i64 0))), none, 0⟩,
  ⟨some 14, .mv (.t 15), none, 1⟩]
def r24_4 : List CO := [
  ⟨some 16, .mv (.t 0), none, 0⟩,
  ⟨some 17, .call (.c (.fn 33 [])) [(.t 16), (.c (.d (.int .i64 9)))], none, 1⟩,
  ⟨some 18, .fa 0 (.t 3), none, 3⟩,
  ⟨none, .store 1 (.t 18) (.t 17), none, 7⟩]
def r24_5 : List CO := [
  ⟨some 20, .bin .int .eql (.t 10) (.c (.d (.int .i64 1))), none, 0⟩,
  ⟨some 19, .mv (.t 20), none, 1⟩]
def r24_6 : List CO := [
  ⟨some 21, .mv (.t 0), none, 0⟩,
  ⟨some 22, .call (.c (.fn 52 [])) [(.t 21)], none, 1⟩,
  ⟨some 23, .fa 1 (.t 3), none, 3⟩,
  ⟨none, .store 1 (.t 23) (.t 22), none, 7⟩]
def r24_7 : List CO := [
  ⟨some 25, .bin .int .eql (.t 10) (.c (.d (.int .i64 2))), none, 0⟩,
  ⟨some 24, .mv (.t 25), none, 1⟩]
def r24_8 : List CO := [
  ⟨some 26, .mv (.t 5), none, 0⟩,
  ⟨some 27, .fa 2 (.t 3), none, 1⟩,
  ⟨none, .store 1 (.t 27) (.t 26), none, 3⟩]
def r24_9 : List CO := [
  ⟨some 29, .bin .int .eql (.t 10) (.c (.d (.int .i64 3))), none, 0⟩,
  ⟨some 28, .mv (.t 29), none, 1⟩]
def r24_10 : List CO := [
  ⟨some 30, .mv (.t 5), none, 0⟩,
  ⟨some 31, .fa 3 (.t 3), none, 1⟩,
  ⟨none, .store 1 (.t 31) (.t 30), none, 3⟩]
def r24_11 : List CO := [
  ⟨some 33, .bin .int .eql (.t 10) (.c (.d (.int .i64 4))), none, 0⟩,
  ⟨some 32, .mv (.t 33), none, 1⟩]
def r24_12 : List CO := [
  ⟨some 34, .mv (.t 5), none, 0⟩,
  ⟨some 35, .fa 4 (.t 3), none, 1⟩,
  ⟨none, .store 1 (.t 35) (.t 34), none, 3⟩]
def r24_13 : List CO := [
  ⟨some 11, .mv (.t 0), none, 0⟩,
  ⟨some 12, .call (.c (.fn 36 [])) [(.t 11), (.c (.d (.int .i64 2)))], none, 1⟩,
  ⟨some 13, .fa 5 (.t 3), none, 3⟩,
  ⟨none, .store 1 (.t 13) (.t 12), none, 7⟩]
def r24_14 : List CO := [
  ⟨some 36, .load true 6 (.t 3), none, 0⟩,
  ⟨none, .store 6 (.t 4) (.t 36), none, 1⟩]
def c24 : CF := { body := .seq (.reg r24_0 false (some [0, 3, 4])) (.seq (.reg r24_1 false (some [0, 3, 4, 5])) (.seq (.seq (.reg r24_2 false (some [0, 3, 4, 5, 10])) (.block 0 (.seq (.reg r24_3 false (some [0, 3, 4, 5, 10, 14])) (.cond (.t 14) (.reg r24_4 false (some [3, 4])) (.seq (.reg r24_5 false (some [0, 3, 4, 5, 10, 19])) (.cond (.t 19) (.reg r24_6 false (some [3, 4])) (.seq (.reg r24_7 false (some [0, 3, 4, 5, 10, 24])) (.cond (.t 24) (.reg r24_8 false (some [3, 4])) (.seq (.reg r24_9 false (some [0, 3, 4, 5, 10, 28])) (.cond (.t 28) (.reg r24_10 false (some [3, 4])) (.seq (.reg r24_11 false (some [0, 3, 4, 5, 32])) (.cond (.t 32) (.reg r24_12 false (some [3, 4])) (.reg r24_13 false (some [3, 4])))))))))))))) (.seq (.reg r24_14 false (some [4])) (.ret)))), res := [.cell 4 true 6], rowArgs := [], keep := false, rowRes := [], clone := none, dl := none }
/- 25 kaudit/kauditref33.Encode -/
def r25_0 : List CO := [
  ⟨some 1, .box 6 (.t 0) [], none, 0⟩,
  ⟨some 2, .mv (.c (.d (.sl .nil 0 []))), none, 0⟩,
  ⟨some 3, .mv (.c (.d (.int .i64 0))), none, 2⟩]
def r25_1 : List CO := [
  ⟨some 10, .load true 6 (.t 1), none, 0⟩,
  ⟨some 11, .call (.c (.fn 27 [])) [(.t 10)], none, 1⟩,
  ⟨some 12, .un .not (.t 11), none, 3⟩]
def r25_2 : List CO := [
  ⟨some 2, .mv (.c (.d (.sl .nil 0 []))), none, 0⟩,
  ⟨some 3, .mv (.c (.d (.int .i64 330))), none, 1⟩]
def r25_3 : List CO := [
  ⟨some 14, .fa 0 (.t 1), none, 0⟩,
  ⟨some 15, .load false 1 (.t 14), none, 1⟩,
  ⟨some 16, .call (.c (.fn 53 [])) [(.t 15)], none, 3⟩,
  ⟨some 13, .mv (.t 16), none, 7⟩,
  ⟨some 17, .ext 0 (.t 13), none, 15⟩,
  ⟨some 18, .ext 1 (.t 13), none, 15⟩,
  ⟨some 19, .ext 2 (.t 13), none, 15⟩,
  ⟨some 20, .ext 3 (.t 13), none, 15⟩,
  ⟨some 4, .mv (.t 17), none, 31⟩,
  ⟨some 5, .mv (.t 18), none, 319⟩,
  ⟨some 6, .mv (.t 19), none, 895⟩,
  ⟨some 7, .mv (.t 20), none, 2047⟩]
def r25_4 : List CO := [
  ⟨some 21, .fa 0 (.t 1), none, 0⟩,
  ⟨some 22, .load false 1 (.t 21), none, 1⟩,
  ⟨some 23, .conv .u8 (.t 22), none, 3⟩,
  ⟨some 24, .bslice 1 1 [.int .u8 0] false [(0, (.t 23))], none, 7⟩,
  ⟨some 8, .mv (.t 24), none, 15⟩]
def r25_5 : List CO := [
  ⟨some 25, .mv (.t 4), none, 0⟩]
def r25_6 : List CO := [
  ⟨some 26, .mv (.t 8), none, 0⟩,
  ⟨some 27, .fa 1 (.t 1), none, 0⟩,
  ⟨some 28, .load false 1 (.t 27), none, 2⟩,
  ⟨some 29, .len .str (.t 28), none, 6⟩,
  ⟨some 30, .conv .u8 (.t 29), none, 14⟩,
  ⟨some 31, .bslice 1 1 [.int .u8 0] false [(0, (.t 30))], none, 30⟩,
  ⟨some 32, .app 1 1 (.t 26) (.t 31), none, 63⟩,
  ⟨some 33, .fa 1 (.t 1), none, 0⟩,
  ⟨some 34, .load false 1 (.t 33), none, 128⟩,
  ⟨some 35, .app 1 1 (.t 32) (.t 34), none, 511⟩,
  ⟨some 8, .mv (.t 35), none, 1023⟩]
def r25_7 : List CO := [
  ⟨some 36, .mv (.t 8), none, 0⟩,
  ⟨some 37, .fa 2 (.t 1), none, 0⟩,
  ⟨some 38, .load false 1 (.t 37), none, 2⟩,
  ⟨some 39, .call (.c (.fn 54 [])) [(.t 36), (.t 38)], none, 7⟩,
  ⟨some 8, .mv (.t 39), none, 15⟩]
def r25_8 : List CO := [
  ⟨some 40, .mv (.t 5), none, 0⟩]
def r25_9 : List CO := [
  ⟨some 41, .mv (.t 8), none, 0⟩,
  ⟨some 42, .fa 3 (.t 1), none, 0⟩,
  ⟨some 43, .load false 1 (.t 42), none, 2⟩,
  ⟨some 44, .call (.c (.fn 54 [])) [(.t 41), (.t 43)], none, 7⟩,
  ⟨some 8, .mv (.t 44), none, 15⟩]
def r25_10 : List CO := [
  ⟨some 45, .mv (.t 6), none, 0⟩]
def r25_11 : List CO := [
  ⟨some 46, .mv (.t 8), none, 0⟩,
  ⟨some 47, .fa 4 (.t 1), none, 0⟩,
  ⟨some 48, .load false 1 (.t 47), none, 2⟩,
  ⟨some 49, .call (.c (.fn 54 [])) [(.t 46), (.t 48)], none, 7⟩,
  ⟨some 8, .mv (.t 49), none, 15⟩]
def r25_12 : List CO := [
  ⟨some 50, .mv (.t 8), none, 0⟩,
  ⟨some 51, .fa 5 (.t 1), none, 0⟩,
  ⟨some 52, .load false 1 (.t 51), none, 2⟩,
  ⟨some 53, .app 1 1 (.t 50) (.t 52), none, 7⟩,
  ⟨some 8, .mv (.t 53), none, 15⟩]
def r25_13 : List CO := [
  ⟨some 54, .mv (.t 8), none, 0⟩,
  ⟨some 55, .len .sl (.t 54), none, 1⟩,
  ⟨some 9, .mv (.t 55), none, 3⟩]
def r25_14 : List CO := [
  ⟨some 56, .mv (.t 9), none, 0⟩,
  ⟨some 57, .bin .int .shr (.t 56) (.c (.d (.int .u64 24))), none, 1⟩,
  ⟨some 58, .conv .u8 (.t 57), none, 3⟩,
  ⟨some 59, .mv (.t 9), none, 0⟩,
  ⟨some 60, .bin .int .shr (.t 59) (.c (.d (.int .u64 16))), none, 8⟩,
  ⟨some 61, .conv .u8 (.t 60), none, 24⟩,
  ⟨some 62, .mv (.t 9), none, 0⟩,
  ⟨some 63, .bin .int .shr (.t 62) (.c (.d (.int .u64 8))), none, 64⟩,
  ⟨some 64, .conv .u8 (.t 63), none, 192⟩,
  ⟨some 65, .mv (.t 9), none, 0⟩,
  ⟨some 66, .conv .u8 (.t 65), none, 512⟩,
  ⟨some 67, .bslice 1 4 [.int .u8 0, .int .u8 0, .int .u8 0, .int .u8 0] false [(0, (.t 58)), (1, (.t 61)), (2, (.t 64)), (3, (.t 66))], none, 2047⟩,
  ⟨some 68, .mv (.t 8), none, 0⟩,
  ⟨some 69, .app 1 1 (.t 67) (.t 68), none, 8191⟩,
  ⟨some 2, .mv (.t 69), none, 16383⟩,
  ⟨some 3, .mv (.c (.d (.int .i64 0))), none, 32767⟩]
def c25 : CF := { body := .seq (.reg r25_0 false (some [1])) (.seq (.seq (.reg r25_1 false (some [1, 12])) (.cond (.t 12) (.seq (.reg r25_2 false (some [2, 3])) (.ret)) (.skip))) (.seq (.reg r25_3 false (some [1, 4, 5, 6])) (.seq (.reg r25_4 false (some [1, 4, 5, 6, 8])) (.seq (.seq (.reg r25_5 false (some [1, 5, 6, 8, 25])) (.cond (.t 25) (.seq (.reg r25_6 true (some [1, 5, 6, 8])) (.reg r25_7 false (some [1, 5, 6, 8]))) (.skip))) (.seq (.seq (.reg r25_8 false (some [1, 6, 8, 40])) (.cond (.t 40) (.reg r25_9 false (some [1, 6, 8])) (.skip))) (.seq (.seq (.reg r25_10 false (some [1, 8, 45])) (.cond (.t 45) (.reg r25_11 false (some [1, 8])) (.skip))) (.seq (.reg r25_12 false (some [8])) (.seq (.reg r25_13 false (some [8, 9])) (.seq (.reg r25_14 false (some [2, 3])) (.ret)))))))))), res := [.tmp 2, .tmp 3], rowArgs := [], keep := false, rowRes := [], clone := none, dl := none }
/- 26 kaudit/wire.Valid -/
def r26_0 : List CO := [
  ⟨some 1, .box 6 (.t 0) [], none, 0⟩,
  ⟨some 2, .mv (.c (.d (.bool false))), none, 0⟩]
def r26_1 : List CO := [
  ⟨some 11, .call (.c (.fn 45 [])) [], none, 0⟩,
  ⟨some 12, .fa 0 (.t 1), none, 0⟩,
  ⟨some 13, .load false 1 (.t 12), none, 2⟩,
  ⟨some 14, .look [.int] false true (.sl .nil 0 []) (.t 11) (.t 13), none, 7⟩,
  ⟨some 10, .mv (.t 14), none, 15⟩,
  ⟨some 15, .ext 0 (.t 10), none, 31⟩,
  ⟨some 16, .ext 1 (.t 10), none, 31⟩,
  ⟨some 3, .mv (.t 15), none, 63⟩,
  ⟨some 4, .mv (.t 16), none, 255⟩]
def r26_2 : List CO := [
  ⟨some 17, .mv (.t 4), none, 0⟩,
  ⟨some 18, .un .not (.t 17), none, 1⟩]
def r26_3 : List CO := [
  ⟨some 2, .mv (.c (.d (.bool false))), none, 0⟩]
def r26_4 : List CO := [
  ⟨some 19, .load true 6 (.t 1), none, 0⟩,
  ⟨some 5, .alloc [.d (.int .i64 0), .d (.str ⟨⟨[]⟩⟩), .d (.int .i64 0), .d (.int .i64 0), .d (.int .i64 0), .d (.sl .nil 0 [])] [], none, 0⟩,
  ⟨none, .store 6 (.t 5) (.t 19), none, 3⟩]
def r26_5 : List CO := [
  ⟨some 6, .mv (.c (.d (.int .i64 1))), none, 0⟩]
def r26_6 : List CO := [
  ⟨some 20, .fa 0 (.t 1), none, 0⟩,
  ⟨some 21, .load false 1 (.t 20), none, 1⟩,
  ⟨some 22, .bin .int .eql (.t 21) (.c (.d (.int .i64 2))), none, 3⟩,
  ⟨some 23, .mv (.t 22), none, 7⟩,
  ⟨some 24, .fa 0 (.t 1), some (23, false), 15⟩,
  ⟨some 25, .load false 1 (.t 24), some (23, false), 31⟩,
  ⟨some 26, .bin .int .eql (.t 25) (.c (.d (.int .i64 5))), some (23, false), 63⟩,
  ⟨some 27, .pick (.t 23) (.c (.d (.bool true))) (.t 26), none, 127⟩]
def r26_7 : List CO := [
  ⟨some 6, .mv (.c (.d (.int .i64 0))), none, 0⟩]
def r26_8 : List CO := [
  ⟨some 28, .mv (.t 3), none, 0⟩,
  ⟨some 29, .len .sl (.t 28), none, 1⟩,
  ⟨some 30, .mv (.c (.d (.int .i64 0))), none, 0⟩]
def r26_9 : List CO := [
  ⟨some 31, .bin .int .lss (.t 30) (.t 29), none, 0⟩]
def r26_10 : List CO := [
  ⟨some 32, .ia 1 (.t 28) (.t 30), none, 0⟩,
  ⟨some 33, .load false 1 (.t 32), none, 1⟩,
  ⟨some 8, .mv (.t 33), none, 3⟩]
def r26_11 : List CO := [
  ⟨some 9, .mv (.c (.d (.bool true))), none, 0⟩]
def r26_12 : List CO := [
  ⟨some 34, .mv (.t 8), none, 0⟩]
def r26_13 : List CO := [
  ⟨some 36, .bin .int .eql (.t 34) (.c (.d (.int .i64 1))), none, 0⟩,
  ⟨some 35, .mv (.t 36), none, 1⟩]
def r26_14 : List CO := [
  ⟨some 37, .fa 1 (.t 1), none, 0⟩,
  ⟨some 38, .load false 1 (.t 37), none, 1⟩,
  ⟨some 39, .call (.c (.fn 55 [])) [(.t 38)], none, 3⟩,
  ⟨some 9, .mv (.t 39), none, 7⟩,
  ⟨some 40, .fa 1 (.t 5), none, 15⟩,
  ⟨none, .store 1 (.t 40) (.c (.d (.str ⟨⟨[]⟩⟩))), none, 31⟩]
def r26_15 : List CO := [
  ⟨some 42, .bin .int .eql (.t 34) (.c (.d (.int .i64 2))), none, 0⟩,
  ⟨some 41, .mv (.t 42), none, 1⟩]
def r26_16 : List CO := [
  ⟨some 43, .fa 2 (.t 1), none, 0⟩,
  ⟨some 44, .load false 1 (.t 43), none, 1⟩,
  ⟨some 45, .call (.c (.fn 56 [])) [(.t 44), (.c (.d (.int .i64 1)))], none, 3⟩,
  ⟨some 9, .mv (.t 45), none, 7⟩,
  ⟨some 46, .fa 2 (.t 5), none, 15⟩,
  ⟨none, .store 1 (.t 46) (.c (.d (.int .i64 0))), none, 31⟩]
def r26_17 : List CO := [
  ⟨some 48, .bin .int .eql (.t 34) (.c (.d (.int .i64 3))), none, 0⟩,
  ⟨some 47, .mv (.t 48), none, 1⟩]
def r26_18 : List CO := [
  ⟨some 49, .fa 3 (.t 1), none, 0⟩,
  ⟨some 50, .load false 1 (.t 49), none, 1⟩,
  ⟨some 51, .mv (.t 6), none, 0⟩,
  ⟨some 52, .call (.c (.fn 56 [])) [(.t 50), (.t 51)], none, 7⟩,
  ⟨some 9, .mv (.t 52), none, 15⟩,
  ⟨some 53, .fa 3 (.t 5), none, 31⟩,
  ⟨none, .store 1 (.t 53) (.c (.d (.int .i64 0))), none, 63⟩]
def r26_19 : List CO := [
  ⟨some 55, .bin .int .eql (.t 34) (.c (.d (.int .i64 4))), none, 0⟩,
  ⟨some 54, .mv (.t 55), none, 1⟩]
def r26_20 : List CO := [
  ⟨some 56, .fa 4 (.t 1), none, 0⟩,
  ⟨some 57, .load false 1 (.t 56), none, 1⟩,
  ⟨some 58, .fa 3 (.t 1), none, 0⟩,
  ⟨some 59, .load false 1 (.t 58), none, 4⟩,
  ⟨some 60, .call (.c (.fn 56 [])) [(.t 57), (.t 59)], none, 15⟩,
  ⟨some 9, .mv (.t 60), none, 31⟩,
  ⟨some 61, .fa 4 (.t 5), none, 63⟩,
  ⟨none, .store 1 (.t 61) (.c (.d (.int .i64 0))), none, 127⟩]
def r26_21 : List CO := [
  ⟨some 63, .bin .int .eql (.t 34) (.c (.d (.int .i64 5))), none, 0⟩,
  ⟨some 62, .mv (.t 63), none, 1⟩]
def r26_22 : List CO := [
  ⟨some 64, .fa 5 (.t 1), none, 0⟩,
  ⟨some 65, .load false 1 (.t 64), none, 1⟩,
  ⟨some 66, .len .sl (.t 65), none, 3⟩,
  ⟨some 67, .bin .int .gtr (.t 66) (.c (.d (.int .i64 0))), none, 7⟩,
  ⟨some 68, .mv (.t 67), none, 15⟩,
  ⟨some 69, .fa 5 (.t 1), some (68, true), 31⟩,
  ⟨some 70, .load false 1 (.t 69), some (68, true), 63⟩,
  ⟨some 71, .len .sl (.t 70), some (68, true), 127⟩,
  ⟨some 72, .bin .int .leq (.t 71) (.c (.d (.int .i64 16320))), some (68, true), 255⟩,
  ⟨some 73, .pick (.t 68) (.t 72) (.c (.d (.bool false))), none, 511⟩,
  ⟨some 9, .mv (.t 73), none, 1023⟩,
  ⟨some 74, .fa 5 (.t 5), none, 2047⟩,
  ⟨none, .store 1 (.t 74) (.c (.d (.sl .nil 0 []))), none, 4095⟩]
def r26_23 : List CO := [
  ⟨some 75, .mv (.t 9), none, 0⟩,
  ⟨some 76, .un .not (.t 75), none, 1⟩]
def r26_24 : List CO := [
  ⟨some 2, .mv (.c (.d (.bool false))), none, 0⟩]
def r26_25 : List CO := [
  ⟨some 77, .bin .int .add (.t 30) (.c (.d (.int .i64 1))), none, 0⟩,
  ⟨some 30, .mv (.t 77), none, 1⟩]
def l26_26 : CCode := .seq (.reg r26_9 false (some [1, 5, 6, 28, 29, 30, 31])) (.seq (.cond (.t 31) (.skip) (.exit 0)) (.seq (.block 1 (.seq (.reg r26_10 false (some [1, 5, 6, 8, 28, 29, 30])) (.seq (.reg r26_11 false (some [1, 5, 6, 8, 9, 28, 29, 30])) (.seq (.seq (.reg r26_12 false (some [1, 5, 6, 9, 28, 29, 30, 34])) (.block 2 (.seq (.reg r26_13 false (some [1, 5, 6, 9, 28, 29, 30, 34, 35])) (.cond (.t 35) (.reg r26_14 false (some [1, 5, 6, 9, 28, 29, 30])) (.seq (.reg r26_15 false (some [1, 5, 6, 9, 28, 29, 30, 34, 41])) (.cond (.t 41) (.reg r26_16 false (some [1, 5, 6, 9, 28, 29, 30])) (.seq (.reg r26_17 false (some [1, 5, 6, 9, 28, 29, 30, 34, 47])) (.cond (.t 47) (.reg r26_18 false (some [1, 5, 6, 9, 28, 29, 30])) (.seq (.reg r26_19 false (some [1, 5, 6, 9, 28, 29, 30, 34, 54])) (.cond (.t 54) (.reg r26_20 false (some [1, 5, 6, 9, 28, 29, 30])) (.seq (.reg r26_21 false (some [1, 5, 6, 9, 28, 29, 30, 62])) (.cond (.t 62) (.reg r26_22 false (some [1, 5, 6, 9, 28, 29, 30])) (.skip))))))))))))) (.seq (.reg r26_23 false (some [1, 5, 6, 28, 29, 30, 76])) (.cond (.t 76) (.seq (.reg r26_24 false (some [2])) (.ret)) (.skip))))))) (.reg r26_25 false (some [1, 5, 6, 28, 29, 30]))))
def r26_27 : List CO := [
  ⟨some 78, .fa 1 (.t 5), none, 0⟩,
  ⟨some 79, .load false 1 (.t 78), none, 1⟩,
  ⟨some 80, .bin .str .eql (.t 79) (.c (.d (.str ⟨⟨[]⟩⟩))), none, 3⟩,
  ⟨some 81, .mv (.t 80), none, 7⟩,
  ⟨some 82, .fa 2 (.t 5), some (81, true), 15⟩,
  ⟨some 83, .load false 1 (.t 82), some (81, true), 31⟩,
  ⟨some 84, .bin .int .eql (.t 83) (.c (.d (.int .i64 0))), some (81, true), 63⟩,
  ⟨some 85, .pick (.t 81) (.t 84) (.c (.d (.bool false))), none, 127⟩,
  ⟨some 86, .mv (.t 85), none, 255⟩,
  ⟨some 87, .fa 3 (.t 5), some (86, true), 511⟩,
  ⟨some 88, .load false 1 (.t 87), some (86, true), 1023⟩,
  ⟨some 89, .bin .int .eql (.t 88) (.c (.d (.int .i64 0))), some (86, true), 2047⟩,
  ⟨some 90, .pick (.t 86) (.t 89) (.c (.d (.bool false))), none, 4095⟩,
  ⟨some 91, .mv (.t 90), none, 8191⟩,
  ⟨some 92, .fa 4 (.t 5), some (91, true), 16383⟩,
  ⟨some 93, .load false 1 (.t 92), some (91, true), 32767⟩,
  ⟨some 94, .bin .int .eql (.t 93) (.c (.d (.int .i64 0))), some (91, true), 65535⟩,
  ⟨some 95, .pick (.t 91) (.t 94) (.c (.d (.bool false))), none, 131071⟩,
  ⟨some 96, .mv (.t 95), none, 262143⟩,
  ⟨some 97, .fa 5 (.t 5), some (96, true), 524287⟩,
  ⟨some 98, .load false 1 (.t 97), some (96, true), 1048575⟩,
  ⟨some 99, .len .sl (.t 98), some (96, true), 2097151⟩,
  ⟨some 100, .bin .int .eql (.t 99) (.c (.d (.int .i64 0))), some (96, true), 4194303⟩,
  ⟨some 101, .pick (.t 96) (.t 100) (.c (.d (.bool false))), none, 8388607⟩,
  ⟨some 2, .mv (.t 101), none, 16777215⟩]
def c26 : CF := { body := .seq (.reg r26_0 false (some [1])) (.seq (.reg r26_1 true (some [1, 3, 4])) (.seq (.seq (.reg r26_2 false (some [1, 3, 18])) (.cond (.t 18) (.seq (.reg r26_3 false (some [2])) (.ret)) (.skip))) (.seq (.reg r26_4 false (some [1, 3, 5])) (.seq (.reg r26_5 false (some [1, 3, 5, 6])) (.seq (.seq (.reg r26_6 false (some [1, 3, 5, 6, 27])) (.cond (.t 27) (.reg r26_7 false (some [1, 3, 5, 6])) (.skip))) (.seq (.seq (.reg r26_8 false (some [1, 5, 6, 28, 29, 30])) (.block 0 (.loop [(1, none), (5, none), (6, none), (28, none), (29, none), (30, none)] l26_26))) (.seq (.reg r26_27 false (some [2])) (.ret)))))))), res := [.tmp 2], rowArgs := [], keep := false, rowRes := [], clone := none, dl := none }
/- 27 kaudit/kauditref33.Valid -/
def r27_0 : List CO := [
  ⟨some 1, .box 6 (.t 0) [], none, 0⟩,
  ⟨some 2, .mv (.c (.d (.bool false))), none, 0⟩]
def r27_1 : List CO := [
  ⟨some 8, .fa 0 (.t 1), none, 0⟩,
  ⟨some 9, .load false 1 (.t 8), none, 1⟩,
  ⟨some 10, .bin .int .lss (.t 9) (.c (.d (.int .i64 1))), none, 3⟩,
  ⟨some 11, .mv (.t 10), none, 7⟩,
  ⟨some 12, .fa 0 (.t 1), some (11, false), 15⟩,
  ⟨some 13, .load false 1 (.t 12), some (11, false), 31⟩,
  ⟨some 14, .bin .int .gtr (.t 13) (.c (.d (.int .i64 7))), some (11, false), 63⟩,
  ⟨some 15, .pick (.t 11) (.c (.d (.bool true))) (.t 14), none, 127⟩]
def r27_2 : List CO := [
  ⟨some 2, .mv (.c (.d (.bool false))), none, 0⟩]
def r27_3 : List CO := [
  ⟨some 17, .fa 0 (.t 1), none, 0⟩,
  ⟨some 18, .load false 1 (.t 17), none, 1⟩,
  ⟨some 19, .call (.c (.fn 53 [])) [(.t 18)], none, 3⟩,
  ⟨some 16, .mv (.t 19), none, 7⟩,
  ⟨some 20, .ext 0 (.t 16), none, 15⟩,
  ⟨some 21, .ext 1 (.t 16), none, 15⟩,
  ⟨some 22, .ext 2 (.t 16), none, 15⟩,
  ⟨some 23, .ext 3 (.t 16), none, 15⟩,
  ⟨some 3, .mv (.t 20), none, 31⟩,
  ⟨some 4, .mv (.t 21), none, 319⟩,
  ⟨some 5, .mv (.t 22), none, 895⟩,
  ⟨some 6, .mv (.t 23), none, 2047⟩]
def r27_4 : List CO := [
  ⟨some 7, .mv (.c (.d (.int .i64 1))), none, 0⟩]
def r27_5 : List CO := [
  ⟨some 24, .fa 0 (.t 1), none, 0⟩,
  ⟨some 25, .load false 1 (.t 24), none, 1⟩,
  ⟨some 26, .bin .int .eql (.t 25) (.c (.d (.int .i64 2))), none, 3⟩,
  ⟨some 27, .mv (.t 26), none, 7⟩,
  ⟨some 28, .fa 0 (.t 1), some (27, false), 15⟩,
  ⟨some 29, .load false 1 (.t 28), some (27, false), 31⟩,
  ⟨some 30, .bin .int .eql (.t 29) (.c (.d (.int .i64 5))), some (27, false), 63⟩,
  ⟨some 31, .pick (.t 27) (.c (.d (.bool true))) (.t 30), none, 127⟩]
def r27_6 : List CO := [
  ⟨some 7, .mv (.c (.d (.int .i64 0))), none, 0⟩]
def r27_7 : List CO := [
  ⟨some 32, .mv (.t 3), none, 0⟩,
  ⟨some 33, .mv (.t 32), none, 1⟩,
  ⟨some 34, .fa 1 (.t 1), some (33, true), 3⟩,
  ⟨some 35, .load false 1 (.t 34), some (33, true), 7⟩,
  ⟨some 36, .call (.c (.fn 57 [])) [(.t 35)], some (33, true), 15⟩,
  ⟨some 37, .un .not (.t 36), some (33, true), 31⟩,
  ⟨some 38, .mv (.t 37), some (33, true), 63⟩,
  ⟨some 39, .fa 2 (.t 1), some (38, false), 127⟩,
  ⟨some 40, .load false 1 (.t 39), some (38, false), 255⟩,
  ⟨some 41, .bin .int .lss (.t 40) (.c (.d (.int .i64 1))), some (38, false), 511⟩,
  ⟨some 42, .pick (.t 38) (.c (.d (.bool true))) (.t 41), some (33, true), 1023⟩,
  ⟨some 43, .mv (.t 42), some (33, true), 2047⟩,
  ⟨some 44, .fa 2 (.t 1), some (43, false), 4095⟩,
  ⟨some 45, .load false 1 (.t 44), some (43, false), 8191⟩,
  ⟨some 46, .bin .int .gtr (.t 45) (.c (.d (.int .i64 1099511627776))), some (43, false), 16383⟩,
  ⟨some 47, .pick (.t 43) (.c (.d (.bool true))) (.t 46), some (33, true), 32767⟩,
  ⟨some 48, .pick (.t 33) (.t 47) (.c (.d (.bool false))), none, 65535⟩,
  ⟨some 49, .mv (.t 48), none, 131071⟩,
  ⟨some 50, .mv (.t 3), some (49, false), 262143⟩,
  ⟨some 51, .un .not (.t 50), some (49, false), 524287⟩,
  ⟨some 52, .mv (.t 51), some (49, false), 1048575⟩,
  ⟨some 53, .fa 1 (.t 1), some (52, true), 2097151⟩,
  ⟨some 54, .load false 1 (.t 53), some (52, true), 4194303⟩,
  ⟨some 55, .bin .str .neq (.t 54) (.c (.d (.str ⟨⟨[]⟩⟩))), some (52, true), 8388607⟩,
  ⟨some 56, .mv (.t 55), some (52, true), 16777215⟩,
  ⟨some 57, .fa 2 (.t 1), some (56, false), 33554431⟩,
  ⟨some 58, .load false 1 (.t 57), some (56, false), 67108863⟩,
  ⟨some 59, .bin .int .neq (.t 58) (.c (.d (.int .i64 0))), some (56, false), 134217727⟩,
  ⟨some 60, .pick (.t 56) (.c (.d (.bool true))) (.t 59), some (52, true), 268435455⟩,
  ⟨some 61, .pick (.t 52) (.t 60) (.c (.d (.bool false))), some (49, false), 536870911⟩,
  ⟨some 62, .pick (.t 49) (.c (.d (.bool true))) (.t 61), none, 1073741823⟩]
def r27_8 : List CO := [
  ⟨some 2, .mv (.c (.d (.bool false))), none, 0⟩]
def r27_9 : List CO := [
  ⟨some 63, .mv (.t 4), none, 0⟩,
  ⟨some 64, .mv (.t 63), none, 1⟩,
  ⟨some 65, .fa 3 (.t 1), some (64, true), 3⟩,
  ⟨some 66, .load false 1 (.t 65), some (64, true), 7⟩,
  ⟨some 67, .mv (.t 7), some (64, true), 3⟩,
  ⟨some 68, .bin .int .lss (.t 66) (.t 67), some (64, true), 31⟩,
  ⟨some 69, .mv (.t 68), some (64, true), 63⟩,
  ⟨some 70, .fa 3 (.t 1), some (69, false), 127⟩,
  ⟨some 71, .load false 1 (.t 70), some (69, false), 255⟩,
  ⟨some 72, .bin .int .gtr (.t 71) (.c (.d (.int .i64 1099511627776))), some (69, false), 511⟩,
  ⟨some 73, .pick (.t 69) (.c (.d (.bool true))) (.t 72), some (64, true), 1023⟩,
  ⟨some 74, .pick (.t 64) (.t 73) (.c (.d (.bool false))), none, 2047⟩,
  ⟨some 75, .mv (.t 74), none, 4095⟩,
  ⟨some 76, .mv (.t 4), some (75, false), 8191⟩,
  ⟨some 77, .un .not (.t 76), some (75, false), 16383⟩,
  ⟨some 78, .mv (.t 77), some (75, false), 32767⟩,
  ⟨some 79, .fa 3 (.t 1), some (78, true), 65535⟩,
  ⟨some 80, .load false 1 (.t 79), some (78, true), 131071⟩,
  ⟨some 81, .bin .int .neq (.t 80) (.c (.d (.int .i64 0))), some (78, true), 262143⟩,
  ⟨some 82, .pick (.t 78) (.t 81) (.c (.d (.bool false))), some (75, false), 524287⟩,
  ⟨some 83, .pick (.t 75) (.c (.d (.bool true))) (.t 82), none, 1048575⟩]
def r27_10 : List CO := [
  ⟨some 2, .mv (.c (.d (.bool false))), none, 0⟩]
def r27_11 : List CO := [
  ⟨some 84, .mv (.t 5), none, 0⟩,
  ⟨some 85, .mv (.t 84), none, 1⟩,
  ⟨some 86, .fa 4 (.t 1), some (85, true), 3⟩,
  ⟨some 87, .load false 1 (.t 86), some (85, true), 7⟩,
  ⟨some 88, .fa 3 (.t 1), some (85, true), 3⟩,
  ⟨some 89, .load false 1 (.t 88), some (85, true), 19⟩,
  ⟨some 90, .bin .int .lss (.t 87) (.t 89), some (85, true), 63⟩,
  ⟨some 91, .mv (.t 90), some (85, true), 127⟩,
  ⟨some 92, .fa 4 (.t 1), some (91, false), 255⟩,
  ⟨some 93, .load false 1 (.t 92), some (91, false), 511⟩,
  ⟨some 94, .bin .int .gtr (.t 93) (.c (.d (.int .i64 1099511627776))), some (91, false), 1023⟩,
  ⟨some 95, .pick (.t 91) (.c (.d (.bool true))) (.t 94), some (85, true), 2047⟩,
  ⟨some 96, .pick (.t 85) (.t 95) (.c (.d (.bool false))), none, 4095⟩,
  ⟨some 97, .mv (.t 96), none, 8191⟩,
  ⟨some 98, .mv (.t 5), some (97, false), 16383⟩,
  ⟨some 99, .un .not (.t 98), some (97, false), 32767⟩,
  ⟨some 100, .mv (.t 99), some (97, false), 65535⟩,
  ⟨some 101, .fa 4 (.t 1), some (100, true), 131071⟩,
  ⟨some 102, .load false 1 (.t 101), some (100, true), 262143⟩,
  ⟨some 103, .bin .int .neq (.t 102) (.c (.d (.int .i64 0))), some (100, true), 524287⟩,
  ⟨some 104, .pick (.t 100) (.t 103) (.c (.d (.bool false))), some (97, false), 1048575⟩,
  ⟨some 105, .pick (.t 97) (.c (.d (.bool true))) (.t 104), none, 2097151⟩]
def r27_12 : List CO := [
  ⟨some 2, .mv (.c (.d (.bool false))), none, 0⟩]
def r27_13 : List CO := [
  ⟨some 106, .mv (.t 6), none, 0⟩,
  ⟨some 107, .mv (.t 106), none, 1⟩,
  ⟨some 108, .fa 5 (.t 1), some (107, true), 3⟩,
  ⟨some 109, .load false 1 (.t 108), some (107, true), 7⟩,
  ⟨some 110, .len .sl (.t 109), some (107, true), 15⟩,
  ⟨some 111, .bin .int .geq (.t 110) (.c (.d (.int .i64 1))), some (107, true), 31⟩,
  ⟨some 112, .pick (.t 107) (.t 111) (.c (.d (.bool false))), none, 63⟩,
  ⟨some 113, .mv (.t 112), none, 127⟩,
  ⟨some 114, .fa 5 (.t 1), some (113, true), 255⟩,
  ⟨some 115, .load false 1 (.t 114), some (113, true), 511⟩,
  ⟨some 116, .len .sl (.t 115), some (113, true), 1023⟩,
  ⟨some 117, .bin .int .leq (.t 116) (.c (.d (.int .i64 16320))), some (113, true), 2047⟩,
  ⟨some 118, .pick (.t 113) (.t 117) (.c (.d (.bool false))), none, 4095⟩,
  ⟨some 119, .mv (.t 118), none, 8191⟩,
  ⟨some 120, .mv (.t 6), some (119, false), 16383⟩,
  ⟨some 121, .un .not (.t 120), some (119, false), 32767⟩,
  ⟨some 122, .mv (.t 121), some (119, false), 65535⟩,
  ⟨some 123, .fa 5 (.t 1), some (122, true), 131071⟩,
  ⟨some 124, .load false 1 (.t 123), some (122, true), 262143⟩,
  ⟨some 125, .len .sl (.t 124), some (122, true), 524287⟩,
  ⟨some 126, .bin .int .eql (.t 125) (.c (.d (.int .i64 0))), some (122, true), 1048575⟩,
  ⟨some 127, .pick (.t 122) (.t 126) (.c (.d (.bool false))), some (119, false), 2097151⟩,
  ⟨some 128, .pick (.t 119) (.c (.d (.bool true))) (.t 127), none, 4194303⟩,
  ⟨some 2, .mv (.t 128), none, 8388607⟩]
def c27 : CF := { body := .seq (.reg r27_0 false (some [1])) (.seq (.seq (.reg r27_1 false (some [1, 15])) (.cond (.t 15) (.seq (.reg r27_2 false (some [2])) (.ret)) (.skip))) (.seq (.reg r27_3 false (some [1, 3, 4, 5, 6])) (.seq (.reg r27_4 false (some [1, 3, 4, 5, 6, 7])) (.seq (.seq (.reg r27_5 false (some [1, 3, 4, 5, 6, 7, 31])) (.cond (.t 31) (.reg r27_6 false (some [1, 3, 4, 5, 6, 7])) (.skip))) (.seq (.seq (.reg r27_7 false (some [1, 4, 5, 6, 7, 62])) (.cond (.t 62) (.seq (.reg r27_8 false (some [2])) (.ret)) (.skip))) (.seq (.seq (.reg r27_9 false (some [1, 5, 6, 83])) (.cond (.t 83) (.seq (.reg r27_10 false (some [2])) (.ret)) (.skip))) (.seq (.seq (.reg r27_11 false (some [1, 6, 105])) (.cond (.t 105) (.seq (.reg r27_12 false (some [2])) (.ret)) (.skip))) (.seq (.reg r27_13 false (some [2])) (.ret))))))))), res := [.tmp 2], rowArgs := [], keep := false, rowRes := [], clone := none, dl := none }
/- 28 kaudit/kauditlaw33.begun -/
def r28_0 : List CO := [
  ⟨some 0, .mv (.c (.d (.bool false))), none, 0⟩]
def r28_1 : List CO := [
  ⟨some 7, .build [.d (.int .i64 0), .d (.str ⟨⟨[]⟩⟩), .d (.int .i64 0), .d (.int .i64 0), .d (.int .i64 0), .d (.sl .nil 0 [])] [(0, 1, (.c (.d (.int .i64 6))))], none, 0⟩,
  ⟨some 8, .call (.c (.fn 17 [])) [(.t 7)], none, 1⟩,
  ⟨some 6, .mv (.t 8), none, 3⟩,
  ⟨some 9, .ext 0 (.t 6), none, 7⟩,
  ⟨some 10, .ext 1 (.t 6), none, 7⟩,
  ⟨some 1, .mv (.t 9), none, 15⟩,
  ⟨some 2, .mv (.t 10), none, 63⟩]
def r28_2 : List CO := [
  ⟨some 12, .mv (.t 1), none, 0⟩,
  ⟨some 13, .bslice 1 1 [.int .u8 0] false [(0, (.c (.d (.int .u8 0))))], none, 0⟩,
  ⟨some 14, .call (.c (.fn 30 [])) [(.t 12), (.t 13)], none, 3⟩,
  ⟨some 11, .mv (.t 14), none, 7⟩,
  ⟨some 15, .ext 0 (.t 11), none, 15⟩,
  ⟨some 16, .ext 1 (.t 11), none, 15⟩,
  ⟨some 17, .ext 2 (.t 11), none, 15⟩,
  ⟨some 3, .mv (.t 15), none, 31⟩,
  ⟨some 4, .mv (.t 16), none, 191⟩,
  ⟨some 5, .mv (.t 17), none, 511⟩]
def r28_3 : List CO := [
  ⟨some 18, .mv (.t 2), none, 0⟩,
  ⟨some 19, .bin .int .eql (.t 18) (.c (.d (.int .i64 0))), none, 1⟩,
  ⟨some 20, .mv (.t 19), none, 3⟩,
  ⟨some 21, .mv (.t 5), some (20, true), 7⟩,
  ⟨some 22, .bin .int .eql (.t 21) (.c (.d (.int .i64 0))), some (20, true), 15⟩,
  ⟨some 23, .pick (.t 20) (.t 22) (.c (.d (.bool false))), none, 31⟩,
  ⟨some 24, .mv (.t 23), none, 63⟩,
  ⟨some 25, .mv (.t 1), some (24, true), 127⟩,
  ⟨some 26, .bslice 1 5 [.int .u8 0, .int .u8 0, .int .u8 0, .int .u8 0, .int .u8 0] false [(0, (.c (.d (.int .u8 0)))), (1, (.c (.d (.int .u8 0)))), (2, (.c (.d (.int .u8 0)))), (3, (.c (.d (.int .u8 1)))), (4, (.c (.d (.int .u8 6))))], some (24, true), 127⟩,
  ⟨some 27, .call (.c (.fn 22 [])) [(.t 25), (.t 26)], some (24, true), 511⟩,
  ⟨some 28, .pick (.t 24) (.t 27) (.c (.d (.bool false))), none, 1023⟩,
  ⟨some 29, .mv (.t 28), none, 2047⟩,
  ⟨some 30, .mv (.t 3), some (29, true), 4095⟩,
  ⟨some 31, .len .sl (.t 30), some (29, true), 8191⟩,
  ⟨some 32, .bin .int .eql (.t 31) (.c (.d (.int .i64 1))), some (29, true), 16383⟩,
  ⟨some 33, .pick (.t 29) (.t 32) (.c (.d (.bool false))), none, 32767⟩,
  ⟨some 34, .mv (.t 33), none, 65535⟩,
  ⟨some 35, .mv (.t 3), some (34, true), 131071⟩,
  ⟨some 36, .ia 6 (.t 35) (.c (.d (.int .i64 0))), some (34, true), 262143⟩,
  ⟨some 37, .fa 0 (.t 36), some (34, true), 524287⟩,
  ⟨some 38, .load false 1 (.t 37), some (34, true), 1048575⟩,
  ⟨some 39, .bin .int .eql (.t 38) (.c (.d (.int .i64 6))), some (34, true), 2097151⟩,
  ⟨some 40, .pick (.t 34) (.t 39) (.c (.d (.bool false))), none, 4194303⟩,
  ⟨some 41, .mv (.t 40), none, 8388607⟩,
  ⟨some 42, .mv (.t 4), some (41, true), 16777215⟩,
  ⟨some 43, .len .sl (.t 42), some (41, true), 33554431⟩,
  ⟨some 44, .bin .int .eql (.t 43) (.c (.d (.int .i64 1))), some (41, true), 67108863⟩,
  ⟨some 45, .pick (.t 41) (.t 44) (.c (.d (.bool false))), none, 134217727⟩,
  ⟨some 0, .mv (.t 45), none, 268435455⟩]
def c28 : CF := { body := .seq (.reg r28_0 false (some [])) (.seq (.reg r28_1 false (some [1, 2])) (.seq (.reg r28_2 false (some [1, 2, 3, 4, 5])) (.seq (.reg r28_3 false (some [0])) (.ret)))), res := [.tmp 0], rowArgs := [], keep := false, rowRes := [], clone := none, dl := none }
/- 29 kaudit/kauditlaw33.stream -/
def r29_0 : List CO := [
  ⟨some 2, .mv (.c (.d (.sl .nil 0 []))), none, 0⟩,
  ⟨some 3, .mv (.c (.d (.sl .nil 0 []))), none, 1⟩]
def r29_1 : List CO := [
  ⟨some 4, .mv (.c (.d (.sl .nil 0 []))), none, 0⟩]
def r29_2 : List CO := [
  ⟨some 5, .mv (.c (.d (.sl .nil 0 []))), none, 0⟩]
def r29_3 : List CO := [
  ⟨some 10, .mv (.t 0), none, 0⟩,
  ⟨some 11, .call (.c (.fn 33 [])) [(.t 10), (.c (.d (.int .i64 5)))], none, 1⟩,
  ⟨some 6, .mv (.t 11), none, 3⟩]
def r29_4 : List CO := [
  ⟨some 12, .mv (.t 6), none, 0⟩,
  ⟨some 13, .bin .int .gtr (.t 12) (.c (.d (.int .i64 0))), none, 1⟩]
def r29_5 : List CO := [
  ⟨some 16, .mv (.t 0), none, 0⟩,
  ⟨some 17, .call (.c (.fn 23 [])) [(.t 16)], none, 1⟩,
  ⟨some 7, .alloc [.d (.int .i64 0), .d (.str ⟨⟨[]⟩⟩), .d (.int .i64 0), .d (.int .i64 0), .d (.int .i64 0), .d (.sl .nil 0 [])] [], none, 0⟩,
  ⟨none, .store 6 (.t 7) (.t 17), none, 7⟩]
def r29_6 : List CO := [
  ⟨some 19, .load true 6 (.t 7), none, 0⟩,
  ⟨some 20, .call (.c (.fn 17 [])) [(.t 19)], none, 1⟩,
  ⟨some 18, .mv (.t 20), none, 3⟩,
  ⟨some 21, .ext 0 (.t 18), none, 7⟩,
  ⟨some 22, .ext 1 (.t 18), none, 7⟩,
  ⟨some 8, .mv (.t 21), none, 15⟩,
  ⟨some 9, .mv (.t 22), none, 63⟩]
def r29_7 : List CO := [
  ⟨some 23, .mv (.t 4), none, 0⟩,
  ⟨some 24, .load true 6 (.t 7), none, 0⟩,
  ⟨some 25, .bslice 6 1 [.int .i64 0, .str ⟨⟨[]⟩⟩, .int .i64 0, .int .i64 0, .int .i64 0, .sl .nil 0 []] false [(0, (.t 24))], none, 2⟩,
  ⟨some 26, .app 6 72 (.t 23) (.t 25), none, 7⟩,
  ⟨some 27, .mv (.t 5), none, 0⟩,
  ⟨some 28, .mv (.t 8), none, 0⟩,
  ⟨some 29, .app 1 1 (.t 27) (.t 28), none, 63⟩,
  ⟨some 4, .mv (.t 26), none, 127⟩,
  ⟨some 5, .mv (.t 29), none, 255⟩]
def r29_8 : List CO := [
  ⟨some 14, .mv (.t 6), none, 0⟩,
  ⟨some 15, .bin .int .sub (.t 14) (.c (.d (.int .i64 1))), none, 1⟩,
  ⟨some 6, .mv (.t 15), none, 3⟩]
def l29_9 : CCode := .seq (.seq (.reg r29_4 false (some [0, 4, 5, 6, 13])) (.cond (.t 13) (.skip) (.exit 0))) (.seq (.block 1 (.seq (.reg r29_5 false (some [0, 4, 5, 6, 7])) (.seq (.reg r29_6 false (some [0, 4, 5, 6, 7, 8])) (.reg r29_7 false (some [0, 4, 5, 6]))))) (.reg r29_8 false (some [0, 4, 5, 6])))
def r29_10 : List CO := [
  ⟨some 30, .mv (.t 4), none, 0⟩,
  ⟨some 31, .mv (.t 5), none, 0⟩,
  ⟨some 2, .mv (.t 30), none, 1⟩,
  ⟨some 3, .mv (.t 31), none, 7⟩]
def c29 : CF := { body := .seq (.reg r29_0 false (some [0])) (.seq (.reg r29_1 false (some [0, 4])) (.seq (.reg r29_2 false (some [0, 4, 5])) (.seq (.seq (.reg r29_3 false (some [0, 4, 5, 6])) (.block 0 (.loop [(0, none), (4, some 6), (5, some 1), (6, none)] l29_9))) (.seq (.reg r29_10 false (some [2, 3])) (.ret))))), res := [.tmp 2, .tmp 3], rowArgs := [], keep := false, rowRes := [], clone := none, dl := none }
/- 30 kaudit/wire.Feed -/
def r30_0 : List CO := [
  ⟨some 4, .mv (.c (.d (.sl .nil 0 []))), none, 0⟩,
  ⟨some 5, .mv (.c (.d (.sl .nil 0 []))), none, 1⟩,
  ⟨some 6, .mv (.c (.d (.int .i64 0))), none, 3⟩]
def r30_1 : List CO := [
  ⟨some 12, .mv (.t 0), none, 0⟩,
  ⟨some 13, .call (.c (.fn 58 [])) [(.t 12)], none, 1⟩,
  ⟨some 14, .mv (.t 1), none, 0⟩,
  ⟨some 15, .app 1 1 (.t 13) (.t 14), none, 7⟩,
  ⟨some 7, .mv (.t 15), none, 15⟩]
def r30_2 : List CO := [
  ⟨some 8, .mv (.c (.d (.sl .nil 0 []))), none, 0⟩]
def r30_3 : List CO := [
  ⟨some 16, .mv (.t 7), none, 0⟩,
  ⟨some 17, .len .sl (.t 16), none, 1⟩,
  ⟨some 18, .bin .int .geq (.t 17) (.c (.d (.int .i64 4))), none, 3⟩]
def r30_4 : List CO := [
  ⟨some 19, .mv (.t 7), none, 0⟩,
  ⟨some 20, .ia 1 (.t 19) (.c (.d (.int .i64 0))), none, 1⟩,
  ⟨some 21, .load false 1 (.t 20), none, 3⟩,
  ⟨some 22, .conv .i64 (.t 21), none, 7⟩,
  ⟨some 23, .bin .int .shl (.t 22) (.c (.d (.int .u64 24))), none, 15⟩,
  ⟨some 24, .mv (.t 7), none, 0⟩,
  ⟨some 25, .ia 1 (.t 24) (.c (.d (.int .i64 1))), none, 32⟩,
  ⟨some 26, .load false 1 (.t 25), none, 96⟩,
  ⟨some 27, .conv .i64 (.t 26), none, 224⟩,
  ⟨some 28, .bin .int .shl (.t 27) (.c (.d (.int .u64 16))), none, 480⟩,
  ⟨some 29, .bin .int .or (.t 23) (.t 28), none, 1023⟩,
  ⟨some 30, .mv (.t 7), none, 0⟩,
  ⟨some 31, .ia 1 (.t 30) (.c (.d (.int .i64 2))), none, 2048⟩,
  ⟨some 32, .load false 1 (.t 31), none, 6144⟩,
  ⟨some 33, .conv .i64 (.t 32), none, 14336⟩,
  ⟨some 34, .bin .int .shl (.t 33) (.c (.d (.int .u64 8))), none, 30720⟩,
  ⟨some 35, .bin .int .or (.t 29) (.t 34), none, 65535⟩,
  ⟨some 36, .mv (.t 7), none, 0⟩,
  ⟨some 37, .ia 1 (.t 36) (.c (.d (.int .i64 3))), none, 131072⟩,
  ⟨some 38, .load false 1 (.t 37), none, 393216⟩,
  ⟨some 39, .conv .i64 (.t 38), none, 917504⟩,
  ⟨some 40, .bin .int .or (.t 35) (.t 39), none, 2097151⟩,
  ⟨some 9, .mv (.t 40), none, 4194303⟩]
def r30_5 : List CO := [
  ⟨some 41, .mv (.t 9), none, 0⟩,
  ⟨some 42, .bin .int .eql (.t 41) (.c (.d (.int .i64 0))), none, 1⟩,
  ⟨some 43, .mv (.t 42), none, 3⟩,
  ⟨some 44, .mv (.t 9), some (43, false), 7⟩,
  ⟨some 45, .bin .int .gtr (.t 44) (.c (.d (.int .i64 16512))), some (43, false), 15⟩,
  ⟨some 46, .pick (.t 43) (.c (.d (.bool true))) (.t 45), none, 31⟩]
def r30_6 : List CO := [
  ⟨some 47, .mv (.t 8), none, 0⟩,
  ⟨some 4, .mv (.t 47), none, 1⟩,
  ⟨some 5, .mv (.c (.d (.sl .nil 0 []))), none, 3⟩,
  ⟨some 6, .mv (.c (.d (.int .i64 331))), none, 7⟩]
def r30_7 : List CO := [
  ⟨some 48, .mv (.t 7), none, 0⟩,
  ⟨some 49, .len .sl (.t 48), none, 1⟩,
  ⟨some 50, .mv (.t 9), none, 0⟩,
  ⟨some 51, .bin .int .add (.t 50) (.c (.d (.int .i64 4))), none, 4⟩,
  ⟨some 52, .bin .int .lss (.t 49) (.t 51), none, 15⟩]
def r30_8 : List CO := [
  ⟨some 54, .mv (.t 7), none, 0⟩,
  ⟨some 55, .mv (.t 9), none, 0⟩,
  ⟨some 56, .bin .int .add (.t 55) (.c (.d (.int .i64 4))), none, 2⟩,
  ⟨some 57, .slSl 1 (.t 54) none (some (.t 56)) none, none, 7⟩,
  ⟨some 58, .call (.c (.fn 59 [])) [(.t 57)], none, 15⟩,
  ⟨some 53, .mv (.t 58), none, 31⟩,
  ⟨some 59, .ext 0 (.t 53), none, 63⟩,
  ⟨some 60, .ext 1 (.t 53), none, 63⟩,
  ⟨some 10, .alloc [.d (.int .i64 0), .d (.str ⟨⟨[]⟩⟩), .d (.int .i64 0), .d (.int .i64 0), .d (.int .i64 0), .d (.sl .nil 0 [])] [], none, 0⟩,
  ⟨none, .store 6 (.t 10) (.t 59), none, 383⟩,
  ⟨some 11, .mv (.t 60), none, 1023⟩]
def r30_9 : List CO := [
  ⟨some 61, .mv (.t 11), none, 0⟩,
  ⟨some 62, .un .not (.t 61), none, 1⟩]
def r30_10 : List CO := [
  ⟨some 63, .mv (.t 8), none, 0⟩,
  ⟨some 4, .mv (.t 63), none, 1⟩,
  ⟨some 5, .mv (.c (.d (.sl .nil 0 []))), none, 3⟩,
  ⟨some 6, .mv (.c (.d (.int .i64 331))), none, 7⟩]
def r30_11 : List CO := [
  ⟨some 64, .mv (.t 8), none, 0⟩,
  ⟨some 65, .load true 6 (.t 10), none, 0⟩,
  ⟨some 66, .bslice 6 1 [.int .i64 0, .str ⟨⟨[]⟩⟩, .int .i64 0, .int .i64 0, .int .i64 0, .sl .nil 0 []] false [(0, (.t 65))], none, 2⟩,
  ⟨some 67, .app 6 72 (.t 64) (.t 66), none, 7⟩,
  ⟨some 68, .mv (.t 7), none, 0⟩,
  ⟨some 69, .mv (.t 9), none, 0⟩,
  ⟨some 70, .bin .int .add (.t 69) (.c (.d (.int .i64 4))), none, 32⟩,
  ⟨some 71, .slSl 1 (.t 68) (some (.t 70)) none none, none, 112⟩,
  ⟨some 8, .mv (.t 67), none, 15⟩,
  ⟨some 7, .mv (.t 71), none, 511⟩]
def l30_12 : CCode := .seq (.seq (.reg r30_3 false (some [7, 8, 18])) (.cond (.t 18) (.skip) (.exit 0))) (.block 1 (.seq (.reg r30_4 true (some [7, 8, 9])) (.seq (.seq (.reg r30_5 false (some [7, 8, 9, 46])) (.cond (.t 46) (.seq (.reg r30_6 false (some [4, 5, 6])) (.ret)) (.skip))) (.seq (.seq (.reg r30_7 false (some [7, 8, 9, 52])) (.cond (.t 52) (.exit 0) (.skip))) (.seq (.reg r30_8 false (some [7, 8, 9, 10, 11])) (.seq (.seq (.reg r30_9 false (some [7, 8, 9, 10, 62])) (.cond (.t 62) (.seq (.reg r30_10 false (some [4, 5, 6])) (.ret)) (.skip))) (.reg r30_11 true (some [7, 8]))))))))
def r30_13 : List CO := [
  ⟨some 72, .mv (.t 8), none, 0⟩,
  ⟨some 73, .mv (.t 7), none, 0⟩,
  ⟨some 74, .call (.c (.fn 58 [])) [(.t 73)], none, 2⟩,
  ⟨some 4, .mv (.t 72), none, 7⟩,
  ⟨some 5, .mv (.t 74), none, 15⟩,
  ⟨some 6, .mv (.c (.d (.int .i64 0))), none, 31⟩]
def c30 : CF := { body := .seq (.reg r30_0 false (some [0, 1])) (.seq (.reg r30_1 false (some [7])) (.seq (.reg r30_2 false (some [7, 8])) (.seq (.block 0 (.loop [(7, some 1), (8, some 6)] l30_12)) (.seq (.reg r30_13 false (some [4, 5, 6])) (.ret))))), res := [.tmp 4, .tmp 5, .tmp 6], rowArgs := [], keep := false, rowRes := [], clone := none, dl := none }
/- 31 kaudit/kauditref33.SameList -/
def r31_0 : List CO := [
  ⟨some 4, .mv (.c (.d (.bool false))), none, 0⟩]
def r31_1 : List CO := [
  ⟨some 6, .mv (.t 0), none, 0⟩,
  ⟨some 7, .len .sl (.t 6), none, 1⟩,
  ⟨some 8, .mv (.t 1), none, 0⟩,
  ⟨some 9, .len .sl (.t 8), none, 4⟩,
  ⟨some 10, .bin .int .neq (.t 7) (.t 9), none, 15⟩]
def r31_2 : List CO := [
  ⟨some 4, .mv (.c (.d (.bool false))), none, 0⟩]
def r31_3 : List CO := [
  ⟨some 11, .mv (.t 0), none, 0⟩,
  ⟨some 12, .len .sl (.t 11), none, 1⟩,
  ⟨some 13, .mv (.c (.d (.int .i64 0))), none, 0⟩]
def r31_4 : List CO := [
  ⟨some 14, .bin .int .lss (.t 13) (.t 12), none, 0⟩]
def r31_5 : List CO := [
  ⟨some 15, .mv (.t 13), none, 0⟩,
  ⟨some 5, .mv (.t 15), none, 1⟩]
def r31_6 : List CO := [
  ⟨some 16, .mv (.t 0), none, 0⟩,
  ⟨some 17, .mv (.t 5), none, 0⟩,
  ⟨some 18, .ia 6 (.t 16) (.t 17), none, 3⟩,
  ⟨some 19, .load true 6 (.t 18), none, 7⟩,
  ⟨some 20, .mv (.t 1), none, 0⟩,
  ⟨some 21, .mv (.t 5), none, 0⟩,
  ⟨some 22, .ia 6 (.t 20) (.t 21), none, 48⟩,
  ⟨some 23, .load true 6 (.t 22), none, 112⟩,
  ⟨some 24, .call (.c (.fn 32 [])) [(.t 19), (.t 23)], none, 255⟩,
  ⟨some 25, .un .not (.t 24), none, 511⟩]
def r31_7 : List CO := [
  ⟨some 4, .mv (.c (.d (.bool false))), none, 0⟩]
def r31_8 : List CO := [
  ⟨some 26, .bin .int .add (.t 13) (.c (.d (.int .i64 1))), none, 0⟩,
  ⟨some 13, .mv (.t 26), none, 1⟩]
def l31_9 : CCode := .seq (.reg r31_4 false (some [0, 1, 12, 13, 14])) (.seq (.cond (.t 14) (.skip) (.exit 0)) (.seq (.block 1 (.seq (.reg r31_5 false (some [0, 1, 5, 12, 13])) (.seq (.reg r31_6 true (some [0, 1, 12, 13, 25])) (.cond (.t 25) (.seq (.reg r31_7 false (some [4])) (.ret)) (.skip))))) (.reg r31_8 false (some [0, 1, 12, 13]))))
def r31_10 : List CO := [
  ⟨some 4, .mv (.c (.d (.bool true))), none, 0⟩]
def c31 : CF := { body := .seq (.reg r31_0 false (some [0, 1])) (.seq (.seq (.reg r31_1 false (some [0, 1, 10])) (.cond (.t 10) (.seq (.reg r31_2 false (some [4])) (.ret)) (.skip))) (.seq (.seq (.reg r31_3 false (some [0, 1, 12, 13])) (.block 0 (.loop [(0, none), (1, none), (12, none), (13, none)] l31_9))) (.seq (.reg r31_10 false (some [4])) (.ret)))), res := [.tmp 4], rowArgs := [], keep := false, rowRes := [], clone := none, dl := none }
/- 32 kaudit/kauditref33.Same -/
def r32_0 : List CO := [
  ⟨some 2, .box 6 (.t 0) [], none, 0⟩,
  ⟨some 3, .box 6 (.t 1) [], none, 0⟩,
  ⟨some 4, .mv (.c (.d (.bool false))), none, 0⟩]
def r32_1 : List CO := [
  ⟨some 5, .fa 0 (.t 2), none, 0⟩,
  ⟨some 6, .load false 1 (.t 5), none, 1⟩,
  ⟨some 7, .fa 0 (.t 3), none, 0⟩,
  ⟨some 8, .load false 1 (.t 7), none, 4⟩,
  ⟨some 9, .bin .int .eql (.t 6) (.t 8), none, 15⟩,
  ⟨some 10, .mv (.t 9), none, 31⟩,
  ⟨some 11, .fa 1 (.t 2), some (10, true), 63⟩,
  ⟨some 12, .load false 1 (.t 11), some (10, true), 127⟩,
  ⟨some 13, .fa 1 (.t 3), some (10, true), 63⟩,
  ⟨some 14, .load false 1 (.t 13), some (10, true), 319⟩,
  ⟨some 15, .bin .str .eql (.t 12) (.t 14), some (10, true), 1023⟩,
  ⟨some 16, .pick (.t 10) (.t 15) (.c (.d (.bool false))), none, 2047⟩,
  ⟨some 17, .mv (.t 16), none, 4095⟩,
  ⟨some 18, .fa 2 (.t 2), some (17, true), 8191⟩,
  ⟨some 19, .load false 1 (.t 18), some (17, true), 16383⟩,
  ⟨some 20, .fa 2 (.t 3), some (17, true), 8191⟩,
  ⟨some 21, .load false 1 (.t 20), some (17, true), 40959⟩,
  ⟨some 22, .bin .int .eql (.t 19) (.t 21), some (17, true), 131071⟩,
  ⟨some 23, .pick (.t 17) (.t 22) (.c (.d (.bool false))), none, 262143⟩,
  ⟨some 24, .mv (.t 23), none, 524287⟩,
  ⟨some 25, .fa 3 (.t 2), some (24, true), 1048575⟩,
  ⟨some 26, .load false 1 (.t 25), some (24, true), 2097151⟩,
  ⟨some 27, .fa 3 (.t 3), some (24, true), 1048575⟩,
  ⟨some 28, .load false 1 (.t 27), some (24, true), 5242879⟩,
  ⟨some 29, .bin .int .eql (.t 26) (.t 28), some (24, true), 16777215⟩,
  ⟨some 30, .pick (.t 24) (.t 29) (.c (.d (.bool false))), none, 33554431⟩,
  ⟨some 31, .mv (.t 30), none, 67108863⟩,
  ⟨some 32, .fa 4 (.t 2), some (31, true), 134217727⟩,
  ⟨some 33, .load false 1 (.t 32), some (31, true), 268435455⟩,
  ⟨some 34, .fa 4 (.t 3), some (31, true), 134217727⟩,
  ⟨some 35, .load false 1 (.t 34), some (31, true), 671088639⟩,
  ⟨some 36, .bin .int .eql (.t 33) (.t 35), some (31, true), 2147483647⟩,
  ⟨some 37, .pick (.t 31) (.t 36) (.c (.d (.bool false))), none, 4294967295⟩,
  ⟨some 38, .mv (.t 37), none, 8589934591⟩,
  ⟨some 39, .fa 5 (.t 2), some (38, true), 17179869183⟩,
  ⟨some 40, .load false 1 (.t 39), some (38, true), 34359738367⟩,
  ⟨some 41, .fa 5 (.t 3), some (38, true), 17179869183⟩,
  ⟨some 42, .load false 1 (.t 41), some (38, true), 85899345919⟩,
  ⟨some 43, .call (.c (.fn 22 [])) [(.t 40), (.t 42)], some (38, true), 274877906943⟩,
  ⟨some 44, .pick (.t 38) (.t 43) (.c (.d (.bool false))), none, 549755813887⟩,
  ⟨some 4, .mv (.t 44), none, 1099511627775⟩]
def c32 : CF := { body := .seq (.reg r32_0 false (some [2, 3])) (.seq (.reg r32_1 false (some [4])) (.ret)), res := [.tmp 4], rowArgs := [], keep := false, rowRes := [], clone := none, dl := none }
/- 33 (kaudit/kauditmill.Case).Int -/
def r33_0 : List CO := [
  ⟨some 4, .mv (.c (.d (.int .i64 0))), none, 0⟩]
def r33_1 : List CO := [
  ⟨some 5, .mv (.t 1), none, 0⟩,
  ⟨some 6, .bin .int .lss (.t 5) (.c (.d (.int .i64 2))), none, 1⟩,
  ⟨some 7, .mv (.t 6), none, 3⟩,
  ⟨some 8, .mv (.t 0), some (7, false), 7⟩,
  ⟨some 9, .nilck (.t 8), some (7, false), 15⟩,
  ⟨some 10, .fa 1 (.t 9), some (7, false), 31⟩,
  ⟨some 11, .load false 1 (.t 10), some (7, false), 63⟩,
  ⟨some 12, .mv (.t 0), some (7, false), 7⟩,
  ⟨some 13, .nilck (.t 12), some (7, false), 135⟩,
  ⟨some 14, .fa 0 (.t 13), some (7, false), 391⟩,
  ⟨some 15, .load false 1 (.t 14), some (7, false), 903⟩,
  ⟨some 16, .len .sl (.t 15), some (7, false), 1927⟩,
  ⟨some 17, .bin .int .geq (.t 11) (.t 16), some (7, false), 4095⟩,
  ⟨some 18, .pick (.t 7) (.c (.d (.bool true))) (.t 17), none, 8191⟩]
def r33_2 : List CO := [
  ⟨some 4, .mv (.c (.d (.int .i64 0))), none, 0⟩]
def r33_3 : List CO := [
  ⟨some 19, .mv (.t 0), none, 0⟩,
  ⟨some 20, .nilck (.t 19), none, 1⟩,
  ⟨some 21, .fa 1 (.t 20), none, 3⟩,
  ⟨some 22, .load false 1 (.t 21), none, 7⟩,
  ⟨some 23, .bin .int .add (.t 22) (.c (.d (.int .i64 1))), none, 15⟩,
  ⟨some 24, .nilck (.t 19), none, 31⟩,
  ⟨some 25, .fa 1 (.t 24), none, 63⟩,
  ⟨none, .store 1 (.t 25) (.t 23), none, 127⟩]
def r33_4 : List CO := [
  ⟨some 26, .mv (.t 0), none, 0⟩,
  ⟨some 27, .nilck (.t 26), none, 1⟩,
  ⟨some 28, .fa 0 (.t 27), none, 3⟩,
  ⟨some 29, .load false 1 (.t 28), none, 7⟩,
  ⟨some 30, .mv (.t 0), none, 0⟩,
  ⟨some 31, .nilck (.t 30), none, 16⟩,
  ⟨some 32, .fa 1 (.t 31), none, 48⟩,
  ⟨some 33, .load false 1 (.t 32), none, 112⟩,
  ⟨some 34, .bin .int .sub (.t 33) (.c (.d (.int .i64 1))), none, 240⟩,
  ⟨some 35, .ia 1 (.t 29) (.t 34), none, 511⟩,
  ⟨some 36, .load false 1 (.t 35), none, 1023⟩,
  ⟨some 37, .conv .i64 (.t 36), none, 2047⟩,
  ⟨some 38, .mv (.t 1), none, 0⟩,
  ⟨some 39, .bin .int .rem (.t 37) (.t 38), none, 8191⟩,
  ⟨some 4, .mv (.t 39), none, 16383⟩]
def c33 : CF := { body := .seq (.reg r33_0 false (some [0, 1])) (.seq (.seq (.reg r33_1 true (some [0, 1, 18])) (.cond (.t 18) (.seq (.reg r33_2 false (some [4])) (.ret)) (.skip))) (.seq (.reg r33_3 false (some [0, 1])) (.seq (.reg r33_4 true (some [4])) (.ret)))), res := [.tmp 4], rowArgs := [], keep := false, rowRes := [], clone := none, dl := (some [0]) }
/- 34 (kaudit/kauditmill.Case).word -/
def r34_0 : List CO := [
  ⟨some 4, .mv (.c (.d (.str ⟨⟨[]⟩⟩))), none, 0⟩]
def r34_1 : List CO := [
  ⟨some 5, .mv (.t 1), none, 0⟩,
  ⟨some 6, .mv (.t 0), none, 0⟩,
  ⟨some 7, .mv (.t 1), none, 0⟩,
  ⟨some 8, .len .sl (.t 7), none, 4⟩,
  ⟨some 9, .call (.c (.fn 33 [])) [(.t 6), (.t 8)], none, 14⟩,
  ⟨some 10, .ia 1 (.t 5) (.t 9), none, 31⟩,
  ⟨some 11, .load false 1 (.t 10), none, 63⟩,
  ⟨some 4, .mv (.t 11), none, 127⟩]
def c34 : CF := { body := .seq (.reg r34_0 false (some [0, 1])) (.seq (.reg r34_1 false (some [4])) (.ret)), res := [.tmp 4], rowArgs := [], keep := false, rowRes := [], clone := none, dl := none }
/- 36 (kaudit/kauditmill.Case).Bytes -/
def r36_0 : List CO := [
  ⟨some 4, .mv (.c (.d (.sl .nil 0 []))), none, 0⟩]
def r36_1 : List CO := [
  ⟨some 5, .mv (.c (.d (.sl .nil 0 []))), none, 0⟩]
def r36_2 : List CO := [
  ⟨some 7, .mv (.t 0), none, 0⟩,
  ⟨some 8, .mv (.t 1), none, 0⟩,
  ⟨some 9, .bin .int .add (.t 8) (.c (.d (.int .i64 1))), none, 2⟩,
  ⟨some 10, .call (.c (.fn 33 [])) [(.t 7), (.t 9)], none, 7⟩,
  ⟨some 6, .mv (.t 10), none, 15⟩]
def r36_3 : List CO := [
  ⟨some 11, .mv (.t 6), none, 0⟩,
  ⟨some 12, .bin .int .gtr (.t 11) (.c (.d (.int .i64 0))), none, 1⟩]
def r36_4 : List CO := [
  ⟨some 15, .mv (.t 5), none, 0⟩,
  ⟨some 16, .mv (.t 0), none, 0⟩,
  ⟨some 17, .mv (.t 0), none, 0⟩,
  ⟨some 18, .call (.c (.fn 33 [])) [(.t 17), (.c (.d (.int .i64 256)))], none, 4⟩,
  ⟨some 19, .bslice 1 6 [.int .i64 0, .int .i64 0, .int .i64 0, .int .i64 0, .int .i64 0, .int .i64 0] false [(0, (.c (.d (.int .i64 97)))), (1, (.c (.d (.int .i64 98)))), (2, (.c (.d (.int .i64 97)))), (3, (.c (.d (.int .i64 0)))), (4, (.c (.d (.int .i64 255)))), (5, (.t 18))], none, 12⟩,
  ⟨some 20, .call (.c (.fn 51 [])) [(.t 16), (.t 19)], none, 30⟩,
  ⟨some 21, .conv .u8 (.t 20), none, 62⟩,
  ⟨some 22, .bslice 1 1 [.int .u8 0] false [(0, (.t 21))], none, 126⟩,
  ⟨some 23, .app 1 1 (.t 15) (.t 22), none, 255⟩,
  ⟨some 5, .mv (.t 23), none, 511⟩]
def r36_5 : List CO := [
  ⟨some 13, .mv (.t 6), none, 0⟩,
  ⟨some 14, .bin .int .sub (.t 13) (.c (.d (.int .i64 1))), none, 1⟩,
  ⟨some 6, .mv (.t 14), none, 3⟩]
def l36_6 : CCode := .seq (.seq (.reg r36_3 false (some [0, 5, 6, 12])) (.cond (.t 12) (.skip) (.exit 0))) (.seq (.block 1 (.reg r36_4 false (some [0, 5, 6]))) (.reg r36_5 false (some [0, 5, 6])))
def r36_7 : List CO := [
  ⟨some 24, .mv (.t 5), none, 0⟩,
  ⟨some 4, .mv (.t 24), none, 1⟩]
def c36 : CF := { body := .seq (.reg r36_0 false (some [0, 1])) (.seq (.reg r36_1 false (some [0, 1, 5])) (.seq (.seq (.reg r36_2 false (some [0, 5, 6])) (.block 0 (.loop [(0, none), (5, some 1), (6, none)] l36_6))) (.seq (.reg r36_7 false (some [4])) (.ret)))), res := [.tmp 4], rowArgs := [], keep := false, rowRes := [], clone := none, dl := (some [0]) }
/- 44 kaudit/kauditref33.decode -/
def r44_0 : List CO := [
  ⟨some 2, .alloc [.d (.int .i64 0), .d (.str ⟨⟨[]⟩⟩), .d (.int .i64 0), .d (.int .i64 0), .d (.int .i64 0), .d (.sl .nil 0 [])] [], none, 0⟩,
  ⟨some 3, .mv (.c (.d (.bool false))), none, 0⟩]
def r44_1 : List CO := [
  ⟨some 11, .mv (.t 0), none, 0⟩,
  ⟨some 12, .ia 1 (.t 11) (.c (.d (.int .i64 0))), none, 1⟩,
  ⟨some 13, .load false 1 (.t 12), none, 3⟩,
  ⟨some 14, .conv .i64 (.t 13), none, 7⟩,
  ⟨some 15, .build [.d (.int .i64 0), .d (.str ⟨⟨[]⟩⟩), .d (.int .i64 0), .d (.int .i64 0), .d (.int .i64 0), .d (.sl .nil 0 [])] [(0, 1, (.t 14))], none, 15⟩,
  ⟨some 4, .alloc [.d (.int .i64 0), .d (.str ⟨⟨[]⟩⟩), .d (.int .i64 0), .d (.int .i64 0), .d (.int .i64 0), .d (.sl .nil 0 [])] [], none, 0⟩,
  ⟨none, .store 6 (.t 4) (.t 15), none, 63⟩]
def r44_2 : List CO := [
  ⟨some 17, .fa 0 (.t 4), none, 0⟩,
  ⟨some 18, .load false 1 (.t 17), none, 1⟩,
  ⟨some 19, .call (.c (.fn 53 [])) [(.t 18)], none, 3⟩,
  ⟨some 16, .mv (.t 19), none, 7⟩,
  ⟨some 20, .ext 0 (.t 16), none, 15⟩,
  ⟨some 21, .ext 1 (.t 16), none, 15⟩,
  ⟨some 22, .ext 2 (.t 16), none, 15⟩,
  ⟨some 23, .ext 3 (.t 16), none, 15⟩,
  ⟨some 5, .mv (.t 20), none, 31⟩,
  ⟨some 6, .mv (.t 21), none, 319⟩,
  ⟨some 7, .mv (.t 22), none, 895⟩,
  ⟨some 8, .mv (.t 23), none, 2047⟩]
def r44_3 : List CO := [
  ⟨some 24, .mv (.t 0), none, 0⟩,
  ⟨some 25, .slSl 1 (.t 24) (some (.c (.d (.int .i64 1)))) none none, none, 1⟩,
  ⟨some 26, .build [.d (.sl .nil 0 []), .d (.bool false)] [(0, 1, (.t 25))], none, 3⟩,
  ⟨some 27, .box 2 (.t 26) [], none, 7⟩,
  ⟨some 9, .mv (.t 27), none, 15⟩]
def r44_4 : List CO := [
  ⟨some 28, .mv (.t 5), none, 0⟩]
def r44_5 : List CO := [
  ⟨some 29, .mv (.t 9), none, 0⟩,
  ⟨some 30, .nilck (.t 29), none, 1⟩,
  ⟨some 31, .fa 0 (.t 30), none, 3⟩,
  ⟨some 32, .load false 1 (.t 31), none, 7⟩,
  ⟨some 33, .len .sl (.t 32), none, 15⟩,
  ⟨some 34, .bin .int .eql (.t 33) (.c (.d (.int .i64 0))), none, 31⟩,
  ⟨some 35, .mv (.t 34), none, 63⟩,
  ⟨some 36, .mv (.t 9), some (35, false), 127⟩,
  ⟨some 37, .nilck (.t 36), some (35, false), 255⟩,
  ⟨some 38, .fa 0 (.t 37), some (35, false), 511⟩,
  ⟨some 39, .load false 1 (.t 38), some (35, false), 1023⟩,
  ⟨some 40, .ia 1 (.t 39) (.c (.d (.int .i64 0))), some (35, false), 2047⟩,
  ⟨some 41, .load false 1 (.t 40), some (35, false), 4095⟩,
  ⟨some 42, .conv .i64 (.t 41), some (35, false), 8191⟩,
  ⟨some 43, .mv (.t 9), some (35, false), 127⟩,
  ⟨some 44, .nilck (.t 43), some (35, false), 16511⟩,
  ⟨some 45, .fa 0 (.t 44), some (35, false), 49279⟩,
  ⟨some 46, .load false 1 (.t 45), some (35, false), 114815⟩,
  ⟨some 47, .len .sl (.t 46), some (35, false), 245887⟩,
  ⟨some 48, .bin .int .sub (.t 47) (.c (.d (.int .i64 1))), some (35, false), 508031⟩,
  ⟨some 49, .bin .int .gtr (.t 42) (.t 48), some (35, false), 1048575⟩,
  ⟨some 50, .pick (.t 35) (.c (.d (.bool true))) (.t 49), none, 2097151⟩]
def r44_6 : List CO := [
  ⟨some 51, .load true 6 (.t 4), none, 0⟩,
  ⟨none, .store 6 (.t 2) (.t 51), none, 1⟩,
  ⟨some 3, .mv (.c (.d (.bool false))), none, 3⟩]
def r44_7 : List CO := [
  ⟨some 52, .mv (.t 9), none, 0⟩,
  ⟨some 53, .nilck (.t 52), none, 1⟩,
  ⟨some 54, .fa 0 (.t 53), none, 3⟩,
  ⟨some 55, .load false 1 (.t 54), none, 7⟩,
  ⟨some 56, .ia 1 (.t 55) (.c (.d (.int .i64 0))), none, 15⟩,
  ⟨some 57, .load false 1 (.t 56), none, 31⟩,
  ⟨some 58, .conv .i64 (.t 57), none, 63⟩,
  ⟨some 59, .bin .int .add (.c (.d (.int .i64 1))) (.t 58), none, 127⟩,
  ⟨some 10, .mv (.t 59), none, 255⟩]
def r44_8 : List CO := [
  ⟨some 60, .mv (.t 9), none, 0⟩,
  ⟨some 61, .mv (.t 9), none, 0⟩,
  ⟨some 62, .nilck (.t 61), none, 2⟩,
  ⟨some 63, .fa 0 (.t 62), none, 6⟩,
  ⟨some 64, .load false 1 (.t 63), none, 14⟩,
  ⟨some 65, .mv (.t 10), none, 0⟩,
  ⟨some 66, .slSl 1 (.t 64) (some (.c (.d (.int .i64 1)))) (some (.t 65)) none, none, 62⟩,
  ⟨some 67, .b2s (.t 66), none, 126⟩,
  ⟨some 68, .mv (.t 9), none, 0⟩,
  ⟨some 69, .nilck (.t 68), none, 256⟩,
  ⟨some 70, .fa 0 (.t 69), none, 768⟩,
  ⟨some 71, .load false 1 (.t 70), none, 1792⟩,
  ⟨some 72, .mv (.t 10), none, 0⟩,
  ⟨some 73, .slSl 1 (.t 71) (some (.t 72)) none none, none, 7936⟩,
  ⟨some 74, .fa 1 (.t 4), none, 254⟩,
  ⟨none, .store 1 (.t 74) (.t 67), none, 16638⟩,
  ⟨some 75, .nilck (.t 60), none, 65535⟩,
  ⟨some 76, .fa 0 (.t 75), none, 131071⟩,
  ⟨none, .store 1 (.t 76) (.t 73), none, 262143⟩]
def r44_9 : List CO := [
  ⟨some 77, .mv (.t 9), none, 0⟩,
  ⟨some 78, .call (.c (.fn 61 [])) [(.t 77)], none, 1⟩,
  ⟨some 79, .fa 2 (.t 4), none, 3⟩,
  ⟨none, .store 1 (.t 79) (.t 78), none, 7⟩]
def r44_10 : List CO := [
  ⟨some 80, .mv (.t 6), none, 0⟩]
def r44_11 : List CO := [
  ⟨some 81, .mv (.t 9), none, 0⟩,
  ⟨some 82, .call (.c (.fn 61 [])) [(.t 81)], none, 1⟩,
  ⟨some 83, .fa 3 (.t 4), none, 3⟩,
  ⟨none, .store 1 (.t 83) (.t 82), none, 7⟩]
def r44_12 : List CO := [
  ⟨some 84, .mv (.t 7), none, 0⟩]
def r44_13 : List CO := [
  ⟨some 85, .mv (.t 9), none, 0⟩,
  ⟨some 86, .call (.c (.fn 61 [])) [(.t 85)], none, 1⟩,
  ⟨some 87, .fa 4 (.t 4), none, 3⟩,
  ⟨none, .store 1 (.t 87) (.t 86), none, 7⟩]
def r44_14 : List CO := [
  ⟨some 88, .mv (.t 8), none, 0⟩]
def r44_15 : List CO := [
  ⟨some 89, .mv (.t 9), none, 0⟩,
  ⟨some 90, .bslice 1 0 [] false [], none, 0⟩,
  ⟨some 91, .mv (.t 9), none, 0⟩,
  ⟨some 92, .nilck (.t 91), none, 4⟩,
  ⟨some 93, .fa 0 (.t 92), none, 12⟩,
  ⟨some 94, .load false 1 (.t 93), none, 28⟩,
  ⟨some 95, .app 1 1 (.t 90) (.t 94), none, 62⟩,
  ⟨some 96, .fa 5 (.t 4), none, 126⟩,
  ⟨none, .store 1 (.t 96) (.t 95), none, 254⟩,
  ⟨some 97, .nilck (.t 89), none, 511⟩,
  ⟨some 98, .fa 0 (.t 97), none, 1023⟩,
  ⟨none, .store 1 (.t 98) (.c (.d (.sl .nil 0 []))), none, 2047⟩]
def r44_16 : List CO := [
  ⟨some 99, .load true 6 (.t 4), none, 0⟩,
  ⟨some 100, .mv (.t 9), none, 0⟩,
  ⟨some 101, .nilck (.t 100), none, 2⟩,
  ⟨some 102, .fa 1 (.t 101), none, 6⟩,
  ⟨some 103, .load false 1 (.t 102), none, 14⟩,
  ⟨some 104, .un .not (.t 103), none, 30⟩,
  ⟨some 105, .mv (.t 104), none, 62⟩,
  ⟨some 106, .mv (.t 9), some (105, true), 126⟩,
  ⟨some 107, .nilck (.t 106), some (105, true), 254⟩,
  ⟨some 108, .fa 0 (.t 107), some (105, true), 510⟩,
  ⟨some 109, .load false 1 (.t 108), some (105, true), 1022⟩,
  ⟨some 110, .len .sl (.t 109), some (105, true), 2046⟩,
  ⟨some 111, .bin .int .eql (.t 110) (.c (.d (.int .i64 0))), some (105, true), 4094⟩,
  ⟨some 112, .pick (.t 105) (.t 111) (.c (.d (.bool false))), none, 8190⟩,
  ⟨none, .store 6 (.t 2) (.t 99), none, 127⟩,
  ⟨some 3, .mv (.t 112), none, 32767⟩]
def c44 : CF := { body := .seq (.reg r44_0 false (some [0, 2])) (.seq (.reg r44_1 false (some [0, 2, 4])) (.seq (.reg r44_2 false (some [0, 2, 4, 5, 6, 7, 8])) (.seq (.reg r44_3 false (some [2, 4, 5, 6, 7, 8, 9])) (.seq (.seq (.reg r44_4 false (some [2, 4, 6, 7, 8, 9, 28])) (.cond (.t 28) (.seq (.seq (.reg r44_5 true (some [2, 4, 6, 7, 8, 9, 50])) (.cond (.t 50) (.seq (.reg r44_6 false (some [2, 3])) (.ret)) (.skip))) (.seq (.reg r44_7 false (some [2, 4, 6, 7, 8, 9, 10])) (.seq (.reg r44_8 true (some [2, 4, 6, 7, 8, 9])) (.reg r44_9 false (some [2, 4, 6, 7, 8, 9]))))) (.skip))) (.seq (.seq (.reg r44_10 false (some [2, 4, 7, 8, 9, 80])) (.cond (.t 80) (.reg r44_11 false (some [2, 4, 7, 8, 9])) (.skip))) (.seq (.seq (.reg r44_12 false (some [2, 4, 8, 9, 84])) (.cond (.t 84) (.reg r44_13 false (some [2, 4, 8, 9])) (.skip))) (.seq (.seq (.reg r44_14 false (some [2, 4, 9, 88])) (.cond (.t 88) (.reg r44_15 false (some [2, 4, 9])) (.skip))) (.seq (.reg r44_16 true (some [2, 3])) (.ret))))))))), res := [.cell 2 true 6, .tmp 3], rowArgs := [], keep := false, rowRes := [], clone := none, dl := none }
/- 45 kaudit/wire.fields -/
def r45_0 : List CO := [
  ⟨some 0, .mv (.c (.d (.nilm))), none, 0⟩]
def r45_1 : List CO := [
  ⟨some 1, .mkmap false, none, 0⟩,
  ⟨some 2, .bslice 1 3 [.int .i64 0, .int .i64 0, .int .i64 0] false [(0, (.c (.d (.int .i64 1)))), (1, (.c (.d (.int .i64 2)))), (2, (.c (.d (.int .i64 3))))], none, 0⟩,
  ⟨none, .mput [.int] false (.t 1) (.c (.d (.int .i64 1))) (.t 2), none, 3⟩,
  ⟨some 3, .bslice 1 1 [.int .i64 0] false [(0, (.c (.d (.int .i64 3))))], none, 0⟩,
  ⟨none, .mput [.int] false (.t 1) (.c (.d (.int .i64 2))) (.t 3), none, 9⟩,
  ⟨some 4, .bslice 1 2 [.int .i64 0, .int .i64 0] false [(0, (.c (.d (.int .i64 3)))), (1, (.c (.d (.int .i64 5))))], none, 0⟩,
  ⟨none, .mput [.int] false (.t 1) (.c (.d (.int .i64 3))) (.t 4), none, 33⟩,
  ⟨some 5, .bslice 1 2 [.int .i64 0, .int .i64 0] false [(0, (.c (.d (.int .i64 3)))), (1, (.c (.d (.int .i64 4))))], none, 0⟩,
  ⟨none, .mput [.int] false (.t 1) (.c (.d (.int .i64 4))) (.t 5), none, 129⟩,
  ⟨some 6, .bslice 1 1 [.int .i64 0] false [(0, (.c (.d (.int .i64 3))))], none, 0⟩,
  ⟨none, .mput [.int] false (.t 1) (.c (.d (.int .i64 5))) (.t 6), none, 513⟩,
  ⟨none, .mput [.int] false (.t 1) (.c (.d (.int .i64 6))) (.c (.d (.sl .nil 0 []))), none, 1⟩,
  ⟨none, .mput [.int] false (.t 1) (.c (.d (.int .i64 7))) (.c (.d (.sl .nil 0 []))), none, 1⟩,
  ⟨some 7, .mv (.t 1), none, 8191⟩,
  ⟨some 0, .mv (.t 7), none, 16383⟩]
def c45 : CF := { body := .seq (.reg r45_0 false (some [])) (.seq (.reg r45_1 false (some [0])) (.ret)), res := [.tmp 0], rowArgs := [], keep := false, rowRes := [], clone := none, dl := none }
/- 46 kaudit/fresh.AppendNumber -/
def r46_0 : List CO := [
  ⟨some 4, .mv (.c (.d (.sl .nil 0 []))), none, 0⟩]
def r46_1 : List CO := [
  ⟨some 5, .mv (.t 1), none, 0⟩,
  ⟨some 6, .bin .int .geq (.t 5) (.c (.d (.int .i64 128))), none, 1⟩]
def r46_2 : List CO := [
  ⟨some 7, .mv (.t 0), none, 0⟩,
  ⟨some 8, .mv (.t 1), none, 0⟩,
  ⟨some 9, .conv .u8 (.t 8), none, 2⟩,
  ⟨some 10, .bin .int .or (.t 9) (.c (.d (.int .u8 128))), none, 6⟩,
  ⟨some 11, .bslice 1 1 [.int .u8 0] false [(0, (.t 10))], none, 14⟩,
  ⟨some 12, .app 1 1 (.t 7) (.t 11), none, 31⟩,
  ⟨some 0, .mv (.t 12), none, 63⟩]
def r46_3 : List CO := [
  ⟨some 13, .mv (.t 1), none, 0⟩,
  ⟨some 14, .bin .int .shr (.t 13) (.c (.d (.int .u64 7))), none, 1⟩,
  ⟨some 1, .mv (.t 14), none, 3⟩]
def l46_4 : CCode := .seq (.seq (.reg r46_1 false (some [0, 1, 6])) (.cond (.t 6) (.skip) (.exit 0))) (.block 1 (.seq (.reg r46_2 false (some [0, 1])) (.reg r46_3 false (some [0, 1]))))
def r46_5 : List CO := [
  ⟨some 15, .mv (.t 0), none, 0⟩,
  ⟨some 16, .mv (.t 1), none, 0⟩,
  ⟨some 17, .conv .u8 (.t 16), none, 2⟩,
  ⟨some 18, .bslice 1 1 [.int .u8 0] false [(0, (.t 17))], none, 6⟩,
  ⟨some 19, .app 1 1 (.t 15) (.t 18), none, 15⟩,
  ⟨some 4, .mv (.t 19), none, 31⟩]
def c46 : CF := { body := .seq (.reg r46_0 false (some [0, 1])) (.seq (.block 0 (.loop [(0, some 1), (1, none)] l46_4)) (.seq (.reg r46_5 false (some [4])) (.ret))), res := [.tmp 4], rowArgs := [(0, 1)], keep := true, rowRes := [], clone := none, dl := none }
/- 51 (kaudit/kauditmill.Case).Pick -/
def r51_0 : List CO := [
  ⟨some 4, .mv (.c (.d (.int .i64 0))), none, 0⟩]
def r51_1 : List CO := [
  ⟨some 5, .mv (.t 1), none, 0⟩,
  ⟨some 6, .mv (.t 0), none, 0⟩,
  ⟨some 7, .mv (.t 1), none, 0⟩,
  ⟨some 8, .len .sl (.t 7), none, 4⟩,
  ⟨some 9, .call (.c (.fn 33 [])) [(.t 6), (.t 8)], none, 14⟩,
  ⟨some 10, .ia 1 (.t 5) (.t 9), none, 31⟩,
  ⟨some 11, .load false 1 (.t 10), none, 63⟩,
  ⟨some 4, .mv (.t 11), none, 127⟩]
def c51 : CF := { body := .seq (.reg r51_0 false (some [0, 1])) (.seq (.reg r51_1 false (some [4])) (.ret)), res := [.tmp 4], rowArgs := [], keep := false, rowRes := [], clone := none, dl := (some [0]) }
/- 52 (kaudit/kauditmill.Case).Text -/
def r52_0 : List CO := [
  ⟨some 2, .mv (.c (.d (.str ⟨⟨[]⟩⟩))), none, 0⟩]
def r52_1 : List CO := [
  ⟨some 4, .bslice 1 10 [.str ⟨⟨[]⟩⟩, .str ⟨⟨[]⟩⟩, .str ⟨⟨[]⟩⟩, .str ⟨⟨[]⟩⟩, .str ⟨⟨[]⟩⟩, .str ⟨⟨[]⟩⟩, .str ⟨⟨[]⟩⟩, .str ⟨⟨[]⟩⟩, .str ⟨⟨[]⟩⟩, .str ⟨⟨[]⟩⟩] false [(0, (.c (.d (.str ⟨⟨[]⟩⟩)))), (1, (.c (.d (.str ⟨⟨[97]⟩⟩)))), (2, (.c (.d (.str ⟨⟨[97, 110, 110]⟩⟩)))), (3, (.c (.d (.str ⟨⟨[47, 97, 47, 98]⟩⟩)))), (4, (.c (.d (.str ⟨⟨[110, 111]⟩⟩)))), (5, (.c (.d (.str ⟨⟨[121, 101, 115]⟩⟩)))), (6, (.c (.d (.str ⟨⟨[97, 32, 98]⟩⟩)))), (7, (.c (.d (.str ⟨⟨[120, 54, 102]⟩⟩)))), (8, (.c (.d (.str ⟨⟨[0]⟩⟩)))), (9, (.c (.d (.str ⟨⟨[109, 107, 100, 105, 114]⟩⟩))))], none, 0⟩,
  ⟨some 3, .mv (.t 4), none, 1⟩]
def r52_2 : List CO := [
  ⟨some 5, .mv (.t 3), none, 0⟩,
  ⟨some 6, .mv (.t 0), none, 0⟩,
  ⟨some 7, .mv (.t 3), none, 0⟩,
  ⟨some 8, .len .sl (.t 7), none, 4⟩,
  ⟨some 9, .call (.c (.fn 33 [])) [(.t 6), (.t 8)], none, 14⟩,
  ⟨some 10, .ia 1 (.t 5) (.t 9), none, 31⟩,
  ⟨some 11, .load false 1 (.t 10), none, 63⟩,
  ⟨some 2, .mv (.t 11), none, 127⟩]
def c52 : CF := { body := .seq (.reg r52_0 false (some [0])) (.seq (.reg r52_1 false (some [0, 3])) (.seq (.reg r52_2 false (some [2])) (.ret))), res := [.tmp 2], rowArgs := [], keep := false, rowRes := [], clone := none, dl := (some [0]) }
/- 53 kaudit/kauditref33.uses -/
def r53_0 : List CO := [
  ⟨some 2, .mv (.c (.d (.bool false))), none, 0⟩,
  ⟨some 3, .mv (.c (.d (.bool false))), none, 1⟩,
  ⟨some 4, .mv (.c (.d (.bool false))), none, 3⟩,
  ⟨some 5, .mv (.c (.d (.bool false))), none, 7⟩]
def r53_1 : List CO := [
  ⟨some 6, .mv (.t 0), none, 0⟩]
def r53_2 : List CO := [
  ⟨some 8, .bin .int .eql (.t 6) (.c (.d (.int .i64 1))), none, 0⟩,
  ⟨some 7, .mv (.t 8), none, 1⟩]
def r53_3 : List CO := [
  ⟨some 2, .mv (.c (.d (.bool true))), none, 0⟩,
  ⟨some 3, .mv (.c (.d (.bool true))), none, 1⟩,
  ⟨some 4, .mv (.c (.d (.bool false))), none, 3⟩,
  ⟨some 5, .mv (.c (.d (.bool false))), none, 7⟩]
def r53_4 : List CO := [
  ⟨some 10, .bin .int .eql (.t 6) (.c (.d (.int .i64 2))), none, 0⟩,
  ⟨some 9, .mv (.t 10), none, 1⟩]
def r53_5 : List CO := [
  ⟨some 11, .bin .int .eql (.t 6) (.c (.d (.int .i64 5))), none, 0⟩,
  ⟨some 9, .mv (.t 11), none, 1⟩]
def r53_6 : List CO := [
  ⟨some 2, .mv (.c (.d (.bool false))), none, 0⟩,
  ⟨some 3, .mv (.c (.d (.bool true))), none, 1⟩,
  ⟨some 4, .mv (.c (.d (.bool false))), none, 3⟩,
  ⟨some 5, .mv (.c (.d (.bool false))), none, 7⟩]
def r53_7 : List CO := [
  ⟨some 13, .bin .int .eql (.t 6) (.c (.d (.int .i64 3))), none, 0⟩,
  ⟨some 12, .mv (.t 13), none, 1⟩]
def r53_8 : List CO := [
  ⟨some 2, .mv (.c (.d (.bool false))), none, 0⟩,
  ⟨some 3, .mv (.c (.d (.bool true))), none, 1⟩,
  ⟨some 4, .mv (.c (.d (.bool false))), none, 3⟩,
  ⟨some 5, .mv (.c (.d (.bool true))), none, 7⟩]
def r53_9 : List CO := [
  ⟨some 15, .bin .int .eql (.t 6) (.c (.d (.int .i64 4))), none, 0⟩,
  ⟨some 14, .mv (.t 15), none, 1⟩]
def r53_10 : List CO := [
  ⟨some 2, .mv (.c (.d (.bool false))), none, 0⟩,
  ⟨some 3, .mv (.c (.d (.bool true))), none, 1⟩,
  ⟨some 4, .mv (.c (.d (.bool true))), none, 3⟩,
  ⟨some 5, .mv (.c (.d (.bool false))), none, 7⟩]
def r53_11 : List CO := [
  ⟨some 2, .mv (.c (.d (.bool false))), none, 0⟩,
  ⟨some 3, .mv (.c (.d (.bool false))), none, 1⟩,
  ⟨some 4, .mv (.c (.d (.bool false))), none, 3⟩,
  ⟨some 5, .mv (.c (.d (.bool false))), none, 7⟩]
def c53 : CF := { body := .seq (.reg r53_0 false (some [0])) (.seq (.seq (.reg r53_1 false (some [6])) (.block 0 (.seq (.reg r53_2 false (some [6, 7])) (.cond (.t 7) (.seq (.reg r53_3 false (some [2, 3, 4, 5])) (.ret)) (.seq (.seq (.reg r53_4 false (some [6, 9])) (.cond (.t 9) (.skip) (.reg r53_5 false (some [6, 9])))) (.cond (.t 9) (.seq (.reg r53_6 false (some [2, 3, 4, 5])) (.ret)) (.seq (.reg r53_7 false (some [6, 12])) (.cond (.t 12) (.seq (.reg r53_8 false (some [2, 3, 4, 5])) (.ret)) (.seq (.reg r53_9 false (some [14])) (.cond (.t 14) (.seq (.reg r53_10 false (some [2, 3, 4, 5])) (.ret)) (.skip))))))))))) (.seq (.reg r53_11 false (some [2, 3, 4, 5])) (.ret))), res := [.tmp 2, .tmp 3, .tmp 4, .tmp 5], rowArgs := [], keep := false, rowRes := [], clone := none, dl := none }
/- 54 kaudit/kauditref25.Put -/
def r54_0 : List CO := [
  ⟨some 4, .mv (.c (.d (.sl .nil 0 []))), none, 0⟩]
def r54_1 : List CO := [
  ⟨some 5, .mv (.t 1), none, 0⟩,
  ⟨some 6, .bin .int .geq (.t 5) (.c (.d (.int .i64 128))), none, 1⟩]
def r54_2 : List CO := [
  ⟨some 7, .mv (.t 0), none, 0⟩,
  ⟨some 8, .mv (.t 1), none, 0⟩,
  ⟨some 9, .bin .int .rem (.t 8) (.c (.d (.int .i64 128))), none, 2⟩,
  ⟨some 10, .conv .u8 (.t 9), none, 6⟩,
  ⟨some 11, .bin .int .add (.t 10) (.c (.d (.int .u8 128))), none, 14⟩,
  ⟨some 12, .bslice 1 1 [.int .u8 0] false [(0, (.t 11))], none, 30⟩,
  ⟨some 13, .app 1 1 (.t 7) (.t 12), none, 63⟩,
  ⟨some 0, .mv (.t 13), none, 127⟩]
def r54_3 : List CO := [
  ⟨some 14, .mv (.t 1), none, 0⟩,
  ⟨some 15, .bin .int .quo (.t 14) (.c (.d (.int .i64 128))), none, 1⟩,
  ⟨some 1, .mv (.t 15), none, 3⟩]
def l54_4 : CCode := .seq (.seq (.reg r54_1 false (some [0, 1, 6])) (.cond (.t 6) (.skip) (.exit 0))) (.block 1 (.seq (.reg r54_2 false (some [0, 1])) (.reg r54_3 false (some [0, 1]))))
def r54_5 : List CO := [
  ⟨some 16, .mv (.t 0), none, 0⟩,
  ⟨some 17, .mv (.t 1), none, 0⟩,
  ⟨some 18, .conv .u8 (.t 17), none, 2⟩,
  ⟨some 19, .bslice 1 1 [.int .u8 0] false [(0, (.t 18))], none, 6⟩,
  ⟨some 20, .app 1 1 (.t 16) (.t 19), none, 15⟩,
  ⟨some 4, .mv (.t 20), none, 31⟩]
def c54 : CF := { body := .seq (.reg r54_0 false (some [0, 1])) (.seq (.block 0 (.loop [(0, some 1), (1, none)] l54_4)) (.seq (.reg r54_5 false (some [4])) (.ret))), res := [.tmp 4], rowArgs := [(0, 1)], keep := true, rowRes := [], clone := none, dl := none }
/- 55 kaudit/logfile.HostName -/
def r55_0 : List CO := [
  ⟨some 2, .mv (.c (.d (.bool false))), none, 0⟩]
def r55_1 : List CO := [
  ⟨some 3, .mv (.c (.d (.int .i64 0))), none, 0⟩]
def r55_2 : List CO := [
  ⟨some 5, .mv (.t 3), none, 0⟩,
  ⟨some 6, .mv (.t 0), none, 0⟩,
  ⟨some 7, .len .str (.t 6), none, 2⟩,
  ⟨some 8, .bin .int .lss (.t 5) (.t 7), none, 7⟩]
def r55_3 : List CO := [
  ⟨some 11, .mv (.t 0), none, 0⟩,
  ⟨some 12, .mv (.t 3), none, 0⟩,
  ⟨some 13, .idxStr (.t 11) (.t 12), none, 3⟩,
  ⟨some 4, .mv (.t 13), none, 7⟩]
def r55_4 : List CO := [
  ⟨some 14, .mv (.t 4), none, 0⟩,
  ⟨some 15, .bin .int .lss (.t 14) (.c (.d (.int .u8 97))), none, 1⟩,
  ⟨some 16, .mv (.t 15), none, 3⟩,
  ⟨some 17, .mv (.t 4), some (16, false), 7⟩,
  ⟨some 18, .bin .int .gtr (.t 17) (.c (.d (.int .u8 122))), some (16, false), 15⟩,
  ⟨some 19, .pick (.t 16) (.c (.d (.bool true))) (.t 18), none, 31⟩,
  ⟨some 20, .mv (.t 19), none, 63⟩,
  ⟨some 21, .mv (.t 4), some (20, true), 127⟩,
  ⟨some 22, .bin .int .lss (.t 21) (.c (.d (.int .u8 48))), some (20, true), 255⟩,
  ⟨some 23, .mv (.t 22), some (20, true), 511⟩,
  ⟨some 24, .mv (.t 4), some (23, false), 1023⟩,
  ⟨some 25, .bin .int .gtr (.t 24) (.c (.d (.int .u8 57))), some (23, false), 2047⟩,
  ⟨some 26, .pick (.t 23) (.c (.d (.bool true))) (.t 25), some (20, true), 4095⟩,
  ⟨some 27, .pick (.t 20) (.t 26) (.c (.d (.bool false))), none, 8191⟩]
def r55_5 : List CO := [
  ⟨some 2, .mv (.c (.d (.bool false))), none, 0⟩]
def r55_6 : List CO := [
  ⟨some 9, .mv (.t 3), none, 0⟩,
  ⟨some 10, .bin .int .add (.t 9) (.c (.d (.int .i64 1))), none, 1⟩,
  ⟨some 3, .mv (.t 10), none, 3⟩]
def l55_7 : CCode := .seq (.seq (.reg r55_2 false (some [0, 3, 8])) (.cond (.t 8) (.skip) (.exit 0))) (.seq (.block 1 (.seq (.reg r55_3 false (some [0, 3, 4])) (.seq (.reg r55_4 false (some [0, 3, 27])) (.cond (.t 27) (.seq (.reg r55_5 false (some [2])) (.ret)) (.skip))))) (.reg r55_6 false (some [0, 3])))
def r55_8 : List CO := [
  ⟨some 28, .mv (.t 0), none, 0⟩,
  ⟨some 29, .len .str (.t 28), none, 1⟩,
  ⟨some 30, .bin .int .gtr (.t 29) (.c (.d (.int .i64 0))), none, 3⟩,
  ⟨some 31, .mv (.t 30), none, 7⟩,
  ⟨some 32, .mv (.t 0), some (31, true), 15⟩,
  ⟨some 33, .len .str (.t 32), some (31, true), 31⟩,
  ⟨some 34, .bin .int .leq (.t 33) (.c (.d (.int .i64 16))), some (31, true), 63⟩,
  ⟨some 35, .pick (.t 31) (.t 34) (.c (.d (.bool false))), none, 127⟩,
  ⟨some 2, .mv (.t 35), none, 255⟩]
def c55 : CF := { body := .seq (.reg r55_0 false (some [0])) (.seq (.seq (.reg r55_1 false (some [0, 3])) (.block 0 (.loop [(0, none), (3, none)] l55_7))) (.seq (.reg r55_8 false (some [2])) (.ret))), res := [.tmp 2], rowArgs := [], keep := false, rowRes := [], clone := none, dl := none }
/- 56 kaudit/wire.within -/
def r56_0 : List CO := [
  ⟨some 4, .mv (.c (.d (.bool false))), none, 0⟩]
def r56_1 : List CO := [
  ⟨some 5, .mv (.t 0), none, 0⟩,
  ⟨some 6, .mv (.t 1), none, 0⟩,
  ⟨some 7, .bin .int .geq (.t 5) (.t 6), none, 3⟩,
  ⟨some 8, .mv (.t 7), none, 7⟩,
  ⟨some 9, .mv (.t 0), some (8, true), 15⟩,
  ⟨some 10, .bin .int .leq (.t 9) (.c (.d (.int .i64 1099511627776))), some (8, true), 31⟩,
  ⟨some 11, .pick (.t 8) (.t 10) (.c (.d (.bool false))), none, 63⟩,
  ⟨some 4, .mv (.t 11), none, 127⟩]
def c56 : CF := { body := .seq (.reg r56_0 false (some [0, 1])) (.seq (.reg r56_1 false (some [4])) (.ret)), res := [.tmp 4], rowArgs := [], keep := false, rowRes := [], clone := none, dl := none }
/- 57 kaudit/kauditref25.HostName -/
def r57_0 : List CO := [
  ⟨some 2, .mv (.c (.d (.bool false))), none, 0⟩]
def r57_1 : List CO := [
  ⟨some 3, .mv (.c (.d (.int .i64 0))), none, 0⟩]
def r57_2 : List CO := [
  ⟨some 5, .mv (.t 3), none, 0⟩,
  ⟨some 6, .mv (.t 0), none, 0⟩,
  ⟨some 7, .len .str (.t 6), none, 2⟩,
  ⟨some 8, .bin .int .lss (.t 5) (.t 7), none, 7⟩]
def r57_3 : List CO := [
  ⟨some 11, .mv (.t 0), none, 0⟩,
  ⟨some 12, .mv (.t 3), none, 0⟩,
  ⟨some 13, .idxStr (.t 11) (.t 12), none, 3⟩,
  ⟨some 4, .mv (.t 13), none, 7⟩]
def r57_4 : List CO := [
  ⟨some 14, .mv (.t 4), none, 0⟩,
  ⟨some 15, .bin .int .lss (.t 14) (.c (.d (.int .u8 97))), none, 1⟩,
  ⟨some 16, .mv (.t 15), none, 3⟩,
  ⟨some 17, .mv (.t 4), some (16, false), 7⟩,
  ⟨some 18, .bin .int .gtr (.t 17) (.c (.d (.int .u8 122))), some (16, false), 15⟩,
  ⟨some 19, .pick (.t 16) (.c (.d (.bool true))) (.t 18), none, 31⟩,
  ⟨some 20, .mv (.t 19), none, 63⟩,
  ⟨some 21, .mv (.t 4), some (20, true), 127⟩,
  ⟨some 22, .bin .int .lss (.t 21) (.c (.d (.int .u8 48))), some (20, true), 255⟩,
  ⟨some 23, .mv (.t 22), some (20, true), 511⟩,
  ⟨some 24, .mv (.t 4), some (23, false), 1023⟩,
  ⟨some 25, .bin .int .gtr (.t 24) (.c (.d (.int .u8 57))), some (23, false), 2047⟩,
  ⟨some 26, .pick (.t 23) (.c (.d (.bool true))) (.t 25), some (20, true), 4095⟩,
  ⟨some 27, .pick (.t 20) (.t 26) (.c (.d (.bool false))), none, 8191⟩]
def r57_5 : List CO := [
  ⟨some 2, .mv (.c (.d (.bool false))), none, 0⟩]
def r57_6 : List CO := [
  ⟨some 9, .mv (.t 3), none, 0⟩,
  ⟨some 10, .bin .int .add (.t 9) (.c (.d (.int .i64 1))), none, 1⟩,
  ⟨some 3, .mv (.t 10), none, 3⟩]
def l57_7 : CCode := .seq (.seq (.reg r57_2 false (some [0, 3, 8])) (.cond (.t 8) (.skip) (.exit 0))) (.seq (.block 1 (.seq (.reg r57_3 false (some [0, 3, 4])) (.seq (.reg r57_4 false (some [0, 3, 27])) (.cond (.t 27) (.seq (.reg r57_5 false (some [2])) (.ret)) (.skip))))) (.reg r57_6 false (some [0, 3])))
def r57_8 : List CO := [
  ⟨some 28, .mv (.t 0), none, 0⟩,
  ⟨some 29, .len .str (.t 28), none, 1⟩,
  ⟨some 30, .bin .int .geq (.t 29) (.c (.d (.int .i64 1))), none, 3⟩,
  ⟨some 31, .mv (.t 30), none, 7⟩,
  ⟨some 32, .mv (.t 0), some (31, true), 15⟩,
  ⟨some 33, .len .str (.t 32), some (31, true), 31⟩,
  ⟨some 34, .bin .int .leq (.t 33) (.c (.d (.int .i64 16))), some (31, true), 63⟩,
  ⟨some 35, .pick (.t 31) (.t 34) (.c (.d (.bool false))), none, 127⟩,
  ⟨some 2, .mv (.t 35), none, 255⟩]
def c57 : CF := { body := .seq (.reg r57_0 false (some [0])) (.seq (.seq (.reg r57_1 false (some [0, 3])) (.block 0 (.loop [(0, none), (3, none)] l57_7))) (.seq (.reg r57_8 false (some [2])) (.ret))), res := [.tmp 2], rowArgs := [], keep := false, rowRes := [], clone := none, dl := none }
/- 58 bytes.Clone -/
def r58_0 : List CO := [
  ⟨some 2, .mv (.c (.d (.sl .nil 0 []))), none, 0⟩]
def r58_1 : List CO := [
  ⟨some 3, .mv (.t 0), none, 0⟩,
  ⟨some 4, .bin .sl .eql (.t 3) (.c (.d (.sl .nil 0 []))), none, 1⟩]
def r58_2 : List CO := [
  ⟨some 2, .mv (.c (.d (.sl .nil 0 []))), none, 0⟩]
def r58_3 : List CO := [
  ⟨some 5, .bslice 1 0 [] false [], none, 0⟩,
  ⟨some 6, .mv (.t 0), none, 0⟩,
  ⟨some 7, .app 1 1 (.t 5) (.t 6), none, 3⟩,
  ⟨some 2, .mv (.t 7), none, 7⟩]
def c58 : CF := { body := .seq (.reg r58_0 false (some [0])) (.seq (.seq (.reg r58_1 false (some [0, 4])) (.cond (.t 4) (.seq (.reg r58_2 false (some [2])) (.ret)) (.skip))) (.seq (.reg r58_3 false (some [2])) (.ret))), res := [.tmp 2], rowArgs := [], keep := false, rowRes := [], clone := (some 1), dl := none }
/- 59 kaudit/wire.decode -/
def r59_0 : List CO := [
  ⟨some 2, .alloc [.d (.int .i64 0), .d (.str ⟨⟨[]⟩⟩), .d (.int .i64 0), .d (.int .i64 0), .d (.int .i64 0), .d (.sl .nil 0 [])] [], none, 0⟩,
  ⟨some 3, .mv (.c (.d (.bool false))), none, 0⟩]
def r59_1 : List CO := [
  ⟨some 13, .mv (.t 0), none, 0⟩,
  ⟨some 14, .slSl 1 (.t 13) (some (.c (.d (.int .i64 4)))) none none, none, 1⟩,
  ⟨some 4, .mv (.t 14), none, 3⟩]
def r59_2 : List CO := [
  ⟨some 15, .mv (.t 4), none, 0⟩,
  ⟨some 16, .ia 1 (.t 15) (.c (.d (.int .i64 0))), none, 1⟩,
  ⟨some 17, .load false 1 (.t 16), none, 3⟩,
  ⟨some 18, .conv .i64 (.t 17), none, 7⟩,
  ⟨some 19, .build [.d (.int .i64 0), .d (.str ⟨⟨[]⟩⟩), .d (.int .i64 0), .d (.int .i64 0), .d (.int .i64 0), .d (.sl .nil 0 [])] [(0, 1, (.t 18))], none, 15⟩,
  ⟨some 5, .alloc [.d (.int .i64 0), .d (.str ⟨⟨[]⟩⟩), .d (.int .i64 0), .d (.int .i64 0), .d (.int .i64 0), .d (.sl .nil 0 [])] [], none, 0⟩,
  ⟨none, .store 6 (.t 5) (.t 19), none, 63⟩]
def r59_3 : List CO := [
  ⟨some 21, .call (.c (.fn 45 [])) [], none, 0⟩,
  ⟨some 22, .fa 0 (.t 5), none, 0⟩,
  ⟨some 23, .load false 1 (.t 22), none, 2⟩,
  ⟨some 24, .look [.int] false true (.sl .nil 0 []) (.t 21) (.t 23), none, 7⟩,
  ⟨some 20, .mv (.t 24), none, 15⟩,
  ⟨some 25, .ext 0 (.t 20), none, 31⟩,
  ⟨some 26, .ext 1 (.t 20), none, 31⟩,
  ⟨some 6, .mv (.t 25), none, 63⟩,
  ⟨some 7, .mv (.t 26), none, 255⟩]
def r59_4 : List CO := [
  ⟨some 27, .mv (.t 4), none, 0⟩,
  ⟨some 28, .slSl 1 (.t 27) (some (.c (.d (.int .i64 1)))) none none, none, 1⟩,
  ⟨some 4, .mv (.t 28), none, 3⟩]
def r59_5 : List CO := [
  ⟨some 29, .mv (.t 6), none, 0⟩,
  ⟨some 30, .len .sl (.t 29), none, 1⟩,
  ⟨some 31, .mv (.c (.d (.int .i64 0))), none, 0⟩]
def r59_6 : List CO := [
  ⟨some 32, .bin .int .lss (.t 31) (.t 30), none, 0⟩]
def r59_7 : List CO := [
  ⟨some 33, .ia 1 (.t 29) (.t 31), none, 0⟩,
  ⟨some 34, .load false 1 (.t 33), none, 1⟩,
  ⟨some 9, .mv (.t 34), none, 3⟩]
def r59_8 : List CO := [
  ⟨some 35, .mv (.t 7), none, 0⟩,
  ⟨some 36, .un .not (.t 35), none, 1⟩]
def r59_9 : List CO := [
  ⟨some 37, .mv (.t 9), none, 0⟩]
def r59_10 : List CO := [
  ⟨some 39, .bin .int .eql (.t 37) (.c (.d (.int .i64 1))), none, 0⟩,
  ⟨some 38, .mv (.t 39), none, 1⟩]
def r59_11 : List CO := [
  ⟨some 40, .mv (.t 4), none, 0⟩,
  ⟨some 41, .len .sl (.t 40), none, 1⟩,
  ⟨some 42, .bin .int .eql (.t 41) (.c (.d (.int .i64 0))), none, 3⟩,
  ⟨some 43, .mv (.t 42), none, 7⟩,
  ⟨some 44, .mv (.t 4), some (43, false), 15⟩,
  ⟨some 45, .len .sl (.t 44), some (43, false), 31⟩,
  ⟨some 46, .mv (.t 4), some (43, false), 15⟩,
  ⟨some 47, .ia 1 (.t 46) (.c (.d (.int .i64 0))), some (43, false), 79⟩,
  ⟨some 48, .load false 1 (.t 47), some (43, false), 207⟩,
  ⟨some 49, .conv .i64 (.t 48), some (43, false), 463⟩,
  ⟨some 50, .bin .int .add (.t 49) (.c (.d (.int .i64 1))), some (43, false), 975⟩,
  ⟨some 51, .bin .int .lss (.t 45) (.t 50), some (43, false), 2047⟩,
  ⟨some 52, .pick (.t 43) (.c (.d (.bool true))) (.t 51), none, 4095⟩]
def r59_12 : List CO := [
  ⟨some 53, .build [.d (.int .i64 0), .d (.str ⟨⟨[]⟩⟩), .d (.int .i64 0), .d (.int .i64 0), .d (.int .i64 0), .d (.sl .nil 0 [])] [], none, 0⟩,
  ⟨none, .store 6 (.t 2) (.t 53), none, 1⟩,
  ⟨some 3, .mv (.c (.d (.bool false))), none, 3⟩]
def r59_13 : List CO := [
  ⟨some 54, .mv (.t 4), none, 0⟩,
  ⟨some 55, .ia 1 (.t 54) (.c (.d (.int .i64 0))), none, 1⟩,
  ⟨some 56, .load false 1 (.t 55), none, 3⟩,
  ⟨some 57, .conv .i64 (.t 56), none, 7⟩,
  ⟨some 58, .bin .int .add (.t 57) (.c (.d (.int .i64 1))), none, 15⟩,
  ⟨some 10, .mv (.t 58), none, 31⟩]
def r59_14 : List CO := [
  ⟨some 59, .mv (.t 4), none, 0⟩,
  ⟨some 60, .mv (.t 10), none, 0⟩,
  ⟨some 61, .slSl 1 (.t 59) (some (.c (.d (.int .i64 1)))) (some (.t 60)) none, none, 3⟩,
  ⟨some 62, .b2s (.t 61), none, 7⟩,
  ⟨some 63, .mv (.t 4), none, 0⟩,
  ⟨some 64, .mv (.t 10), none, 0⟩,
  ⟨some 65, .slSl 1 (.t 63) (some (.t 64)) none none, none, 48⟩,
  ⟨some 66, .fa 1 (.t 5), none, 15⟩,
  ⟨none, .store 1 (.t 66) (.t 62), none, 143⟩,
  ⟨some 4, .mv (.t 65), none, 511⟩]
def r59_15 : List CO := [
  ⟨some 68, .bin .int .eql (.t 37) (.c (.d (.int .i64 2))), none, 0⟩,
  ⟨some 67, .mv (.t 68), none, 1⟩]
def r59_16 : List CO := [
  ⟨some 70, .mv (.t 4), none, 0⟩,
  ⟨some 71, .call (.c (.fn 63 [])) [(.t 70)], none, 1⟩,
  ⟨some 69, .mv (.t 71), none, 3⟩,
  ⟨some 72, .ext 0 (.t 69), none, 7⟩,
  ⟨some 73, .ext 1 (.t 69), none, 7⟩,
  ⟨some 74, .ext 2 (.t 69), none, 7⟩,
  ⟨some 75, .fa 2 (.t 5), none, 15⟩,
  ⟨none, .store 1 (.t 75) (.t 72), none, 79⟩,
  ⟨some 4, .mv (.t 73), none, 223⟩,
  ⟨some 7, .mv (.t 74), none, 511⟩]
def r59_17 : List CO := [
  ⟨some 77, .bin .int .eql (.t 37) (.c (.d (.int .i64 3))), none, 0⟩,
  ⟨some 76, .mv (.t 77), none, 1⟩]
def r59_18 : List CO := [
  ⟨some 79, .mv (.t 4), none, 0⟩,
  ⟨some 80, .call (.c (.fn 63 [])) [(.t 79)], none, 1⟩,
  ⟨some 78, .mv (.t 80), none, 3⟩,
  ⟨some 81, .ext 0 (.t 78), none, 7⟩,
  ⟨some 82, .ext 1 (.t 78), none, 7⟩,
  ⟨some 83, .ext 2 (.t 78), none, 7⟩,
  ⟨some 84, .fa 3 (.t 5), none, 15⟩,
  ⟨none, .store 1 (.t 84) (.t 81), none, 79⟩,
  ⟨some 4, .mv (.t 82), none, 223⟩,
  ⟨some 7, .mv (.t 83), none, 511⟩]
def r59_19 : List CO := [
  ⟨some 86, .bin .int .eql (.t 37) (.c (.d (.int .i64 4))), none, 0⟩,
  ⟨some 85, .mv (.t 86), none, 1⟩]
def r59_20 : List CO := [
  ⟨some 88, .mv (.t 4), none, 0⟩,
  ⟨some 89, .call (.c (.fn 63 [])) [(.t 88)], none, 1⟩,
  ⟨some 87, .mv (.t 89), none, 3⟩,
  ⟨some 90, .ext 0 (.t 87), none, 7⟩,
  ⟨some 91, .ext 1 (.t 87), none, 7⟩,
  ⟨some 92, .ext 2 (.t 87), none, 7⟩,
  ⟨some 93, .fa 4 (.t 5), none, 15⟩,
  ⟨none, .store 1 (.t 93) (.t 90), none, 79⟩,
  ⟨some 4, .mv (.t 91), none, 223⟩,
  ⟨some 7, .mv (.t 92), none, 511⟩]
def r59_21 : List CO := [
  ⟨some 95, .bin .int .eql (.t 37) (.c (.d (.int .i64 5))), none, 0⟩,
  ⟨some 94, .mv (.t 95), none, 1⟩]
def r59_22 : List CO := [
  ⟨some 96, .mv (.t 4), none, 0⟩,
  ⟨some 97, .call (.c (.fn 58 [])) [(.t 96)], none, 1⟩,
  ⟨some 98, .fa 5 (.t 5), none, 3⟩,
  ⟨none, .store 1 (.t 98) (.t 97), none, 7⟩,
  ⟨some 4, .mv (.c (.d (.sl .nil 0 []))), none, 15⟩]
def r59_23 : List CO := [
  ⟨some 99, .bin .int .add (.t 31) (.c (.d (.int .i64 1))), none, 0⟩,
  ⟨some 31, .mv (.t 99), none, 1⟩]
def l59_24 : CCode := .seq (.reg r59_6 false (some [0, 2, 4, 5, 7, 29, 30, 31, 32])) (.seq (.cond (.t 32) (.skip) (.exit 0)) (.seq (.block 1 (.seq (.reg r59_7 false (some [0, 2, 4, 5, 7, 9, 29, 30, 31])) (.seq (.seq (.reg r59_8 false (some [0, 2, 4, 5, 7, 9, 29, 30, 31, 36])) (.cond (.t 36) (.exit 0) (.skip))) (.seq (.reg r59_9 false (some [0, 2, 4, 5, 7, 29, 30, 31, 37])) (.block 2 (.seq (.reg r59_10 false (some [0, 2, 4, 5, 7, 29, 30, 31, 37, 38])) (.cond (.t 38) (.seq (.seq (.reg r59_11 false (some [0, 2, 4, 5, 7, 29, 30, 31, 52])) (.cond (.t 52) (.seq (.reg r59_12 false (some [2, 3])) (.ret)) (.skip))) (.seq (.reg r59_13 false (some [0, 2, 4, 5, 7, 10, 29, 30, 31])) (.reg r59_14 true (some [0, 2, 4, 5, 7, 29, 30, 31])))) (.seq (.reg r59_15 false (some [0, 2, 4, 5, 7, 29, 30, 31, 37, 67])) (.cond (.t 67) (.reg r59_16 false (some [0, 2, 4, 5, 7, 29, 30, 31])) (.seq (.reg r59_17 false (some [0, 2, 4, 5, 7, 29, 30, 31, 37, 76])) (.cond (.t 76) (.reg r59_18 false (some [0, 2, 4, 5, 7, 29, 30, 31])) (.seq (.reg r59_19 false (some [0, 2, 4, 5, 7, 29, 30, 31, 37, 85])) (.cond (.t 85) (.reg r59_20 false (some [0, 2, 4, 5, 7, 29, 30, 31])) (.seq (.reg r59_21 false (some [0, 2, 4, 5, 7, 29, 30, 31, 94])) (.cond (.t 94) (.reg r59_22 false (some [0, 2, 4, 5, 7, 29, 30, 31])) (.skip)))))))))))))))) (.reg r59_23 false (some [0, 2, 4, 5, 7, 29, 30, 31]))))
def r59_25 : List CO := [
  ⟨some 100, .mv (.t 7), none, 0⟩,
  ⟨some 101, .un .not (.t 100), none, 1⟩]
def r59_26 : List CO := [
  ⟨some 102, .build [.d (.int .i64 0), .d (.str ⟨⟨[]⟩⟩), .d (.int .i64 0), .d (.int .i64 0), .d (.int .i64 0), .d (.sl .nil 0 [])] [], none, 0⟩,
  ⟨none, .store 6 (.t 2) (.t 102), none, 1⟩,
  ⟨some 3, .mv (.c (.d (.bool false))), none, 3⟩]
def r59_27 : List CO := [
  ⟨some 104, .load true 6 (.t 5), none, 0⟩,
  ⟨some 105, .call (.c (.fn 17 [])) [(.t 104)], none, 1⟩,
  ⟨some 103, .mv (.t 105), none, 3⟩,
  ⟨some 106, .ext 0 (.t 103), none, 7⟩,
  ⟨some 107, .ext 1 (.t 103), none, 7⟩,
  ⟨some 11, .mv (.t 106), none, 15⟩,
  ⟨some 12, .mv (.t 107), none, 63⟩]
def r59_28 : List CO := [
  ⟨some 108, .load true 6 (.t 5), none, 0⟩,
  ⟨some 109, .mv (.t 12), none, 0⟩,
  ⟨some 110, .bin .int .eql (.t 109) (.c (.d (.int .i64 0))), none, 2⟩,
  ⟨some 111, .mv (.t 110), none, 6⟩,
  ⟨some 112, .mv (.t 11), some (111, true), 14⟩,
  ⟨some 113, .mv (.t 0), some (111, true), 14⟩,
  ⟨some 114, .call (.c (.fn 64 [])) [(.t 112), (.t 113)], some (111, true), 62⟩,
  ⟨some 115, .pick (.t 111) (.t 114) (.c (.d (.bool false))), none, 126⟩,
  ⟨none, .store 6 (.t 2) (.t 108), none, 127⟩,
  ⟨some 3, .mv (.t 115), none, 511⟩]
def c59 : CF := { body := .seq (.reg r59_0 false (some [0, 2])) (.seq (.reg r59_1 false (some [0, 2, 4])) (.seq (.reg r59_2 false (some [0, 2, 4, 5])) (.seq (.reg r59_3 true (some [0, 2, 4, 5, 6, 7])) (.seq (.reg r59_4 false (some [0, 2, 4, 5, 6, 7])) (.seq (.seq (.reg r59_5 false (some [0, 2, 4, 5, 7, 29, 30, 31])) (.block 0 (.loop [(0, none), (2, none), (4, none), (5, none), (7, none), (29, none), (30, none), (31, none)] l59_24))) (.seq (.seq (.reg r59_25 false (some [0, 2, 5, 101])) (.cond (.t 101) (.seq (.reg r59_26 false (some [2, 3])) (.ret)) (.skip))) (.seq (.reg r59_27 false (some [0, 2, 5, 11, 12])) (.seq (.reg r59_28 true (some [2, 3])) (.ret))))))))), res := [.cell 2 true 6, .tmp 3], rowArgs := [], keep := false, rowRes := [], clone := none, dl := none }
/- 61 (kaudit/kauditref33.reader).number -/
def r61_0 : List CO := [
  ⟨some 2, .mv (.c (.d (.int .i64 0))), none, 0⟩]
def r61_1 : List CO := [
  ⟨some 7, .mv (.t 0), none, 0⟩,
  ⟨some 8, .nilck (.t 7), none, 1⟩,
  ⟨some 9, .fa 0 (.t 8), none, 3⟩,
  ⟨some 10, .load false 1 (.t 9), none, 7⟩,
  ⟨some 11, .call (.c (.fn 65 [])) [(.t 10)], none, 15⟩,
  ⟨some 6, .mv (.t 11), none, 31⟩,
  ⟨some 12, .ext 0 (.t 6), none, 63⟩,
  ⟨some 13, .ext 1 (.t 6), none, 63⟩,
  ⟨some 14, .ext 2 (.t 6), none, 63⟩,
  ⟨some 3, .mv (.t 12), none, 127⟩,
  ⟨some 4, .mv (.t 13), none, 767⟩,
  ⟨some 5, .mv (.t 14), none, 2047⟩]
def r61_2 : List CO := [
  ⟨some 15, .mv (.t 0), none, 0⟩,
  ⟨some 16, .nilck (.t 15), none, 1⟩,
  ⟨some 17, .fa 1 (.t 16), none, 3⟩,
  ⟨some 18, .load false 1 (.t 17), none, 7⟩,
  ⟨some 19, .mv (.t 18), none, 15⟩,
  ⟨some 20, .mv (.t 5), some (19, false), 31⟩,
  ⟨some 21, .un .not (.t 20), some (19, false), 63⟩,
  ⟨some 22, .pick (.t 19) (.c (.d (.bool true))) (.t 21), none, 127⟩]
def r61_3 : List CO := [
  ⟨some 23, .mv (.t 0), none, 0⟩,
  ⟨some 24, .nilck (.t 23), none, 1⟩,
  ⟨some 25, .fa 1 (.t 24), none, 3⟩,
  ⟨none, .store 1 (.t 25) (.c (.d (.bool true))), none, 7⟩]
def r61_4 : List CO := [
  ⟨some 2, .mv (.c (.d (.int .i64 0))), none, 0⟩]
def r61_5 : List CO := [
  ⟨some 26, .mv (.t 0), none, 0⟩,
  ⟨some 27, .mv (.t 0), none, 0⟩,
  ⟨some 28, .nilck (.t 27), none, 2⟩,
  ⟨some 29, .fa 0 (.t 28), none, 6⟩,
  ⟨some 30, .load false 1 (.t 29), none, 14⟩,
  ⟨some 31, .mv (.t 4), none, 0⟩,
  ⟨some 32, .slSl 1 (.t 30) (some (.t 31)) none none, none, 62⟩,
  ⟨some 33, .nilck (.t 26), none, 127⟩,
  ⟨some 34, .fa 0 (.t 33), none, 255⟩,
  ⟨none, .store 1 (.t 34) (.t 32), none, 511⟩]
def r61_6 : List CO := [
  ⟨some 35, .mv (.t 3), none, 0⟩,
  ⟨some 2, .mv (.t 35), none, 1⟩]
def c61 : CF := { body := .seq (.reg r61_0 false (some [0])) (.seq (.reg r61_1 false (some [0, 3, 4, 5])) (.seq (.seq (.reg r61_2 false (some [0, 3, 4, 22])) (.cond (.t 22) (.seq (.reg r61_3 false (some [])) (.seq (.reg r61_4 false (some [2])) (.ret))) (.skip))) (.seq (.reg r61_5 false (some [3])) (.seq (.reg r61_6 false (some [2])) (.ret))))), res := [.tmp 2], rowArgs := [], keep := false, rowRes := [], clone := none, dl := none }
/- 63 kaudit/wire.number -/
def r63_0 : List CO := [
  ⟨some 2, .mv (.c (.d (.int .i64 0))), none, 0⟩,
  ⟨some 3, .mv (.c (.d (.sl .nil 0 []))), none, 1⟩,
  ⟨some 4, .mv (.c (.d (.bool false))), none, 3⟩]
def r63_1 : List CO := [
  ⟨some 9, .mv (.t 0), none, 0⟩,
  ⟨some 10, .call (.c (.fn 66 [])) [(.t 9)], none, 1⟩,
  ⟨some 8, .mv (.t 10), none, 3⟩,
  ⟨some 11, .ext 0 (.t 8), none, 7⟩,
  ⟨some 12, .ext 1 (.t 8), none, 7⟩,
  ⟨some 13, .ext 2 (.t 8), none, 7⟩,
  ⟨some 5, .mv (.t 11), none, 15⟩,
  ⟨some 6, .mv (.t 12), none, 95⟩,
  ⟨some 7, .mv (.t 13), none, 255⟩]
def r63_2 : List CO := [
  ⟨some 14, .mv (.t 5), none, 0⟩,
  ⟨some 15, .mv (.t 0), none, 0⟩,
  ⟨some 16, .mv (.t 6), none, 0⟩,
  ⟨some 17, .slSl 1 (.t 15) (some (.t 16)) none none, none, 6⟩,
  ⟨some 18, .mv (.t 7), none, 0⟩,
  ⟨some 2, .mv (.t 14), none, 1⟩,
  ⟨some 3, .mv (.t 17), none, 47⟩,
  ⟨some 4, .mv (.t 18), none, 127⟩]
def c63 : CF := { body := .seq (.reg r63_0 false (some [0])) (.seq (.reg r63_1 false (some [0, 5, 6, 7])) (.seq (.reg r63_2 true (some [2, 3, 4])) (.ret))), res := [.tmp 2, .tmp 3, .tmp 4], rowArgs := [], keep := false, rowRes := [], clone := none, dl := none }
/- 64 bytes.Equal -/
def r64_0 : List CO := [
  ⟨some 4, .mv (.c (.d (.bool false))), none, 0⟩]
def r64_1 : List CO := [
  ⟨some 5, .mv (.t 0), none, 0⟩,
  ⟨some 6, .b2s (.t 5), none, 1⟩,
  ⟨some 7, .mv (.t 1), none, 0⟩,
  ⟨some 8, .b2s (.t 7), none, 4⟩,
  ⟨some 9, .bin .str .eql (.t 6) (.t 8), none, 15⟩,
  ⟨some 4, .mv (.t 9), none, 31⟩]
def c64 : CF := { body := .seq (.reg r64_0 false (some [0, 1])) (.seq (.reg r64_1 false (some [4])) (.ret)), res := [.tmp 4], rowArgs := [], keep := false, rowRes := [], clone := none, dl := none }
/- 65 kaudit/kauditref25.Take -/
def r65_0 : List CO := [
  ⟨some 2, .mv (.c (.d (.int .i64 0))), none, 0⟩,
  ⟨some 3, .mv (.c (.d (.int .i64 0))), none, 1⟩,
  ⟨some 4, .mv (.c (.d (.bool false))), none, 3⟩]
def r65_1 : List CO := [
  ⟨some 5, .mv (.c (.d (.int .i64 0))), none, 0⟩]
def r65_2 : List CO := [
  ⟨some 6, .mv (.c (.d (.int .i64 0))), none, 0⟩]
def r65_3 : List CO := [
  ⟨some 7, .mv (.t 6), none, 0⟩,
  ⟨some 8, .mv (.t 0), none, 0⟩,
  ⟨some 9, .len .sl (.t 8), none, 2⟩,
  ⟨some 10, .bin .int .lss (.t 7) (.t 9), none, 7⟩,
  ⟨some 11, .mv (.t 10), none, 15⟩,
  ⟨some 12, .mv (.t 6), some (11, true), 31⟩,
  ⟨some 13, .bin .int .lss (.t 12) (.c (.d (.int .i64 9))), some (11, true), 63⟩,
  ⟨some 14, .pick (.t 11) (.t 13) (.c (.d (.bool false))), none, 127⟩]
def r65_4 : List CO := [
  ⟨some 17, .mv (.t 5), none, 0⟩,
  ⟨some 18, .mv (.t 0), none, 0⟩,
  ⟨some 19, .mv (.t 6), none, 0⟩,
  ⟨some 20, .ia 1 (.t 18) (.t 19), none, 6⟩,
  ⟨some 21, .load false 1 (.t 20), none, 14⟩,
  ⟨some 22, .bin .int .and (.t 21) (.c (.d (.int .u8 127))), none, 30⟩,
  ⟨some 23, .conv .i64 (.t 22), none, 62⟩,
  ⟨some 24, .mv (.t 6), none, 0⟩,
  ⟨some 25, .bin .int .mul (.c (.d (.int .i64 7))) (.t 24), none, 128⟩,
  ⟨some 26, .bin .int .shl (.t 23) (.t 25), none, 510⟩,
  ⟨some 27, .bin .int .or (.t 17) (.t 26), none, 1023⟩,
  ⟨some 5, .mv (.t 27), none, 2047⟩]
def r65_5 : List CO := [
  ⟨some 28, .mv (.t 0), none, 0⟩,
  ⟨some 29, .mv (.t 6), none, 0⟩,
  ⟨some 30, .ia 1 (.t 28) (.t 29), none, 3⟩,
  ⟨some 31, .load false 1 (.t 30), none, 7⟩,
  ⟨some 32, .bin .int .lss (.t 31) (.c (.d (.int .u8 128))), none, 15⟩]
def r65_6 : List CO := [
  ⟨some 33, .mv (.t 5), none, 0⟩,
  ⟨some 34, .mv (.t 6), none, 0⟩,
  ⟨some 35, .bin .int .add (.t 34) (.c (.d (.int .i64 1))), none, 2⟩,
  ⟨some 36, .mv (.t 6), none, 0⟩,
  ⟨some 37, .bin .int .eql (.t 36) (.c (.d (.int .i64 0))), none, 8⟩,
  ⟨some 38, .mv (.t 37), none, 24⟩,
  ⟨some 39, .mv (.t 0), some (38, false), 56⟩,
  ⟨some 40, .mv (.t 6), some (38, false), 56⟩,
  ⟨some 41, .ia 1 (.t 39) (.t 40), some (38, false), 248⟩,
  ⟨some 42, .load false 1 (.t 41), some (38, false), 504⟩,
  ⟨some 43, .bin .int .gtr (.t 42) (.c (.d (.int .u8 0))), some (38, false), 1016⟩,
  ⟨some 44, .pick (.t 38) (.c (.d (.bool true))) (.t 43), none, 2040⟩,
  ⟨some 2, .mv (.t 33), none, 57⟩,
  ⟨some 3, .mv (.t 35), none, 4159⟩,
  ⟨some 4, .mv (.t 44), none, 16383⟩]
def r65_7 : List CO := [
  ⟨some 15, .mv (.t 6), none, 0⟩,
  ⟨some 16, .bin .int .add (.t 15) (.c (.d (.int .i64 1))), none, 1⟩,
  ⟨some 6, .mv (.t 16), none, 3⟩]
def l65_8 : CCode := .seq (.seq (.reg r65_3 false (some [0, 5, 6, 14])) (.cond (.t 14) (.skip) (.exit 0))) (.seq (.block 1 (.seq (.reg r65_4 false (some [0, 5, 6])) (.seq (.reg r65_5 false (some [0, 5, 6, 32])) (.cond (.t 32) (.seq (.reg r65_6 true (some [2, 3, 4])) (.ret)) (.skip))))) (.reg r65_7 false (some [0, 5, 6])))
def r65_9 : List CO := [
  ⟨some 2, .mv (.c (.d (.int .i64 0))), none, 0⟩,
  ⟨some 3, .mv (.c (.d (.int .i64 0))), none, 1⟩,
  ⟨some 4, .mv (.c (.d (.bool false))), none, 3⟩]
def c65 : CF := { body := .seq (.reg r65_0 false (some [0])) (.seq (.reg r65_1 false (some [0, 5])) (.seq (.seq (.reg r65_2 false (some [0, 5, 6])) (.block 0 (.loop [(0, none), (5, none), (6, none)] l65_8))) (.seq (.reg r65_9 false (some [2, 3, 4])) (.ret)))), res := [.tmp 2, .tmp 3, .tmp 4], rowArgs := [], keep := false, rowRes := [], clone := none, dl := none }
/- 66 kaudit/fresh.Number -/
def r66_0 : List CO := [
  ⟨some 2, .mv (.c (.d (.int .i64 0))), none, 0⟩,
  ⟨some 3, .mv (.c (.d (.int .i64 0))), none, 1⟩,
  ⟨some 4, .mv (.c (.d (.bool false))), none, 3⟩]
def r66_1 : List CO := [
  ⟨some 5, .mv (.c (.d (.int .u64 0))), none, 0⟩]
def r66_2 : List CO := [
  ⟨some 8, .mv (.t 0), none, 0⟩,
  ⟨some 9, .len .sl (.t 8), none, 1⟩,
  ⟨some 10, .mv (.c (.d (.int .i64 0))), none, 0⟩]
def r66_3 : List CO := [
  ⟨some 11, .bin .int .lss (.t 10) (.t 9), none, 0⟩]
def r66_4 : List CO := [
  ⟨some 12, .mv (.t 10), none, 0⟩,
  ⟨some 13, .ia 1 (.t 8) (.t 10), none, 0⟩,
  ⟨some 14, .load false 1 (.t 13), none, 2⟩,
  ⟨some 6, .mv (.t 12), none, 7⟩,
  ⟨some 7, .mv (.t 14), none, 15⟩]
def r66_5 : List CO := [
  ⟨some 15, .mv (.t 6), none, 0⟩,
  ⟨some 16, .bin .int .eql (.t 15) (.c (.d (.int .i64 9))), none, 1⟩,
  ⟨some 17, .mv (.t 16), none, 3⟩,
  ⟨some 18, .mv (.t 6), some (17, false), 7⟩,
  ⟨some 19, .bin .int .gtr (.t 18) (.c (.d (.int .i64 0))), some (17, false), 15⟩,
  ⟨some 20, .mv (.t 19), some (17, false), 31⟩,
  ⟨some 21, .mv (.t 7), some (20, true), 63⟩,
  ⟨some 22, .bin .int .eql (.t 21) (.c (.d (.int .u8 0))), some (20, true), 127⟩,
  ⟨some 23, .pick (.t 20) (.t 22) (.c (.d (.bool false))), some (17, false), 255⟩,
  ⟨some 24, .pick (.t 17) (.c (.d (.bool true))) (.t 23), none, 511⟩]
def r66_6 : List CO := [
  ⟨some 2, .mv (.c (.d (.int .i64 0))), none, 0⟩,
  ⟨some 3, .mv (.c (.d (.int .i64 0))), none, 1⟩,
  ⟨some 4, .mv (.c (.d (.bool false))), none, 3⟩]
def r66_7 : List CO := [
  ⟨some 25, .mv (.t 5), none, 0⟩,
  ⟨some 26, .mv (.t 7), none, 0⟩,
  ⟨some 27, .bin .int .and (.t 26) (.c (.d (.int .u8 127))), none, 2⟩,
  ⟨some 28, .conv .u64 (.t 27), none, 6⟩,
  ⟨some 29, .mv (.t 6), none, 0⟩,
  ⟨some 30, .bin .int .mul (.c (.d (.int .i64 7))) (.t 29), none, 16⟩,
  ⟨some 31, .bin .int .shl (.t 28) (.t 30), none, 62⟩,
  ⟨some 32, .bin .int .or (.t 25) (.t 31), none, 127⟩,
  ⟨some 5, .mv (.t 32), none, 255⟩]
def r66_8 : List CO := [
  ⟨some 33, .mv (.t 7), none, 0⟩,
  ⟨some 34, .bin .int .lss (.t 33) (.c (.d (.int .u8 128))), none, 1⟩]
def r66_9 : List CO := [
  ⟨some 35, .mv (.t 5), none, 0⟩,
  ⟨some 36, .conv .i64 (.t 35), none, 1⟩,
  ⟨some 37, .mv (.t 6), none, 0⟩,
  ⟨some 38, .bin .int .add (.t 37) (.c (.d (.int .i64 1))), none, 4⟩,
  ⟨some 2, .mv (.t 36), none, 3⟩,
  ⟨some 3, .mv (.t 38), none, 31⟩,
  ⟨some 4, .mv (.c (.d (.bool true))), none, 63⟩]
def r66_10 : List CO := [
  ⟨some 39, .bin .int .add (.t 10) (.c (.d (.int .i64 1))), none, 0⟩,
  ⟨some 10, .mv (.t 39), none, 1⟩]
def l66_11 : CCode := .seq (.reg r66_3 false (some [5, 8, 9, 10, 11])) (.seq (.cond (.t 11) (.skip) (.exit 0)) (.seq (.block 1 (.seq (.reg r66_4 false (some [5, 6, 7, 8, 9, 10])) (.seq (.seq (.reg r66_5 false (some [5, 6, 7, 8, 9, 10, 24])) (.cond (.t 24) (.seq (.reg r66_6 false (some [2, 3, 4])) (.ret)) (.skip))) (.seq (.reg r66_7 false (some [5, 6, 7, 8, 9, 10])) (.seq (.reg r66_8 false (some [5, 6, 8, 9, 10, 34])) (.cond (.t 34) (.seq (.reg r66_9 false (some [2, 3, 4])) (.ret)) (.skip))))))) (.reg r66_10 false (some [5, 8, 9, 10]))))
def r66_12 : List CO := [
  ⟨some 2, .mv (.c (.d (.int .i64 0))), none, 0⟩,
  ⟨some 3, .mv (.c (.d (.int .i64 0))), none, 1⟩,
  ⟨some 4, .mv (.c (.d (.bool false))), none, 3⟩]
def c66 : CF := { body := .seq (.reg r66_0 false (some [0])) (.seq (.reg r66_1 false (some [0, 5])) (.seq (.seq (.reg r66_2 false (some [5, 8, 9, 10])) (.block 0 (.loop [(5, none), (8, none), (9, none), (10, none)] l66_11))) (.seq (.reg r66_12 false (some [2, 3, 4])) (.ret)))), res := [.tmp 2, .tmp 3, .tmp 4], rowArgs := [], keep := false, rowRes := [], clone := none, dl := none }
def prog : FuncId → Option CF := fun
  | 7 => some c7
  | 8 => some c8
  | 9 => some c9
  | 11 => some c11
  | 16 => some c16
  | 17 => some c17
  | 22 => some c22
  | 23 => some c23
  | 24 => some c24
  | 25 => some c25
  | 26 => some c26
  | 27 => some c27
  | 28 => some c28
  | 29 => some c29
  | 30 => some c30
  | 31 => some c31
  | 32 => some c32
  | 33 => some c33
  | 34 => some c34
  | 36 => some c36
  | 44 => some c44
  | 45 => some c45
  | 46 => some c46
  | 51 => some c51
  | 52 => some c52
  | 53 => some c53
  | 54 => some c54
  | 55 => some c55
  | 56 => some c56
  | 57 => some c57
  | 58 => some c58
  | 59 => some c59
  | 61 => some c61
  | 63 => some c63
  | 64 => some c64
  | 65 => some c65
  | 66 => some c66
  | _ => none
end Go.Vm.Wr
