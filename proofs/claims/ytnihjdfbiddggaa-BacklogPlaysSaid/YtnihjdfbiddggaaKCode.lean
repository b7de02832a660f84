/- A part of the proof of BacklogPlaysSaid: YtnihjdfbiddggaaCode. -/
import Derived.Test.YtnihjdfbiddggaaKV7
/- PRINTED BY mkseat.py of this repository: the compiled functions. -/
set_option linter.unusedVariables false
namespace Go.Vm.Bk
/- 3 kaudit/kauditlaw20.BacklogSettings -/
def r3_0 : List CO := [
  ⟨some 8, .mv (.c (.d (.bool false))), none, 0⟩]
def r3_1 : List CO := [
  ⟨some 22, .mv (.t 3), none, 0⟩,
  ⟨some 23, .call (.c (.fn 10 [])) [(.t 22)], none, 1⟩,
  ⟨some 9, .mv (.t 23), none, 3⟩]
def r3_2 : List CO := [
  ⟨some 24, .mv (.t 0), none, 0⟩,
  ⟨some 25, .mv (.t 1), none, 0⟩,
  ⟨some 26, .mv (.t 2), none, 0⟩,
  ⟨some 27, .bslice 1 3 [.int .i64 0, .int .i64 0, .int .i64 0] false [(0, (.t 24)), (1, (.t 25)), (2, (.t 26))], none, 7⟩,
  ⟨some 28, .mv (.t 9), none, 0⟩,
  ⟨some 29, .call (.c (.fn 11 [])) [(.t 28), (.c (.d (.int .i64 (-1)))), (.c (.d (.int .i64 66)))], none, 16⟩,
  ⟨some 30, .mv (.t 9), none, 0⟩,
  ⟨some 31, .bslice 1 5 [.int .i64 0, .int .i64 0, .int .i64 0, .int .i64 0, .int .i64 0] false [(0, (.c (.d (.int .i64 0)))), (1, (.c (.d (.int .i64 1)))), (2, (.c (.d (.int .i64 (-1))))), (3, (.c (.d (.int .i64 1000)))), (4, (.c (.d (.int .i64 1001))))], none, 0⟩,
  ⟨some 32, .call (.c (.fn 12 [])) [(.t 30), (.t 31)], none, 240⟩,
  ⟨some 33, .mv (.t 9), none, 0⟩,
  ⟨some 34, .call (.c (.fn 11 [])) [(.t 33), (.c (.d (.int .i64 0))), (.c (.d (.int .i64 4)))], none, 1008⟩,
  ⟨some 35, .bslice 1 3 [.int .i64 0, .int .i64 0, .int .i64 0] false [(0, (.t 29)), (1, (.t 32)), (2, (.t 34))], none, 2032⟩,
  ⟨some 36, .bslice 1 2 [.sl .nil 0 [], .sl .nil 0 []] false [(0, (.t 27)), (1, (.t 35))], none, 4095⟩,
  ⟨some 10, .mv (.t 36), none, 8191⟩]
def r3_3 : List CO := [
  ⟨some 38, .call (.c (.fn 13 [])) [(.c (.d (.int .i64 8))), (.c (.d (.int .i64 0))), (.c (.d (.int .i64 1)))], none, 0⟩,
  ⟨some 37, .mv (.t 38), none, 1⟩,
  ⟨some 39, .ext 0 (.t 37), none, 3⟩,
  ⟨some 40, .ext 1 (.t 37), none, 3⟩,
  ⟨some 11, .alloc [.d (.int .i64 0), .d (.int .i64 0), .d (.int .i64 0), .d (.int .i64 0), .d (.int .i64 0), .d (.sl .nil 0 []), .d (.sl .nil 0 []), .d (.int .i64 0), .d (.int .i64 0), .d (.int .i64 0), .d (.int .i64 0), .d (.int .i64 0), .d (.int .i64 0), .d (.int .i64 0), .d (.int .i64 0), .d (.bool false), .d (.sl .nil 0 [])] [], none, 0⟩,
  ⟨none, .store 17 (.t 11) (.t 39), none, 23⟩,
  ⟨some 12, .mv (.t 40), none, 63⟩]
def r3_4 : List CO := [
  ⟨some 42, .load true 17 (.t 11), none, 0⟩,
  ⟨some 43, .call (.c (.fn 14 [])) [(.t 42), (.c (.d (.int .i64 5))), (.c (.d (.int .i64 9)))], none, 1⟩,
  ⟨some 41, .mv (.t 43), none, 3⟩,
  ⟨some 44, .ext 0 (.t 41), none, 7⟩,
  ⟨some 45, .ext 1 (.t 41), none, 7⟩,
  ⟨some 46, .ext 2 (.t 41), none, 7⟩,
  ⟨none, .store 17 (.t 11) (.t 44), none, 15⟩]
def r3_5 : List CO := [
  ⟨some 48, .load true 17 (.t 11), none, 0⟩,
  ⟨some 49, .call (.c (.fn 14 [])) [(.t 48), (.c (.d (.int .i64 5))), (.c (.d (.int .i64 3)))], none, 1⟩,
  ⟨some 47, .mv (.t 49), none, 3⟩,
  ⟨some 50, .ext 0 (.t 47), none, 7⟩,
  ⟨some 51, .ext 1 (.t 47), none, 7⟩,
  ⟨some 52, .ext 2 (.t 47), none, 7⟩,
  ⟨none, .store 17 (.t 11) (.t 50), none, 15⟩]
def r3_6 : List CO := [
  ⟨some 13, .mv (.c (.d (.int .i64 0))), none, 0⟩]
def r3_7 : List CO := [
  ⟨some 53, .mv (.t 13), none, 0⟩,
  ⟨some 54, .mv (.t 10), none, 0⟩,
  ⟨some 55, .len .sl (.t 54), none, 2⟩,
  ⟨some 56, .bin .int .lss (.t 53) (.t 55), none, 7⟩]
def r3_8 : List CO := [
  ⟨some 60, .mv (.t 10), none, 0⟩,
  ⟨some 61, .mv (.t 13), none, 0⟩,
  ⟨some 62, .ia 1 (.t 60) (.t 61), none, 3⟩,
  ⟨some 63, .load false 1 (.t 62), none, 7⟩,
  ⟨some 64, .ia 1 (.t 63) (.c (.d (.int .i64 0))), none, 15⟩,
  ⟨some 65, .load false 1 (.t 64), none, 31⟩,
  ⟨some 66, .mv (.t 10), none, 0⟩,
  ⟨some 67, .mv (.t 13), none, 0⟩,
  ⟨some 68, .ia 1 (.t 66) (.t 67), none, 192⟩,
  ⟨some 69, .load false 1 (.t 68), none, 448⟩,
  ⟨some 70, .ia 1 (.t 69) (.c (.d (.int .i64 1))), none, 960⟩,
  ⟨some 71, .load false 1 (.t 70), none, 1984⟩,
  ⟨some 72, .mv (.t 10), none, 0⟩,
  ⟨some 73, .mv (.t 13), none, 0⟩,
  ⟨some 74, .ia 1 (.t 72) (.t 73), none, 12288⟩,
  ⟨some 75, .load false 1 (.t 74), none, 28672⟩,
  ⟨some 76, .ia 1 (.t 75) (.c (.d (.int .i64 2))), none, 61440⟩,
  ⟨some 77, .load false 1 (.t 76), none, 126976⟩,
  ⟨some 78, .call (.c (.fn 15 [])) [(.t 65), (.t 71), (.t 77)], none, 262143⟩,
  ⟨some 59, .mv (.t 78), none, 524287⟩,
  ⟨some 79, .ext 0 (.t 59), none, 1048575⟩,
  ⟨some 80, .ext 1 (.t 59), none, 1048575⟩,
  ⟨some 14, .alloc [.d (.int .i64 0), .d (.int .i64 0), .d (.int .i64 0), .d (.int .i64 0), .d (.int .i64 0), .d (.sl .nil 0 []), .d (.sl .nil 0 []), .d (.int .i64 0), .d (.int .i64 0), .d (.int .i64 0), .d (.int .i64 0), .d (.int .i64 0), .d (.int .i64 0), .d (.int .i64 0), .d (.int .i64 0), .d (.bool false), .d (.sl .nil 0 [])] [], none, 0⟩,
  ⟨none, .store 17 (.t 14) (.t 79), none, 6291455⟩,
  ⟨some 15, .mv (.t 80), none, 16777215⟩]
def r3_9 : List CO := [
  ⟨some 82, .mv (.t 10), none, 0⟩,
  ⟨some 83, .mv (.t 13), none, 0⟩,
  ⟨some 84, .ia 1 (.t 82) (.t 83), none, 3⟩,
  ⟨some 85, .load false 1 (.t 84), none, 7⟩,
  ⟨some 86, .ia 1 (.t 85) (.c (.d (.int .i64 0))), none, 15⟩,
  ⟨some 87, .load false 1 (.t 86), none, 31⟩,
  ⟨some 88, .mv (.t 10), none, 0⟩,
  ⟨some 89, .mv (.t 13), none, 0⟩,
  ⟨some 90, .ia 1 (.t 88) (.t 89), none, 192⟩,
  ⟨some 91, .load false 1 (.t 90), none, 448⟩,
  ⟨some 92, .ia 1 (.t 91) (.c (.d (.int .i64 1))), none, 960⟩,
  ⟨some 93, .load false 1 (.t 92), none, 1984⟩,
  ⟨some 94, .mv (.t 10), none, 0⟩,
  ⟨some 95, .mv (.t 13), none, 0⟩,
  ⟨some 96, .ia 1 (.t 94) (.t 95), none, 12288⟩,
  ⟨some 97, .load false 1 (.t 96), none, 28672⟩,
  ⟨some 98, .ia 1 (.t 97) (.c (.d (.int .i64 2))), none, 61440⟩,
  ⟨some 99, .load false 1 (.t 98), none, 126976⟩,
  ⟨some 100, .call (.c (.fn 13 [])) [(.t 87), (.t 93), (.t 99)], none, 262143⟩,
  ⟨some 81, .mv (.t 100), none, 524287⟩,
  ⟨some 101, .ext 0 (.t 81), none, 1048575⟩,
  ⟨some 102, .ext 1 (.t 81), none, 1048575⟩,
  ⟨some 16, .alloc [.d (.int .i64 0), .d (.int .i64 0), .d (.int .i64 0), .d (.int .i64 0), .d (.int .i64 0), .d (.sl .nil 0 []), .d (.sl .nil 0 []), .d (.int .i64 0), .d (.int .i64 0), .d (.int .i64 0), .d (.int .i64 0), .d (.int .i64 0), .d (.int .i64 0), .d (.int .i64 0), .d (.int .i64 0), .d (.bool false), .d (.sl .nil 0 [])] [], none, 0⟩,
  ⟨none, .store 17 (.t 16) (.t 101), none, 6291455⟩,
  ⟨some 17, .mv (.t 102), none, 16777215⟩]
def r3_10 : List CO := [
  ⟨some 104, .load true 17 (.t 11), none, 0⟩,
  ⟨some 105, .mv (.t 10), none, 0⟩,
  ⟨some 106, .mv (.t 13), none, 0⟩,
  ⟨some 107, .ia 1 (.t 105) (.t 106), none, 6⟩,
  ⟨some 108, .load false 1 (.t 107), none, 14⟩,
  ⟨some 109, .ia 1 (.t 108) (.c (.d (.int .i64 0))), none, 30⟩,
  ⟨some 110, .load false 1 (.t 109), none, 62⟩,
  ⟨some 111, .mv (.t 10), none, 0⟩,
  ⟨some 112, .mv (.t 13), none, 0⟩,
  ⟨some 113, .ia 1 (.t 111) (.t 112), none, 384⟩,
  ⟨some 114, .load false 1 (.t 113), none, 896⟩,
  ⟨some 115, .ia 1 (.t 114) (.c (.d (.int .i64 1))), none, 1920⟩,
  ⟨some 116, .load false 1 (.t 115), none, 3968⟩,
  ⟨some 117, .mv (.t 10), none, 0⟩,
  ⟨some 118, .mv (.t 13), none, 0⟩,
  ⟨some 119, .ia 1 (.t 117) (.t 118), none, 24576⟩,
  ⟨some 120, .load false 1 (.t 119), none, 57344⟩,
  ⟨some 121, .ia 1 (.t 120) (.c (.d (.int .i64 2))), none, 122880⟩,
  ⟨some 122, .load false 1 (.t 121), none, 253952⟩,
  ⟨some 123, .call (.c (.fn 16 [])) [(.t 104), (.t 110), (.t 116), (.t 122)], none, 524287⟩,
  ⟨some 103, .mv (.t 123), none, 1048575⟩,
  ⟨some 124, .ext 0 (.t 103), none, 2097151⟩,
  ⟨some 125, .ext 1 (.t 103), none, 2097151⟩,
  ⟨some 18, .alloc [.d (.int .i64 0), .d (.int .i64 0), .d (.int .i64 0), .d (.int .i64 0), .d (.int .i64 0), .d (.sl .nil 0 []), .d (.sl .nil 0 []), .d (.int .i64 0), .d (.int .i64 0), .d (.int .i64 0), .d (.int .i64 0), .d (.int .i64 0), .d (.int .i64 0), .d (.int .i64 0), .d (.int .i64 0), .d (.bool false), .d (.sl .nil 0 [])] [], none, 0⟩,
  ⟨none, .store 17 (.t 18) (.t 124), none, 12582911⟩,
  ⟨some 19, .mv (.t 125), none, 33554431⟩]
def r3_11 : List CO := [
  ⟨some 127, .load true 17 (.t 11), none, 0⟩,
  ⟨some 128, .mv (.t 10), none, 0⟩,
  ⟨some 129, .mv (.t 13), none, 0⟩,
  ⟨some 130, .ia 1 (.t 128) (.t 129), none, 6⟩,
  ⟨some 131, .load false 1 (.t 130), none, 14⟩,
  ⟨some 132, .ia 1 (.t 131) (.c (.d (.int .i64 0))), none, 30⟩,
  ⟨some 133, .load false 1 (.t 132), none, 62⟩,
  ⟨some 134, .mv (.t 10), none, 0⟩,
  ⟨some 135, .mv (.t 13), none, 0⟩,
  ⟨some 136, .ia 1 (.t 134) (.t 135), none, 384⟩,
  ⟨some 137, .load false 1 (.t 136), none, 896⟩,
  ⟨some 138, .ia 1 (.t 137) (.c (.d (.int .i64 1))), none, 1920⟩,
  ⟨some 139, .load false 1 (.t 138), none, 3968⟩,
  ⟨some 140, .mv (.t 10), none, 0⟩,
  ⟨some 141, .mv (.t 13), none, 0⟩,
  ⟨some 142, .ia 1 (.t 140) (.t 141), none, 24576⟩,
  ⟨some 143, .load false 1 (.t 142), none, 57344⟩,
  ⟨some 144, .ia 1 (.t 143) (.c (.d (.int .i64 2))), none, 122880⟩,
  ⟨some 145, .load false 1 (.t 144), none, 253952⟩,
  ⟨some 146, .call (.c (.fn 17 [])) [(.t 127), (.t 133), (.t 139), (.t 145)], none, 524287⟩,
  ⟨some 126, .mv (.t 146), none, 1048575⟩,
  ⟨some 147, .ext 0 (.t 126), none, 2097151⟩,
  ⟨some 148, .ext 1 (.t 126), none, 2097151⟩,
  ⟨some 20, .alloc [.d (.int .i64 0), .d (.int .i64 0), .d (.int .i64 0), .d (.int .i64 0), .d (.int .i64 0), .d (.sl .nil 0 []), .d (.sl .nil 0 []), .d (.int .i64 0), .d (.int .i64 0), .d (.int .i64 0), .d (.int .i64 0), .d (.int .i64 0), .d (.int .i64 0), .d (.int .i64 0), .d (.int .i64 0), .d (.bool false), .d (.sl .nil 0 [])] [], none, 0⟩,
  ⟨none, .store 17 (.t 20) (.t 147), none, 12582911⟩,
  ⟨some 21, .mv (.t 148), none, 33554431⟩]
def r3_12 : List CO := [
  ⟨some 149, .mv (.t 15), none, 0⟩,
  ⟨some 150, .mv (.t 17), none, 0⟩,
  ⟨some 151, .bin .int .neq (.t 149) (.t 150), none, 3⟩,
  ⟨some 152, .mv (.t 151), none, 7⟩,
  ⟨some 153, .load true 17 (.t 14), some (152, false), 15⟩,
  ⟨some 154, .load true 17 (.t 16), some (152, false), 15⟩,
  ⟨some 155, .call (.c (.fn 18 [])) [(.t 153), (.t 154)], some (152, false), 63⟩,
  ⟨some 156, .un .not (.t 155), some (152, false), 127⟩,
  ⟨some 157, .pick (.t 152) (.c (.d (.bool true))) (.t 156), none, 255⟩,
  ⟨some 158, .mv (.t 157), none, 511⟩,
  ⟨some 159, .mv (.t 19), some (158, false), 1023⟩,
  ⟨some 160, .mv (.t 21), some (158, false), 1023⟩,
  ⟨some 161, .bin .int .neq (.t 159) (.t 160), some (158, false), 4095⟩,
  ⟨some 162, .pick (.t 158) (.c (.d (.bool true))) (.t 161), none, 8191⟩,
  ⟨some 163, .mv (.t 162), none, 16383⟩,
  ⟨some 164, .load true 17 (.t 18), some (163, false), 32767⟩,
  ⟨some 165, .load true 17 (.t 20), some (163, false), 32767⟩,
  ⟨some 166, .call (.c (.fn 18 [])) [(.t 164), (.t 165)], some (163, false), 131071⟩,
  ⟨some 167, .un .not (.t 166), some (163, false), 262143⟩,
  ⟨some 168, .pick (.t 163) (.c (.d (.bool true))) (.t 167), none, 524287⟩]
def r3_13 : List CO := [
  ⟨some 8, .mv (.c (.d (.bool false))), none, 0⟩]
def r3_14 : List CO := [
  ⟨some 57, .mv (.t 13), none, 0⟩,
  ⟨some 58, .bin .int .add (.t 57) (.c (.d (.int .i64 1))), none, 1⟩,
  ⟨some 13, .mv (.t 58), none, 3⟩]
def l3_15 : CCode := .seq (.seq (.reg r3_7 false (some [10, 11, 13, 56])) (.cond (.t 56) (.skip) (.exit 0))) (.seq (.block 1 (.seq (.reg r3_8 true (some [10, 11, 13, 14, 15])) (.seq (.reg r3_9 true (some [10, 11, 13, 14, 15, 16, 17])) (.seq (.reg r3_10 true (some [10, 11, 13, 14, 15, 16, 17, 18, 19])) (.seq (.reg r3_11 true (some [10, 11, 13, 14, 15, 16, 17, 18, 19, 20, 21])) (.seq (.reg r3_12 false (some [10, 11, 13, 168])) (.cond (.t 168) (.seq (.reg r3_13 false (some [8])) (.ret)) (.skip)))))))) (.reg r3_14 false (some [10, 11, 13])))
def r3_16 : List CO := [
  ⟨some 169, .call (.c (.fn 19 [])) [], none, 0⟩,
  ⟨some 8, .mv (.t 169), none, 1⟩]
def c3 : CF := { body := .seq (.reg r3_0 false (some [0, 1, 2, 3])) (.seq (.reg r3_1 false (some [0, 1, 2, 9])) (.seq (.reg r3_2 false (some [10])) (.seq (.reg r3_3 false (some [10, 11])) (.seq (.reg r3_4 false (some [10, 11])) (.seq (.reg r3_5 false (some [10, 11])) (.seq (.seq (.reg r3_6 false (some [10, 11, 13])) (.block 0 (.loop [(10, none), (11, none), (13, none)] l3_15))) (.seq (.reg r3_16 false (some [8])) (.ret)))))))), res := [.tmp 8], rowArgs := [], keep := false, rowRes := [], clone := none, dl := none }
/- 4 kaudit/kauditlaw20.BacklogPlays -/
def r4_0 : List CO := [
  ⟨some 2, .mv (.c (.d (.bool false))), none, 0⟩]
def r4_1 : List CO := [
  ⟨some 6, .mv (.t 0), none, 0⟩,
  ⟨some 7, .call (.c (.fn 10 [])) [(.t 6)], none, 1⟩,
  ⟨some 3, .mv (.t 7), none, 3⟩]
def r4_2 : List CO := [
  ⟨some 8, .mv (.t 3), none, 0⟩,
  ⟨some 9, .call (.c (.fn 20 [])) [(.t 8)], none, 1⟩,
  ⟨some 4, .mv (.t 9), none, 3⟩]
def r4_3 : List CO := [
  ⟨some 5, .mv (.c (.d (.int .i64 0))), none, 0⟩]
def r4_4 : List CO := [
  ⟨some 10, .mv (.t 5), none, 0⟩,
  ⟨some 11, .bin .int .lss (.t 10) (.c (.d (.int .i64 40))), none, 1⟩]
def r4_5 : List CO := [
  ⟨some 14, .mv (.t 4), none, 0⟩,
  ⟨some 15, .mv (.t 3), none, 0⟩,
  ⟨some 16, .call (.c (.fn 21 [])) [(.t 14), (.t 15)], none, 3⟩,
  ⟨some 17, .un .not (.t 16), none, 7⟩]
def r4_6 : List CO := [
  ⟨some 2, .mv (.c (.d (.bool false))), none, 0⟩]
def r4_7 : List CO := [
  ⟨some 12, .mv (.t 5), none, 0⟩,
  ⟨some 13, .bin .int .add (.t 12) (.c (.d (.int .i64 1))), none, 1⟩,
  ⟨some 5, .mv (.t 13), none, 3⟩]
def l4_8 : CCode := .seq (.seq (.reg r4_4 false (some [3, 4, 5, 11])) (.cond (.t 11) (.skip) (.exit 0))) (.seq (.block 1 (.seq (.reg r4_5 false (some [3, 4, 5, 17])) (.cond (.t 17) (.seq (.reg r4_6 false (some [2])) (.ret)) (.skip)))) (.reg r4_7 false (some [3, 4, 5])))
def r4_9 : List CO := [
  ⟨some 18, .call (.c (.fn 19 [])) [], none, 0⟩,
  ⟨some 2, .mv (.t 18), none, 1⟩]
def c4 : CF := { body := .seq (.reg r4_0 false (some [0])) (.seq (.reg r4_1 false (some [3])) (.seq (.reg r4_2 false (some [3, 4])) (.seq (.seq (.reg r4_3 false (some [3, 4, 5])) (.block 0 (.loop [(3, none), (4, none), (5, none)] l4_8))) (.seq (.reg r4_9 false (some [2])) (.ret))))), res := [.tmp 2], rowArgs := [], keep := false, rowRes := [], clone := none, dl := none }
/- 10 kaudit/kauditmake.New -/
def r10_0 : List CO := [
  ⟨some 2, .mv (.c (.d (.nilp))), none, 0⟩]
def r10_1 : List CO := [
  ⟨some 3, .mv (.t 0), none, 0⟩,
  ⟨some 4, .build [.d (.sl .nil 0 []), .d (.int .i64 0)] [(0, 1, (.t 3))], none, 1⟩,
  ⟨some 5, .box 2 (.t 4) [], none, 3⟩,
  ⟨some 2, .mv (.t 5), none, 7⟩]
def c10 : CF := { body := .seq (.reg r10_0 false (some [0])) (.seq (.reg r10_1 false (some [2])) (.ret)), res := [.tmp 2], rowArgs := [], keep := false, rowRes := [], clone := none, dl := none }
/- 11 (kaudit/kauditmake.Src).Range -/
def r11_0 : List CO := [
  ⟨some 6, .mv (.c (.d (.int .i64 0))), none, 0⟩]
def r11_1 : List CO := [
  ⟨some 7, .mv (.t 1), none, 0⟩,
  ⟨some 8, .mv (.t 0), none, 0⟩,
  ⟨some 9, .mv (.t 2), none, 0⟩,
  ⟨some 10, .mv (.t 1), none, 0⟩,
  ⟨some 11, .bin .int .sub (.t 9) (.t 10), none, 12⟩,
  ⟨some 12, .bin .int .add (.t 11) (.c (.d (.int .i64 1))), none, 28⟩,
  ⟨some 13, .call (.c (.fn 30 [])) [(.t 8), (.t 12)], none, 62⟩,
  ⟨some 14, .bin .int .add (.t 7) (.t 13), none, 127⟩,
  ⟨some 6, .mv (.t 14), none, 255⟩]
def c11 : CF := { body := .seq (.reg r11_0 false (some [0, 1, 2])) (.seq (.reg r11_1 false (some [6])) (.ret)), res := [.tmp 6], rowArgs := [], keep := false, rowRes := [], clone := none, dl := none }
/- 12 (kaudit/kauditmake.Src).Pick -/
def r12_0 : List CO := [
  ⟨some 4, .mv (.c (.d (.int .i64 0))), none, 0⟩]
def r12_1 : List CO := [
  ⟨some 5, .mv (.t 1), none, 0⟩,
  ⟨some 6, .mv (.t 0), none, 0⟩,
  ⟨some 7, .mv (.t 1), none, 0⟩,
  ⟨some 8, .len .sl (.t 7), none, 4⟩,
  ⟨some 9, .call (.c (.fn 30 [])) [(.t 6), (.t 8)], none, 14⟩,
  ⟨some 10, .ia 1 (.t 5) (.t 9), none, 31⟩,
  ⟨some 11, .load false 1 (.t 10), none, 63⟩,
  ⟨some 4, .mv (.t 11), none, 127⟩]
def c12 : CF := { body := .seq (.reg r12_0 false (some [0, 1])) (.seq (.reg r12_1 false (some [4])) (.ret)), res := [.tmp 4], rowArgs := [], keep := false, rowRes := [], clone := none, dl := none }
/- 13 kaudit/kauditref20.New -/
def r13_0 : List CO := [
  ⟨some 6, .alloc [.d (.int .i64 0), .d (.int .i64 0), .d (.int .i64 0), .d (.int .i64 0), .d (.int .i64 0), .d (.sl .nil 0 []), .d (.sl .nil 0 []), .d (.int .i64 0), .d (.int .i64 0), .d (.int .i64 0), .d (.int .i64 0), .d (.int .i64 0), .d (.int .i64 0), .d (.int .i64 0), .d (.int .i64 0), .d (.bool false), .d (.sl .nil 0 [])] [], none, 0⟩,
  ⟨some 7, .mv (.c (.d (.int .i64 0))), none, 0⟩]
def r13_1 : List CO := [
  ⟨some 8, .mv (.t 0), none, 0⟩,
  ⟨some 9, .mv (.t 1), none, 0⟩,
  ⟨some 10, .mv (.t 2), none, 0⟩,
  ⟨some 11, .call (.c (.fn 34 [])) [(.t 8), (.t 9), (.t 10)], none, 7⟩,
  ⟨some 12, .un .not (.t 11), none, 15⟩]
def r13_2 : List CO := [
  ⟨some 13, .build [.d (.int .i64 0), .d (.int .i64 0), .d (.int .i64 0), .d (.int .i64 0), .d (.int .i64 0), .d (.sl .nil 0 []), .d (.sl .nil 0 []), .d (.int .i64 0), .d (.int .i64 0), .d (.int .i64 0), .d (.int .i64 0), .d (.int .i64 0), .d (.int .i64 0), .d (.int .i64 0), .d (.int .i64 0), .d (.bool false), .d (.sl .nil 0 [])] [], none, 0⟩,
  ⟨none, .store 17 (.t 6) (.t 13), none, 1⟩,
  ⟨some 7, .mv (.c (.d (.int .i64 200))), none, 3⟩]
def r13_3 : List CO := [
  ⟨some 14, .mv (.t 0), none, 0⟩,
  ⟨some 15, .mv (.t 1), none, 0⟩,
  ⟨some 16, .mv (.t 2), none, 0⟩,
  ⟨some 17, .build [.d (.int .i64 0), .d (.int .i64 0), .d (.int .i64 0), .d (.int .i64 0), .d (.int .i64 0), .d (.sl .nil 0 []), .d (.sl .nil 0 []), .d (.int .i64 0), .d (.int .i64 0), .d (.int .i64 0), .d (.int .i64 0), .d (.int .i64 0), .d (.int .i64 0), .d (.int .i64 0), .d (.int .i64 0), .d (.bool false), .d (.sl .nil 0 [])] [(0, 1, (.t 14)), (1, 1, (.t 15)), (2, 1, (.t 16))], none, 7⟩,
  ⟨none, .store 17 (.t 6) (.t 17), none, 15⟩,
  ⟨some 7, .mv (.c (.d (.int .i64 0))), none, 31⟩]
def c13 : CF := { body := .seq (.reg r13_0 false (some [0, 1, 2, 6])) (.seq (.seq (.reg r13_1 false (some [0, 1, 2, 6, 12])) (.cond (.t 12) (.seq (.reg r13_2 false (some [6, 7])) (.ret)) (.skip))) (.seq (.reg r13_3 false (some [6, 7])) (.ret))), res := [.cell 6 true 17, .tmp 7], rowArgs := [], keep := false, rowRes := [], clone := none, dl := none }
/- 14 kaudit/kauditref20.Offer -/
def r14_0 : List CO := [
  ⟨some 3, .box 17 (.t 0) [], none, 0⟩,
  ⟨some 6, .alloc [.d (.int .i64 0), .d (.int .i64 0), .d (.int .i64 0), .d (.int .i64 0), .d (.int .i64 0), .d (.sl .nil 0 []), .d (.sl .nil 0 []), .d (.int .i64 0), .d (.int .i64 0), .d (.int .i64 0), .d (.int .i64 0), .d (.int .i64 0), .d (.int .i64 0), .d (.int .i64 0), .d (.int .i64 0), .d (.bool false), .d (.sl .nil 0 [])] [], none, 0⟩,
  ⟨some 7, .mv (.c (.d (.int .i64 0))), none, 0⟩,
  ⟨some 8, .mv (.c (.d (.bool false))), none, 4⟩]
def r14_1 : List CO := [
  ⟨some 12, .load true 17 (.t 3), none, 0⟩,
  ⟨some 13, .call (.c (.fn 35 [])) [(.t 12)], none, 1⟩,
  ⟨some 9, .alloc [.d (.int .i64 0), .d (.int .i64 0), .d (.int .i64 0), .d (.int .i64 0), .d (.int .i64 0), .d (.sl .nil 0 []), .d (.sl .nil 0 []), .d (.int .i64 0), .d (.int .i64 0), .d (.int .i64 0), .d (.int .i64 0), .d (.int .i64 0), .d (.int .i64 0), .d (.int .i64 0), .d (.int .i64 0), .d (.bool false), .d (.sl .nil 0 [])] [], none, 0⟩,
  ⟨none, .store 17 (.t 9) (.t 13), none, 7⟩]
def r14_2 : List CO := [
  ⟨some 14, .mv (.t 2), none, 0⟩,
  ⟨some 15, .bin .int .lss (.t 14) (.c (.d (.int .i64 1))), none, 1⟩,
  ⟨some 16, .mv (.t 15), none, 3⟩,
  ⟨some 17, .mv (.t 2), some (16, false), 7⟩,
  ⟨some 18, .bin .int .gtr (.t 17) (.c (.d (.int .i64 64))), some (16, false), 15⟩,
  ⟨some 19, .pick (.t 16) (.c (.d (.bool true))) (.t 18), none, 31⟩,
  ⟨some 20, .mv (.t 19), none, 63⟩,
  ⟨some 21, .mv (.t 1), some (20, false), 127⟩,
  ⟨some 22, .bin .int .lss (.t 21) (.c (.d (.int .i64 0))), some (20, false), 255⟩,
  ⟨some 23, .pick (.t 20) (.c (.d (.bool true))) (.t 22), none, 511⟩,
  ⟨some 24, .mv (.t 23), none, 1023⟩,
  ⟨some 25, .mv (.t 1), some (24, false), 2047⟩,
  ⟨some 26, .bin .int .gtr (.t 25) (.c (.d (.int .i64 1099511627776))), some (24, false), 4095⟩,
  ⟨some 27, .pick (.t 24) (.c (.d (.bool true))) (.t 26), none, 8191⟩,
  ⟨some 28, .mv (.t 27), none, 16383⟩,
  ⟨some 29, .fa 3 (.t 3), some (28, false), 32767⟩,
  ⟨some 30, .load false 1 (.t 29), some (28, false), 65535⟩,
  ⟨some 31, .bin .int .gtr (.t 30) (.c (.d (.int .i64 1073741821))), some (28, false), 131071⟩,
  ⟨some 32, .pick (.t 28) (.c (.d (.bool true))) (.t 31), none, 262143⟩]
def r14_3 : List CO := [
  ⟨some 33, .load true 17 (.t 9), none, 0⟩,
  ⟨none, .store 17 (.t 6) (.t 33), none, 1⟩,
  ⟨some 7, .mv (.c (.d (.int .i64 0))), none, 3⟩,
  ⟨some 8, .mv (.c (.d (.bool false))), none, 7⟩]
def r14_4 : List CO := [
  ⟨some 10, .mv (.c (.d (.int .i64 0))), none, 0⟩]
def r14_5 : List CO := [
  ⟨some 34, .load true 17 (.t 3), none, 0⟩,
  ⟨some 35, .call (.c (.fn 36 [])) [(.t 34)], none, 1⟩]
def r14_6 : List CO := [
  ⟨some 10, .mv (.c (.d (.int .i64 1))), none, 0⟩]
def r14_7 : List CO := [
  ⟨some 36, .fa 3 (.t 3), none, 0⟩,
  ⟨some 37, .load false 1 (.t 36), none, 1⟩,
  ⟨some 38, .bin .int .add (.t 37) (.c (.d (.int .i64 1))), none, 3⟩,
  ⟨some 39, .mv (.t 10), none, 0⟩,
  ⟨some 40, .bin .int .add (.t 38) (.t 39), none, 15⟩,
  ⟨some 11, .mv (.t 40), none, 31⟩]
def r14_8 : List CO := [
  ⟨some 42, .fa 1 (.t 3), none, 0⟩,
  ⟨some 43, .load false 1 (.t 42), none, 1⟩,
  ⟨some 44, .bin .int .neq (.t 43) (.c (.d (.int .i64 0))), none, 3⟩,
  ⟨some 45, .mv (.t 44), none, 7⟩,
  ⟨some 46, .mv (.t 1), some (45, true), 15⟩,
  ⟨some 47, .bin .int .quo (.t 46) (.c (.d (.int .i64 1000))), some (45, true), 31⟩,
  ⟨some 48, .fa 12 (.t 3), some (45, true), 15⟩,
  ⟨some 49, .load false 1 (.t 48), some (45, true), 79⟩,
  ⟨some 50, .bin .int .eql (.t 47) (.t 49), some (45, true), 255⟩,
  ⟨some 51, .pick (.t 45) (.t 50) (.c (.d (.bool false))), none, 511⟩,
  ⟨some 52, .mv (.t 51), none, 1023⟩,
  ⟨some 53, .fa 13 (.t 3), some (52, true), 2047⟩,
  ⟨some 54, .load false 1 (.t 53), some (52, true), 4095⟩,
  ⟨some 55, .fa 1 (.t 3), some (52, true), 2047⟩,
  ⟨some 56, .load false 1 (.t 55), some (52, true), 10239⟩,
  ⟨some 57, .bin .int .geq (.t 54) (.t 56), some (52, true), 32767⟩,
  ⟨some 58, .pick (.t 52) (.t 57) (.c (.d (.bool false))), none, 65535⟩,
  ⟨some 41, .mv (.t 58), none, 131071⟩]
def r14_9 : List CO := [
  ⟨some 59, .mv (.t 1), none, 0⟩,
  ⟨some 60, .fa 7 (.t 9), none, 0⟩,
  ⟨some 61, .fa 2 (.t 60), none, 2⟩,
  ⟨some 62, .call (.c (.fn 37 [])) [(.t 9), (.t 59), (.t 61)], none, 7⟩]
def r14_10 : List CO := [
  ⟨some 63, .load true 17 (.t 9), none, 0⟩,
  ⟨some 64, .fa 3 (.t 9), none, 0⟩,
  ⟨some 65, .load false 1 (.t 64), none, 2⟩,
  ⟨none, .store 17 (.t 6) (.t 63), none, 1⟩,
  ⟨some 7, .mv (.t 65), none, 15⟩,
  ⟨some 8, .mv (.c (.d (.bool false))), none, 31⟩]
def r14_11 : List CO := [
  ⟨some 67, .fa 6 (.t 3), none, 0⟩,
  ⟨some 68, .load false 1 (.t 67), none, 1⟩,
  ⟨some 69, .len .sl (.t 68), none, 3⟩,
  ⟨some 70, .fa 4 (.t 3), none, 0⟩,
  ⟨some 71, .load false 1 (.t 70), none, 8⟩,
  ⟨some 72, .bin .int .add (.t 69) (.t 71), none, 31⟩,
  ⟨some 73, .mv (.t 2), none, 0⟩,
  ⟨some 74, .bin .int .add (.t 72) (.t 73), none, 127⟩,
  ⟨some 75, .mv (.t 10), none, 0⟩,
  ⟨some 76, .bin .int .add (.t 74) (.t 75), none, 511⟩,
  ⟨some 77, .fa 0 (.t 3), none, 0⟩,
  ⟨some 78, .load false 1 (.t 77), none, 1024⟩,
  ⟨some 79, .bin .int .gtr (.t 76) (.t 78), none, 4095⟩,
  ⟨some 66, .mv (.t 79), none, 8191⟩]
def r14_12 : List CO := [
  ⟨some 80, .mv (.t 1), none, 0⟩,
  ⟨some 81, .fa 7 (.t 9), none, 0⟩,
  ⟨some 82, .fa 3 (.t 81), none, 2⟩,
  ⟨some 83, .call (.c (.fn 37 [])) [(.t 9), (.t 80), (.t 82)], none, 7⟩]
def r14_13 : List CO := [
  ⟨some 84, .load true 17 (.t 9), none, 0⟩,
  ⟨some 85, .fa 3 (.t 9), none, 0⟩,
  ⟨some 86, .load false 1 (.t 85), none, 2⟩,
  ⟨none, .store 17 (.t 6) (.t 84), none, 1⟩,
  ⟨some 7, .mv (.t 86), none, 15⟩,
  ⟨some 8, .mv (.c (.d (.bool false))), none, 31⟩]
def r14_14 : List CO := [
  ⟨some 88, .fa 5 (.t 3), none, 0⟩,
  ⟨some 89, .load false 1 (.t 88), none, 1⟩,
  ⟨some 90, .len .sl (.t 89), none, 3⟩,
  ⟨some 91, .bin .int .gtr (.t 90) (.c (.d (.int .i64 0))), none, 7⟩,
  ⟨some 92, .mv (.t 91), none, 15⟩,
  ⟨some 93, .mv (.t 11), some (92, true), 31⟩,
  ⟨some 94, .fa 5 (.t 3), some (92, true), 31⟩,
  ⟨some 95, .load false 1 (.t 94), some (92, true), 95⟩,
  ⟨some 96, .ia 1 (.t 95) (.c (.d (.int .i64 0))), some (92, true), 223⟩,
  ⟨some 97, .load false 1 (.t 96), some (92, true), 479⟩,
  ⟨some 98, .bin .int .sub (.t 93) (.t 97), some (92, true), 1023⟩,
  ⟨some 99, .bin .int .geq (.t 98) (.c (.d (.int .i64 64))), some (92, true), 2047⟩,
  ⟨some 100, .pick (.t 92) (.t 99) (.c (.d (.bool false))), none, 4095⟩,
  ⟨some 87, .mv (.t 100), none, 8191⟩]
def r14_15 : List CO := [
  ⟨some 101, .mv (.t 1), none, 0⟩,
  ⟨some 102, .fa 7 (.t 9), none, 0⟩,
  ⟨some 103, .fa 4 (.t 102), none, 2⟩,
  ⟨some 104, .call (.c (.fn 37 [])) [(.t 9), (.t 101), (.t 103)], none, 7⟩]
def r14_16 : List CO := [
  ⟨some 105, .load true 17 (.t 9), none, 0⟩,
  ⟨some 106, .fa 3 (.t 9), none, 0⟩,
  ⟨some 107, .load false 1 (.t 106), none, 2⟩,
  ⟨none, .store 17 (.t 6) (.t 105), none, 1⟩,
  ⟨some 7, .mv (.t 107), none, 15⟩,
  ⟨some 8, .mv (.c (.d (.bool false))), none, 31⟩]
def r14_17 : List CO := [
  ⟨some 108, .mv (.t 10), none, 0⟩,
  ⟨some 109, .bin .int .eql (.t 108) (.c (.d (.int .i64 1))), none, 1⟩]
def r14_18 : List CO := [
  ⟨some 110, .mv (.t 1), none, 0⟩,
  ⟨some 111, .call (.c (.fn 38 [])) [(.t 9), (.t 110)], none, 1⟩]
def r14_19 : List CO := [
  ⟨some 112, .mv (.t 11), none, 0⟩,
  ⟨some 113, .fa 3 (.t 9), none, 1⟩,
  ⟨none, .store 1 (.t 113) (.t 112), none, 3⟩]
def r14_20 : List CO := [
  ⟨some 114, .fa 4 (.t 9), none, 0⟩,
  ⟨some 115, .load false 1 (.t 114), none, 1⟩,
  ⟨some 116, .mv (.t 2), none, 0⟩,
  ⟨some 117, .bin .int .add (.t 115) (.t 116), none, 7⟩,
  ⟨some 118, .fa 4 (.t 9), none, 15⟩,
  ⟨none, .store 1 (.t 118) (.t 117), none, 31⟩]
def r14_21 : List CO := [
  ⟨some 119, .fa 5 (.t 9), none, 0⟩,
  ⟨some 120, .load false 1 (.t 119), none, 1⟩,
  ⟨some 121, .mv (.t 11), none, 0⟩,
  ⟨some 122, .bslice 1 1 [.int .i64 0] false [(0, (.t 121))], none, 4⟩,
  ⟨some 123, .app 1 8 (.t 120) (.t 122), none, 15⟩,
  ⟨some 124, .fa 5 (.t 9), none, 31⟩,
  ⟨none, .store 1 (.t 124) (.t 123), none, 63⟩]
def r14_22 : List CO := [
  ⟨some 125, .mv (.t 1), none, 0⟩,
  ⟨some 126, .bin .int .quo (.t 125) (.c (.d (.int .i64 1000))), none, 1⟩,
  ⟨some 127, .fa 12 (.t 9), none, 0⟩,
  ⟨some 128, .load false 1 (.t 127), none, 4⟩,
  ⟨some 129, .bin .int .neq (.t 126) (.t 128), none, 15⟩]
def r14_23 : List CO := [
  ⟨some 130, .mv (.t 1), none, 0⟩,
  ⟨some 131, .bin .int .quo (.t 130) (.c (.d (.int .i64 1000))), none, 1⟩,
  ⟨some 132, .fa 12 (.t 9), none, 3⟩,
  ⟨none, .store 1 (.t 132) (.t 131), none, 7⟩,
  ⟨some 133, .fa 13 (.t 9), none, 15⟩,
  ⟨none, .store 1 (.t 133) (.c (.d (.int .i64 0))), none, 31⟩]
def r14_24 : List CO := [
  ⟨some 134, .fa 13 (.t 9), none, 0⟩,
  ⟨some 135, .load false 1 (.t 134), none, 1⟩,
  ⟨some 136, .bin .int .add (.t 135) (.c (.d (.int .i64 1))), none, 3⟩,
  ⟨some 137, .fa 13 (.t 9), none, 7⟩,
  ⟨none, .store 1 (.t 137) (.t 136), none, 15⟩]
def r14_25 : List CO := [
  ⟨some 138, .load true 17 (.t 9), none, 0⟩,
  ⟨some 139, .mv (.t 11), none, 0⟩,
  ⟨none, .store 17 (.t 6) (.t 138), none, 1⟩,
  ⟨some 7, .mv (.t 139), none, 7⟩,
  ⟨some 8, .mv (.c (.d (.bool true))), none, 15⟩]
def c14 : CF := { body := .seq (.reg r14_0 false (some [1, 2, 3, 6])) (.seq (.reg r14_1 false (some [1, 2, 3, 6, 9])) (.seq (.seq (.reg r14_2 false (some [1, 2, 3, 6, 9, 32])) (.cond (.t 32) (.seq (.reg r14_3 false (some [6, 7, 8])) (.ret)) (.skip))) (.seq (.reg r14_4 false (some [1, 2, 3, 6, 9, 10])) (.seq (.seq (.reg r14_5 false (some [1, 2, 3, 6, 9, 10, 35])) (.cond (.t 35) (.reg r14_6 false (some [1, 2, 3, 6, 9, 10])) (.skip))) (.seq (.reg r14_7 false (some [1, 2, 3, 6, 9, 10, 11])) (.seq (.block 0 (.seq (.reg r14_8 false (some [1, 2, 3, 6, 9, 10, 11, 41])) (.cond (.t 41) (.seq (.reg r14_9 false (some [6, 9])) (.seq (.reg r14_10 true (some [6, 7, 8])) (.ret))) (.seq (.reg r14_11 false (some [1, 2, 3, 6, 9, 10, 11, 66])) (.cond (.t 66) (.seq (.reg r14_12 false (some [6, 9])) (.seq (.reg r14_13 true (some [6, 7, 8])) (.ret))) (.seq (.reg r14_14 false (some [1, 2, 6, 9, 10, 11, 87])) (.cond (.t 87) (.seq (.reg r14_15 false (some [6, 9])) (.seq (.reg r14_16 true (some [6, 7, 8])) (.ret))) (.skip)))))))) (.seq (.seq (.reg r14_17 false (some [1, 2, 6, 9, 11, 109])) (.cond (.t 109) (.reg r14_18 false (some [1, 2, 6, 9, 11])) (.skip))) (.seq (.reg r14_19 false (some [1, 2, 6, 9, 11])) (.seq (.reg r14_20 false (some [1, 6, 9, 11])) (.seq (.reg r14_21 false (some [1, 6, 9, 11])) (.seq (.seq (.reg r14_22 false (some [1, 6, 9, 11, 129])) (.cond (.t 129) (.reg r14_23 false (some [6, 9, 11])) (.skip))) (.seq (.reg r14_24 false (some [6, 9, 11])) (.seq (.reg r14_25 false (some [6, 7, 8])) (.ret)))))))))))))), res := [.cell 6 true 17, .tmp 7, .tmp 8], rowArgs := [], keep := false, rowRes := [], clone := none, dl := none }
/- 15 kaudit/backlog.New -/
def r15_0 : List CO := [
  ⟨some 6, .alloc [.d (.int .i64 0), .d (.int .i64 0), .d (.int .i64 0), .d (.int .i64 0), .d (.int .i64 0), .d (.sl .nil 0 []), .d (.sl .nil 0 []), .d (.int .i64 0), .d (.int .i64 0), .d (.int .i64 0), .d (.int .i64 0), .d (.int .i64 0), .d (.int .i64 0), .d (.int .i64 0), .d (.int .i64 0), .d (.bool false), .d (.sl .nil 0 [])] [], none, 0⟩,
  ⟨some 7, .mv (.c (.d (.int .i64 0))), none, 0⟩]
def r15_1 : List CO := [
  ⟨some 8, .build [.d (.int .i64 0), .d (.int .i64 0), .d (.int .i64 0), .d (.int .i64 0), .d (.int .i64 0), .d (.sl .nil 0 []), .d (.sl .nil 0 []), .d (.int .i64 0), .d (.int .i64 0), .d (.int .i64 0), .d (.int .i64 0), .d (.int .i64 0), .d (.int .i64 0), .d (.int .i64 0), .d (.int .i64 0), .d (.bool false), .d (.sl .nil 0 [])] [], none, 0⟩,
  ⟨some 9, .mv (.t 0), none, 0⟩,
  ⟨some 10, .mv (.t 1), none, 0⟩,
  ⟨some 11, .mv (.t 2), none, 0⟩,
  ⟨some 12, .call (.c (.fn 16 [])) [(.t 8), (.t 9), (.t 10), (.t 11)], none, 15⟩,
  ⟨some 13, .ext 0 (.t 12), none, 31⟩,
  ⟨some 14, .ext 1 (.t 12), none, 31⟩,
  ⟨none, .store 17 (.t 6) (.t 13), none, 127⟩,
  ⟨some 7, .mv (.t 14), none, 255⟩]
def c15 : CF := { body := .seq (.reg r15_0 false (some [0, 1, 2, 6])) (.seq (.reg r15_1 false (some [6, 7])) (.ret)), res := [.cell 6 true 17, .tmp 7], rowArgs := [], keep := false, rowRes := [], clone := none, dl := none }
/- 16 kaudit/backlog.Configure -/
def r16_0 : List CO := [
  ⟨some 4, .box 17 (.t 0) [], none, 0⟩,
  ⟨some 8, .alloc [.d (.int .i64 0), .d (.int .i64 0), .d (.int .i64 0), .d (.int .i64 0), .d (.int .i64 0), .d (.sl .nil 0 []), .d (.sl .nil 0 []), .d (.int .i64 0), .d (.int .i64 0), .d (.int .i64 0), .d (.int .i64 0), .d (.int .i64 0), .d (.int .i64 0), .d (.int .i64 0), .d (.int .i64 0), .d (.bool false), .d (.sl .nil 0 [])] [], none, 0⟩,
  ⟨some 9, .mv (.c (.d (.int .i64 0))), none, 0⟩]
def r16_1 : List CO := [
  ⟨some 10, .mv (.t 1), none, 0⟩,
  ⟨some 11, .mv (.t 2), none, 0⟩,
  ⟨some 12, .mv (.t 3), none, 0⟩,
  ⟨some 13, .call (.c (.fn 39 [])) [(.t 10), (.t 11), (.t 12)], none, 7⟩,
  ⟨some 14, .un .not (.t 13), none, 15⟩]
def r16_2 : List CO := [
  ⟨some 15, .build [.d (.int .i64 0), .d (.int .i64 0), .d (.int .i64 0), .d (.int .i64 0), .d (.int .i64 0), .d (.sl .nil 0 []), .d (.sl .nil 0 []), .d (.int .i64 0), .d (.int .i64 0), .d (.int .i64 0), .d (.int .i64 0), .d (.int .i64 0), .d (.int .i64 0), .d (.int .i64 0), .d (.int .i64 0), .d (.bool false), .d (.sl .nil 0 [])] [], none, 0⟩,
  ⟨none, .store 17 (.t 8) (.t 15), none, 1⟩,
  ⟨some 9, .mv (.c (.d (.int .i64 200))), none, 3⟩]
def r16_3 : List CO := [
  ⟨some 16, .load true 17 (.t 4), none, 0⟩,
  ⟨some 17, .call (.c (.fn 40 [])) [(.t 16)], none, 1⟩,
  ⟨none, .store 17 (.t 4) (.t 17), none, 3⟩]
def r16_4 : List CO := [
  ⟨some 18, .mv (.t 1), none, 0⟩,
  ⟨some 19, .mv (.t 2), none, 0⟩,
  ⟨some 20, .mv (.t 3), none, 0⟩,
  ⟨some 21, .fa 0 (.t 4), none, 1⟩,
  ⟨none, .store 1 (.t 21) (.t 18), none, 9⟩,
  ⟨some 22, .fa 1 (.t 4), none, 27⟩,
  ⟨none, .store 1 (.t 22) (.t 19), none, 59⟩,
  ⟨some 23, .fa 2 (.t 4), none, 127⟩,
  ⟨none, .store 1 (.t 23) (.t 20), none, 255⟩]
def r16_5 : List CO := [
  ⟨some 24, .load true 17 (.t 4), none, 0⟩,
  ⟨none, .store 17 (.t 8) (.t 24), none, 1⟩,
  ⟨some 9, .mv (.c (.d (.int .i64 0))), none, 3⟩]
def c16 : CF := { body := .seq (.reg r16_0 false (some [1, 2, 3, 4, 8])) (.seq (.seq (.reg r16_1 false (some [1, 2, 3, 4, 8, 14])) (.cond (.t 14) (.seq (.reg r16_2 false (some [8, 9])) (.ret)) (.skip))) (.seq (.reg r16_3 false (some [1, 2, 3, 4, 8])) (.seq (.reg r16_4 false (some [4, 8])) (.seq (.reg r16_5 false (some [8, 9])) (.ret))))), res := [.cell 8 true 17, .tmp 9], rowArgs := [], keep := false, rowRes := [], clone := none, dl := none }
/- 17 kaudit/kauditref20.Configure -/
def r17_0 : List CO := [
  ⟨some 4, .box 17 (.t 0) [], none, 0⟩,
  ⟨some 8, .alloc [.d (.int .i64 0), .d (.int .i64 0), .d (.int .i64 0), .d (.int .i64 0), .d (.int .i64 0), .d (.sl .nil 0 []), .d (.sl .nil 0 []), .d (.int .i64 0), .d (.int .i64 0), .d (.int .i64 0), .d (.int .i64 0), .d (.int .i64 0), .d (.int .i64 0), .d (.int .i64 0), .d (.int .i64 0), .d (.bool false), .d (.sl .nil 0 [])] [], none, 0⟩,
  ⟨some 9, .mv (.c (.d (.int .i64 0))), none, 0⟩]
def r17_1 : List CO := [
  ⟨some 11, .mv (.t 1), none, 0⟩,
  ⟨some 12, .mv (.t 2), none, 0⟩,
  ⟨some 13, .mv (.t 3), none, 0⟩,
  ⟨some 14, .call (.c (.fn 34 [])) [(.t 11), (.t 12), (.t 13)], none, 7⟩,
  ⟨some 15, .un .not (.t 14), none, 15⟩]
def r17_2 : List CO := [
  ⟨some 16, .build [.d (.int .i64 0), .d (.int .i64 0), .d (.int .i64 0), .d (.int .i64 0), .d (.int .i64 0), .d (.sl .nil 0 []), .d (.sl .nil 0 []), .d (.int .i64 0), .d (.int .i64 0), .d (.int .i64 0), .d (.int .i64 0), .d (.int .i64 0), .d (.int .i64 0), .d (.int .i64 0), .d (.int .i64 0), .d (.bool false), .d (.sl .nil 0 [])] [], none, 0⟩,
  ⟨none, .store 17 (.t 8) (.t 16), none, 1⟩,
  ⟨some 9, .mv (.c (.d (.int .i64 200))), none, 3⟩]
def r17_3 : List CO := [
  ⟨some 17, .load true 17 (.t 4), none, 0⟩,
  ⟨some 18, .call (.c (.fn 35 [])) [(.t 17)], none, 1⟩,
  ⟨some 10, .alloc [.d (.int .i64 0), .d (.int .i64 0), .d (.int .i64 0), .d (.int .i64 0), .d (.int .i64 0), .d (.sl .nil 0 []), .d (.sl .nil 0 []), .d (.int .i64 0), .d (.int .i64 0), .d (.int .i64 0), .d (.int .i64 0), .d (.int .i64 0), .d (.int .i64 0), .d (.int .i64 0), .d (.int .i64 0), .d (.bool false), .d (.sl .nil 0 [])] [], none, 0⟩,
  ⟨none, .store 17 (.t 10) (.t 18), none, 7⟩]
def r17_4 : List CO := [
  ⟨some 19, .mv (.t 1), none, 0⟩,
  ⟨some 20, .mv (.t 2), none, 0⟩,
  ⟨some 21, .mv (.t 3), none, 0⟩,
  ⟨some 22, .fa 0 (.t 10), none, 1⟩,
  ⟨none, .store 1 (.t 22) (.t 19), none, 9⟩,
  ⟨some 23, .fa 1 (.t 10), none, 27⟩,
  ⟨none, .store 1 (.t 23) (.t 20), none, 59⟩,
  ⟨some 24, .fa 2 (.t 10), none, 127⟩,
  ⟨none, .store 1 (.t 24) (.t 21), none, 255⟩]
def r17_5 : List CO := [
  ⟨some 25, .load true 17 (.t 10), none, 0⟩,
  ⟨none, .store 17 (.t 8) (.t 25), none, 1⟩,
  ⟨some 9, .mv (.c (.d (.int .i64 0))), none, 3⟩]
def c17 : CF := { body := .seq (.reg r17_0 false (some [1, 2, 3, 4, 8])) (.seq (.seq (.reg r17_1 false (some [1, 2, 3, 4, 8, 15])) (.cond (.t 15) (.seq (.reg r17_2 false (some [8, 9])) (.ret)) (.skip))) (.seq (.reg r17_3 false (some [1, 2, 3, 8, 10])) (.seq (.reg r17_4 false (some [8, 10])) (.seq (.reg r17_5 false (some [8, 9])) (.ret))))), res := [.cell 8 true 17, .tmp 9], rowArgs := [], keep := false, rowRes := [], clone := none, dl := none }
/- 18 kaudit/kauditref20.Same -/
def r18_0 : List CO := [
  ⟨some 2, .box 17 (.t 0) [], none, 0⟩,
  ⟨some 3, .box 17 (.t 1) [], none, 0⟩,
  ⟨some 4, .mv (.c (.d (.bool false))), none, 0⟩]
def r18_1 : List CO := [
  ⟨some 5, .fa 0 (.t 2), none, 0⟩,
  ⟨some 6, .load false 1 (.t 5), none, 1⟩,
  ⟨some 7, .fa 0 (.t 3), none, 0⟩,
  ⟨some 8, .load false 1 (.t 7), none, 4⟩,
  ⟨some 9, .bin .int .eql (.t 6) (.t 8), none, 15⟩,
  ⟨some 10, .mv (.t 9), none, 31⟩,
  ⟨some 11, .fa 1 (.t 2), some (10, true), 63⟩,
  ⟨some 12, .load false 1 (.t 11), some (10, true), 127⟩,
  ⟨some 13, .fa 1 (.t 3), some (10, true), 63⟩,
  ⟨some 14, .load false 1 (.t 13), some (10, true), 319⟩,
  ⟨some 15, .bin .int .eql (.t 12) (.t 14), some (10, true), 1023⟩,
  ⟨some 16, .pick (.t 10) (.t 15) (.c (.d (.bool false))), none, 2047⟩,
  ⟨some 17, .mv (.t 16), none, 4095⟩,
  ⟨some 18, .fa 2 (.t 2), some (17, true), 8191⟩,
  ⟨some 19, .load false 1 (.t 18), some (17, true), 16383⟩,
  ⟨some 20, .fa 2 (.t 3), some (17, true), 8191⟩,
  ⟨some 21, .load false 1 (.t 20), some (17, true), 40959⟩,
  ⟨some 22, .bin .int .eql (.t 19) (.t 21), some (17, true), 131071⟩,
  ⟨some 23, .pick (.t 17) (.t 22) (.c (.d (.bool false))), none, 262143⟩,
  ⟨some 24, .mv (.t 23), none, 524287⟩,
  ⟨some 25, .fa 3 (.t 2), some (24, true), 1048575⟩,
  ⟨some 26, .load false 1 (.t 25), some (24, true), 2097151⟩,
  ⟨some 27, .fa 3 (.t 3), some (24, true), 1048575⟩,
  ⟨some 28, .load false 1 (.t 27), some (24, true), 5242879⟩,
  ⟨some 29, .bin .int .eql (.t 26) (.t 28), some (24, true), 16777215⟩,
  ⟨some 30, .pick (.t 24) (.t 29) (.c (.d (.bool false))), none, 33554431⟩,
  ⟨some 31, .mv (.t 30), none, 67108863⟩,
  ⟨some 32, .fa 4 (.t 2), some (31, true), 134217727⟩,
  ⟨some 33, .load false 1 (.t 32), some (31, true), 268435455⟩,
  ⟨some 34, .fa 4 (.t 3), some (31, true), 134217727⟩,
  ⟨some 35, .load false 1 (.t 34), some (31, true), 671088639⟩,
  ⟨some 36, .bin .int .eql (.t 33) (.t 35), some (31, true), 2147483647⟩,
  ⟨some 37, .pick (.t 31) (.t 36) (.c (.d (.bool false))), none, 4294967295⟩,
  ⟨some 38, .mv (.t 37), none, 8589934591⟩,
  ⟨some 39, .fa 5 (.t 2), some (38, true), 17179869183⟩,
  ⟨some 40, .load false 1 (.t 39), some (38, true), 34359738367⟩,
  ⟨some 41, .fa 5 (.t 3), some (38, true), 17179869183⟩,
  ⟨some 42, .load false 1 (.t 41), some (38, true), 85899345919⟩,
  ⟨some 43, .call (.c (.fn 41 [])) [(.t 40), (.t 42)], some (38, true), 274877906943⟩,
  ⟨some 44, .pick (.t 38) (.t 43) (.c (.d (.bool false))), none, 549755813887⟩,
  ⟨some 45, .mv (.t 44), none, 1099511627775⟩,
  ⟨some 46, .fa 6 (.t 2), some (45, true), 2199023255551⟩,
  ⟨some 47, .load false 1 (.t 46), some (45, true), 4398046511103⟩,
  ⟨some 48, .fa 6 (.t 3), some (45, true), 2199023255551⟩,
  ⟨some 49, .load false 1 (.t 48), some (45, true), 10995116277759⟩,
  ⟨some 50, .call (.c (.fn 42 [])) [(.t 47), (.t 49)], some (45, true), 35184372088831⟩,
  ⟨some 51, .pick (.t 45) (.t 50) (.c (.d (.bool false))), none, 70368744177663⟩,
  ⟨some 52, .mv (.t 51), none, 140737488355327⟩,
  ⟨some 53, .fa 7 (.t 2), some (52, true), 281474976710655⟩,
  ⟨some 54, .load true 5 (.t 53), some (52, true), 562949953421311⟩,
  ⟨some 55, .fa 7 (.t 3), some (52, true), 281474976710655⟩,
  ⟨some 56, .load true 5 (.t 55), some (52, true), 1407374883553279⟩,
  ⟨some 57, .eqs [.int, .int, .int, .int, .int] false (.t 54) (.t 56), some (52, true), 4503599627370495⟩,
  ⟨some 58, .pick (.t 52) (.t 57) (.c (.d (.bool false))), none, 9007199254740991⟩,
  ⟨some 59, .mv (.t 58), none, 18014398509481983⟩,
  ⟨some 60, .fa 12 (.t 2), some (59, true), 36028797018963967⟩,
  ⟨some 61, .load false 1 (.t 60), some (59, true), 72057594037927935⟩,
  ⟨some 62, .fa 12 (.t 3), some (59, true), 36028797018963967⟩,
  ⟨some 63, .load false 1 (.t 62), some (59, true), 180143985094819839⟩,
  ⟨some 64, .bin .int .eql (.t 61) (.t 63), some (59, true), 576460752303423487⟩,
  ⟨some 65, .pick (.t 59) (.t 64) (.c (.d (.bool false))), none, 1152921504606846975⟩,
  ⟨some 66, .mv (.t 65), none, 2305843009213693951⟩,
  ⟨some 67, .fa 13 (.t 2), some (66, true), 4611686018427387903⟩,
  ⟨some 68, .load false 1 (.t 67), some (66, true), 9223372036854775807⟩,
  ⟨some 69, .fa 13 (.t 3), some (66, true), 4611686018427387903⟩,
  ⟨some 70, .load false 1 (.t 69), some (66, true), 23058430092136939519⟩,
  ⟨some 71, .bin .int .eql (.t 68) (.t 70), some (66, true), 73786976294838206463⟩,
  ⟨some 72, .pick (.t 66) (.t 71) (.c (.d (.bool false))), none, 147573952589676412927⟩,
  ⟨some 73, .mv (.t 72), none, 295147905179352825855⟩,
  ⟨some 74, .fa 14 (.t 2), some (73, true), 590295810358705651711⟩,
  ⟨some 75, .load false 1 (.t 74), some (73, true), 1180591620717411303423⟩,
  ⟨some 76, .fa 14 (.t 3), some (73, true), 590295810358705651711⟩,
  ⟨some 77, .load false 1 (.t 76), some (73, true), 2951479051793528258559⟩,
  ⟨some 78, .bin .int .eql (.t 75) (.t 77), some (73, true), 9444732965739290427391⟩,
  ⟨some 79, .pick (.t 73) (.t 78) (.c (.d (.bool false))), none, 18889465931478580854783⟩,
  ⟨some 80, .mv (.t 79), none, 37778931862957161709567⟩,
  ⟨some 81, .fa 15 (.t 2), some (80, true), 75557863725914323419135⟩,
  ⟨some 82, .load false 1 (.t 81), some (80, true), 151115727451828646838271⟩,
  ⟨some 83, .fa 15 (.t 3), some (80, true), 75557863725914323419135⟩,
  ⟨some 84, .load false 1 (.t 83), some (80, true), 377789318629571617095679⟩,
  ⟨some 85, .bin .bool .eql (.t 82) (.t 84), some (80, true), 1208925819614629174706175⟩,
  ⟨some 86, .pick (.t 80) (.t 85) (.c (.d (.bool false))), none, 2417851639229258349412351⟩,
  ⟨some 87, .mv (.t 86), none, 4835703278458516698824703⟩,
  ⟨some 88, .fa 16 (.t 2), some (87, true), 9671406556917033397649407⟩,
  ⟨some 89, .load false 1 (.t 88), some (87, true), 19342813113834066795298815⟩,
  ⟨some 90, .fa 16 (.t 3), some (87, true), 9671406556917033397649407⟩,
  ⟨some 91, .load false 1 (.t 90), some (87, true), 48357032784585166988247039⟩,
  ⟨some 92, .call (.c (.fn 43 [])) [(.t 89), (.t 91)], some (87, true), 154742504910672534362390527⟩,
  ⟨some 93, .pick (.t 87) (.t 92) (.c (.d (.bool false))), none, 309485009821345068724781055⟩,
  ⟨some 4, .mv (.t 93), none, 618970019642690137449562111⟩]
def c18 : CF := { body := .seq (.reg r18_0 false (some [2, 3])) (.seq (.reg r18_1 false (some [4])) (.ret)), res := [.tmp 4], rowArgs := [], keep := false, rowRes := [], clone := none, dl := none }
/- 19 kaudit/kauditlaw20.awake -/
def r19_0 : List CO := [
  ⟨some 0, .mv (.c (.d (.bool false))), none, 0⟩]
def r19_1 : List CO := [
  ⟨some 8, .call (.c (.fn 15 [])) [(.c (.d (.int .i64 4))), (.c (.d (.int .i64 0))), (.c (.d (.int .i64 1)))], none, 0⟩,
  ⟨some 7, .mv (.t 8), none, 1⟩,
  ⟨some 9, .ext 0 (.t 7), none, 3⟩,
  ⟨some 10, .ext 1 (.t 7), none, 3⟩,
  ⟨some 1, .alloc [.d (.int .i64 0), .d (.int .i64 0), .d (.int .i64 0), .d (.int .i64 0), .d (.int .i64 0), .d (.sl .nil 0 []), .d (.sl .nil 0 []), .d (.int .i64 0), .d (.int .i64 0), .d (.int .i64 0), .d (.int .i64 0), .d (.int .i64 0), .d (.int .i64 0), .d (.int .i64 0), .d (.int .i64 0), .d (.bool false), .d (.sl .nil 0 [])] [], none, 0⟩,
  ⟨none, .store 17 (.t 1) (.t 9), none, 23⟩,
  ⟨some 2, .mv (.t 10), none, 63⟩]
def r19_2 : List CO := [
  ⟨some 12, .load true 17 (.t 1), none, 0⟩,
  ⟨some 13, .call (.c (.fn 24 [])) [(.t 12), (.c (.d (.int .i64 0))), (.c (.d (.int .i64 4)))], none, 1⟩,
  ⟨some 11, .mv (.t 13), none, 3⟩,
  ⟨some 14, .ext 0 (.t 11), none, 7⟩,
  ⟨some 15, .ext 1 (.t 11), none, 7⟩,
  ⟨some 16, .ext 2 (.t 11), none, 7⟩,
  ⟨none, .store 17 (.t 1) (.t 14), none, 15⟩,
  ⟨some 3, .mv (.t 15), none, 95⟩,
  ⟨some 4, .mv (.t 16), none, 255⟩]
def r19_3 : List CO := [
  ⟨some 18, .load true 17 (.t 1), none, 0⟩,
  ⟨some 19, .call (.c (.fn 24 [])) [(.t 18), (.c (.d (.int .i64 0))), (.c (.d (.int .i64 1)))], none, 1⟩,
  ⟨some 17, .mv (.t 19), none, 3⟩,
  ⟨some 20, .ext 0 (.t 17), none, 7⟩,
  ⟨some 21, .ext 1 (.t 17), none, 7⟩,
  ⟨some 22, .ext 2 (.t 17), none, 7⟩,
  ⟨none, .store 17 (.t 1) (.t 20), none, 15⟩,
  ⟨some 5, .mv (.t 21), none, 95⟩,
  ⟨some 6, .mv (.t 22), none, 255⟩]
def r19_4 : List CO := [
  ⟨some 23, .mv (.t 2), none, 0⟩,
  ⟨some 24, .bin .int .eql (.t 23) (.c (.d (.int .i64 0))), none, 1⟩,
  ⟨some 25, .mv (.t 24), none, 3⟩,
  ⟨some 26, .mv (.t 4), some (25, true), 7⟩,
  ⟨some 27, .pick (.t 25) (.t 26) (.c (.d (.bool false))), none, 15⟩,
  ⟨some 28, .mv (.t 27), none, 31⟩,
  ⟨some 29, .mv (.t 3), some (28, true), 63⟩,
  ⟨some 30, .bin .int .eql (.t 29) (.c (.d (.int .i64 1))), some (28, true), 127⟩,
  ⟨some 31, .pick (.t 28) (.t 30) (.c (.d (.bool false))), none, 255⟩,
  ⟨some 32, .mv (.t 31), none, 511⟩,
  ⟨some 33, .mv (.t 6), some (32, true), 1023⟩,
  ⟨some 34, .un .not (.t 33), some (32, true), 2047⟩,
  ⟨some 35, .pick (.t 32) (.t 34) (.c (.d (.bool false))), none, 4095⟩,
  ⟨some 36, .mv (.t 35), none, 8191⟩,
  ⟨some 37, .mv (.t 5), some (36, true), 16383⟩,
  ⟨some 38, .bin .int .eql (.t 37) (.c (.d (.int .i64 2))), some (36, true), 32767⟩,
  ⟨some 39, .pick (.t 36) (.t 38) (.c (.d (.bool false))), none, 65535⟩,
  ⟨some 40, .mv (.t 39), none, 131071⟩,
  ⟨some 41, .fa 7 (.t 1), some (40, true), 262143⟩,
  ⟨some 42, .fa 0 (.t 41), some (40, true), 524287⟩,
  ⟨some 43, .load false 1 (.t 42), some (40, true), 1048575⟩,
  ⟨some 44, .bin .int .eql (.t 43) (.c (.d (.int .i64 2))), some (40, true), 2097151⟩,
  ⟨some 45, .pick (.t 40) (.t 44) (.c (.d (.bool false))), none, 4194303⟩,
  ⟨some 46, .mv (.t 45), none, 8388607⟩,
  ⟨some 47, .fa 7 (.t 1), some (46, true), 16777215⟩,
  ⟨some 48, .fa 3 (.t 47), some (46, true), 33554431⟩,
  ⟨some 49, .load false 1 (.t 48), some (46, true), 67108863⟩,
  ⟨some 50, .bin .int .eql (.t 49) (.c (.d (.int .i64 1))), some (46, true), 134217727⟩,
  ⟨some 51, .pick (.t 46) (.t 50) (.c (.d (.bool false))), none, 268435455⟩,
  ⟨some 52, .mv (.t 51), none, 536870911⟩,
  ⟨some 53, .fa 4 (.t 1), some (52, true), 1073741823⟩,
  ⟨some 54, .load false 1 (.t 53), some (52, true), 2147483647⟩,
  ⟨some 55, .bin .int .eql (.t 54) (.c (.d (.int .i64 4))), some (52, true), 4294967295⟩,
  ⟨some 56, .pick (.t 52) (.t 55) (.c (.d (.bool false))), none, 8589934591⟩,
  ⟨some 0, .mv (.t 56), none, 17179869183⟩]
def c19 : CF := { body := .seq (.reg r19_0 false (some [])) (.seq (.reg r19_1 false (some [1, 2])) (.seq (.reg r19_2 false (some [1, 2, 3, 4])) (.seq (.reg r19_3 false (some [1, 2, 3, 4, 5, 6])) (.seq (.reg r19_4 false (some [0])) (.ret))))), res := [.tmp 0], rowArgs := [], keep := false, rowRes := [], clone := none, dl := none }
/- 20 kaudit/kauditlaw20.begin -/
def r20_0 : List CO := [
  ⟨some 2, .mv (.c (.d (.nilp))), none, 0⟩]
def r20_1 : List CO := [
  ⟨some 7, .build [.d (.int .i64 0), .d (.int .i64 0), .d (.int .i64 0), .d (.int .i64 0), .d (.int .i64 0), .d (.sl .nil 0 []), .d (.sl .nil 0 []), .d (.int .i64 0), .d (.int .i64 0), .d (.int .i64 0), .d (.int .i64 0), .d (.int .i64 0), .d (.int .i64 0), .d (.int .i64 0), .d (.int .i64 0), .d (.bool false), .d (.sl .nil 0 []), .d (.int .i64 0), .d (.int .i64 0), .d (.int .i64 0), .d (.int .i64 0), .d (.int .i64 0), .d (.sl .nil 0 []), .d (.sl .nil 0 []), .d (.int .i64 0), .d (.int .i64 0), .d (.int .i64 0), .d (.int .i64 0), .d (.int .i64 0), .d (.int .i64 0), .d (.int .i64 0), .d (.int .i64 0), .d (.bool false), .d (.sl .nil 0 []), .d (.sl .nil 0 []), .d (.int .i64 0), .d (.sl .nil 0 []), .d (.sl .nil 0 [])] [], none, 0⟩,
  ⟨some 8, .box 38 (.t 7) [(36, 4), (37, 1)], none, 1⟩,
  ⟨some 3, .mv (.t 8), none, 3⟩]
def r20_2 : List CO := [
  ⟨some 9, .mv (.t 0), none, 0⟩,
  ⟨some 10, .bslice 1 7 [.int .i64 0, .int .i64 0, .int .i64 0, .int .i64 0, .int .i64 0, .int .i64 0, .int .i64 0] false [(0, (.c (.d (.int .i64 64)))), (1, (.c (.d (.int .i64 64)))), (2, (.c (.d (.int .i64 20)))), (3, (.c (.d (.int .i64 8)))), (4, (.c (.d (.int .i64 5)))), (5, (.c (.d (.int .i64 1)))), (6, (.c (.d (.int .i64 3))))], none, 0⟩,
  ⟨some 11, .call (.c (.fn 12 [])) [(.t 9), (.t 10)], none, 3⟩,
  ⟨some 12, .mv (.t 0), none, 0⟩,
  ⟨some 13, .bslice 1 5 [.int .i64 0, .int .i64 0, .int .i64 0, .int .i64 0, .int .i64 0] false [(0, (.c (.d (.int .i64 0)))), (1, (.c (.d (.int .i64 0)))), (2, (.c (.d (.int .i64 0)))), (3, (.c (.d (.int .i64 2)))), (4, (.c (.d (.int .i64 5))))], none, 0⟩,
  ⟨some 14, .call (.c (.fn 12 [])) [(.t 12), (.t 13)], none, 31⟩,
  ⟨some 15, .mv (.t 0), none, 0⟩,
  ⟨some 16, .call (.c (.fn 11 [])) [(.t 15), (.c (.d (.int .i64 1))), (.c (.d (.int .i64 3)))], none, 127⟩,
  ⟨some 4, .mv (.t 11), none, 255⟩,
  ⟨some 5, .mv (.t 14), none, 511⟩,
  ⟨some 6, .mv (.t 16), none, 1023⟩]
def r20_3 : List CO := [
  ⟨some 18, .mv (.t 3), none, 0⟩,
  ⟨some 19, .mv (.t 4), none, 0⟩,
  ⟨some 20, .mv (.t 5), none, 0⟩,
  ⟨some 21, .mv (.t 6), none, 0⟩,
  ⟨some 22, .call (.c (.fn 15 [])) [(.t 19), (.t 20), (.t 21)], none, 14⟩,
  ⟨some 17, .mv (.t 22), none, 30⟩,
  ⟨some 23, .ext 0 (.t 17), none, 62⟩,
  ⟨some 24, .ext 1 (.t 17), none, 62⟩,
  ⟨some 25, .nilck (.t 18), none, 127⟩,
  ⟨some 26, .fa 0 (.t 25), none, 383⟩,
  ⟨none, .store 17 (.t 26) (.t 23), none, 895⟩]
def r20_4 : List CO := [
  ⟨some 28, .mv (.t 3), none, 0⟩,
  ⟨some 29, .mv (.t 4), none, 0⟩,
  ⟨some 30, .mv (.t 5), none, 0⟩,
  ⟨some 31, .mv (.t 6), none, 0⟩,
  ⟨some 32, .call (.c (.fn 13 [])) [(.t 29), (.t 30), (.t 31)], none, 14⟩,
  ⟨some 27, .mv (.t 32), none, 30⟩,
  ⟨some 33, .ext 0 (.t 27), none, 62⟩,
  ⟨some 34, .ext 1 (.t 27), none, 62⟩,
  ⟨some 35, .nilck (.t 28), none, 127⟩,
  ⟨some 36, .fa 17 (.t 35), none, 383⟩,
  ⟨none, .store 17 (.t 36) (.t 33), none, 895⟩]
def r20_5 : List CO := [
  ⟨some 37, .mv (.t 3), none, 0⟩,
  ⟨some 2, .mv (.t 37), none, 1⟩]
def c20 : CF := { body := .seq (.reg r20_0 false (some [0])) (.seq (.reg r20_1 false (some [0, 3])) (.seq (.reg r20_2 false (some [3, 4, 5, 6])) (.seq (.reg r20_3 false (some [3, 4, 5, 6])) (.seq (.reg r20_4 false (some [3])) (.seq (.reg r20_5 false (some [2])) (.ret)))))), res := [.tmp 2], rowArgs := [], keep := false, rowRes := [], clone := none, dl := none }
/- 21 (kaudit/kauditlaw20.play).step -/
def r21_0 : List CO := [
  ⟨some 4, .mv (.c (.d (.bool false))), none, 0⟩]
def r21_1 : List CO := [
  ⟨some 13, .mv (.t 1), none, 0⟩,
  ⟨some 14, .call (.c (.fn 30 [])) [(.t 13), (.c (.d (.int .i64 9)))], none, 1⟩,
  ⟨some 5, .mv (.t 14), none, 3⟩]
def r21_2 : List CO := [
  ⟨some 57, .mv (.t 5), none, 0⟩,
  ⟨some 58, .bin .int .lss (.t 57) (.c (.d (.int .i64 3))), none, 1⟩,
  ⟨some 56, .mv (.t 58), none, 3⟩]
def r21_3 : List CO := [
  ⟨some 59, .mv (.t 0), none, 0⟩,
  ⟨some 60, .mv (.t 1), none, 0⟩,
  ⟨some 61, .bslice 1 7 [.int .i64 0, .int .i64 0, .int .i64 0, .int .i64 0, .int .i64 0, .int .i64 0, .int .i64 0] false [(0, (.c (.d (.int .i64 1)))), (1, (.c (.d (.int .i64 1)))), (2, (.c (.d (.int .i64 2)))), (3, (.c (.d (.int .i64 4)))), (4, (.c (.d (.int .i64 5)))), (5, (.c (.d (.int .i64 0)))), (6, (.c (.d (.int .i64 65))))], none, 0⟩,
  ⟨some 62, .call (.c (.fn 12 [])) [(.t 60), (.t 61)], none, 6⟩,
  ⟨some 63, .call (.c (.fn 31 [])) [(.t 59), (.t 62)], none, 15⟩,
  ⟨some 64, .un .not (.t 63), none, 31⟩]
def r21_4 : List CO := [
  ⟨some 4, .mv (.c (.d (.bool false))), none, 0⟩]
def r21_5 : List CO := [
  ⟨some 66, .mv (.t 5), none, 0⟩,
  ⟨some 67, .bin .int .lss (.t 66) (.c (.d (.int .i64 6))), none, 1⟩,
  ⟨some 65, .mv (.t 67), none, 3⟩]
def r21_6 : List CO := [
  ⟨some 68, .mv (.t 0), none, 0⟩,
  ⟨some 69, .nilck (.t 68), none, 1⟩,
  ⟨some 70, .fa 34 (.t 69), none, 3⟩,
  ⟨some 71, .load false 1 (.t 70), none, 7⟩,
  ⟨some 72, .len .sl (.t 71), none, 15⟩,
  ⟨some 73, .bin .int .gtr (.t 72) (.c (.d (.int .i64 0))), none, 31⟩]
def r21_7 : List CO := [
  ⟨some 74, .mv (.t 0), none, 0⟩,
  ⟨some 75, .mv (.t 1), none, 0⟩,
  ⟨some 76, .mv (.t 0), none, 0⟩,
  ⟨some 77, .nilck (.t 76), none, 4⟩,
  ⟨some 78, .fa 34 (.t 77), none, 12⟩,
  ⟨some 79, .load false 1 (.t 78), none, 28⟩,
  ⟨some 80, .len .sl (.t 79), none, 60⟩,
  ⟨some 81, .call (.c (.fn 30 [])) [(.t 75), (.t 80)], none, 126⟩,
  ⟨some 82, .call (.c (.fn 32 [])) [(.t 74), (.t 81)], none, 255⟩]
def r21_8 : List CO := [
  ⟨some 84, .mv (.t 5), none, 0⟩,
  ⟨some 85, .bin .int .lss (.t 84) (.c (.d (.int .i64 7))), none, 1⟩,
  ⟨some 83, .mv (.t 85), none, 3⟩]
def r21_9 : List CO := [
  ⟨some 86, .mv (.t 0), none, 0⟩,
  ⟨some 87, .mv (.t 1), none, 0⟩,
  ⟨some 88, .bslice 1 6 [.int .i64 0, .int .i64 0, .int .i64 0, .int .i64 0, .int .i64 0, .int .i64 0] false [(0, (.c (.d (.int .i64 0)))), (1, (.c (.d (.int .i64 1)))), (2, (.c (.d (.int .i64 2)))), (3, (.c (.d (.int .i64 5)))), (4, (.c (.d (.int .i64 64)))), (5, (.c (.d (.int .i64 (-1)))))], none, 0⟩,
  ⟨some 89, .call (.c (.fn 12 [])) [(.t 87), (.t 88)], none, 6⟩,
  ⟨some 90, .call (.c (.fn 33 [])) [(.t 86), (.t 89)], none, 15⟩,
  ⟨some 91, .un .not (.t 90), none, 31⟩]
def r21_10 : List CO := [
  ⟨some 4, .mv (.c (.d (.bool false))), none, 0⟩]
def r21_11 : List CO := [
  ⟨some 93, .mv (.t 5), none, 0⟩,
  ⟨some 94, .bin .int .lss (.t 93) (.c (.d (.int .i64 8))), none, 1⟩,
  ⟨some 92, .mv (.t 94), none, 3⟩]
def r21_12 : List CO := [
  ⟨some 95, .mv (.t 0), none, 0⟩,
  ⟨some 96, .nilck (.t 95), none, 1⟩,
  ⟨some 97, .fa 35 (.t 96), none, 3⟩,
  ⟨some 98, .load false 1 (.t 97), none, 7⟩,
  ⟨some 99, .mv (.t 1), none, 0⟩,
  ⟨some 100, .bslice 1 3 [.int .i64 0, .int .i64 0, .int .i64 0] false [(0, (.c (.d (.int .i64 1)))), (1, (.c (.d (.int .i64 400)))), (2, (.c (.d (.int .i64 1000))))], none, 0⟩,
  ⟨some 101, .call (.c (.fn 12 [])) [(.t 99), (.t 100)], none, 48⟩,
  ⟨some 102, .bin .int .add (.t 98) (.t 101), none, 127⟩,
  ⟨some 103, .nilck (.t 95), none, 255⟩,
  ⟨some 104, .fa 35 (.t 103), none, 511⟩,
  ⟨none, .store 1 (.t 104) (.t 102), none, 1023⟩]
def r21_13 : List CO := [
  ⟨some 15, .mv (.t 1), none, 0⟩,
  ⟨some 16, .bslice 1 4 [.int .i64 0, .int .i64 0, .int .i64 0, .int .i64 0] false [(0, (.c (.d (.int .i64 64)))), (1, (.c (.d (.int .i64 20)))), (2, (.c (.d (.int .i64 6)))), (3, (.c (.d (.int .i64 2))))], none, 0⟩,
  ⟨some 17, .call (.c (.fn 12 [])) [(.t 15), (.t 16)], none, 3⟩,
  ⟨some 18, .mv (.t 1), none, 0⟩,
  ⟨some 19, .bslice 1 2 [.int .i64 0, .int .i64 0] false [(0, (.c (.d (.int .i64 0)))), (1, (.c (.d (.int .i64 3))))], none, 0⟩,
  ⟨some 20, .call (.c (.fn 12 [])) [(.t 18), (.t 19)], none, 31⟩,
  ⟨some 21, .mv (.t 1), none, 0⟩,
  ⟨some 22, .call (.c (.fn 11 [])) [(.t 21), (.c (.d (.int .i64 1))), (.c (.d (.int .i64 3)))], none, 127⟩,
  ⟨some 6, .mv (.t 17), none, 255⟩,
  ⟨some 7, .mv (.t 20), none, 511⟩,
  ⟨some 8, .mv (.t 22), none, 1023⟩]
def r21_14 : List CO := [
  ⟨some 24, .mv (.t 0), none, 0⟩,
  ⟨some 25, .nilck (.t 24), none, 1⟩,
  ⟨some 26, .fa 0 (.t 25), none, 3⟩,
  ⟨some 27, .load true 17 (.t 26), none, 7⟩,
  ⟨some 28, .mv (.t 6), none, 0⟩,
  ⟨some 29, .mv (.t 7), none, 0⟩,
  ⟨some 30, .mv (.t 8), none, 0⟩,
  ⟨some 31, .call (.c (.fn 16 [])) [(.t 27), (.t 28), (.t 29), (.t 30)], none, 127⟩,
  ⟨some 23, .mv (.t 31), none, 255⟩,
  ⟨some 32, .ext 0 (.t 23), none, 511⟩,
  ⟨some 33, .ext 1 (.t 23), none, 511⟩,
  ⟨some 9, .alloc [.d (.int .i64 0), .d (.int .i64 0), .d (.int .i64 0), .d (.int .i64 0), .d (.int .i64 0), .d (.sl .nil 0 []), .d (.sl .nil 0 []), .d (.int .i64 0), .d (.int .i64 0), .d (.int .i64 0), .d (.int .i64 0), .d (.int .i64 0), .d (.int .i64 0), .d (.int .i64 0), .d (.int .i64 0), .d (.bool false), .d (.sl .nil 0 [])] [], none, 0⟩,
  ⟨none, .store 17 (.t 9) (.t 32), none, 3071⟩,
  ⟨some 10, .mv (.t 33), none, 8191⟩]
def r21_15 : List CO := [
  ⟨some 35, .mv (.t 0), none, 0⟩,
  ⟨some 36, .nilck (.t 35), none, 1⟩,
  ⟨some 37, .fa 17 (.t 36), none, 3⟩,
  ⟨some 38, .load true 17 (.t 37), none, 7⟩,
  ⟨some 39, .mv (.t 6), none, 0⟩,
  ⟨some 40, .mv (.t 7), none, 0⟩,
  ⟨some 41, .mv (.t 8), none, 0⟩,
  ⟨some 42, .call (.c (.fn 17 [])) [(.t 38), (.t 39), (.t 40), (.t 41)], none, 127⟩,
  ⟨some 34, .mv (.t 42), none, 255⟩,
  ⟨some 43, .ext 0 (.t 34), none, 511⟩,
  ⟨some 44, .ext 1 (.t 34), none, 511⟩,
  ⟨some 11, .alloc [.d (.int .i64 0), .d (.int .i64 0), .d (.int .i64 0), .d (.int .i64 0), .d (.int .i64 0), .d (.sl .nil 0 []), .d (.sl .nil 0 []), .d (.int .i64 0), .d (.int .i64 0), .d (.int .i64 0), .d (.int .i64 0), .d (.int .i64 0), .d (.int .i64 0), .d (.int .i64 0), .d (.int .i64 0), .d (.bool false), .d (.sl .nil 0 [])] [], none, 0⟩,
  ⟨none, .store 17 (.t 11) (.t 43), none, 3071⟩,
  ⟨some 12, .mv (.t 44), none, 8191⟩]
def r21_16 : List CO := [
  ⟨some 45, .mv (.t 10), none, 0⟩,
  ⟨some 46, .mv (.t 12), none, 0⟩,
  ⟨some 47, .bin .int .neq (.t 45) (.t 46), none, 3⟩]
def r21_17 : List CO := [
  ⟨some 4, .mv (.c (.d (.bool false))), none, 0⟩]
def r21_18 : List CO := [
  ⟨some 48, .mv (.t 0), none, 0⟩,
  ⟨some 49, .mv (.t 0), none, 0⟩,
  ⟨some 50, .load true 17 (.t 9), none, 0⟩,
  ⟨some 51, .load true 17 (.t 11), none, 0⟩,
  ⟨some 52, .nilck (.t 48), none, 5⟩,
  ⟨some 53, .fa 0 (.t 52), none, 21⟩,
  ⟨none, .store 17 (.t 53) (.t 50), none, 53⟩,
  ⟨some 54, .nilck (.t 49), none, 127⟩,
  ⟨some 55, .fa 17 (.t 54), none, 255⟩,
  ⟨none, .store 17 (.t 55) (.t 51), none, 511⟩]
def r21_19 : List CO := [
  ⟨some 105, .mv (.t 0), none, 0⟩,
  ⟨some 106, .nilck (.t 105), none, 1⟩,
  ⟨some 107, .fa 0 (.t 106), none, 3⟩,
  ⟨some 108, .load true 17 (.t 107), none, 7⟩,
  ⟨some 109, .mv (.t 0), none, 0⟩,
  ⟨some 110, .nilck (.t 109), none, 16⟩,
  ⟨some 111, .fa 17 (.t 110), none, 48⟩,
  ⟨some 112, .load true 17 (.t 111), none, 112⟩,
  ⟨some 113, .call (.c (.fn 18 [])) [(.t 108), (.t 112)], none, 255⟩,
  ⟨some 4, .mv (.t 113), none, 511⟩]
def c21 : CF := { body := .seq (.reg r21_0 false (some [0, 1])) (.seq (.seq (.reg r21_1 false (some [0, 1, 5])) (.block 0 (.seq (.reg r21_2 false (some [0, 1, 5, 56])) (.cond (.t 56) (.seq (.reg r21_3 false (some [0, 64])) (.cond (.t 64) (.seq (.reg r21_4 false (some [4])) (.ret)) (.skip))) (.seq (.reg r21_5 false (some [0, 1, 5, 65])) (.cond (.t 65) (.seq (.reg r21_6 false (some [0, 1, 73])) (.cond (.t 73) (.reg r21_7 false (some [0])) (.skip))) (.seq (.reg r21_8 false (some [0, 1, 5, 83])) (.cond (.t 83) (.seq (.reg r21_9 false (some [0, 91])) (.cond (.t 91) (.seq (.reg r21_10 false (some [4])) (.ret)) (.skip))) (.seq (.reg r21_11 false (some [0, 1, 92])) (.cond (.t 92) (.reg r21_12 true (some [0])) (.seq (.reg r21_13 false (some [0, 6, 7, 8])) (.seq (.reg r21_14 false (some [0, 6, 7, 8, 9, 10])) (.seq (.reg r21_15 false (some [0, 9, 10, 11, 12])) (.seq (.seq (.reg r21_16 false (some [0, 9, 11, 47])) (.cond (.t 47) (.seq (.reg r21_17 false (some [4])) (.ret)) (.skip))) (.reg r21_18 true (some [0])))))))))))))))) (.seq (.reg r21_19 true (some [4])) (.ret))), res := [.tmp 4], rowArgs := [], keep := false, rowRes := [], clone := none, dl := none }
/- 24 kaudit/backlog.Offer -/
def r24_0 : List CO := [
  ⟨some 3, .box 17 (.t 0) [], none, 0⟩,
  ⟨some 4, .box 1 (.t 1) [], none, 0⟩,
  ⟨some 5, .box 1 (.t 2) [], none, 0⟩,
  ⟨some 6, .alloc [.d (.int .i64 0), .d (.int .i64 0), .d (.int .i64 0), .d (.int .i64 0), .d (.int .i64 0), .d (.sl .nil 0 []), .d (.sl .nil 0 []), .d (.int .i64 0), .d (.int .i64 0), .d (.int .i64 0), .d (.int .i64 0), .d (.int .i64 0), .d (.int .i64 0), .d (.int .i64 0), .d (.int .i64 0), .d (.bool false), .d (.sl .nil 0 [])] [], none, 0⟩,
  ⟨some 7, .mv (.c (.d (.int .i64 0))), none, 0⟩,
  ⟨some 8, .mv (.c (.d (.bool false))), none, 16⟩]
def r24_1 : List CO := [
  ⟨some 12, .load true 17 (.t 3), none, 0⟩,
  ⟨some 13, .call (.c (.fn 40 [])) [(.t 12)], none, 1⟩,
  ⟨none, .store 17 (.t 3) (.t 13), none, 3⟩]
def r24_2 : List CO := [
  ⟨some 14, .load false 1 (.t 5), none, 0⟩,
  ⟨some 15, .bin .int .lss (.t 14) (.c (.d (.int .i64 1))), none, 1⟩,
  ⟨some 16, .mv (.t 15), none, 3⟩,
  ⟨some 17, .load false 1 (.t 5), some (16, false), 7⟩,
  ⟨some 18, .bin .int .gtr (.t 17) (.c (.d (.int .i64 64))), some (16, false), 15⟩,
  ⟨some 19, .pick (.t 16) (.c (.d (.bool true))) (.t 18), none, 31⟩,
  ⟨some 20, .mv (.t 19), none, 63⟩,
  ⟨some 21, .load true 17 (.t 3), some (20, false), 127⟩,
  ⟨some 22, .load false 1 (.t 4), some (20, false), 127⟩,
  ⟨some 23, .call (.c (.fn 44 [])) [(.t 21), (.t 22)], some (20, false), 511⟩,
  ⟨some 24, .pick (.t 20) (.c (.d (.bool true))) (.t 23), none, 1023⟩]
def r24_3 : List CO := [
  ⟨some 25, .load true 17 (.t 3), none, 0⟩,
  ⟨none, .store 17 (.t 6) (.t 25), none, 1⟩,
  ⟨some 7, .mv (.c (.d (.int .i64 0))), none, 3⟩,
  ⟨some 8, .mv (.c (.d (.bool false))), none, 7⟩]
def r24_4 : List CO := [
  ⟨some 26, .fa 3 (.t 3), none, 0⟩,
  ⟨some 27, .load false 1 (.t 26), none, 1⟩,
  ⟨some 28, .bin .int .add (.t 27) (.c (.d (.int .i64 1))), none, 3⟩,
  ⟨some 29, .call (.c (.fn 46 [])) [(.t 3)], none, 0⟩,
  ⟨some 30, .call (.c (.fn 45 [])) [(.t 29)], none, 8⟩,
  ⟨some 31, .bin .int .add (.t 28) (.t 30), none, 31⟩,
  ⟨some 9, .alloc [.d (.int .i64 0)] [], none, 0⟩,
  ⟨none, .store 1 (.t 9) (.t 31), none, 127⟩]
def r24_5 : List CO := [
  ⟨some 32, .call (.c (.fn 47 [])) [], none, 0⟩,
  ⟨some 10, .alloc [.d (.nilf), .d (.nilf), .d (.nilf)] [], none, 0⟩,
  ⟨none, .store 3 (.t 10) (.t 32), none, 3⟩]
def r24_6 : List CO := [
  ⟨some 33, .slArr 3 1 (.t 10) none none, none, 0⟩,
  ⟨some 34, .mkfn 49 [(.t 3), (.t 4), (.t 5), (.t 9)], none, 0⟩,
  ⟨some 35, .call (.c (.fn 48 [])) [(.t 33), (.t 34)], none, 3⟩,
  ⟨some 11, .mv (.t 35), none, 7⟩]
def r24_7 : List CO := [
  ⟨some 36, .mv (.t 11), none, 0⟩,
  ⟨some 37, .bin .int .geq (.t 36) (.c (.d (.int .i64 0))), none, 1⟩]
def r24_8 : List CO := [
  ⟨some 38, .load false 1 (.t 4), none, 0⟩,
  ⟨some 39, .mv (.t 11), none, 0⟩,
  ⟨some 40, .call (.c (.fn 50 [])) [(.t 3), (.t 38), (.t 39)], none, 3⟩]
def r24_9 : List CO := [
  ⟨some 41, .load true 17 (.t 3), none, 0⟩,
  ⟨some 42, .fa 3 (.t 3), none, 0⟩,
  ⟨some 43, .load false 1 (.t 42), none, 2⟩,
  ⟨none, .store 17 (.t 6) (.t 41), none, 1⟩,
  ⟨some 7, .mv (.t 43), none, 15⟩,
  ⟨some 8, .mv (.c (.d (.bool false))), none, 31⟩]
def r24_10 : List CO := [
  ⟨some 44, .call (.c (.fn 46 [])) [(.t 3)], none, 0⟩]
def r24_11 : List CO := [
  ⟨some 45, .load false 1 (.t 4), none, 0⟩,
  ⟨some 46, .call (.c (.fn 51 [])) [(.t 3), (.t 45)], none, 1⟩]
def r24_12 : List CO := [
  ⟨some 47, .load false 1 (.t 9), none, 0⟩,
  ⟨some 48, .fa 3 (.t 3), none, 1⟩,
  ⟨none, .store 1 (.t 48) (.t 47), none, 3⟩]
def r24_13 : List CO := [
  ⟨some 49, .fa 4 (.t 3), none, 0⟩,
  ⟨some 50, .load false 1 (.t 49), none, 1⟩,
  ⟨some 51, .load false 1 (.t 5), none, 0⟩,
  ⟨some 52, .bin .int .add (.t 50) (.t 51), none, 7⟩,
  ⟨some 53, .fa 4 (.t 3), none, 15⟩,
  ⟨none, .store 1 (.t 53) (.t 52), none, 31⟩]
def r24_14 : List CO := [
  ⟨some 54, .fa 5 (.t 3), none, 0⟩,
  ⟨some 55, .load false 1 (.t 54), none, 1⟩,
  ⟨some 56, .load false 1 (.t 9), none, 0⟩,
  ⟨some 57, .bslice 1 1 [.int .i64 0] false [(0, (.t 56))], none, 4⟩,
  ⟨some 58, .app 1 8 (.t 55) (.t 57), none, 15⟩,
  ⟨some 59, .fa 5 (.t 3), none, 31⟩,
  ⟨none, .store 1 (.t 59) (.t 58), none, 63⟩]
def r24_15 : List CO := [
  ⟨some 60, .load false 1 (.t 4), none, 0⟩,
  ⟨some 61, .bin .int .quo (.t 60) (.c (.d (.int .i64 1000))), none, 1⟩,
  ⟨some 62, .fa 12 (.t 3), none, 0⟩,
  ⟨some 63, .load false 1 (.t 62), none, 4⟩,
  ⟨some 64, .bin .int .neq (.t 61) (.t 63), none, 15⟩]
def r24_16 : List CO := [
  ⟨some 65, .load false 1 (.t 4), none, 0⟩,
  ⟨some 66, .bin .int .quo (.t 65) (.c (.d (.int .i64 1000))), none, 1⟩,
  ⟨some 67, .fa 12 (.t 3), none, 3⟩,
  ⟨none, .store 1 (.t 67) (.t 66), none, 7⟩,
  ⟨some 68, .fa 13 (.t 3), none, 15⟩,
  ⟨none, .store 1 (.t 68) (.c (.d (.int .i64 0))), none, 31⟩]
def r24_17 : List CO := [
  ⟨some 69, .fa 13 (.t 3), none, 0⟩,
  ⟨some 70, .load false 1 (.t 69), none, 1⟩,
  ⟨some 71, .bin .int .add (.t 70) (.c (.d (.int .i64 1))), none, 3⟩,
  ⟨some 72, .fa 13 (.t 3), none, 7⟩,
  ⟨none, .store 1 (.t 72) (.t 71), none, 15⟩]
def r24_18 : List CO := [
  ⟨some 73, .load true 17 (.t 3), none, 0⟩,
  ⟨some 74, .load false 1 (.t 9), none, 0⟩,
  ⟨none, .store 17 (.t 6) (.t 73), none, 1⟩,
  ⟨some 7, .mv (.t 74), none, 7⟩,
  ⟨some 8, .mv (.c (.d (.bool true))), none, 15⟩]
def c24 : CF := { body := .seq (.reg r24_0 false (some [3, 4, 5, 6])) (.seq (.reg r24_1 false (some [3, 4, 5, 6])) (.seq (.seq (.reg r24_2 false (some [3, 4, 5, 6, 24])) (.cond (.t 24) (.seq (.reg r24_3 false (some [6, 7, 8])) (.ret)) (.skip))) (.seq (.reg r24_4 true (some [3, 4, 5, 6, 9])) (.seq (.reg r24_5 false (some [3, 4, 5, 6, 9, 10])) (.seq (.reg r24_6 false (some [3, 4, 5, 6, 9, 11])) (.seq (.seq (.reg r24_7 false (some [3, 4, 5, 6, 9, 11, 37])) (.cond (.t 37) (.seq (.reg r24_8 false (some [3, 6])) (.seq (.reg r24_9 true (some [6, 7, 8])) (.ret))) (.skip))) (.seq (.seq (.reg r24_10 false (some [3, 4, 5, 6, 9, 44])) (.cond (.t 44) (.reg r24_11 false (some [3, 4, 5, 6, 9])) (.skip))) (.seq (.reg r24_12 false (some [3, 4, 5, 6, 9])) (.seq (.reg r24_13 false (some [3, 4, 6, 9])) (.seq (.reg r24_14 false (some [3, 4, 6, 9])) (.seq (.seq (.reg r24_15 false (some [3, 4, 6, 9, 64])) (.cond (.t 64) (.reg r24_16 false (some [3, 6, 9])) (.skip))) (.seq (.reg r24_17 false (some [3, 6, 9])) (.seq (.reg r24_18 true (some [6, 7, 8])) (.ret)))))))))))))), res := [.cell 6 true 17, .tmp 7, .tmp 8], rowArgs := [], keep := false, rowRes := [], clone := none, dl := none }
/- 25 kaudit/backlog.Put -/
def r25_0 : List CO := [
  ⟨some 3, .box 17 (.t 0) [], none, 0⟩,
  ⟨some 4, .box 4 (.t 1) [], none, 0⟩,
  ⟨some 6, .alloc [.d (.int .i64 0), .d (.int .i64 0), .d (.int .i64 0), .d (.int .i64 0), .d (.int .i64 0), .d (.sl .nil 0 []), .d (.sl .nil 0 []), .d (.int .i64 0), .d (.int .i64 0), .d (.int .i64 0), .d (.int .i64 0), .d (.int .i64 0), .d (.int .i64 0), .d (.int .i64 0), .d (.int .i64 0), .d (.bool false), .d (.sl .nil 0 [])] [], none, 0⟩]
def r25_1 : List CO := [
  ⟨some 7, .load true 17 (.t 3), none, 0⟩,
  ⟨some 8, .call (.c (.fn 40 [])) [(.t 7)], none, 1⟩,
  ⟨none, .store 17 (.t 3) (.t 8), none, 3⟩]
def r25_2 : List CO := [
  ⟨some 9, .fa 6 (.t 3), none, 0⟩,
  ⟨some 10, .load false 1 (.t 9), none, 1⟩,
  ⟨some 11, .load true 4 (.t 4), none, 0⟩,
  ⟨some 12, .call (.c (.fn 52 [])) [(.t 11)], none, 4⟩,
  ⟨some 13, .bslice 4 1 [.int .i64 0, .int .i64 0, .int .i64 0, .sl .nil 0 []] false [(0, (.t 12))], none, 12⟩,
  ⟨some 14, .app 4 48 (.t 10) (.t 13), none, 31⟩,
  ⟨some 15, .fa 6 (.t 3), none, 63⟩,
  ⟨none, .store 1 (.t 15) (.t 14), none, 127⟩]
def r25_3 : List CO := [
  ⟨some 16, .fa 4 (.t 3), none, 0⟩,
  ⟨some 17, .load false 1 (.t 16), none, 1⟩,
  ⟨some 18, .bin .int .sub (.t 17) (.c (.d (.int .i64 1))), none, 3⟩,
  ⟨some 19, .fa 4 (.t 3), none, 7⟩,
  ⟨none, .store 1 (.t 19) (.t 18), none, 15⟩]
def r25_4 : List CO := [
  ⟨some 20, .mv (.t 2), none, 0⟩]
def r25_5 : List CO := [
  ⟨some 21, .fa 5 (.t 3), none, 0⟩,
  ⟨some 22, .load false 1 (.t 21), none, 1⟩,
  ⟨some 23, .mkfn 54 [(.t 4)], none, 0⟩,
  ⟨some 24, .call (.c (.fn 53 [])) [(.t 22), (.t 23)], none, 7⟩,
  ⟨some 25, .fa 5 (.t 3), none, 15⟩,
  ⟨none, .store 1 (.t 25) (.t 24), none, 31⟩]
def r25_6 : List CO := [
  ⟨some 26, .load true 17 (.t 3), none, 0⟩,
  ⟨none, .store 17 (.t 6) (.t 26), none, 1⟩]
def c25 : CF := { body := .seq (.reg r25_0 false (some [2, 3, 4, 6])) (.seq (.reg r25_1 false (some [2, 3, 4, 6])) (.seq (.reg r25_2 true (some [2, 3, 4, 6])) (.seq (.reg r25_3 false (some [2, 3, 4, 6])) (.seq (.seq (.reg r25_4 false (some [3, 4, 6, 20])) (.cond (.t 20) (.reg r25_5 false (some [3, 6])) (.skip))) (.seq (.reg r25_6 false (some [6])) (.ret)))))), res := [.cell 6 true 17], rowArgs := [], keep := false, rowRes := [], clone := none, dl := none }
/- 26 kaudit/backlog.Take -/
def r26_0 : List CO := [
  ⟨some 3, .box 17 (.t 0) [], none, 0⟩,
  ⟨some 6, .alloc [.d (.int .i64 0), .d (.int .i64 0), .d (.int .i64 0), .d (.int .i64 0), .d (.int .i64 0), .d (.sl .nil 0 []), .d (.sl .nil 0 []), .d (.int .i64 0), .d (.int .i64 0), .d (.int .i64 0), .d (.int .i64 0), .d (.int .i64 0), .d (.int .i64 0), .d (.int .i64 0), .d (.int .i64 0), .d (.bool false), .d (.sl .nil 0 [])] [], none, 0⟩,
  ⟨some 7, .mv (.c (.d (.sl .nil 0 []))), none, 0⟩]
def r26_1 : List CO := [
  ⟨some 9, .load true 17 (.t 3), none, 0⟩,
  ⟨some 10, .call (.c (.fn 40 [])) [(.t 9)], none, 1⟩,
  ⟨none, .store 17 (.t 3) (.t 10), none, 3⟩]
def r26_2 : List CO := [
  ⟨some 11, .mv (.t 2), none, 0⟩,
  ⟨some 12, .fa 6 (.t 3), none, 0⟩,
  ⟨some 13, .load false 1 (.t 12), none, 2⟩,
  ⟨some 14, .len .sl (.t 13), none, 6⟩,
  ⟨some 15, .min (.t 11) [(.t 14)], none, 15⟩,
  ⟨some 16, .max (.c (.d (.int .i64 0))) [(.t 15)], none, 31⟩,
  ⟨some 2, .mv (.t 16), none, 63⟩]
def r26_3 : List CO := [
  ⟨some 17, .fa 6 (.t 3), none, 0⟩,
  ⟨some 18, .load false 1 (.t 17), none, 1⟩,
  ⟨some 19, .mv (.t 2), none, 0⟩,
  ⟨some 20, .slSl 4 (.t 18) none (some (.t 19)) none, none, 7⟩,
  ⟨some 21, .call (.c (.fn 55 [])) [(.t 20)], none, 15⟩,
  ⟨some 8, .mv (.t 21), none, 31⟩]
def r26_4 : List CO := [
  ⟨some 22, .fa 6 (.t 3), none, 0⟩,
  ⟨some 23, .load false 1 (.t 22), none, 1⟩,
  ⟨some 24, .mv (.t 2), none, 0⟩,
  ⟨some 25, .call (.c (.fn 56 [])) [(.t 23), (.c (.d (.int .i64 0))), (.t 24)], none, 7⟩,
  ⟨some 26, .fa 6 (.t 3), none, 15⟩,
  ⟨none, .store 1 (.t 26) (.t 25), none, 31⟩]
def r26_5 : List CO := [
  ⟨some 27, .call (.c (.fn 46 [])) [(.t 3)], none, 0⟩,
  ⟨some 28, .mv (.t 27), none, 1⟩,
  ⟨some 29, .fa 6 (.t 3), some (28, true), 3⟩,
  ⟨some 30, .load false 1 (.t 29), some (28, true), 7⟩,
  ⟨some 31, .len .sl (.t 30), some (28, true), 15⟩,
  ⟨some 32, .fa 4 (.t 3), some (28, true), 3⟩,
  ⟨some 33, .load false 1 (.t 32), some (28, true), 35⟩,
  ⟨some 34, .bin .int .add (.t 31) (.t 33), some (28, true), 127⟩,
  ⟨some 35, .fa 0 (.t 3), some (28, true), 3⟩,
  ⟨some 36, .load false 1 (.t 35), some (28, true), 259⟩,
  ⟨some 37, .bin .int .lss (.t 34) (.t 36), some (28, true), 1023⟩,
  ⟨some 38, .pick (.t 28) (.t 37) (.c (.d (.bool false))), none, 2047⟩,
  ⟨some 39, .mv (.t 38), none, 4095⟩,
  ⟨some 40, .load true 17 (.t 3), some (39, true), 8191⟩,
  ⟨some 41, .mv (.t 1), some (39, true), 8191⟩,
  ⟨some 42, .call (.c (.fn 44 [])) [(.t 40), (.t 41)], some (39, true), 32767⟩,
  ⟨some 43, .un .not (.t 42), some (39, true), 65535⟩,
  ⟨some 44, .pick (.t 39) (.t 43) (.c (.d (.bool false))), none, 131071⟩,
  ⟨some 45, .mv (.t 44), none, 262143⟩,
  ⟨some 46, .fa 3 (.t 3), some (45, true), 524287⟩,
  ⟨some 47, .load false 1 (.t 46), some (45, true), 1048575⟩,
  ⟨some 48, .bin .int .add (.t 47) (.c (.d (.int .i64 1))), some (45, true), 2097151⟩,
  ⟨some 49, .call (.c (.fn 57 [])) [(.t 3), (.t 48)], some (45, true), 4194303⟩,
  ⟨some 50, .un .not (.t 49), some (45, true), 8388607⟩,
  ⟨some 51, .pick (.t 45) (.t 50) (.c (.d (.bool false))), none, 16777215⟩]
def r26_6 : List CO := [
  ⟨some 52, .mv (.t 1), none, 0⟩,
  ⟨some 53, .call (.c (.fn 51 [])) [(.t 3), (.t 52)], none, 1⟩]
def r26_7 : List CO := [
  ⟨some 54, .load true 17 (.t 3), none, 0⟩,
  ⟨some 55, .mv (.t 8), none, 0⟩,
  ⟨none, .store 17 (.t 6) (.t 54), none, 1⟩,
  ⟨some 7, .mv (.t 55), none, 7⟩]
def c26 : CF := { body := .seq (.reg r26_0 false (some [1, 2, 3, 6])) (.seq (.reg r26_1 false (some [1, 2, 3, 6])) (.seq (.reg r26_2 false (some [1, 2, 3, 6])) (.seq (.reg r26_3 false (some [1, 2, 3, 6, 8])) (.seq (.reg r26_4 false (some [1, 3, 6, 8])) (.seq (.seq (.reg r26_5 false (some [1, 3, 6, 8, 51])) (.cond (.t 51) (.reg r26_6 false (some [3, 6, 8])) (.skip))) (.seq (.reg r26_7 false (some [6, 7])) (.ret))))))), res := [.cell 6 true 17, .tmp 7], rowArgs := [], keep := false, rowRes := [], clone := none, dl := none }
/- 27 kaudit/kauditref03.Same -/
def r27_0 : List CO := [
  ⟨some 2, .box 4 (.t 0) [], none, 0⟩,
  ⟨some 3, .box 4 (.t 1) [], none, 0⟩,
  ⟨some 4, .mv (.c (.d (.bool false))), none, 0⟩]
def r27_1 : List CO := [
  ⟨some 5, .fa 0 (.t 2), none, 0⟩,
  ⟨some 6, .load false 1 (.t 5), none, 1⟩,
  ⟨some 7, .fa 0 (.t 3), none, 0⟩,
  ⟨some 8, .load false 1 (.t 7), none, 4⟩,
  ⟨some 9, .bin .int .eql (.t 6) (.t 8), none, 15⟩,
  ⟨some 10, .mv (.t 9), none, 31⟩,
  ⟨some 11, .fa 1 (.t 2), some (10, true), 63⟩,
  ⟨some 12, .load false 1 (.t 11), some (10, true), 127⟩,
  ⟨some 13, .fa 1 (.t 3), some (10, true), 63⟩,
  ⟨some 14, .load false 1 (.t 13), some (10, true), 319⟩,
  ⟨some 15, .bin .int .eql (.t 12) (.t 14), some (10, true), 1023⟩,
  ⟨some 16, .pick (.t 10) (.t 15) (.c (.d (.bool false))), none, 2047⟩,
  ⟨some 17, .mv (.t 16), none, 4095⟩,
  ⟨some 18, .fa 2 (.t 2), some (17, true), 8191⟩,
  ⟨some 19, .load false 1 (.t 18), some (17, true), 16383⟩,
  ⟨some 20, .fa 2 (.t 3), some (17, true), 8191⟩,
  ⟨some 21, .load false 1 (.t 20), some (17, true), 40959⟩,
  ⟨some 22, .bin .int .eql (.t 19) (.t 21), some (17, true), 131071⟩,
  ⟨some 23, .pick (.t 17) (.t 22) (.c (.d (.bool false))), none, 262143⟩,
  ⟨some 24, .mv (.t 23), none, 524287⟩,
  ⟨some 25, .fa 3 (.t 2), some (24, true), 1048575⟩,
  ⟨some 26, .load false 1 (.t 25), some (24, true), 2097151⟩,
  ⟨some 27, .fa 3 (.t 3), some (24, true), 1048575⟩,
  ⟨some 28, .load false 1 (.t 27), some (24, true), 5242879⟩,
  ⟨some 29, .call (.c (.fn 58 [])) [(.t 26), (.t 28)], some (24, true), 16777215⟩,
  ⟨some 30, .pick (.t 24) (.t 29) (.c (.d (.bool false))), none, 33554431⟩,
  ⟨some 4, .mv (.t 30), none, 67108863⟩]
def c27 : CF := { body := .seq (.reg r27_0 false (some [2, 3])) (.seq (.reg r27_1 false (some [4])) (.ret)), res := [.tmp 4], rowArgs := [], keep := false, rowRes := [], clone := none, dl := none }
/- 28 kaudit/kauditref19.Stamp -/
def r28_0 : List CO := [
  ⟨some 4, .mv (.c (.d (.sl .nil 0 []))), none, 0⟩]
def r28_1 : List CO := [
  ⟨some 5, .mv (.c (.d (.sl .nil 0 []))), none, 0⟩]
def r28_2 : List CO := [
  ⟨some 6, .mv (.c (.d (.int .i64 0))), none, 0⟩]
def r28_3 : List CO := [
  ⟨some 8, .mv (.t 6), none, 0⟩,
  ⟨some 9, .mv (.t 0), none, 0⟩,
  ⟨some 10, .len .sl (.t 9), none, 2⟩,
  ⟨some 11, .bin .int .lss (.t 8) (.t 10), none, 7⟩]
def r28_4 : List CO := [
  ⟨some 14, .mv (.t 0), none, 0⟩,
  ⟨some 15, .mv (.t 6), none, 0⟩,
  ⟨some 16, .ia 4 (.t 14) (.t 15), none, 3⟩,
  ⟨some 17, .load true 4 (.t 16), none, 7⟩,
  ⟨some 7, .alloc [.d (.int .i64 0), .d (.int .i64 0), .d (.int .i64 0), .d (.sl .nil 0 [])] [], none, 0⟩,
  ⟨none, .store 4 (.t 7) (.t 17), none, 31⟩]
def r28_5 : List CO := [
  ⟨some 18, .fa 3 (.t 7), none, 0⟩,
  ⟨some 19, .load false 1 (.t 18), none, 1⟩,
  ⟨some 20, .app 4 48 (.c (.d (.sl .nil 0 []))) (.t 19), none, 3⟩,
  ⟨some 21, .fa 3 (.t 7), none, 7⟩,
  ⟨none, .store 1 (.t 21) (.t 20), none, 15⟩]
def r28_6 : List CO := [
  ⟨some 22, .mv (.t 1), none, 0⟩,
  ⟨some 23, .fa 2 (.t 7), none, 1⟩,
  ⟨none, .store 1 (.t 23) (.t 22), none, 3⟩]
def r28_7 : List CO := [
  ⟨some 24, .mv (.t 5), none, 0⟩,
  ⟨some 25, .load true 4 (.t 7), none, 0⟩,
  ⟨some 26, .bslice 4 1 [.int .i64 0, .int .i64 0, .int .i64 0, .sl .nil 0 []] false [(0, (.t 25))], none, 2⟩,
  ⟨some 27, .app 4 48 (.t 24) (.t 26), none, 7⟩,
  ⟨some 5, .mv (.t 27), none, 15⟩]
def r28_8 : List CO := [
  ⟨some 12, .mv (.t 6), none, 0⟩,
  ⟨some 13, .bin .int .add (.t 12) (.c (.d (.int .i64 1))), none, 1⟩,
  ⟨some 6, .mv (.t 13), none, 3⟩]
def l28_9 : CCode := .seq (.seq (.reg r28_3 false (some [0, 1, 5, 6, 11])) (.cond (.t 11) (.skip) (.exit 0))) (.seq (.block 1 (.seq (.reg r28_4 false (some [0, 1, 5, 6, 7])) (.seq (.reg r28_5 false (some [0, 1, 5, 6, 7])) (.seq (.reg r28_6 false (some [0, 1, 5, 6, 7])) (.reg r28_7 false (some [0, 1, 5, 6])))))) (.reg r28_8 false (some [0, 1, 5, 6])))
def r28_10 : List CO := [
  ⟨some 28, .mv (.t 5), none, 0⟩,
  ⟨some 4, .mv (.t 28), none, 1⟩]
def c28 : CF := { body := .seq (.reg r28_0 false (some [0, 1])) (.seq (.reg r28_1 false (some [0, 1, 5])) (.seq (.seq (.reg r28_2 false (some [0, 1, 5, 6])) (.block 0 (.loop [(0, none), (1, none), (5, some 4), (6, none)] l28_9))) (.seq (.reg r28_10 false (some [4])) (.ret)))), res := [.tmp 4], rowArgs := [], keep := false, rowRes := [], clone := none, dl := none }
/- 29 kaudit/kauditref19.Loss -/
def r29_0 : List CO := [
  ⟨some 2, .box 5 (.t 0) [], none, 0⟩,
  ⟨some 4, .alloc [.d (.int .i64 0), .d (.int .i64 0), .d (.int .i64 0), .d (.sl .nil 0 [])] [], none, 0⟩]
def r29_1 : List CO := [
  ⟨some 5, .mv (.t 1), none, 0⟩,
  ⟨some 6, .fa 0 (.t 2), none, 0⟩,
  ⟨some 7, .load false 1 (.t 6), none, 2⟩,
  ⟨some 8, .call (.c (.fn 59 [])) [(.c (.d (.str ⟨⟨[102, 105, 114, 115, 116]⟩⟩))), (.t 7)], none, 6⟩,
  ⟨some 9, .fa 1 (.t 2), none, 0⟩,
  ⟨some 10, .load false 1 (.t 9), none, 16⟩,
  ⟨some 11, .call (.c (.fn 59 [])) [(.c (.d (.str ⟨⟨[108, 97, 115, 116]⟩⟩))), (.t 10)], none, 62⟩,
  ⟨some 12, .fa 2 (.t 2), none, 0⟩,
  ⟨some 13, .load false 1 (.t 12), none, 128⟩,
  ⟨some 14, .call (.c (.fn 59 [])) [(.c (.d (.str ⟨⟨[114, 97, 116, 101, 100]⟩⟩))), (.t 13)], none, 510⟩,
  ⟨some 15, .fa 3 (.t 2), none, 0⟩,
  ⟨some 16, .load false 1 (.t 15), none, 1024⟩,
  ⟨some 17, .call (.c (.fn 59 [])) [(.c (.d (.str ⟨⟨[102, 117, 108, 108]⟩⟩))), (.t 16)], none, 4094⟩,
  ⟨some 18, .fa 4 (.t 2), none, 0⟩,
  ⟨some 19, .load false 1 (.t 18), none, 8192⟩,
  ⟨some 20, .call (.c (.fn 59 [])) [(.c (.d (.str ⟨⟨[115, 116, 97, 108, 108, 101, 100]⟩⟩))), (.t 19)], none, 32766⟩,
  ⟨some 21, .bslice 4 5 [.str ⟨⟨[]⟩⟩, .int .i64 0, .int .i64 0, .str ⟨⟨[]⟩⟩, .str ⟨⟨[]⟩⟩, .int .i64 0, .int .i64 0, .str ⟨⟨[]⟩⟩, .str ⟨⟨[]⟩⟩, .int .i64 0, .int .i64 0, .str ⟨⟨[]⟩⟩, .str ⟨⟨[]⟩⟩, .int .i64 0, .int .i64 0, .str ⟨⟨[]⟩⟩, .str ⟨⟨[]⟩⟩, .int .i64 0, .int .i64 0, .str ⟨⟨[]⟩⟩] false [(0, (.t 8)), (1, (.t 11)), (2, (.t 14)), (3, (.t 17)), (4, (.t 20))], none, 65534⟩,
  ⟨some 22, .build [.d (.int .i64 0), .d (.int .i64 0), .d (.int .i64 0), .d (.sl .nil 0 [])] [(0, 1, (.c (.d (.int .i64 1331)))), (1, 1, (.t 5)), (3, 1, (.t 21))], none, 131071⟩,
  ⟨none, .store 4 (.t 4) (.t 22), none, 262143⟩]
def c29 : CF := { body := .seq (.reg r29_0 false (some [1, 2, 4])) (.seq (.reg r29_1 true (some [4])) (.ret)), res := [.cell 4 true 4], rowArgs := [], keep := false, rowRes := [], clone := none, dl := none }
/- 30 (kaudit/kauditmake.Src).N -/
def r30_0 : List CO := [
  ⟨some 4, .mv (.c (.d (.int .i64 0))), none, 0⟩]
def r30_1 : List CO := [
  ⟨some 6, .mv (.t 1), none, 0⟩,
  ⟨some 7, .bin .int .lss (.t 6) (.c (.d (.int .i64 1))), none, 1⟩]
def r30_2 : List CO := [
  ⟨some 4, .mv (.c (.d (.int .i64 0))), none, 0⟩]
def r30_3 : List CO := [
  ⟨some 8, .mv (.t 0), none, 0⟩,
  ⟨some 9, .nilck (.t 8), none, 1⟩,
  ⟨some 10, .fa 1 (.t 9), none, 3⟩,
  ⟨some 11, .load false 1 (.t 10), none, 7⟩,
  ⟨some 12, .bin .int .add (.t 11) (.c (.d (.int .i64 1))), none, 15⟩,
  ⟨some 13, .nilck (.t 8), none, 31⟩,
  ⟨some 14, .fa 1 (.t 13), none, 63⟩,
  ⟨none, .store 1 (.t 14) (.t 12), none, 127⟩]
def r30_4 : List CO := [
  ⟨some 15, .mv (.t 0), none, 0⟩,
  ⟨some 16, .nilck (.t 15), none, 1⟩,
  ⟨some 17, .fa 1 (.t 16), none, 3⟩,
  ⟨some 18, .load false 1 (.t 17), none, 7⟩,
  ⟨some 19, .bin .int .mul (.t 18) (.c (.d (.int .i64 7))), none, 15⟩,
  ⟨some 5, .mv (.t 19), none, 31⟩]
def r30_5 : List CO := [
  ⟨some 20, .mv (.t 0), none, 0⟩,
  ⟨some 21, .nilck (.t 20), none, 1⟩,
  ⟨some 22, .fa 1 (.t 21), none, 3⟩,
  ⟨some 23, .load false 1 (.t 22), none, 7⟩,
  ⟨some 24, .mv (.t 0), none, 0⟩,
  ⟨some 25, .nilck (.t 24), none, 16⟩,
  ⟨some 26, .fa 0 (.t 25), none, 48⟩,
  ⟨some 27, .load false 1 (.t 26), none, 112⟩,
  ⟨some 28, .len .sl (.t 27), none, 240⟩,
  ⟨some 29, .bin .int .leq (.t 23) (.t 28), none, 511⟩]
def r30_6 : List CO := [
  ⟨some 30, .mv (.t 0), none, 0⟩,
  ⟨some 31, .nilck (.t 30), none, 1⟩,
  ⟨some 32, .fa 0 (.t 31), none, 3⟩,
  ⟨some 33, .load false 1 (.t 32), none, 7⟩,
  ⟨some 34, .mv (.t 0), none, 0⟩,
  ⟨some 35, .nilck (.t 34), none, 16⟩,
  ⟨some 36, .fa 1 (.t 35), none, 48⟩,
  ⟨some 37, .load false 1 (.t 36), none, 112⟩,
  ⟨some 38, .bin .int .sub (.t 37) (.c (.d (.int .i64 1))), none, 240⟩,
  ⟨some 39, .ia 1 (.t 33) (.t 38), none, 511⟩,
  ⟨some 40, .load false 1 (.t 39), none, 1023⟩,
  ⟨some 5, .mv (.t 40), none, 2047⟩]
def r30_7 : List CO := [
  ⟨some 41, .mv (.t 5), none, 0⟩,
  ⟨some 42, .mv (.t 1), none, 0⟩,
  ⟨some 43, .bin .int .rem (.t 41) (.t 42), none, 3⟩,
  ⟨some 5, .mv (.t 43), none, 7⟩]
def r30_8 : List CO := [
  ⟨some 44, .mv (.t 5), none, 0⟩,
  ⟨some 45, .bin .int .lss (.t 44) (.c (.d (.int .i64 0))), none, 1⟩]
def r30_9 : List CO := [
  ⟨some 46, .mv (.t 5), none, 0⟩,
  ⟨some 47, .mv (.t 1), none, 0⟩,
  ⟨some 48, .bin .int .add (.t 46) (.t 47), none, 3⟩,
  ⟨some 5, .mv (.t 48), none, 7⟩]
def r30_10 : List CO := [
  ⟨some 49, .mv (.t 5), none, 0⟩,
  ⟨some 4, .mv (.t 49), none, 1⟩]
def c30 : CF := { body := .seq (.reg r30_0 false (some [0, 1])) (.seq (.seq (.reg r30_1 false (some [0, 1, 7])) (.cond (.t 7) (.seq (.reg r30_2 false (some [4])) (.ret)) (.skip))) (.seq (.reg r30_3 false (some [0, 1])) (.seq (.reg r30_4 false (some [0, 1, 5])) (.seq (.seq (.reg r30_5 true (some [0, 1, 5, 29])) (.cond (.t 29) (.reg r30_6 true (some [1, 5])) (.skip))) (.seq (.reg r30_7 false (some [1, 5])) (.seq (.seq (.reg r30_8 false (some [1, 5, 45])) (.cond (.t 45) (.reg r30_9 false (some [5])) (.skip))) (.seq (.reg r30_10 false (some [4])) (.ret)))))))), res := [.tmp 4], rowArgs := [], keep := false, rowRes := [], clone := none, dl := none }
/- 31 (kaudit/kauditlaw20.play).offer -/
def r31_0 : List CO := [
  ⟨some 4, .mv (.c (.d (.bool false))), none, 0⟩]
def r31_1 : List CO := [
  ⟨some 14, .mv (.t 0), none, 0⟩,
  ⟨some 15, .nilck (.t 14), none, 1⟩,
  ⟨some 16, .fa 0 (.t 15), none, 3⟩,
  ⟨some 17, .load true 17 (.t 16), none, 7⟩,
  ⟨some 18, .mv (.t 0), none, 0⟩,
  ⟨some 19, .nilck (.t 18), none, 16⟩,
  ⟨some 20, .fa 35 (.t 19), none, 48⟩,
  ⟨some 21, .load false 1 (.t 20), none, 112⟩,
  ⟨some 22, .mv (.t 1), none, 0⟩,
  ⟨some 23, .call (.c (.fn 24 [])) [(.t 17), (.t 21), (.t 22)], none, 511⟩,
  ⟨some 13, .mv (.t 23), none, 1023⟩,
  ⟨some 24, .ext 0 (.t 13), none, 2047⟩,
  ⟨some 25, .ext 1 (.t 13), none, 2047⟩,
  ⟨some 26, .ext 2 (.t 13), none, 2047⟩,
  ⟨some 5, .alloc [.d (.int .i64 0), .d (.int .i64 0), .d (.int .i64 0), .d (.int .i64 0), .d (.int .i64 0), .d (.sl .nil 0 []), .d (.sl .nil 0 []), .d (.int .i64 0), .d (.int .i64 0), .d (.int .i64 0), .d (.int .i64 0), .d (.int .i64 0), .d (.int .i64 0), .d (.int .i64 0), .d (.int .i64 0), .d (.bool false), .d (.sl .nil 0 [])] [], none, 0⟩,
  ⟨none, .store 17 (.t 5) (.t 24), none, 20479⟩,
  ⟨some 6, .mv (.t 25), none, 57343⟩,
  ⟨some 7, .mv (.t 26), none, 131071⟩]
def r31_2 : List CO := [
  ⟨some 28, .mv (.t 0), none, 0⟩,
  ⟨some 29, .nilck (.t 28), none, 1⟩,
  ⟨some 30, .fa 17 (.t 29), none, 3⟩,
  ⟨some 31, .load true 17 (.t 30), none, 7⟩,
  ⟨some 32, .mv (.t 0), none, 0⟩,
  ⟨some 33, .nilck (.t 32), none, 16⟩,
  ⟨some 34, .fa 35 (.t 33), none, 48⟩,
  ⟨some 35, .load false 1 (.t 34), none, 112⟩,
  ⟨some 36, .mv (.t 1), none, 0⟩,
  ⟨some 37, .call (.c (.fn 14 [])) [(.t 31), (.t 35), (.t 36)], none, 511⟩,
  ⟨some 27, .mv (.t 37), none, 1023⟩,
  ⟨some 38, .ext 0 (.t 27), none, 2047⟩,
  ⟨some 39, .ext 1 (.t 27), none, 2047⟩,
  ⟨some 40, .ext 2 (.t 27), none, 2047⟩,
  ⟨some 8, .alloc [.d (.int .i64 0), .d (.int .i64 0), .d (.int .i64 0), .d (.int .i64 0), .d (.int .i64 0), .d (.sl .nil 0 []), .d (.sl .nil 0 []), .d (.int .i64 0), .d (.int .i64 0), .d (.int .i64 0), .d (.int .i64 0), .d (.int .i64 0), .d (.int .i64 0), .d (.int .i64 0), .d (.int .i64 0), .d (.bool false), .d (.sl .nil 0 [])] [], none, 0⟩,
  ⟨none, .store 17 (.t 8) (.t 38), none, 20479⟩,
  ⟨some 9, .mv (.t 39), none, 57343⟩,
  ⟨some 10, .mv (.t 40), none, 131071⟩]
def r31_3 : List CO := [
  ⟨some 41, .mv (.t 0), none, 0⟩,
  ⟨some 42, .mv (.t 0), none, 0⟩,
  ⟨some 43, .load true 17 (.t 5), none, 0⟩,
  ⟨some 44, .load true 17 (.t 8), none, 0⟩,
  ⟨some 45, .nilck (.t 41), none, 5⟩,
  ⟨some 46, .fa 0 (.t 45), none, 21⟩,
  ⟨none, .store 17 (.t 46) (.t 43), none, 53⟩,
  ⟨some 47, .nilck (.t 42), none, 127⟩,
  ⟨some 48, .fa 17 (.t 47), none, 255⟩,
  ⟨none, .store 17 (.t 48) (.t 44), none, 511⟩]
def r31_4 : List CO := [
  ⟨some 49, .mv (.t 6), none, 0⟩,
  ⟨some 50, .mv (.t 9), none, 0⟩,
  ⟨some 51, .bin .int .neq (.t 49) (.t 50), none, 3⟩,
  ⟨some 52, .mv (.t 51), none, 7⟩,
  ⟨some 53, .mv (.t 7), some (52, false), 15⟩,
  ⟨some 54, .mv (.t 10), some (52, false), 15⟩,
  ⟨some 55, .bin .bool .neq (.t 53) (.t 54), some (52, false), 63⟩,
  ⟨some 56, .pick (.t 52) (.c (.d (.bool true))) (.t 55), none, 127⟩]
def r31_5 : List CO := [
  ⟨some 4, .mv (.c (.d (.bool false))), none, 0⟩]
def r31_6 : List CO := [
  ⟨some 57, .mv (.t 10), none, 0⟩]
def r31_7 : List CO := [
  ⟨some 11, .mv (.c (.d (.sl .nil 0 []))), none, 0⟩]
def r31_8 : List CO := [
  ⟨some 12, .mv (.c (.d (.int .i64 0))), none, 0⟩]
def r31_9 : List CO := [
  ⟨some 58, .mv (.t 12), none, 0⟩,
  ⟨some 59, .mv (.t 1), none, 0⟩,
  ⟨some 60, .bin .int .lss (.t 58) (.t 59), none, 3⟩]
def r31_10 : List CO := [
  ⟨some 63, .mv (.t 11), none, 0⟩,
  ⟨some 64, .mv (.t 0), none, 0⟩,
  ⟨some 65, .nilck (.t 64), none, 2⟩,
  ⟨some 66, .fa 35 (.t 65), none, 6⟩,
  ⟨some 67, .load false 1 (.t 66), none, 14⟩,
  ⟨some 68, .mv (.t 9), none, 0⟩,
  ⟨some 69, .mv (.t 12), none, 0⟩,
  ⟨some 70, .build [.d (.str ⟨⟨[]⟩⟩), .d (.int .i64 0), .d (.int .i64 0), .d (.str ⟨⟨[]⟩⟩)] [(0, 1, (.c (.d (.str ⟨⟨[105, 116, 101, 109]⟩⟩)))), (1, 1, (.c (.d (.int .i64 1)))), (2, 1, (.t 69))], none, 64⟩,
  ⟨some 71, .bslice 4 1 [.str ⟨⟨[]⟩⟩, .int .i64 0, .int .i64 0, .str ⟨⟨[]⟩⟩] false [(0, (.t 70))], none, 192⟩,
  ⟨some 72, .build [.d (.int .i64 0), .d (.int .i64 0), .d (.int .i64 0), .d (.sl .nil 0 [])] [(0, 1, (.c (.d (.int .i64 1302)))), (1, 1, (.t 67)), (2, 1, (.t 68)), (3, 1, (.t 71))], none, 510⟩,
  ⟨some 73, .bslice 4 1 [.int .i64 0, .int .i64 0, .int .i64 0, .sl .nil 0 []] false [(0, (.t 72))], none, 1022⟩,
  ⟨some 74, .app 4 48 (.t 63) (.t 73), none, 2047⟩,
  ⟨some 11, .mv (.t 74), none, 4095⟩]
def r31_11 : List CO := [
  ⟨some 61, .mv (.t 12), none, 0⟩,
  ⟨some 62, .bin .int .add (.t 61) (.c (.d (.int .i64 1))), none, 1⟩,
  ⟨some 12, .mv (.t 62), none, 3⟩]
def l31_12 : CCode := .seq (.seq (.reg r31_9 false (some [0, 1, 9, 11, 12, 60])) (.cond (.t 60) (.skip) (.exit 0))) (.seq (.block 1 (.reg r31_10 false (some [0, 1, 9, 11, 12]))) (.reg r31_11 false (some [0, 1, 9, 11, 12])))
def r31_13 : List CO := [
  ⟨some 75, .mv (.t 0), none, 0⟩,
  ⟨some 76, .mv (.t 0), none, 0⟩,
  ⟨some 77, .nilck (.t 76), none, 2⟩,
  ⟨some 78, .fa 34 (.t 77), none, 6⟩,
  ⟨some 79, .load false 1 (.t 78), none, 14⟩,
  ⟨some 80, .mv (.t 11), none, 0⟩,
  ⟨some 81, .bslice 1 1 [.sl .nil 0 []] false [(0, (.t 80))], none, 32⟩,
  ⟨some 82, .app 1 24 (.t 79) (.t 81), none, 126⟩,
  ⟨some 83, .nilck (.t 75), none, 255⟩,
  ⟨some 84, .fa 34 (.t 83), none, 511⟩,
  ⟨none, .store 1 (.t 84) (.t 82), none, 1023⟩]
def r31_14 : List CO := [
  ⟨some 85, .mv (.t 0), none, 0⟩,
  ⟨some 86, .mv (.t 0), none, 0⟩,
  ⟨some 87, .nilck (.t 86), none, 2⟩,
  ⟨some 88, .fa 37 (.t 87), none, 6⟩,
  ⟨some 89, .load false 1 (.t 88), none, 14⟩,
  ⟨some 90, .mv (.t 9), none, 0⟩,
  ⟨some 91, .bslice 1 1 [.int .i64 0] false [(0, (.t 90))], none, 32⟩,
  ⟨some 92, .app 1 8 (.t 89) (.t 91), none, 126⟩,
  ⟨some 93, .nilck (.t 85), none, 255⟩,
  ⟨some 94, .fa 37 (.t 93), none, 511⟩,
  ⟨none, .store 1 (.t 94) (.t 92), none, 1023⟩]
def r31_15 : List CO := [
  ⟨some 4, .mv (.c (.d (.bool true))), none, 0⟩]
def c31 : CF := { body := .seq (.reg r31_0 false (some [0, 1])) (.seq (.reg r31_1 true (some [0, 1, 5, 6, 7])) (.seq (.reg r31_2 true (some [0, 1, 5, 6, 7, 8, 9, 10])) (.seq (.reg r31_3 true (some [0, 1, 6, 7, 9, 10])) (.seq (.seq (.reg r31_4 false (some [0, 1, 9, 10, 56])) (.cond (.t 56) (.seq (.reg r31_5 false (some [4])) (.ret)) (.skip))) (.seq (.seq (.reg r31_6 false (some [0, 1, 9, 57])) (.cond (.t 57) (.seq (.reg r31_7 false (some [0, 1, 9, 11])) (.seq (.seq (.reg r31_8 false (some [0, 1, 9, 11, 12])) (.block 0 (.loop [(0, none), (1, none), (9, none), (11, some 4), (12, none)] l31_12))) (.seq (.reg r31_13 false (some [0, 9])) (.reg r31_14 false (some []))))) (.skip))) (.seq (.reg r31_15 false (some [4])) (.ret))))))), res := [.tmp 4], rowArgs := [], keep := false, rowRes := [], clone := none, dl := none }
/- 32 (kaudit/kauditlaw20.play).put -/
def r32_0 : List CO := [
  ⟨some 6, .mv (.t 0), none, 0⟩,
  ⟨some 7, .nilck (.t 6), none, 1⟩,
  ⟨some 8, .fa 34 (.t 7), none, 3⟩,
  ⟨some 9, .load false 1 (.t 8), none, 7⟩,
  ⟨some 10, .mv (.t 1), none, 0⟩,
  ⟨some 11, .ia 1 (.t 9) (.t 10), none, 31⟩,
  ⟨some 12, .load false 1 (.t 11), none, 63⟩,
  ⟨some 13, .ia 4 (.t 12) (.c (.d (.int .i64 0))), none, 127⟩,
  ⟨some 14, .load true 4 (.t 13), none, 255⟩,
  ⟨some 4, .alloc [.d (.int .i64 0), .d (.int .i64 0), .d (.int .i64 0), .d (.sl .nil 0 [])] [], none, 0⟩,
  ⟨none, .store 4 (.t 4) (.t 14), none, 1023⟩]
def r32_1 : List CO := [
  ⟨some 15, .mv (.t 0), none, 0⟩,
  ⟨some 16, .nilck (.t 15), none, 1⟩,
  ⟨some 17, .fa 34 (.t 16), none, 3⟩,
  ⟨some 18, .load false 1 (.t 17), none, 7⟩,
  ⟨some 19, .mv (.t 1), none, 0⟩,
  ⟨some 20, .mv (.t 0), none, 0⟩,
  ⟨some 21, .nilck (.t 20), none, 32⟩,
  ⟨some 22, .fa 34 (.t 21), none, 96⟩,
  ⟨some 23, .load false 1 (.t 22), none, 224⟩,
  ⟨some 24, .mv (.t 1), none, 0⟩,
  ⟨some 25, .ia 1 (.t 23) (.t 24), none, 992⟩,
  ⟨some 26, .load false 1 (.t 25), none, 2016⟩,
  ⟨some 27, .slSl 4 (.t 26) (some (.c (.d (.int .i64 1)))) none none, none, 4064⟩,
  ⟨some 28, .ia 1 (.t 18) (.t 19), none, 8191⟩,
  ⟨none, .store 1 (.t 28) (.t 27), none, 16383⟩]
def r32_2 : List CO := [
  ⟨some 29, .mv (.t 0), none, 0⟩,
  ⟨some 30, .nilck (.t 29), none, 1⟩,
  ⟨some 31, .fa 34 (.t 30), none, 3⟩,
  ⟨some 32, .load false 1 (.t 31), none, 7⟩,
  ⟨some 33, .mv (.t 1), none, 0⟩,
  ⟨some 34, .ia 1 (.t 32) (.t 33), none, 31⟩,
  ⟨some 35, .load false 1 (.t 34), none, 63⟩,
  ⟨some 36, .len .sl (.t 35), none, 127⟩,
  ⟨some 37, .bin .int .eql (.t 36) (.c (.d (.int .i64 0))), none, 255⟩,
  ⟨some 5, .mv (.t 37), none, 511⟩]
def r32_3 : List CO := [
  ⟨some 38, .mv (.t 0), none, 0⟩,
  ⟨some 39, .mv (.t 0), none, 0⟩,
  ⟨some 40, .mv (.t 0), none, 0⟩,
  ⟨some 41, .nilck (.t 40), none, 4⟩,
  ⟨some 42, .fa 0 (.t 41), none, 12⟩,
  ⟨some 43, .load true 17 (.t 42), none, 28⟩,
  ⟨some 44, .load true 4 (.t 4), none, 0⟩,
  ⟨some 45, .mv (.t 5), none, 0⟩,
  ⟨some 46, .call (.c (.fn 25 [])) [(.t 43), (.t 44), (.t 45)], none, 252⟩,
  ⟨some 47, .mv (.t 0), none, 0⟩,
  ⟨some 48, .nilck (.t 47), none, 512⟩,
  ⟨some 49, .fa 17 (.t 48), none, 1536⟩,
  ⟨some 50, .load true 17 (.t 49), none, 3584⟩,
  ⟨some 51, .load true 4 (.t 4), none, 0⟩,
  ⟨some 52, .mv (.t 5), none, 0⟩,
  ⟨some 53, .call (.c (.fn 60 [])) [(.t 50), (.t 51), (.t 52)], none, 32764⟩,
  ⟨some 54, .nilck (.t 38), none, 65533⟩,
  ⟨some 55, .fa 0 (.t 54), none, 131069⟩,
  ⟨none, .store 17 (.t 55) (.t 46), none, 262141⟩,
  ⟨some 56, .nilck (.t 39), none, 524287⟩,
  ⟨some 57, .fa 17 (.t 56), none, 1048575⟩,
  ⟨none, .store 17 (.t 57) (.t 53), none, 2097151⟩]
def r32_4 : List CO := [
  ⟨some 58, .mv (.t 5), none, 0⟩]
def r32_5 : List CO := [
  ⟨some 59, .mv (.t 0), none, 0⟩,
  ⟨some 60, .mv (.t 0), none, 0⟩,
  ⟨some 61, .nilck (.t 60), none, 2⟩,
  ⟨some 62, .fa 34 (.t 61), none, 6⟩,
  ⟨some 63, .load false 1 (.t 62), none, 14⟩,
  ⟨some 64, .mv (.t 1), none, 0⟩,
  ⟨some 65, .slSl 1 (.t 63) none (some (.t 64)) none, none, 62⟩,
  ⟨some 66, .app 1 24 (.c (.d (.sl .nil 0 []))) (.t 65), none, 126⟩,
  ⟨some 67, .mv (.t 0), none, 0⟩,
  ⟨some 68, .nilck (.t 67), none, 256⟩,
  ⟨some 69, .fa 34 (.t 68), none, 768⟩,
  ⟨some 70, .load false 1 (.t 69), none, 1792⟩,
  ⟨some 71, .mv (.t 1), none, 0⟩,
  ⟨some 72, .bin .int .add (.t 71) (.c (.d (.int .i64 1))), none, 4096⟩,
  ⟨some 73, .slSl 1 (.t 70) (some (.t 72)) none none, none, 16128⟩,
  ⟨some 74, .app 1 24 (.t 66) (.t 73), none, 32766⟩,
  ⟨some 75, .nilck (.t 59), none, 65535⟩,
  ⟨some 76, .fa 34 (.t 75), none, 131071⟩,
  ⟨none, .store 1 (.t 76) (.t 74), none, 262143⟩]
def c32 : CF := { body := .seq (.reg r32_0 false (some [0, 1, 4])) (.seq (.reg r32_1 true (some [0, 1, 4])) (.seq (.reg r32_2 false (some [0, 1, 4, 5])) (.seq (.reg r32_3 true (some [0, 1, 5])) (.seq (.reg r32_4 false (some [0, 1, 58])) (.cond (.t 58) (.reg r32_5 true (some [])) (.skip)))))), res := [], rowArgs := [], keep := false, rowRes := [], clone := none, dl := none }
/- 33 (kaudit/kauditlaw20.play).take -/
def r33_0 : List CO := [
  ⟨some 4, .mv (.c (.d (.bool false))), none, 0⟩]
def r33_1 : List CO := [
  ⟨some 10, .mv (.t 0), none, 0⟩,
  ⟨some 11, .nilck (.t 10), none, 1⟩,
  ⟨some 12, .fa 0 (.t 11), none, 3⟩,
  ⟨some 13, .load true 17 (.t 12), none, 7⟩,
  ⟨some 14, .mv (.t 0), none, 0⟩,
  ⟨some 15, .nilck (.t 14), none, 16⟩,
  ⟨some 16, .fa 35 (.t 15), none, 48⟩,
  ⟨some 17, .load false 1 (.t 16), none, 112⟩,
  ⟨some 18, .mv (.t 1), none, 0⟩,
  ⟨some 19, .call (.c (.fn 26 [])) [(.t 13), (.t 17), (.t 18)], none, 511⟩,
  ⟨some 9, .mv (.t 19), none, 1023⟩,
  ⟨some 20, .ext 0 (.t 9), none, 2047⟩,
  ⟨some 21, .ext 1 (.t 9), none, 2047⟩,
  ⟨some 5, .alloc [.d (.int .i64 0), .d (.int .i64 0), .d (.int .i64 0), .d (.int .i64 0), .d (.int .i64 0), .d (.sl .nil 0 []), .d (.sl .nil 0 []), .d (.int .i64 0), .d (.int .i64 0), .d (.int .i64 0), .d (.int .i64 0), .d (.int .i64 0), .d (.int .i64 0), .d (.int .i64 0), .d (.int .i64 0), .d (.bool false), .d (.sl .nil 0 [])] [], none, 0⟩,
  ⟨none, .store 17 (.t 5) (.t 20), none, 12287⟩,
  ⟨some 6, .mv (.t 21), none, 32767⟩]
def r33_2 : List CO := [
  ⟨some 23, .mv (.t 0), none, 0⟩,
  ⟨some 24, .nilck (.t 23), none, 1⟩,
  ⟨some 25, .fa 17 (.t 24), none, 3⟩,
  ⟨some 26, .load true 17 (.t 25), none, 7⟩,
  ⟨some 27, .mv (.t 0), none, 0⟩,
  ⟨some 28, .nilck (.t 27), none, 16⟩,
  ⟨some 29, .fa 35 (.t 28), none, 48⟩,
  ⟨some 30, .load false 1 (.t 29), none, 112⟩,
  ⟨some 31, .mv (.t 1), none, 0⟩,
  ⟨some 32, .call (.c (.fn 61 [])) [(.t 26), (.t 30), (.t 31)], none, 511⟩,
  ⟨some 22, .mv (.t 32), none, 1023⟩,
  ⟨some 33, .ext 0 (.t 22), none, 2047⟩,
  ⟨some 34, .ext 1 (.t 22), none, 2047⟩,
  ⟨some 7, .alloc [.d (.int .i64 0), .d (.int .i64 0), .d (.int .i64 0), .d (.int .i64 0), .d (.int .i64 0), .d (.sl .nil 0 []), .d (.sl .nil 0 []), .d (.int .i64 0), .d (.int .i64 0), .d (.int .i64 0), .d (.int .i64 0), .d (.int .i64 0), .d (.int .i64 0), .d (.int .i64 0), .d (.int .i64 0), .d (.bool false), .d (.sl .nil 0 [])] [], none, 0⟩,
  ⟨none, .store 17 (.t 7) (.t 33), none, 12287⟩,
  ⟨some 8, .mv (.t 34), none, 32767⟩]
def r33_3 : List CO := [
  ⟨some 35, .mv (.t 0), none, 0⟩,
  ⟨some 36, .mv (.t 0), none, 0⟩,
  ⟨some 37, .load true 17 (.t 5), none, 0⟩,
  ⟨some 38, .load true 17 (.t 7), none, 0⟩,
  ⟨some 39, .nilck (.t 35), none, 5⟩,
  ⟨some 40, .fa 0 (.t 39), none, 21⟩,
  ⟨none, .store 17 (.t 40) (.t 37), none, 53⟩,
  ⟨some 41, .nilck (.t 36), none, 127⟩,
  ⟨some 42, .fa 17 (.t 41), none, 255⟩,
  ⟨none, .store 17 (.t 42) (.t 38), none, 511⟩]
def r33_4 : List CO := [
  ⟨some 43, .mv (.t 0), none, 0⟩,
  ⟨some 44, .mv (.t 0), none, 0⟩,
  ⟨some 45, .nilck (.t 44), none, 2⟩,
  ⟨some 46, .fa 36 (.t 45), none, 6⟩,
  ⟨some 47, .load false 1 (.t 46), none, 14⟩,
  ⟨some 48, .mv (.t 8), none, 0⟩,
  ⟨some 49, .app 4 48 (.t 47) (.t 48), none, 62⟩,
  ⟨some 50, .nilck (.t 43), none, 127⟩,
  ⟨some 51, .fa 36 (.t 50), none, 255⟩,
  ⟨none, .store 1 (.t 51) (.t 49), none, 511⟩]
def r33_5 : List CO := [
  ⟨some 52, .mv (.t 6), none, 0⟩,
  ⟨some 53, .mv (.t 8), none, 0⟩,
  ⟨some 54, .call (.c (.fn 42 [])) [(.t 52), (.t 53)], none, 3⟩,
  ⟨some 4, .mv (.t 54), none, 7⟩]
def c33 : CF := { body := .seq (.reg r33_0 false (some [0, 1])) (.seq (.reg r33_1 true (some [0, 1, 5, 6])) (.seq (.reg r33_2 true (some [0, 5, 6, 7, 8])) (.seq (.reg r33_3 true (some [0, 6, 8])) (.seq (.reg r33_4 false (some [6, 8])) (.seq (.reg r33_5 false (some [4])) (.ret)))))), res := [.tmp 4], rowArgs := [], keep := false, rowRes := [], clone := none, dl := none }
/- 34 kaudit/kauditref20.settings -/
def r34_0 : List CO := [
  ⟨some 6, .mv (.c (.d (.bool false))), none, 0⟩]
def r34_1 : List CO := [
  ⟨some 7, .mv (.t 0), none, 0⟩,
  ⟨some 8, .bin .int .geq (.t 7) (.c (.d (.int .i64 1))), none, 1⟩,
  ⟨some 9, .mv (.t 8), none, 3⟩,
  ⟨some 10, .mv (.t 0), some (9, true), 7⟩,
  ⟨some 11, .bin .int .leq (.t 10) (.c (.d (.int .i64 64))), some (9, true), 15⟩,
  ⟨some 12, .pick (.t 9) (.t 11) (.c (.d (.bool false))), none, 31⟩,
  ⟨some 13, .mv (.t 12), none, 63⟩,
  ⟨some 14, .mv (.t 1), some (13, true), 127⟩,
  ⟨some 15, .bin .int .geq (.t 14) (.c (.d (.int .i64 0))), some (13, true), 255⟩,
  ⟨some 16, .pick (.t 13) (.t 15) (.c (.d (.bool false))), none, 511⟩,
  ⟨some 17, .mv (.t 16), none, 1023⟩,
  ⟨some 18, .mv (.t 1), some (17, true), 2047⟩,
  ⟨some 19, .bin .int .leq (.t 18) (.c (.d (.int .i64 1000))), some (17, true), 4095⟩,
  ⟨some 20, .pick (.t 17) (.t 19) (.c (.d (.bool false))), none, 8191⟩,
  ⟨some 21, .mv (.t 20), none, 16383⟩,
  ⟨some 22, .mv (.t 2), some (21, true), 32767⟩,
  ⟨some 23, .bin .int .geq (.t 22) (.c (.d (.int .i64 1))), some (21, true), 65535⟩,
  ⟨some 24, .pick (.t 21) (.t 23) (.c (.d (.bool false))), none, 131071⟩,
  ⟨some 25, .mv (.t 24), none, 262143⟩,
  ⟨some 26, .mv (.t 2), some (25, true), 524287⟩,
  ⟨some 27, .bin .int .leq (.t 26) (.c (.d (.int .i64 3))), some (25, true), 1048575⟩,
  ⟨some 28, .pick (.t 25) (.t 27) (.c (.d (.bool false))), none, 2097151⟩,
  ⟨some 6, .mv (.t 28), none, 4194303⟩]
def c34 : CF := { body := .seq (.reg r34_0 false (some [0, 1, 2])) (.seq (.reg r34_1 false (some [6])) (.ret)), res := [.tmp 6], rowArgs := [], keep := false, rowRes := [], clone := none, dl := none }
/- 35 kaudit/kauditref20.Copy -/
def r35_0 : List CO := [
  ⟨some 1, .box 17 (.t 0) [], none, 0⟩,
  ⟨some 2, .alloc [.d (.int .i64 0), .d (.int .i64 0), .d (.int .i64 0), .d (.int .i64 0), .d (.int .i64 0), .d (.sl .nil 0 []), .d (.sl .nil 0 []), .d (.int .i64 0), .d (.int .i64 0), .d (.int .i64 0), .d (.int .i64 0), .d (.int .i64 0), .d (.int .i64 0), .d (.int .i64 0), .d (.int .i64 0), .d (.bool false), .d (.sl .nil 0 [])] [], none, 0⟩]
def r35_1 : List CO := [
  ⟨some 5, .fa 5 (.t 1), none, 0⟩,
  ⟨some 6, .load false 1 (.t 5), none, 1⟩,
  ⟨some 7, .app 1 8 (.c (.d (.sl .nil 0 []))) (.t 6), none, 3⟩,
  ⟨some 8, .fa 5 (.t 1), none, 7⟩,
  ⟨none, .store 1 (.t 8) (.t 7), none, 15⟩]
def r35_2 : List CO := [
  ⟨some 9, .fa 16 (.t 1), none, 0⟩,
  ⟨some 10, .load false 1 (.t 9), none, 1⟩,
  ⟨some 11, .app 2 16 (.c (.d (.sl .nil 0 []))) (.t 10), none, 3⟩,
  ⟨some 12, .fa 16 (.t 1), none, 7⟩,
  ⟨none, .store 1 (.t 12) (.t 11), none, 15⟩]
def r35_3 : List CO := [
  ⟨some 3, .mv (.c (.d (.sl .nil 0 []))), none, 0⟩]
def r35_4 : List CO := [
  ⟨some 4, .mv (.c (.d (.int .i64 0))), none, 0⟩]
def r35_5 : List CO := [
  ⟨some 13, .mv (.t 4), none, 0⟩,
  ⟨some 14, .fa 6 (.t 1), none, 0⟩,
  ⟨some 15, .load false 1 (.t 14), none, 2⟩,
  ⟨some 16, .len .sl (.t 15), none, 6⟩,
  ⟨some 17, .bin .int .lss (.t 13) (.t 16), none, 15⟩]
def r35_6 : List CO := [
  ⟨some 20, .mv (.t 3), none, 0⟩,
  ⟨some 21, .fa 6 (.t 1), none, 0⟩,
  ⟨some 22, .load false 1 (.t 21), none, 2⟩,
  ⟨some 23, .mv (.t 4), none, 0⟩,
  ⟨some 24, .mv (.t 4), none, 0⟩,
  ⟨some 25, .bin .int .add (.t 24) (.c (.d (.int .i64 1))), none, 16⟩,
  ⟨some 26, .slSl 4 (.t 22) (some (.t 23)) (some (.t 25)) none, none, 62⟩,
  ⟨some 27, .fa 6 (.t 1), none, 0⟩,
  ⟨some 28, .load false 1 (.t 27), none, 128⟩,
  ⟨some 29, .mv (.t 4), none, 0⟩,
  ⟨some 30, .ia 4 (.t 28) (.t 29), none, 896⟩,
  ⟨some 31, .fa 2 (.t 30), none, 1920⟩,
  ⟨some 32, .load false 1 (.t 31), none, 3968⟩,
  ⟨some 33, .call (.c (.fn 28 [])) [(.t 26), (.t 32)], none, 8190⟩,
  ⟨some 34, .app 4 48 (.t 20) (.t 33), none, 16383⟩,
  ⟨some 3, .mv (.t 34), none, 32767⟩]
def r35_7 : List CO := [
  ⟨some 18, .mv (.t 4), none, 0⟩,
  ⟨some 19, .bin .int .add (.t 18) (.c (.d (.int .i64 1))), none, 1⟩,
  ⟨some 4, .mv (.t 19), none, 3⟩]
def l35_8 : CCode := .seq (.seq (.reg r35_5 false (some [1, 2, 3, 4, 17])) (.cond (.t 17) (.skip) (.exit 0))) (.seq (.block 1 (.reg r35_6 true (some [1, 2, 3, 4]))) (.reg r35_7 false (some [1, 2, 3, 4])))
def r35_9 : List CO := [
  ⟨some 35, .mv (.t 3), none, 0⟩,
  ⟨some 36, .fa 6 (.t 1), none, 1⟩,
  ⟨none, .store 1 (.t 36) (.t 35), none, 3⟩]
def r35_10 : List CO := [
  ⟨some 37, .load true 17 (.t 1), none, 0⟩,
  ⟨none, .store 17 (.t 2) (.t 37), none, 1⟩]
def c35 : CF := { body := .seq (.reg r35_0 false (some [1, 2])) (.seq (.reg r35_1 false (some [1, 2])) (.seq (.reg r35_2 false (some [1, 2])) (.seq (.reg r35_3 false (some [1, 2, 3])) (.seq (.seq (.reg r35_4 false (some [1, 2, 3, 4])) (.block 0 (.loop [(1, none), (2, none), (3, some 4), (4, none)] l35_8))) (.seq (.reg r35_9 false (some [1, 2])) (.seq (.reg r35_10 false (some [2])) (.ret))))))), res := [.cell 2 true 17], rowArgs := [], keep := true, rowRes := [(5, 1), (6, 4), (16, 2)], clone := none, dl := none }
/- 36 kaudit/kauditref20.pending -/
def r36_0 : List CO := [
  ⟨some 1, .box 17 (.t 0) [], none, 0⟩,
  ⟨some 2, .mv (.c (.d (.bool false))), none, 0⟩]
def r36_1 : List CO := [
  ⟨some 3, .fa 7 (.t 1), none, 0⟩,
  ⟨some 4, .load true 5 (.t 3), none, 1⟩,
  ⟨some 5, .build [.d (.int .i64 0), .d (.int .i64 0), .d (.int .i64 0), .d (.int .i64 0), .d (.int .i64 0)] [], none, 0⟩,
  ⟨some 6, .eqs [.int, .int, .int, .int, .int] true (.t 4) (.t 5), none, 7⟩,
  ⟨some 2, .mv (.t 6), none, 15⟩]
def c36 : CF := { body := .seq (.reg r36_0 false (some [1])) (.seq (.reg r36_1 false (some [2])) (.ret)), res := [.tmp 2], rowArgs := [(0, 0)], keep := false, rowRes := [], clone := none, dl := none }
/- 37 kaudit/kauditref20.lose -/
def r37_0 : List CO := [
  ⟨some 6, .mv (.t 0), none, 0⟩,
  ⟨some 7, .nilck (.t 6), none, 1⟩,
  ⟨some 8, .fa 3 (.t 7), none, 3⟩,
  ⟨some 9, .load false 1 (.t 8), none, 7⟩,
  ⟨some 10, .bin .int .add (.t 9) (.c (.d (.int .i64 1))), none, 15⟩,
  ⟨some 11, .nilck (.t 6), none, 31⟩,
  ⟨some 12, .fa 3 (.t 11), none, 63⟩,
  ⟨none, .store 1 (.t 12) (.t 10), none, 127⟩]
def r37_1 : List CO := [
  ⟨some 13, .mv (.t 0), none, 0⟩,
  ⟨some 14, .nilck (.t 13), none, 1⟩,
  ⟨some 15, .fa 7 (.t 14), none, 3⟩,
  ⟨some 16, .fa 0 (.t 15), none, 7⟩,
  ⟨some 17, .load false 1 (.t 16), none, 15⟩,
  ⟨some 18, .bin .int .eql (.t 17) (.c (.d (.int .i64 0))), none, 31⟩]
def r37_2 : List CO := [
  ⟨some 19, .mv (.t 0), none, 0⟩,
  ⟨some 20, .mv (.t 0), none, 0⟩,
  ⟨some 21, .nilck (.t 20), none, 2⟩,
  ⟨some 22, .fa 3 (.t 21), none, 6⟩,
  ⟨some 23, .load false 1 (.t 22), none, 14⟩,
  ⟨some 24, .nilck (.t 19), none, 31⟩,
  ⟨some 25, .fa 7 (.t 24), none, 63⟩,
  ⟨some 26, .fa 0 (.t 25), none, 127⟩,
  ⟨none, .store 1 (.t 26) (.t 23), none, 255⟩]
def r37_3 : List CO := [
  ⟨some 27, .mv (.t 0), none, 0⟩,
  ⟨some 28, .mv (.t 0), none, 0⟩,
  ⟨some 29, .nilck (.t 28), none, 2⟩,
  ⟨some 30, .fa 3 (.t 29), none, 6⟩,
  ⟨some 31, .load false 1 (.t 30), none, 14⟩,
  ⟨some 32, .nilck (.t 27), none, 31⟩,
  ⟨some 33, .fa 7 (.t 32), none, 63⟩,
  ⟨some 34, .fa 1 (.t 33), none, 127⟩,
  ⟨none, .store 1 (.t 34) (.t 31), none, 255⟩]
def r37_4 : List CO := [
  ⟨some 35, .mv (.t 2), none, 0⟩,
  ⟨some 36, .nilck (.t 35), none, 1⟩,
  ⟨some 37, .load false 1 (.t 36), none, 3⟩,
  ⟨some 38, .bin .int .add (.t 37) (.c (.d (.int .i64 1))), none, 7⟩,
  ⟨some 39, .nilck (.t 35), none, 15⟩,
  ⟨none, .store 1 (.t 39) (.t 38), none, 31⟩]
def r37_5 : List CO := [
  ⟨some 40, .mv (.t 0), none, 0⟩,
  ⟨some 41, .nilck (.t 40), none, 1⟩,
  ⟨some 42, .fa 14 (.t 41), none, 3⟩,
  ⟨some 43, .load false 1 (.t 42), none, 7⟩,
  ⟨some 44, .bin .int .add (.t 43) (.c (.d (.int .i64 1))), none, 15⟩,
  ⟨some 45, .nilck (.t 40), none, 31⟩,
  ⟨some 46, .fa 14 (.t 45), none, 63⟩,
  ⟨none, .store 1 (.t 46) (.t 44), none, 127⟩]
def r37_6 : List CO := [
  ⟨some 47, .mv (.t 0), none, 0⟩,
  ⟨some 48, .nilck (.t 47), none, 1⟩,
  ⟨some 49, .fa 2 (.t 48), none, 3⟩,
  ⟨some 50, .load false 1 (.t 49), none, 7⟩,
  ⟨some 51, .bin .int .eql (.t 50) (.c (.d (.int .i64 2))), none, 15⟩]
def r37_7 : List CO := [
  ⟨some 52, .mv (.t 0), none, 0⟩,
  ⟨some 53, .mv (.t 0), none, 0⟩,
  ⟨some 54, .nilck (.t 53), none, 2⟩,
  ⟨some 55, .fa 16 (.t 54), none, 6⟩,
  ⟨some 56, .load false 1 (.t 55), none, 14⟩,
  ⟨some 57, .mv (.t 1), none, 0⟩,
  ⟨some 58, .mv (.t 0), none, 0⟩,
  ⟨some 59, .nilck (.t 58), none, 64⟩,
  ⟨some 60, .fa 3 (.t 59), none, 192⟩,
  ⟨some 61, .load false 1 (.t 60), none, 448⟩,
  ⟨some 62, .build [.d (.int .i64 0), .d (.int .i64 0)] [(0, 1, (.t 57)), (1, 1, (.t 61))], none, 992⟩,
  ⟨some 63, .bslice 2 1 [.int .i64 0, .int .i64 0] false [(0, (.t 62))], none, 2016⟩,
  ⟨some 64, .app 2 16 (.t 56) (.t 63), none, 4094⟩,
  ⟨some 65, .nilck (.t 52), none, 8191⟩,
  ⟨some 66, .fa 16 (.t 65), none, 16383⟩,
  ⟨none, .store 1 (.t 66) (.t 64), none, 32767⟩]
def r37_8 : List CO := [
  ⟨some 67, .mv (.t 0), none, 0⟩,
  ⟨some 68, .nilck (.t 67), none, 1⟩,
  ⟨some 69, .fa 16 (.t 68), none, 3⟩,
  ⟨some 70, .load false 1 (.t 69), none, 7⟩,
  ⟨some 71, .len .sl (.t 70), none, 15⟩,
  ⟨some 72, .bin .int .gtr (.t 71) (.c (.d (.int .i64 16))), none, 31⟩]
def r37_9 : List CO := [
  ⟨some 73, .mv (.t 0), none, 0⟩,
  ⟨some 74, .mv (.t 0), none, 0⟩,
  ⟨some 75, .nilck (.t 74), none, 2⟩,
  ⟨some 76, .fa 16 (.t 75), none, 6⟩,
  ⟨some 77, .load false 1 (.t 76), none, 14⟩,
  ⟨some 78, .slSl 2 (.t 77) (some (.c (.d (.int .i64 1)))) none none, none, 30⟩,
  ⟨some 79, .nilck (.t 73), none, 63⟩,
  ⟨some 80, .fa 16 (.t 79), none, 127⟩,
  ⟨none, .store 1 (.t 80) (.t 78), none, 255⟩]
def r37_10 : List CO := [
  ⟨some 81, .mv (.t 0), none, 0⟩,
  ⟨some 82, .nilck (.t 81), none, 1⟩,
  ⟨some 83, .fa 2 (.t 82), none, 3⟩,
  ⟨some 84, .load false 1 (.t 83), none, 7⟩,
  ⟨some 85, .bin .int .eql (.t 84) (.c (.d (.int .i64 3))), none, 15⟩]
def r37_11 : List CO := [
  ⟨some 86, .mv (.t 0), none, 0⟩,
  ⟨some 87, .nilck (.t 86), none, 1⟩,
  ⟨some 88, .fa 15 (.t 87), none, 3⟩,
  ⟨none, .store 1 (.t 88) (.c (.d (.bool true))), none, 7⟩]
def c37 : CF := { body := .seq (.reg r37_0 false (some [0, 1, 2])) (.seq (.seq (.reg r37_1 false (some [0, 1, 2, 18])) (.cond (.t 18) (.reg r37_2 false (some [0, 1, 2])) (.skip))) (.seq (.reg r37_3 false (some [0, 1, 2])) (.seq (.reg r37_4 false (some [0, 1])) (.seq (.reg r37_5 false (some [0, 1])) (.seq (.seq (.reg r37_6 false (some [0, 1, 51])) (.cond (.t 51) (.seq (.reg r37_7 true (some [0])) (.seq (.reg r37_8 false (some [0, 72])) (.cond (.t 72) (.reg r37_9 false (some [0])) (.skip)))) (.skip))) (.seq (.reg r37_10 false (some [0, 85])) (.cond (.t 85) (.reg r37_11 false (some [])) (.skip)))))))), res := [], rowArgs := [], keep := false, rowRes := [], clone := none, dl := none }
/- 38 kaudit/kauditref20.tell -/
def r38_0 : List CO := [
  ⟨some 4, .mv (.t 0), none, 0⟩,
  ⟨some 5, .nilck (.t 4), none, 1⟩,
  ⟨some 6, .fa 3 (.t 5), none, 3⟩,
  ⟨some 7, .load false 1 (.t 6), none, 7⟩,
  ⟨some 8, .bin .int .add (.t 7) (.c (.d (.int .i64 1))), none, 15⟩,
  ⟨some 9, .nilck (.t 4), none, 31⟩,
  ⟨some 10, .fa 3 (.t 9), none, 63⟩,
  ⟨none, .store 1 (.t 10) (.t 8), none, 127⟩]
def r38_1 : List CO := [
  ⟨some 11, .mv (.t 0), none, 0⟩,
  ⟨some 12, .mv (.t 0), none, 0⟩,
  ⟨some 13, .nilck (.t 12), none, 2⟩,
  ⟨some 14, .fa 6 (.t 13), none, 6⟩,
  ⟨some 15, .load false 1 (.t 14), none, 14⟩,
  ⟨some 16, .mv (.t 0), none, 0⟩,
  ⟨some 17, .nilck (.t 16), none, 32⟩,
  ⟨some 18, .fa 7 (.t 17), none, 96⟩,
  ⟨some 19, .load true 5 (.t 18), none, 224⟩,
  ⟨some 20, .mv (.t 1), none, 0⟩,
  ⟨some 21, .call (.c (.fn 29 [])) [(.t 19), (.t 20)], none, 992⟩,
  ⟨some 22, .bslice 4 1 [.int .i64 0, .int .i64 0, .int .i64 0, .sl .nil 0 []] false [(0, (.t 21))], none, 2016⟩,
  ⟨some 23, .mv (.t 0), none, 0⟩,
  ⟨some 24, .nilck (.t 23), none, 4096⟩,
  ⟨some 25, .fa 3 (.t 24), none, 12288⟩,
  ⟨some 26, .load false 1 (.t 25), none, 28672⟩,
  ⟨some 27, .call (.c (.fn 28 [])) [(.t 22), (.t 26)], none, 65504⟩,
  ⟨some 28, .app 4 48 (.t 15) (.t 27), none, 131070⟩,
  ⟨some 29, .nilck (.t 11), none, 262143⟩,
  ⟨some 30, .fa 6 (.t 29), none, 524287⟩,
  ⟨none, .store 1 (.t 30) (.t 28), none, 1048575⟩]
def r38_2 : List CO := [
  ⟨some 31, .mv (.t 0), none, 0⟩,
  ⟨some 32, .build [.d (.int .i64 0), .d (.int .i64 0), .d (.int .i64 0), .d (.int .i64 0), .d (.int .i64 0)] [], none, 0⟩,
  ⟨some 33, .nilck (.t 31), none, 3⟩,
  ⟨some 34, .fa 7 (.t 33), none, 7⟩,
  ⟨none, .store 5 (.t 34) (.t 32), none, 15⟩]
def c38 : CF := { body := .seq (.reg r38_0 false (some [0, 1])) (.seq (.reg r38_1 true (some [0])) (.reg r38_2 false (some []))), res := [], rowArgs := [], keep := false, rowRes := [], clone := none, dl := none }
/- 39 kaudit/backlog.settings -/
def r39_0 : List CO := [
  ⟨some 6, .mv (.c (.d (.bool false))), none, 0⟩]
def r39_1 : List CO := [
  ⟨some 7, .mv (.t 0), none, 0⟩,
  ⟨some 8, .bin .int .geq (.t 7) (.c (.d (.int .i64 1))), none, 1⟩,
  ⟨some 9, .mv (.t 8), none, 3⟩,
  ⟨some 10, .mv (.t 0), some (9, true), 7⟩,
  ⟨some 11, .bin .int .leq (.t 10) (.c (.d (.int .i64 64))), some (9, true), 15⟩,
  ⟨some 12, .pick (.t 9) (.t 11) (.c (.d (.bool false))), none, 31⟩,
  ⟨some 13, .mv (.t 12), none, 63⟩,
  ⟨some 14, .mv (.t 1), some (13, true), 127⟩,
  ⟨some 15, .bin .int .geq (.t 14) (.c (.d (.int .i64 0))), some (13, true), 255⟩,
  ⟨some 16, .pick (.t 13) (.t 15) (.c (.d (.bool false))), none, 511⟩,
  ⟨some 17, .mv (.t 16), none, 1023⟩,
  ⟨some 18, .mv (.t 1), some (17, true), 2047⟩,
  ⟨some 19, .bin .int .leq (.t 18) (.c (.d (.int .i64 1000))), some (17, true), 4095⟩,
  ⟨some 20, .pick (.t 17) (.t 19) (.c (.d (.bool false))), none, 8191⟩,
  ⟨some 21, .mv (.t 20), none, 16383⟩,
  ⟨some 22, .mv (.t 2), some (21, true), 32767⟩,
  ⟨some 23, .bin .int .geq (.t 22) (.c (.d (.int .i64 1))), some (21, true), 65535⟩,
  ⟨some 24, .pick (.t 21) (.t 23) (.c (.d (.bool false))), none, 131071⟩,
  ⟨some 25, .mv (.t 24), none, 262143⟩,
  ⟨some 26, .mv (.t 2), some (25, true), 524287⟩,
  ⟨some 27, .bin .int .leq (.t 26) (.c (.d (.int .i64 3))), some (25, true), 1048575⟩,
  ⟨some 28, .pick (.t 25) (.t 27) (.c (.d (.bool false))), none, 2097151⟩,
  ⟨some 6, .mv (.t 28), none, 4194303⟩]
def c39 : CF := { body := .seq (.reg r39_0 false (some [0, 1, 2])) (.seq (.reg r39_1 false (some [6])) (.ret)), res := [.tmp 6], rowArgs := [], keep := false, rowRes := [], clone := none, dl := none }
/- 40 kaudit/own.Backlog -/
def r40_0 : List CO := [
  ⟨some 1, .box 17 (.t 0) [], none, 0⟩,
  ⟨some 2, .alloc [.d (.int .i64 0), .d (.int .i64 0), .d (.int .i64 0), .d (.int .i64 0), .d (.int .i64 0), .d (.sl .nil 0 []), .d (.sl .nil 0 []), .d (.int .i64 0), .d (.int .i64 0), .d (.int .i64 0), .d (.int .i64 0), .d (.int .i64 0), .d (.int .i64 0), .d (.int .i64 0), .d (.int .i64 0), .d (.bool false), .d (.sl .nil 0 [])] [], none, 0⟩]
def r40_1 : List CO := [
  ⟨some 3, .fa 5 (.t 1), none, 0⟩,
  ⟨some 4, .load false 1 (.t 3), none, 1⟩,
  ⟨some 5, .call (.c (.fn 62 [])) [(.t 4)], none, 3⟩,
  ⟨some 6, .fa 6 (.t 1), none, 0⟩,
  ⟨some 7, .load false 1 (.t 6), none, 8⟩,
  ⟨some 8, .call (.c (.fn 55 [])) [(.t 7)], none, 31⟩,
  ⟨some 9, .fa 16 (.t 1), none, 0⟩,
  ⟨some 10, .load false 1 (.t 9), none, 64⟩,
  ⟨some 11, .call (.c (.fn 63 [])) [(.t 10)], none, 255⟩,
  ⟨some 12, .fa 5 (.t 1), none, 223⟩,
  ⟨none, .store 1 (.t 12) (.t 5), none, 1023⟩,
  ⟨some 13, .fa 6 (.t 1), none, 2047⟩,
  ⟨none, .store 1 (.t 13) (.t 8), none, 4095⟩,
  ⟨some 14, .fa 16 (.t 1), none, 8191⟩,
  ⟨none, .store 1 (.t 14) (.t 11), none, 16383⟩]
def r40_2 : List CO := [
  ⟨some 15, .load true 17 (.t 1), none, 0⟩,
  ⟨none, .store 17 (.t 2) (.t 15), none, 1⟩]
def c40 : CF := { body := .seq (.reg r40_0 false (some [1, 2])) (.seq (.reg r40_1 true (some [1, 2])) (.seq (.reg r40_2 false (some [2])) (.ret))), res := [.cell 2 true 17], rowArgs := [], keep := true, rowRes := [(5, 1), (6, 4), (16, 2)], clone := none, dl := none }
/- 41 kaudit/kauditref20.sameInts -/
def r41_0 : List CO := [
  ⟨some 4, .mv (.c (.d (.bool false))), none, 0⟩]
def r41_1 : List CO := [
  ⟨some 6, .mv (.t 0), none, 0⟩,
  ⟨some 7, .len .sl (.t 6), none, 1⟩,
  ⟨some 8, .mv (.t 1), none, 0⟩,
  ⟨some 9, .len .sl (.t 8), none, 4⟩,
  ⟨some 10, .bin .int .neq (.t 7) (.t 9), none, 15⟩]
def r41_2 : List CO := [
  ⟨some 4, .mv (.c (.d (.bool false))), none, 0⟩]
def r41_3 : List CO := [
  ⟨some 5, .mv (.c (.d (.int .i64 0))), none, 0⟩]
def r41_4 : List CO := [
  ⟨some 11, .mv (.t 5), none, 0⟩,
  ⟨some 12, .mv (.t 0), none, 0⟩,
  ⟨some 13, .len .sl (.t 12), none, 2⟩,
  ⟨some 14, .bin .int .lss (.t 11) (.t 13), none, 7⟩]
def r41_5 : List CO := [
  ⟨some 17, .mv (.t 0), none, 0⟩,
  ⟨some 18, .mv (.t 5), none, 0⟩,
  ⟨some 19, .ia 1 (.t 17) (.t 18), none, 3⟩,
  ⟨some 20, .load false 1 (.t 19), none, 7⟩,
  ⟨some 21, .mv (.t 1), none, 0⟩,
  ⟨some 22, .mv (.t 5), none, 0⟩,
  ⟨some 23, .ia 1 (.t 21) (.t 22), none, 48⟩,
  ⟨some 24, .load false 1 (.t 23), none, 112⟩,
  ⟨some 25, .bin .int .neq (.t 20) (.t 24), none, 255⟩]
def r41_6 : List CO := [
  ⟨some 4, .mv (.c (.d (.bool false))), none, 0⟩]
def r41_7 : List CO := [
  ⟨some 15, .mv (.t 5), none, 0⟩,
  ⟨some 16, .bin .int .add (.t 15) (.c (.d (.int .i64 1))), none, 1⟩,
  ⟨some 5, .mv (.t 16), none, 3⟩]
def l41_8 : CCode := .seq (.seq (.reg r41_4 false (some [0, 1, 5, 14])) (.cond (.t 14) (.skip) (.exit 0))) (.seq (.block 1 (.seq (.reg r41_5 true (some [0, 1, 5, 25])) (.cond (.t 25) (.seq (.reg r41_6 false (some [4])) (.ret)) (.skip)))) (.reg r41_7 false (some [0, 1, 5])))
def r41_9 : List CO := [
  ⟨some 4, .mv (.c (.d (.bool true))), none, 0⟩]
def c41 : CF := { body := .seq (.reg r41_0 false (some [0, 1])) (.seq (.seq (.reg r41_1 false (some [0, 1, 10])) (.cond (.t 10) (.seq (.reg r41_2 false (some [4])) (.ret)) (.skip))) (.seq (.seq (.reg r41_3 false (some [0, 1, 5])) (.block 0 (.loop [(0, none), (1, none), (5, none)] l41_8))) (.seq (.reg r41_9 false (some [4])) (.ret)))), res := [.tmp 4], rowArgs := [], keep := false, rowRes := [], clone := none, dl := none }
/- 42 kaudit/kauditref03.SameList -/
def r42_0 : List CO := [
  ⟨some 4, .mv (.c (.d (.bool false))), none, 0⟩]
def r42_1 : List CO := [
  ⟨some 6, .mv (.t 0), none, 0⟩,
  ⟨some 7, .len .sl (.t 6), none, 1⟩,
  ⟨some 8, .mv (.t 1), none, 0⟩,
  ⟨some 9, .len .sl (.t 8), none, 4⟩,
  ⟨some 10, .bin .int .neq (.t 7) (.t 9), none, 15⟩]
def r42_2 : List CO := [
  ⟨some 4, .mv (.c (.d (.bool false))), none, 0⟩]
def r42_3 : List CO := [
  ⟨some 5, .mv (.c (.d (.int .i64 0))), none, 0⟩]
def r42_4 : List CO := [
  ⟨some 11, .mv (.t 5), none, 0⟩,
  ⟨some 12, .mv (.t 0), none, 0⟩,
  ⟨some 13, .len .sl (.t 12), none, 2⟩,
  ⟨some 14, .bin .int .lss (.t 11) (.t 13), none, 7⟩]
def r42_5 : List CO := [
  ⟨some 17, .mv (.t 0), none, 0⟩,
  ⟨some 18, .mv (.t 5), none, 0⟩,
  ⟨some 19, .ia 4 (.t 17) (.t 18), none, 3⟩,
  ⟨some 20, .load true 4 (.t 19), none, 7⟩,
  ⟨some 21, .mv (.t 1), none, 0⟩,
  ⟨some 22, .mv (.t 5), none, 0⟩,
  ⟨some 23, .ia 4 (.t 21) (.t 22), none, 48⟩,
  ⟨some 24, .load true 4 (.t 23), none, 112⟩,
  ⟨some 25, .call (.c (.fn 27 [])) [(.t 20), (.t 24)], none, 255⟩,
  ⟨some 26, .un .not (.t 25), none, 511⟩]
def r42_6 : List CO := [
  ⟨some 4, .mv (.c (.d (.bool false))), none, 0⟩]
def r42_7 : List CO := [
  ⟨some 15, .mv (.t 5), none, 0⟩,
  ⟨some 16, .bin .int .add (.t 15) (.c (.d (.int .i64 1))), none, 1⟩,
  ⟨some 5, .mv (.t 16), none, 3⟩]
def l42_8 : CCode := .seq (.seq (.reg r42_4 false (some [0, 1, 5, 14])) (.cond (.t 14) (.skip) (.exit 0))) (.seq (.block 1 (.seq (.reg r42_5 true (some [0, 1, 5, 26])) (.cond (.t 26) (.seq (.reg r42_6 false (some [4])) (.ret)) (.skip)))) (.reg r42_7 false (some [0, 1, 5])))
def r42_9 : List CO := [
  ⟨some 4, .mv (.c (.d (.bool true))), none, 0⟩]
def c42 : CF := { body := .seq (.reg r42_0 false (some [0, 1])) (.seq (.seq (.reg r42_1 false (some [0, 1, 10])) (.cond (.t 10) (.seq (.reg r42_2 false (some [4])) (.ret)) (.skip))) (.seq (.seq (.reg r42_3 false (some [0, 1, 5])) (.block 0 (.loop [(0, none), (1, none), (5, none)] l42_8))) (.seq (.reg r42_9 false (some [4])) (.ret)))), res := [.tmp 4], rowArgs := [], keep := false, rowRes := [], clone := none, dl := none }
/- 43 kaudit/kauditref20.sameNotices -/
def r43_0 : List CO := [
  ⟨some 4, .mv (.c (.d (.bool false))), none, 0⟩]
def r43_1 : List CO := [
  ⟨some 6, .mv (.t 0), none, 0⟩,
  ⟨some 7, .len .sl (.t 6), none, 1⟩,
  ⟨some 8, .mv (.t 1), none, 0⟩,
  ⟨some 9, .len .sl (.t 8), none, 4⟩,
  ⟨some 10, .bin .int .neq (.t 7) (.t 9), none, 15⟩]
def r43_2 : List CO := [
  ⟨some 4, .mv (.c (.d (.bool false))), none, 0⟩]
def r43_3 : List CO := [
  ⟨some 5, .mv (.c (.d (.int .i64 0))), none, 0⟩]
def r43_4 : List CO := [
  ⟨some 11, .mv (.t 5), none, 0⟩,
  ⟨some 12, .mv (.t 0), none, 0⟩,
  ⟨some 13, .len .sl (.t 12), none, 2⟩,
  ⟨some 14, .bin .int .lss (.t 11) (.t 13), none, 7⟩]
def r43_5 : List CO := [
  ⟨some 17, .mv (.t 0), none, 0⟩,
  ⟨some 18, .mv (.t 5), none, 0⟩,
  ⟨some 19, .ia 2 (.t 17) (.t 18), none, 3⟩,
  ⟨some 20, .load true 2 (.t 19), none, 7⟩,
  ⟨some 21, .mv (.t 1), none, 0⟩,
  ⟨some 22, .mv (.t 5), none, 0⟩,
  ⟨some 23, .ia 2 (.t 21) (.t 22), none, 48⟩,
  ⟨some 24, .load true 2 (.t 23), none, 112⟩,
  ⟨some 25, .eqs [.int, .int] true (.t 20) (.t 24), none, 255⟩]
def r43_6 : List CO := [
  ⟨some 4, .mv (.c (.d (.bool false))), none, 0⟩]
def r43_7 : List CO := [
  ⟨some 15, .mv (.t 5), none, 0⟩,
  ⟨some 16, .bin .int .add (.t 15) (.c (.d (.int .i64 1))), none, 1⟩,
  ⟨some 5, .mv (.t 16), none, 3⟩]
def l43_8 : CCode := .seq (.seq (.reg r43_4 false (some [0, 1, 5, 14])) (.cond (.t 14) (.skip) (.exit 0))) (.seq (.block 1 (.seq (.reg r43_5 true (some [0, 1, 5, 25])) (.cond (.t 25) (.seq (.reg r43_6 false (some [4])) (.ret)) (.skip)))) (.reg r43_7 false (some [0, 1, 5])))
def r43_9 : List CO := [
  ⟨some 4, .mv (.c (.d (.bool true))), none, 0⟩]
def c43 : CF := { body := .seq (.reg r43_0 false (some [0, 1])) (.seq (.seq (.reg r43_1 false (some [0, 1, 10])) (.cond (.t 10) (.seq (.reg r43_2 false (some [4])) (.ret)) (.skip))) (.seq (.seq (.reg r43_3 false (some [0, 1, 5])) (.block 0 (.loop [(0, none), (1, none), (5, none)] l43_8))) (.seq (.reg r43_9 false (some [4])) (.ret)))), res := [.tmp 4], rowArgs := [], keep := false, rowRes := [], clone := none, dl := none }
/- 44 kaudit/backlog.ends -/
def r44_0 : List CO := [
  ⟨some 2, .box 17 (.t 0) [], none, 0⟩,
  ⟨some 4, .mv (.c (.d (.bool false))), none, 0⟩]
def r44_1 : List CO := [
  ⟨some 5, .mv (.t 1), none, 0⟩,
  ⟨some 6, .bin .int .lss (.t 5) (.c (.d (.int .i64 0))), none, 1⟩,
  ⟨some 7, .mv (.t 6), none, 3⟩,
  ⟨some 8, .mv (.t 1), some (7, false), 7⟩,
  ⟨some 9, .bin .int .gtr (.t 8) (.c (.d (.int .i64 1099511627776))), some (7, false), 15⟩,
  ⟨some 10, .pick (.t 7) (.c (.d (.bool true))) (.t 9), none, 31⟩,
  ⟨some 11, .mv (.t 10), none, 63⟩,
  ⟨some 12, .fa 3 (.t 2), some (11, false), 127⟩,
  ⟨some 13, .load false 1 (.t 12), some (11, false), 255⟩,
  ⟨some 14, .bin .int .gtr (.t 13) (.c (.d (.int .i64 1073741821))), some (11, false), 511⟩,
  ⟨some 15, .pick (.t 11) (.c (.d (.bool true))) (.t 14), none, 1023⟩,
  ⟨some 4, .mv (.t 15), none, 2047⟩]
def c44 : CF := { body := .seq (.reg r44_0 false (some [1, 2])) (.seq (.reg r44_1 false (some [4])) (.ret)), res := [.tmp 4], rowArgs := [(0, 0)], keep := false, rowRes := [], clone := none, dl := none }
/- 45 kaudit/backlog.one -/
def r45_0 : List CO := [
  ⟨some 2, .mv (.c (.d (.int .i64 0))), none, 0⟩]
def r45_1 : List CO := [
  ⟨some 3, .mv (.t 0), none, 0⟩]
def r45_2 : List CO := [
  ⟨some 2, .mv (.c (.d (.int .i64 1))), none, 0⟩]
def r45_3 : List CO := [
  ⟨some 2, .mv (.c (.d (.int .i64 0))), none, 0⟩]
def c45 : CF := { body := .seq (.reg r45_0 false (some [0])) (.seq (.seq (.reg r45_1 false (some [3])) (.cond (.t 3) (.seq (.reg r45_2 false (some [2])) (.ret)) (.skip))) (.seq (.reg r45_3 false (some [2])) (.ret))), res := [.tmp 2], rowArgs := [], keep := false, rowRes := [], clone := none, dl := none }
/- 46 kaudit/backlog.pending -/
def r46_0 : List CO := [
  ⟨some 2, .mv (.c (.d (.bool false))), none, 0⟩]
def r46_1 : List CO := [
  ⟨some 3, .mv (.t 0), none, 0⟩,
  ⟨some 4, .nilck (.t 3), none, 1⟩,
  ⟨some 5, .fa 7 (.t 4), none, 3⟩,
  ⟨some 6, .load true 5 (.t 5), none, 7⟩,
  ⟨some 7, .build [.d (.int .i64 0), .d (.int .i64 0), .d (.int .i64 0), .d (.int .i64 0), .d (.int .i64 0)] [], none, 0⟩,
  ⟨some 8, .eqs [.int, .int, .int, .int, .int] true (.t 6) (.t 7), none, 31⟩,
  ⟨some 2, .mv (.t 8), none, 63⟩]
def c46 : CF := { body := .seq (.reg r46_0 false (some [0])) (.seq (.reg r46_1 false (some [2])) (.ret)), res := [.tmp 2], rowArgs := [], keep := false, rowRes := [], clone := none, dl := none }
/- 47 kaudit/backlog.reasons -/
def r47_0 : List CO := [
  ⟨some 0, .alloc [.d (.nilf), .d (.nilf), .d (.nilf)] [], none, 0⟩]
def r47_1 : List CO := [
  ⟨some 1, .build [.d (.nilf), .d (.nilf), .d (.nilf)] [(0, 1, (.c (.fn 64 []))), (1, 1, (.c (.fn 65 []))), (2, 1, (.c (.fn 66 [])))], none, 0⟩,
  ⟨none, .store 3 (.t 0) (.t 1), none, 1⟩]
def c47 : CF := { body := .seq (.reg r47_0 false (some [0])) (.seq (.reg r47_1 false (some [0])) (.ret)), res := [.cell 0 true 3], rowArgs := [], keep := false, rowRes := [], clone := none, dl := none }
/- 48 slices.IndexFunc[[]func(b kaudit/api.Backlog, time int, n int, serial int) bool,func(b kaudit/api.Backlog, time int, n int, serial int) bool] -/
def r48_0 : List CO := [
  ⟨some 4, .mv (.c (.d (.int .i64 0))), none, 0⟩]
def r48_1 : List CO := [
  ⟨some 6, .mv (.t 0), none, 0⟩,
  ⟨some 7, .len .sl (.t 6), none, 1⟩,
  ⟨some 8, .mv (.c (.d (.int .i64 0))), none, 0⟩]
def r48_2 : List CO := [
  ⟨some 9, .bin .int .lss (.t 8) (.t 7), none, 0⟩]
def r48_3 : List CO := [
  ⟨some 10, .mv (.t 8), none, 0⟩,
  ⟨some 5, .mv (.t 10), none, 1⟩]
def r48_4 : List CO := [
  ⟨some 11, .mv (.t 1), none, 0⟩,
  ⟨some 12, .mv (.t 0), none, 0⟩,
  ⟨some 13, .mv (.t 5), none, 0⟩,
  ⟨some 14, .ia 1 (.t 12) (.t 13), none, 6⟩,
  ⟨some 15, .load false 1 (.t 14), none, 14⟩,
  ⟨some 16, .call (.t 11) [(.t 15)], none, 31⟩]
def r48_5 : List CO := [
  ⟨some 17, .mv (.t 5), none, 0⟩,
  ⟨some 4, .mv (.t 17), none, 1⟩]
def r48_6 : List CO := [
  ⟨some 18, .bin .int .add (.t 8) (.c (.d (.int .i64 1))), none, 0⟩,
  ⟨some 8, .mv (.t 18), none, 1⟩]
def l48_7 : CCode := .seq (.reg r48_2 false (some [0, 1, 7, 8, 9])) (.seq (.cond (.t 9) (.skip) (.exit 0)) (.seq (.block 1 (.seq (.reg r48_3 false (some [0, 1, 5, 7, 8])) (.seq (.reg r48_4 false (some [0, 1, 5, 7, 8, 16])) (.cond (.t 16) (.seq (.reg r48_5 false (some [4])) (.ret)) (.skip))))) (.reg r48_6 false (some [0, 1, 7, 8]))))
def r48_8 : List CO := [
  ⟨some 4, .mv (.c (.d (.int .i64 (-1)))), none, 0⟩]
def c48 : CF := { body := .seq (.reg r48_0 false (some [0, 1])) (.seq (.seq (.reg r48_1 false (some [0, 1, 7, 8])) (.block 0 (.loop [(0, none), (1, none), (7, none), (8, none)] l48_7))) (.seq (.reg r48_8 false (some [4])) (.ret))), res := [.tmp 4], rowArgs := [], keep := false, rowRes := [], clone := none, dl := none }
/- 49 kaudit/backlog.Offer$1 -/
def r49_0 : List CO := [
  ⟨some 6, .mv (.c (.d (.bool false))), none, 0⟩]
def r49_1 : List CO := [
  ⟨some 7, .mv (.t 0), none, 0⟩,
  ⟨some 8, .load false 1 (.t 2), none, 0⟩,
  ⟨some 9, .load false 1 (.t 3), none, 0⟩,
  ⟨some 10, .load false 1 (.t 4), none, 0⟩,
  ⟨some 11, .call (.t 7) [(.t 1), (.t 8), (.t 9), (.t 10)], none, 15⟩,
  ⟨some 6, .mv (.t 11), none, 31⟩]
def c49 : CF := { body := .seq (.reg r49_0 false (some [0, 1, 2, 3, 4])) (.seq (.reg r49_1 false (some [6])) (.ret)), res := [.tmp 6], rowArgs := [], keep := false, rowRes := [], clone := none, dl := none }
/- 50 kaudit/backlog.refuse -/
def r50_0 : List CO := [
  ⟨some 9, .mv (.t 0), none, 0⟩,
  ⟨some 10, .nilck (.t 9), none, 1⟩,
  ⟨some 11, .fa 3 (.t 10), none, 3⟩,
  ⟨some 12, .load false 1 (.t 11), none, 7⟩,
  ⟨some 13, .bin .int .add (.t 12) (.c (.d (.int .i64 1))), none, 15⟩,
  ⟨some 14, .nilck (.t 9), none, 31⟩,
  ⟨some 15, .fa 3 (.t 14), none, 63⟩,
  ⟨none, .store 1 (.t 15) (.t 13), none, 127⟩]
def r50_1 : List CO := [
  ⟨some 16, .mv (.t 0), none, 0⟩,
  ⟨some 17, .call (.c (.fn 46 [])) [(.t 16)], none, 1⟩,
  ⟨some 18, .un .not (.t 17), none, 3⟩]
def r50_2 : List CO := [
  ⟨some 19, .mv (.t 0), none, 0⟩,
  ⟨some 20, .mv (.t 0), none, 0⟩,
  ⟨some 21, .nilck (.t 20), none, 2⟩,
  ⟨some 22, .fa 3 (.t 21), none, 6⟩,
  ⟨some 23, .load false 1 (.t 22), none, 14⟩,
  ⟨some 24, .nilck (.t 19), none, 31⟩,
  ⟨some 25, .fa 7 (.t 24), none, 63⟩,
  ⟨some 26, .fa 0 (.t 25), none, 127⟩,
  ⟨none, .store 1 (.t 26) (.t 23), none, 255⟩]
def r50_3 : List CO := [
  ⟨some 27, .mv (.t 0), none, 0⟩,
  ⟨some 28, .mv (.t 0), none, 0⟩,
  ⟨some 29, .nilck (.t 28), none, 2⟩,
  ⟨some 30, .fa 3 (.t 29), none, 6⟩,
  ⟨some 31, .load false 1 (.t 30), none, 14⟩,
  ⟨some 32, .nilck (.t 27), none, 31⟩,
  ⟨some 33, .fa 7 (.t 32), none, 63⟩,
  ⟨some 34, .fa 1 (.t 33), none, 127⟩,
  ⟨none, .store 1 (.t 34) (.t 31), none, 255⟩]
def r50_4 : List CO := [
  ⟨some 35, .mv (.t 0), none, 0⟩,
  ⟨some 36, .nilck (.t 35), none, 1⟩,
  ⟨some 37, .fa 7 (.t 36), none, 3⟩,
  ⟨some 38, .fa 2 (.t 37), none, 7⟩,
  ⟨some 39, .load false 1 (.t 38), none, 15⟩,
  ⟨some 40, .mv (.t 2), none, 0⟩,
  ⟨some 41, .bin .int .eql (.t 40) (.c (.d (.int .i64 0))), none, 32⟩,
  ⟨some 42, .call (.c (.fn 45 [])) [(.t 41)], none, 96⟩,
  ⟨some 43, .bin .int .add (.t 39) (.t 42), none, 255⟩,
  ⟨some 44, .nilck (.t 35), none, 511⟩,
  ⟨some 45, .fa 7 (.t 44), none, 1023⟩,
  ⟨some 46, .fa 2 (.t 45), none, 2047⟩,
  ⟨none, .store 1 (.t 46) (.t 43), none, 4095⟩]
def r50_5 : List CO := [
  ⟨some 47, .mv (.t 0), none, 0⟩,
  ⟨some 48, .nilck (.t 47), none, 1⟩,
  ⟨some 49, .fa 7 (.t 48), none, 3⟩,
  ⟨some 50, .fa 3 (.t 49), none, 7⟩,
  ⟨some 51, .load false 1 (.t 50), none, 15⟩,
  ⟨some 52, .mv (.t 2), none, 0⟩,
  ⟨some 53, .bin .int .eql (.t 52) (.c (.d (.int .i64 1))), none, 32⟩,
  ⟨some 54, .call (.c (.fn 45 [])) [(.t 53)], none, 96⟩,
  ⟨some 55, .bin .int .add (.t 51) (.t 54), none, 255⟩,
  ⟨some 56, .nilck (.t 47), none, 511⟩,
  ⟨some 57, .fa 7 (.t 56), none, 1023⟩,
  ⟨some 58, .fa 3 (.t 57), none, 2047⟩,
  ⟨none, .store 1 (.t 58) (.t 55), none, 4095⟩]
def r50_6 : List CO := [
  ⟨some 59, .mv (.t 0), none, 0⟩,
  ⟨some 60, .nilck (.t 59), none, 1⟩,
  ⟨some 61, .fa 7 (.t 60), none, 3⟩,
  ⟨some 62, .fa 4 (.t 61), none, 7⟩,
  ⟨some 63, .load false 1 (.t 62), none, 15⟩,
  ⟨some 64, .mv (.t 2), none, 0⟩,
  ⟨some 65, .bin .int .eql (.t 64) (.c (.d (.int .i64 2))), none, 32⟩,
  ⟨some 66, .call (.c (.fn 45 [])) [(.t 65)], none, 96⟩,
  ⟨some 67, .bin .int .add (.t 63) (.t 66), none, 255⟩,
  ⟨some 68, .nilck (.t 59), none, 511⟩,
  ⟨some 69, .fa 7 (.t 68), none, 1023⟩,
  ⟨some 70, .fa 4 (.t 69), none, 2047⟩,
  ⟨none, .store 1 (.t 70) (.t 67), none, 4095⟩]
def r50_7 : List CO := [
  ⟨some 71, .mv (.t 0), none, 0⟩,
  ⟨some 72, .nilck (.t 71), none, 1⟩,
  ⟨some 73, .fa 14 (.t 72), none, 3⟩,
  ⟨some 74, .load false 1 (.t 73), none, 7⟩,
  ⟨some 75, .bin .int .add (.t 74) (.c (.d (.int .i64 1))), none, 15⟩,
  ⟨some 76, .nilck (.t 71), none, 31⟩,
  ⟨some 77, .fa 14 (.t 76), none, 63⟩,
  ⟨none, .store 1 (.t 77) (.t 75), none, 127⟩]
def r50_8 : List CO := [
  ⟨some 78, .mv (.t 0), none, 0⟩,
  ⟨some 79, .nilck (.t 78), none, 1⟩,
  ⟨some 80, .fa 2 (.t 79), none, 3⟩,
  ⟨some 81, .load false 1 (.t 80), none, 7⟩]
def r50_9 : List CO := [
  ⟨some 83, .bin .int .eql (.t 81) (.c (.d (.int .i64 2))), none, 0⟩,
  ⟨some 82, .mv (.t 83), none, 1⟩]
def r50_10 : List CO := [
  ⟨some 6, .alloc [.d (.int .i64 0), .d (.int .i64 0), .d (.int .i64 0), .d (.int .i64 0), .d (.int .i64 0), .d (.int .i64 0), .d (.int .i64 0), .d (.int .i64 0), .d (.int .i64 0), .d (.int .i64 0), .d (.int .i64 0), .d (.int .i64 0), .d (.int .i64 0), .d (.int .i64 0), .d (.int .i64 0), .d (.int .i64 0), .d (.int .i64 0), .d (.int .i64 0), .d (.int .i64 0), .d (.int .i64 0), .d (.int .i64 0), .d (.int .i64 0), .d (.int .i64 0), .d (.int .i64 0), .d (.int .i64 0), .d (.int .i64 0), .d (.int .i64 0), .d (.int .i64 0), .d (.int .i64 0), .d (.int .i64 0), .d (.int .i64 0), .d (.int .i64 0)] [], none, 0⟩]
def r50_11 : List CO := [
  ⟨some 84, .slArr 16 2 (.t 6) none none, none, 0⟩,
  ⟨some 85, .mv (.t 0), none, 0⟩,
  ⟨some 86, .nilck (.t 85), none, 2⟩,
  ⟨some 87, .fa 16 (.t 86), none, 6⟩,
  ⟨some 88, .load false 1 (.t 87), none, 14⟩,
  ⟨some 89, .mv (.t 0), none, 0⟩,
  ⟨some 90, .nilck (.t 89), none, 32⟩,
  ⟨some 91, .fa 16 (.t 90), none, 96⟩,
  ⟨some 92, .load false 1 (.t 91), none, 224⟩,
  ⟨some 93, .len .sl (.t 92), none, 480⟩,
  ⟨some 94, .bin .int .sub (.t 93) (.c (.d (.int .i64 16))), none, 992⟩,
  ⟨some 95, .bin .int .add (.t 94) (.c (.d (.int .i64 1))), none, 2016⟩,
  ⟨some 96, .max (.c (.d (.int .i64 0))) [(.t 95)], none, 4064⟩,
  ⟨some 97, .slSl 2 (.t 88) (some (.t 96)) none none, none, 8190⟩,
  ⟨some 98, .copy 2 (.t 84) (.t 97), none, 16383⟩,
  ⟨some 7, .mv (.t 98), none, 32767⟩]
def r50_12 : List CO := [
  ⟨some 99, .load true 32 (.t 6), none, 0⟩,
  ⟨some 8, .alloc [.d (.int .i64 0), .d (.int .i64 0), .d (.int .i64 0), .d (.int .i64 0), .d (.int .i64 0), .d (.int .i64 0), .d (.int .i64 0), .d (.int .i64 0), .d (.int .i64 0), .d (.int .i64 0), .d (.int .i64 0), .d (.int .i64 0), .d (.int .i64 0), .d (.int .i64 0), .d (.int .i64 0), .d (.int .i64 0), .d (.int .i64 0), .d (.int .i64 0), .d (.int .i64 0), .d (.int .i64 0), .d (.int .i64 0), .d (.int .i64 0), .d (.int .i64 0), .d (.int .i64 0), .d (.int .i64 0), .d (.int .i64 0), .d (.int .i64 0), .d (.int .i64 0), .d (.int .i64 0), .d (.int .i64 0), .d (.int .i64 0), .d (.int .i64 0)] [], none, 0⟩,
  ⟨none, .store 32 (.t 8) (.t 99), none, 3⟩]
def r50_13 : List CO := [
  ⟨some 100, .mv (.t 7), none, 0⟩,
  ⟨some 101, .mv (.t 1), none, 0⟩,
  ⟨some 102, .mv (.t 0), none, 0⟩,
  ⟨some 103, .nilck (.t 102), none, 4⟩,
  ⟨some 104, .fa 3 (.t 103), none, 12⟩,
  ⟨some 105, .load false 1 (.t 104), none, 28⟩,
  ⟨some 106, .build [.d (.int .i64 0), .d (.int .i64 0)] [(0, 1, (.t 101)), (1, 1, (.t 105))], none, 62⟩,
  ⟨some 107, .iaArr 16 2 (.t 8) (.t 100), none, 127⟩,
  ⟨none, .store 2 (.t 107) (.t 106), none, 255⟩]
def r50_14 : List CO := [
  ⟨some 108, .mv (.t 0), none, 0⟩,
  ⟨some 109, .mv (.t 7), none, 0⟩,
  ⟨some 110, .bin .int .add (.t 109) (.c (.d (.int .i64 1))), none, 2⟩,
  ⟨some 111, .slArr 16 2 (.t 8) none (some (.t 110)), none, 6⟩,
  ⟨some 112, .nilck (.t 108), none, 15⟩,
  ⟨some 113, .fa 16 (.t 112), none, 31⟩,
  ⟨none, .store 1 (.t 113) (.t 111), none, 63⟩]
def r50_15 : List CO := [
  ⟨some 115, .bin .int .eql (.t 81) (.c (.d (.int .i64 3))), none, 0⟩,
  ⟨some 114, .mv (.t 115), none, 1⟩]
def r50_16 : List CO := [
  ⟨some 116, .mv (.t 0), none, 0⟩,
  ⟨some 117, .nilck (.t 116), none, 1⟩,
  ⟨some 118, .fa 15 (.t 117), none, 3⟩,
  ⟨none, .store 1 (.t 118) (.c (.d (.bool true))), none, 7⟩]
def c50 : CF := { body := .seq (.reg r50_0 false (some [0, 1, 2])) (.seq (.seq (.reg r50_1 false (some [0, 1, 2, 18])) (.cond (.t 18) (.reg r50_2 false (some [0, 1, 2])) (.skip))) (.seq (.reg r50_3 false (some [0, 1, 2])) (.seq (.reg r50_4 true (some [0, 1, 2])) (.seq (.reg r50_5 true (some [0, 1, 2])) (.seq (.reg r50_6 true (some [0, 1])) (.seq (.reg r50_7 false (some [0, 1])) (.seq (.reg r50_8 false (some [0, 1, 81])) (.block 0 (.seq (.reg r50_9 false (some [0, 1, 81, 82])) (.cond (.t 82) (.seq (.reg r50_10 false (some [0, 1, 6])) (.seq (.reg r50_11 true (some [0, 1, 6, 7])) (.seq (.reg r50_12 false (some [0, 1, 7, 8])) (.seq (.reg r50_13 false (some [0, 7, 8])) (.reg r50_14 false (some [])))))) (.seq (.reg r50_15 false (some [0, 114])) (.cond (.t 114) (.reg r50_16 false (some [])) (.skip))))))))))))), res := [], rowArgs := [], keep := false, rowRes := [], clone := none, dl := none }
/- 51 kaudit/backlog.tell -/
def r51_0 : List CO := [
  ⟨some 4, .mv (.t 0), none, 0⟩,
  ⟨some 5, .nilck (.t 4), none, 1⟩,
  ⟨some 6, .fa 3 (.t 5), none, 3⟩,
  ⟨some 7, .load false 1 (.t 6), none, 7⟩,
  ⟨some 8, .bin .int .add (.t 7) (.c (.d (.int .i64 1))), none, 15⟩,
  ⟨some 9, .nilck (.t 4), none, 31⟩,
  ⟨some 10, .fa 3 (.t 9), none, 63⟩,
  ⟨none, .store 1 (.t 10) (.t 8), none, 127⟩]
def r51_1 : List CO := [
  ⟨some 11, .mv (.t 0), none, 0⟩,
  ⟨some 12, .mv (.t 0), none, 0⟩,
  ⟨some 13, .nilck (.t 12), none, 2⟩,
  ⟨some 14, .fa 6 (.t 13), none, 6⟩,
  ⟨some 15, .load false 1 (.t 14), none, 14⟩,
  ⟨some 16, .mv (.t 0), none, 0⟩,
  ⟨some 17, .nilck (.t 16), none, 32⟩,
  ⟨some 18, .fa 7 (.t 17), none, 96⟩,
  ⟨some 19, .load true 5 (.t 18), none, 224⟩,
  ⟨some 20, .mv (.t 1), none, 0⟩,
  ⟨some 21, .call (.c (.fn 68 [])) [(.t 19), (.t 20)], none, 992⟩,
  ⟨some 22, .bslice 4 1 [.int .i64 0, .int .i64 0, .int .i64 0, .sl .nil 0 []] false [(0, (.t 21))], none, 2016⟩,
  ⟨some 23, .mv (.t 0), none, 0⟩,
  ⟨some 24, .nilck (.t 23), none, 4096⟩,
  ⟨some 25, .fa 3 (.t 24), none, 12288⟩,
  ⟨some 26, .load false 1 (.t 25), none, 28672⟩,
  ⟨some 27, .call (.c (.fn 67 [])) [(.t 22), (.t 26)], none, 65504⟩,
  ⟨some 28, .app 4 48 (.t 15) (.t 27), none, 131070⟩,
  ⟨some 29, .nilck (.t 11), none, 262143⟩,
  ⟨some 30, .fa 6 (.t 29), none, 524287⟩,
  ⟨none, .store 1 (.t 30) (.t 28), none, 1048575⟩]
def r51_2 : List CO := [
  ⟨some 31, .mv (.t 0), none, 0⟩,
  ⟨some 32, .build [.d (.int .i64 0), .d (.int .i64 0), .d (.int .i64 0), .d (.int .i64 0), .d (.int .i64 0)] [], none, 0⟩,
  ⟨some 33, .nilck (.t 31), none, 3⟩,
  ⟨some 34, .fa 7 (.t 33), none, 7⟩,
  ⟨none, .store 5 (.t 34) (.t 32), none, 15⟩]
def c51 : CF := { body := .seq (.reg r51_0 false (some [0, 1])) (.seq (.reg r51_1 true (some [0])) (.reg r51_2 false (some []))), res := [], rowArgs := [], keep := false, rowRes := [], clone := none, dl := none }
/- 52 kaudit/own.Record -/
def r52_0 : List CO := [
  ⟨some 1, .box 4 (.t 0) [], none, 0⟩,
  ⟨some 2, .alloc [.d (.int .i64 0), .d (.int .i64 0), .d (.int .i64 0), .d (.sl .nil 0 [])] [], none, 0⟩]
def r52_1 : List CO := [
  ⟨some 3, .fa 3 (.t 1), none, 0⟩,
  ⟨some 4, .load false 1 (.t 3), none, 1⟩,
  ⟨some 5, .call (.c (.fn 69 [])) [(.t 4)], none, 3⟩,
  ⟨some 6, .fa 3 (.t 1), none, 7⟩,
  ⟨none, .store 1 (.t 6) (.t 5), none, 15⟩]
def r52_2 : List CO := [
  ⟨some 7, .load true 4 (.t 1), none, 0⟩,
  ⟨none, .store 4 (.t 2) (.t 7), none, 1⟩]
def c52 : CF := { body := .seq (.reg r52_0 false (some [1, 2])) (.seq (.reg r52_1 false (some [1, 2])) (.seq (.reg r52_2 false (some [2])) (.ret))), res := [.cell 2 true 4], rowArgs := [], keep := false, rowRes := [], clone := none, dl := none }
/- 53 slices.DeleteFunc[[]int,int] -/
def r53_0 : List CO := [
  ⟨some 4, .mv (.c (.d (.sl .nil 0 []))), none, 0⟩]
def r53_1 : List CO := [
  ⟨some 8, .mv (.t 0), none, 0⟩,
  ⟨some 9, .mv (.t 1), none, 0⟩,
  ⟨some 10, .call (.c (.fn 70 [])) [(.t 8), (.t 9)], none, 3⟩,
  ⟨some 5, .mv (.t 10), none, 7⟩]
def r53_2 : List CO := [
  ⟨some 11, .mv (.t 5), none, 0⟩,
  ⟨some 12, .bin .int .eql (.t 11) (.c (.d (.int .i64 (-1)))), none, 1⟩]
def r53_3 : List CO := [
  ⟨some 13, .mv (.t 0), none, 0⟩,
  ⟨some 4, .mv (.t 13), none, 1⟩]
def r53_4 : List CO := [
  ⟨some 14, .mv (.t 5), none, 0⟩,
  ⟨some 15, .bin .int .add (.t 14) (.c (.d (.int .i64 1))), none, 1⟩,
  ⟨some 6, .mv (.t 15), none, 3⟩]
def r53_5 : List CO := [
  ⟨some 16, .mv (.t 6), none, 0⟩,
  ⟨some 17, .mv (.t 0), none, 0⟩,
  ⟨some 18, .len .sl (.t 17), none, 2⟩,
  ⟨some 19, .bin .int .lss (.t 16) (.t 18), none, 7⟩]
def r53_6 : List CO := [
  ⟨some 22, .mv (.t 0), none, 0⟩,
  ⟨some 23, .mv (.t 6), none, 0⟩,
  ⟨some 24, .ia 1 (.t 22) (.t 23), none, 3⟩,
  ⟨some 25, .load false 1 (.t 24), none, 7⟩,
  ⟨some 7, .mv (.t 25), none, 15⟩]
def r53_7 : List CO := [
  ⟨some 26, .mv (.t 1), none, 0⟩,
  ⟨some 27, .mv (.t 7), none, 0⟩,
  ⟨some 28, .call (.t 26) [(.t 27)], none, 3⟩,
  ⟨some 29, .un .not (.t 28), none, 7⟩]
def r53_8 : List CO := [
  ⟨some 30, .mv (.t 0), none, 0⟩,
  ⟨some 31, .mv (.t 5), none, 0⟩,
  ⟨some 32, .mv (.t 7), none, 0⟩,
  ⟨some 33, .ia 1 (.t 30) (.t 31), none, 7⟩,
  ⟨none, .store 1 (.t 33) (.t 32), none, 15⟩]
def r53_9 : List CO := [
  ⟨some 34, .mv (.t 5), none, 0⟩,
  ⟨some 35, .bin .int .add (.t 34) (.c (.d (.int .i64 1))), none, 1⟩,
  ⟨some 5, .mv (.t 35), none, 3⟩]
def r53_10 : List CO := [
  ⟨some 20, .mv (.t 6), none, 0⟩,
  ⟨some 21, .bin .int .add (.t 20) (.c (.d (.int .i64 1))), none, 1⟩,
  ⟨some 6, .mv (.t 21), none, 3⟩]
def l53_11 : CCode := .seq (.seq (.reg r53_5 false (some [0, 1, 5, 6, 19])) (.cond (.t 19) (.skip) (.exit 0))) (.seq (.block 1 (.seq (.reg r53_6 false (some [0, 1, 5, 6, 7])) (.seq (.reg r53_7 false (some [0, 1, 5, 6, 7, 29])) (.cond (.t 29) (.seq (.reg r53_8 false (some [0, 1, 5, 6])) (.reg r53_9 false (some [0, 1, 5, 6]))) (.skip))))) (.reg r53_10 false (some [0, 1, 5, 6])))
def r53_12 : List CO := [
  ⟨some 36, .mv (.t 0), none, 0⟩,
  ⟨some 37, .mv (.t 5), none, 0⟩,
  ⟨some 38, .slSl 1 (.t 36) (some (.t 37)) none none, none, 3⟩,
  ⟨none, .clear [.int .i64 0] 1 (.t 38), none, 7⟩]
def r53_13 : List CO := [
  ⟨some 39, .mv (.t 0), none, 0⟩,
  ⟨some 40, .mv (.t 5), none, 0⟩,
  ⟨some 41, .slSl 1 (.t 39) none (some (.t 40)) none, none, 3⟩,
  ⟨some 4, .mv (.t 41), none, 7⟩]
def c53 : CF := { body := .seq (.reg r53_0 false (some [0, 1])) (.seq (.reg r53_1 false (some [0, 1, 5])) (.seq (.seq (.reg r53_2 false (some [0, 1, 5, 12])) (.cond (.t 12) (.seq (.reg r53_3 false (some [4])) (.ret)) (.skip))) (.seq (.seq (.reg r53_4 false (some [0, 1, 5, 6])) (.block 0 (.loop [(0, none), (1, none), (5, none), (6, none)] l53_11))) (.seq (.reg r53_12 false (some [0, 5])) (.seq (.reg r53_13 false (some [4])) (.ret)))))), res := [.tmp 4], rowArgs := [(0, 1)], keep := true, rowRes := [], clone := none, dl := none }
/- 54 kaudit/backlog.Put$1 -/
def r54_0 : List CO := [
  ⟨some 3, .mv (.c (.d (.bool false))), none, 0⟩]
def r54_1 : List CO := [
  ⟨some 4, .mv (.t 0), none, 0⟩,
  ⟨some 5, .fa 2 (.t 1), none, 0⟩,
  ⟨some 6, .load false 1 (.t 5), none, 2⟩,
  ⟨some 7, .bin .int .eql (.t 4) (.t 6), none, 7⟩,
  ⟨some 3, .mv (.t 7), none, 15⟩]
def c54 : CF := { body := .seq (.reg r54_0 false (some [0, 1])) (.seq (.reg r54_1 false (some [3])) (.ret)), res := [.tmp 3], rowArgs := [], keep := false, rowRes := [], clone := none, dl := none }
/- 55 kaudit/own.Records -/
def r55_0 : List CO := [
  ⟨some 2, .mv (.c (.d (.sl .nil 0 []))), none, 0⟩]
def r55_1 : List CO := [
  ⟨some 3, .mv (.t 0), none, 0⟩,
  ⟨some 4, .call (.c (.fn 71 [])) [(.t 3), (.c (.fn 52 []))], none, 1⟩,
  ⟨some 2, .mv (.t 4), none, 3⟩]
def c55 : CF := { body := .seq (.reg r55_0 false (some [0])) (.seq (.reg r55_1 false (some [2])) (.ret)), res := [.tmp 2], rowArgs := [(0, 4)], keep := true, rowRes := [(0, 4)], clone := none, dl := none }
/- 56 slices.Delete[[]kaudit/api.Record,kaudit/api.Record] -/
def r56_0 : List CO := [
  ⟨some 6, .mv (.c (.d (.sl .nil 0 []))), none, 0⟩]
def r56_1 : List CO := [
  ⟨some 8, .mv (.t 0), none, 0⟩,
  ⟨some 9, .mv (.t 1), none, 0⟩,
  ⟨some 10, .mv (.t 2), none, 0⟩,
  ⟨some 11, .mv (.t 0), none, 0⟩,
  ⟨some 12, .len .sl (.t 11), none, 8⟩,
  ⟨some 13, .slSl 4 (.t 8) (some (.t 9)) (some (.t 10)) (some (.t 12)), none, 31⟩]
def r56_2 : List CO := [
  ⟨some 14, .mv (.t 1), none, 0⟩,
  ⟨some 15, .mv (.t 2), none, 0⟩,
  ⟨some 16, .bin .int .eql (.t 14) (.t 15), none, 3⟩]
def r56_3 : List CO := [
  ⟨some 17, .mv (.t 0), none, 0⟩,
  ⟨some 6, .mv (.t 17), none, 1⟩]
def r56_4 : List CO := [
  ⟨some 18, .mv (.t 0), none, 0⟩,
  ⟨some 19, .len .sl (.t 18), none, 1⟩,
  ⟨some 7, .mv (.t 19), none, 3⟩]
def r56_5 : List CO := [
  ⟨some 20, .mv (.t 0), none, 0⟩,
  ⟨some 21, .mv (.t 1), none, 0⟩,
  ⟨some 22, .slSl 4 (.t 20) none (some (.t 21)) none, none, 3⟩,
  ⟨some 23, .mv (.t 0), none, 0⟩,
  ⟨some 24, .mv (.t 2), none, 0⟩,
  ⟨some 25, .slSl 4 (.t 23) (some (.t 24)) none none, none, 24⟩,
  ⟨some 26, .app 4 48 (.t 22) (.t 25), none, 63⟩,
  ⟨some 0, .mv (.t 26), none, 127⟩]
def r56_6 : List CO := [
  ⟨some 27, .mv (.t 0), none, 0⟩,
  ⟨some 28, .mv (.t 0), none, 0⟩,
  ⟨some 29, .len .sl (.t 28), none, 2⟩,
  ⟨some 30, .mv (.t 7), none, 0⟩,
  ⟨some 31, .slSl 4 (.t 27) (some (.t 29)) (some (.t 30)) none, none, 15⟩,
  ⟨none, .clear [.int .i64 0, .int .i64 0, .int .i64 0, .sl .nil 0 []] 4 (.t 31), none, 31⟩]
def r56_7 : List CO := [
  ⟨some 32, .mv (.t 0), none, 0⟩,
  ⟨some 6, .mv (.t 32), none, 1⟩]
def c56 : CF := { body := .seq (.reg r56_0 false (some [0, 1, 2])) (.seq (.reg r56_1 false (some [0, 1, 2])) (.seq (.seq (.reg r56_2 false (some [0, 1, 2, 16])) (.cond (.t 16) (.seq (.reg r56_3 false (some [6])) (.ret)) (.skip))) (.seq (.reg r56_4 false (some [0, 1, 2, 7])) (.seq (.reg r56_5 true (some [0, 7])) (.seq (.reg r56_6 false (some [0])) (.seq (.reg r56_7 false (some [6])) (.ret))))))), res := [.tmp 6], rowArgs := [(0, 4)], keep := true, rowRes := [], clone := none, dl := none }
/- 57 kaudit/backlog.stalls -/
def r57_0 : List CO := [
  ⟨some 4, .mv (.c (.d (.bool false))), none, 0⟩]
def r57_1 : List CO := [
  ⟨some 5, .mv (.t 0), none, 0⟩,
  ⟨some 6, .nilck (.t 5), none, 1⟩,
  ⟨some 7, .fa 5 (.t 6), none, 3⟩,
  ⟨some 8, .load false 1 (.t 7), none, 7⟩,
  ⟨some 9, .len .sl (.t 8), none, 15⟩,
  ⟨some 10, .bin .int .gtr (.t 9) (.c (.d (.int .i64 0))), none, 31⟩,
  ⟨some 11, .mv (.t 10), none, 63⟩,
  ⟨some 12, .mv (.t 1), some (11, true), 127⟩,
  ⟨some 13, .mv (.t 0), some (11, true), 127⟩,
  ⟨some 14, .nilck (.t 13), some (11, true), 383⟩,
  ⟨some 15, .fa 5 (.t 14), some (11, true), 895⟩,
  ⟨some 16, .load false 1 (.t 15), some (11, true), 1919⟩,
  ⟨some 17, .ia 1 (.t 16) (.c (.d (.int .i64 0))), some (11, true), 3967⟩,
  ⟨some 18, .load false 1 (.t 17), some (11, true), 8063⟩,
  ⟨some 19, .bin .int .sub (.t 12) (.t 18), some (11, true), 16383⟩,
  ⟨some 20, .bin .int .geq (.t 19) (.c (.d (.int .i64 64))), some (11, true), 32767⟩,
  ⟨some 21, .pick (.t 11) (.t 20) (.c (.d (.bool false))), none, 65535⟩,
  ⟨some 4, .mv (.t 21), none, 131071⟩]
def c57 : CF := { body := .seq (.reg r57_0 false (some [0, 1])) (.seq (.reg r57_1 false (some [4])) (.ret)), res := [.tmp 4], rowArgs := [], keep := false, rowRes := [], clone := none, dl := none }
/- 58 kaudit/kauditref03.SamePairs -/
def r58_0 : List CO := [
  ⟨some 4, .mv (.c (.d (.bool false))), none, 0⟩]
def r58_1 : List CO := [
  ⟨some 6, .mv (.t 0), none, 0⟩,
  ⟨some 7, .len .sl (.t 6), none, 1⟩,
  ⟨some 8, .mv (.t 1), none, 0⟩,
  ⟨some 9, .len .sl (.t 8), none, 4⟩,
  ⟨some 10, .bin .int .neq (.t 7) (.t 9), none, 15⟩]
def r58_2 : List CO := [
  ⟨some 4, .mv (.c (.d (.bool false))), none, 0⟩]
def r58_3 : List CO := [
  ⟨some 5, .mv (.c (.d (.int .i64 0))), none, 0⟩]
def r58_4 : List CO := [
  ⟨some 11, .mv (.t 5), none, 0⟩,
  ⟨some 12, .mv (.t 0), none, 0⟩,
  ⟨some 13, .len .sl (.t 12), none, 2⟩,
  ⟨some 14, .bin .int .lss (.t 11) (.t 13), none, 7⟩]
def r58_5 : List CO := [
  ⟨some 17, .mv (.t 0), none, 0⟩,
  ⟨some 18, .mv (.t 5), none, 0⟩,
  ⟨some 19, .ia 4 (.t 17) (.t 18), none, 3⟩,
  ⟨some 20, .load true 4 (.t 19), none, 7⟩,
  ⟨some 21, .mv (.t 1), none, 0⟩,
  ⟨some 22, .mv (.t 5), none, 0⟩,
  ⟨some 23, .ia 4 (.t 21) (.t 22), none, 48⟩,
  ⟨some 24, .load true 4 (.t 23), none, 112⟩,
  ⟨some 25, .eqs [.str, .int, .int, .str] true (.t 20) (.t 24), none, 255⟩]
def r58_6 : List CO := [
  ⟨some 4, .mv (.c (.d (.bool false))), none, 0⟩]
def r58_7 : List CO := [
  ⟨some 15, .mv (.t 5), none, 0⟩,
  ⟨some 16, .bin .int .add (.t 15) (.c (.d (.int .i64 1))), none, 1⟩,
  ⟨some 5, .mv (.t 16), none, 3⟩]
def l58_8 : CCode := .seq (.seq (.reg r58_4 false (some [0, 1, 5, 14])) (.cond (.t 14) (.skip) (.exit 0))) (.seq (.block 1 (.seq (.reg r58_5 true (some [0, 1, 5, 25])) (.cond (.t 25) (.seq (.reg r58_6 false (some [4])) (.ret)) (.skip)))) (.reg r58_7 false (some [0, 1, 5])))
def r58_9 : List CO := [
  ⟨some 4, .mv (.c (.d (.bool true))), none, 0⟩]
def c58 : CF := { body := .seq (.reg r58_0 false (some [0, 1])) (.seq (.seq (.reg r58_1 false (some [0, 1, 10])) (.cond (.t 10) (.seq (.reg r58_2 false (some [4])) (.ret)) (.skip))) (.seq (.seq (.reg r58_3 false (some [0, 1, 5])) (.block 0 (.loop [(0, none), (1, none), (5, none)] l58_8))) (.seq (.reg r58_9 false (some [4])) (.ret)))), res := [.tmp 4], rowArgs := [], keep := false, rowRes := [], clone := none, dl := none }
/- 59 kaudit/kauditref19.num -/
def r59_0 : List CO := [
  ⟨some 4, .alloc [.d (.str ⟨⟨[]⟩⟩), .d (.int .i64 0), .d (.int .i64 0), .d (.str ⟨⟨[]⟩⟩)] [], none, 0⟩]
def r59_1 : List CO := [
  ⟨some 5, .mv (.t 0), none, 0⟩,
  ⟨some 6, .mv (.t 1), none, 0⟩,
  ⟨some 7, .build [.d (.str ⟨⟨[]⟩⟩), .d (.int .i64 0), .d (.int .i64 0), .d (.str ⟨⟨[]⟩⟩)] [(0, 1, (.t 5)), (1, 1, (.c (.d (.int .i64 1)))), (2, 1, (.t 6))], none, 3⟩,
  ⟨none, .store 4 (.t 4) (.t 7), none, 7⟩]
def c59 : CF := { body := .seq (.reg r59_0 false (some [0, 1, 4])) (.seq (.reg r59_1 false (some [4])) (.ret)), res := [.cell 4 true 4], rowArgs := [], keep := false, rowRes := [], clone := none, dl := none }
/- 60 kaudit/kauditref20.Put -/
def r60_0 : List CO := [
  ⟨some 3, .box 17 (.t 0) [], none, 0⟩,
  ⟨some 4, .box 4 (.t 1) [], none, 0⟩,
  ⟨some 6, .alloc [.d (.int .i64 0), .d (.int .i64 0), .d (.int .i64 0), .d (.int .i64 0), .d (.int .i64 0), .d (.sl .nil 0 []), .d (.sl .nil 0 []), .d (.int .i64 0), .d (.int .i64 0), .d (.int .i64 0), .d (.int .i64 0), .d (.int .i64 0), .d (.int .i64 0), .d (.int .i64 0), .d (.int .i64 0), .d (.bool false), .d (.sl .nil 0 [])] [], none, 0⟩]
def r60_1 : List CO := [
  ⟨some 10, .load true 17 (.t 3), none, 0⟩,
  ⟨some 11, .call (.c (.fn 35 [])) [(.t 10)], none, 1⟩,
  ⟨some 7, .alloc [.d (.int .i64 0), .d (.int .i64 0), .d (.int .i64 0), .d (.int .i64 0), .d (.int .i64 0), .d (.sl .nil 0 []), .d (.sl .nil 0 []), .d (.int .i64 0), .d (.int .i64 0), .d (.int .i64 0), .d (.int .i64 0), .d (.int .i64 0), .d (.int .i64 0), .d (.int .i64 0), .d (.int .i64 0), .d (.bool false), .d (.sl .nil 0 [])] [], none, 0⟩,
  ⟨none, .store 17 (.t 7) (.t 11), none, 7⟩]
def r60_2 : List CO := [
  ⟨some 12, .fa 6 (.t 7), none, 0⟩,
  ⟨some 13, .load false 1 (.t 12), none, 1⟩,
  ⟨some 14, .load true 4 (.t 4), none, 0⟩,
  ⟨some 15, .bslice 4 1 [.int .i64 0, .int .i64 0, .int .i64 0, .sl .nil 0 []] false [(0, (.t 14))], none, 4⟩,
  ⟨some 16, .fa 2 (.t 4), none, 0⟩,
  ⟨some 17, .load false 1 (.t 16), none, 16⟩,
  ⟨some 18, .call (.c (.fn 28 [])) [(.t 15), (.t 17)], none, 60⟩,
  ⟨some 19, .app 4 48 (.t 13) (.t 18), none, 127⟩,
  ⟨some 20, .fa 6 (.t 7), none, 255⟩,
  ⟨none, .store 1 (.t 20) (.t 19), none, 511⟩]
def r60_3 : List CO := [
  ⟨some 21, .fa 4 (.t 7), none, 0⟩,
  ⟨some 22, .load false 1 (.t 21), none, 1⟩,
  ⟨some 23, .bin .int .sub (.t 22) (.c (.d (.int .i64 1))), none, 3⟩,
  ⟨some 24, .fa 4 (.t 7), none, 7⟩,
  ⟨none, .store 1 (.t 24) (.t 23), none, 15⟩]
def r60_4 : List CO := [
  ⟨some 25, .mv (.t 2), none, 0⟩]
def r60_5 : List CO := [
  ⟨some 8, .mv (.c (.d (.sl .nil 0 []))), none, 0⟩]
def r60_6 : List CO := [
  ⟨some 9, .mv (.c (.d (.int .i64 0))), none, 0⟩]
def r60_7 : List CO := [
  ⟨some 26, .mv (.t 9), none, 0⟩,
  ⟨some 27, .fa 5 (.t 7), none, 0⟩,
  ⟨some 28, .load false 1 (.t 27), none, 2⟩,
  ⟨some 29, .len .sl (.t 28), none, 6⟩,
  ⟨some 30, .bin .int .lss (.t 26) (.t 29), none, 15⟩]
def r60_8 : List CO := [
  ⟨some 33, .fa 5 (.t 7), none, 0⟩,
  ⟨some 34, .load false 1 (.t 33), none, 1⟩,
  ⟨some 35, .mv (.t 9), none, 0⟩,
  ⟨some 36, .ia 1 (.t 34) (.t 35), none, 7⟩,
  ⟨some 37, .load false 1 (.t 36), none, 15⟩,
  ⟨some 38, .fa 2 (.t 4), none, 0⟩,
  ⟨some 39, .load false 1 (.t 38), none, 32⟩,
  ⟨some 40, .bin .int .neq (.t 37) (.t 39), none, 127⟩]
def r60_9 : List CO := [
  ⟨some 41, .mv (.t 8), none, 0⟩,
  ⟨some 42, .fa 5 (.t 7), none, 0⟩,
  ⟨some 43, .load false 1 (.t 42), none, 2⟩,
  ⟨some 44, .mv (.t 9), none, 0⟩,
  ⟨some 45, .ia 1 (.t 43) (.t 44), none, 14⟩,
  ⟨some 46, .load false 1 (.t 45), none, 30⟩,
  ⟨some 47, .bslice 1 1 [.int .i64 0] false [(0, (.t 46))], none, 62⟩,
  ⟨some 48, .app 1 8 (.t 41) (.t 47), none, 127⟩,
  ⟨some 8, .mv (.t 48), none, 255⟩]
def r60_10 : List CO := [
  ⟨some 31, .mv (.t 9), none, 0⟩,
  ⟨some 32, .bin .int .add (.t 31) (.c (.d (.int .i64 1))), none, 1⟩,
  ⟨some 9, .mv (.t 32), none, 3⟩]
def l60_11 : CCode := .seq (.seq (.reg r60_7 false (some [4, 6, 7, 8, 9, 30])) (.cond (.t 30) (.skip) (.exit 0))) (.seq (.block 1 (.seq (.reg r60_8 true (some [4, 6, 7, 8, 9, 40])) (.cond (.t 40) (.reg r60_9 false (some [4, 6, 7, 8, 9])) (.skip)))) (.reg r60_10 false (some [4, 6, 7, 8, 9])))
def r60_12 : List CO := [
  ⟨some 49, .mv (.t 8), none, 0⟩,
  ⟨some 50, .fa 5 (.t 7), none, 1⟩,
  ⟨none, .store 1 (.t 50) (.t 49), none, 3⟩]
def r60_13 : List CO := [
  ⟨some 51, .load true 17 (.t 7), none, 0⟩,
  ⟨none, .store 17 (.t 6) (.t 51), none, 1⟩]
def c60 : CF := { body := .seq (.reg r60_0 false (some [2, 3, 4, 6])) (.seq (.reg r60_1 false (some [2, 4, 6, 7])) (.seq (.reg r60_2 true (some [2, 4, 6, 7])) (.seq (.reg r60_3 false (some [2, 4, 6, 7])) (.seq (.seq (.reg r60_4 false (some [4, 6, 7, 25])) (.cond (.t 25) (.seq (.reg r60_5 false (some [4, 6, 7, 8])) (.seq (.seq (.reg r60_6 false (some [4, 6, 7, 8, 9])) (.block 0 (.loop [(4, none), (6, none), (7, none), (8, some 1), (9, none)] l60_11))) (.reg r60_12 false (some [6, 7])))) (.skip))) (.seq (.reg r60_13 false (some [6])) (.ret)))))), res := [.cell 6 true 17], rowArgs := [], keep := false, rowRes := [], clone := none, dl := none }
/- 61 kaudit/kauditref20.Take -/
def r61_0 : List CO := [
  ⟨some 3, .box 17 (.t 0) [], none, 0⟩,
  ⟨some 6, .alloc [.d (.int .i64 0), .d (.int .i64 0), .d (.int .i64 0), .d (.int .i64 0), .d (.int .i64 0), .d (.sl .nil 0 []), .d (.sl .nil 0 []), .d (.int .i64 0), .d (.int .i64 0), .d (.int .i64 0), .d (.int .i64 0), .d (.int .i64 0), .d (.int .i64 0), .d (.int .i64 0), .d (.int .i64 0), .d (.bool false), .d (.sl .nil 0 [])] [], none, 0⟩,
  ⟨some 7, .mv (.c (.d (.sl .nil 0 []))), none, 0⟩]
def r61_1 : List CO := [
  ⟨some 10, .load true 17 (.t 3), none, 0⟩,
  ⟨some 11, .call (.c (.fn 35 [])) [(.t 10)], none, 1⟩,
  ⟨some 8, .alloc [.d (.int .i64 0), .d (.int .i64 0), .d (.int .i64 0), .d (.int .i64 0), .d (.int .i64 0), .d (.sl .nil 0 []), .d (.sl .nil 0 []), .d (.int .i64 0), .d (.int .i64 0), .d (.int .i64 0), .d (.int .i64 0), .d (.int .i64 0), .d (.int .i64 0), .d (.int .i64 0), .d (.int .i64 0), .d (.bool false), .d (.sl .nil 0 [])] [], none, 0⟩,
  ⟨none, .store 17 (.t 8) (.t 11), none, 7⟩]
def r61_2 : List CO := [
  ⟨some 12, .mv (.t 2), none, 0⟩,
  ⟨some 13, .fa 6 (.t 8), none, 0⟩,
  ⟨some 14, .load false 1 (.t 13), none, 2⟩,
  ⟨some 15, .len .sl (.t 14), none, 6⟩,
  ⟨some 16, .min (.t 12) [(.t 15)], none, 15⟩,
  ⟨some 17, .max (.c (.d (.int .i64 0))) [(.t 16)], none, 31⟩,
  ⟨some 2, .mv (.t 17), none, 63⟩]
def r61_3 : List CO := [
  ⟨some 18, .fa 6 (.t 8), none, 0⟩,
  ⟨some 19, .load false 1 (.t 18), none, 1⟩,
  ⟨some 20, .mv (.t 2), none, 0⟩,
  ⟨some 21, .mv (.t 2), none, 0⟩,
  ⟨some 22, .slSl 4 (.t 19) none (some (.t 20)) (some (.t 21)), none, 15⟩,
  ⟨some 9, .mv (.t 22), none, 31⟩]
def r61_4 : List CO := [
  ⟨some 23, .fa 6 (.t 8), none, 0⟩,
  ⟨some 24, .load false 1 (.t 23), none, 1⟩,
  ⟨some 25, .mv (.t 2), none, 0⟩,
  ⟨some 26, .slSl 4 (.t 24) (some (.t 25)) none none, none, 7⟩,
  ⟨some 27, .app 4 48 (.c (.d (.sl .nil 0 []))) (.t 26), none, 15⟩,
  ⟨some 28, .fa 6 (.t 8), none, 31⟩,
  ⟨none, .store 1 (.t 28) (.t 27), none, 63⟩]
def r61_5 : List CO := [
  ⟨some 29, .load true 17 (.t 8), none, 0⟩,
  ⟨some 30, .call (.c (.fn 36 [])) [(.t 29)], none, 1⟩,
  ⟨some 31, .mv (.t 30), none, 3⟩,
  ⟨some 32, .fa 6 (.t 8), some (31, true), 7⟩,
  ⟨some 33, .load false 1 (.t 32), some (31, true), 15⟩,
  ⟨some 34, .len .sl (.t 33), some (31, true), 31⟩,
  ⟨some 35, .fa 4 (.t 8), some (31, true), 7⟩,
  ⟨some 36, .load false 1 (.t 35), some (31, true), 71⟩,
  ⟨some 37, .bin .int .add (.t 34) (.t 36), some (31, true), 255⟩,
  ⟨some 38, .fa 0 (.t 8), some (31, true), 7⟩,
  ⟨some 39, .load false 1 (.t 38), some (31, true), 519⟩,
  ⟨some 40, .bin .int .lss (.t 37) (.t 39), some (31, true), 2047⟩,
  ⟨some 41, .pick (.t 31) (.t 40) (.c (.d (.bool false))), none, 4095⟩,
  ⟨some 42, .mv (.t 41), none, 8191⟩,
  ⟨some 43, .fa 3 (.t 8), some (42, true), 16383⟩,
  ⟨some 44, .load false 1 (.t 43), some (42, true), 32767⟩,
  ⟨some 45, .bin .int .leq (.t 44) (.c (.d (.int .i64 1073741821))), some (42, true), 65535⟩,
  ⟨some 46, .pick (.t 42) (.t 45) (.c (.d (.bool false))), none, 131071⟩,
  ⟨some 47, .mv (.t 46), none, 262143⟩,
  ⟨some 48, .mv (.t 1), some (47, true), 524287⟩,
  ⟨some 49, .bin .int .geq (.t 48) (.c (.d (.int .i64 0))), some (47, true), 1048575⟩,
  ⟨some 50, .pick (.t 47) (.t 49) (.c (.d (.bool false))), none, 2097151⟩,
  ⟨some 51, .mv (.t 50), none, 4194303⟩,
  ⟨some 52, .mv (.t 1), some (51, true), 8388607⟩,
  ⟨some 53, .bin .int .leq (.t 52) (.c (.d (.int .i64 1099511627776))), some (51, true), 16777215⟩,
  ⟨some 54, .pick (.t 51) (.t 53) (.c (.d (.bool false))), none, 33554431⟩,
  ⟨some 55, .mv (.t 54), none, 67108863⟩,
  ⟨some 56, .fa 5 (.t 8), some (55, true), 134217727⟩,
  ⟨some 57, .load false 1 (.t 56), some (55, true), 268435455⟩,
  ⟨some 58, .len .sl (.t 57), some (55, true), 536870911⟩,
  ⟨some 59, .bin .int .eql (.t 58) (.c (.d (.int .i64 0))), some (55, true), 1073741823⟩,
  ⟨some 60, .mv (.t 59), some (55, true), 2147483647⟩,
  ⟨some 61, .fa 3 (.t 8), some (60, false), 4294967295⟩,
  ⟨some 62, .load false 1 (.t 61), some (60, false), 8589934591⟩,
  ⟨some 63, .bin .int .add (.t 62) (.c (.d (.int .i64 1))), some (60, false), 17179869183⟩,
  ⟨some 64, .fa 5 (.t 8), some (60, false), 4294967295⟩,
  ⟨some 65, .load false 1 (.t 64), some (60, false), 38654705663⟩,
  ⟨some 66, .ia 1 (.t 65) (.c (.d (.int .i64 0))), some (60, false), 107374182399⟩,
  ⟨some 67, .load false 1 (.t 66), some (60, false), 244813135871⟩,
  ⟨some 68, .bin .int .sub (.t 63) (.t 67), some (60, false), 549755813887⟩,
  ⟨some 69, .bin .int .lss (.t 68) (.c (.d (.int .i64 64))), some (60, false), 1099511627775⟩,
  ⟨some 70, .pick (.t 60) (.c (.d (.bool true))) (.t 69), some (55, true), 2199023255551⟩,
  ⟨some 71, .pick (.t 55) (.t 70) (.c (.d (.bool false))), none, 4398046511103⟩]
def r61_6 : List CO := [
  ⟨some 72, .mv (.t 1), none, 0⟩,
  ⟨some 73, .call (.c (.fn 38 [])) [(.t 8), (.t 72)], none, 1⟩]
def r61_7 : List CO := [
  ⟨some 74, .load true 17 (.t 8), none, 0⟩,
  ⟨some 75, .mv (.t 9), none, 0⟩,
  ⟨none, .store 17 (.t 6) (.t 74), none, 1⟩,
  ⟨some 7, .mv (.t 75), none, 7⟩]
def c61 : CF := { body := .seq (.reg r61_0 false (some [1, 2, 3, 6])) (.seq (.reg r61_1 false (some [1, 2, 6, 8])) (.seq (.reg r61_2 false (some [1, 2, 6, 8])) (.seq (.reg r61_3 false (some [1, 2, 6, 8, 9])) (.seq (.reg r61_4 false (some [1, 6, 8, 9])) (.seq (.seq (.reg r61_5 true (some [1, 6, 8, 9, 71])) (.cond (.t 71) (.reg r61_6 false (some [6, 8, 9])) (.skip))) (.seq (.reg r61_7 false (some [6, 7])) (.ret))))))), res := [.cell 6 true 17, .tmp 7], rowArgs := [], keep := false, rowRes := [], clone := none, dl := none }
/- 62 kaudit/own.List[int] -/
def r62_0 : List CO := [
  ⟨some 2, .mv (.c (.d (.sl .nil 0 []))), none, 0⟩]
def r62_1 : List CO := [
  ⟨some 3, .mv (.t 0), none, 0⟩,
  ⟨some 4, .len .sl (.t 3), none, 1⟩,
  ⟨some 5, .bin .int .eql (.t 4) (.c (.d (.int .i64 0))), none, 3⟩]
def r62_2 : List CO := [
  ⟨some 2, .mv (.c (.d (.sl .nil 0 []))), none, 0⟩]
def r62_3 : List CO := [
  ⟨some 6, .mv (.t 0), none, 0⟩,
  ⟨some 7, .call (.c (.fn 72 [])) [(.t 6)], none, 1⟩,
  ⟨some 2, .mv (.t 7), none, 3⟩]
def c62 : CF := { body := .seq (.reg r62_0 false (some [0])) (.seq (.seq (.reg r62_1 false (some [0, 5])) (.cond (.t 5) (.seq (.reg r62_2 false (some [2])) (.ret)) (.skip))) (.seq (.reg r62_3 false (some [2])) (.ret))), res := [.tmp 2], rowArgs := [], keep := true, rowRes := [(0, 1)], clone := none, dl := none }
/- 63 kaudit/own.List[kaudit/api.Notice] -/
def r63_0 : List CO := [
  ⟨some 2, .mv (.c (.d (.sl .nil 0 []))), none, 0⟩]
def r63_1 : List CO := [
  ⟨some 3, .mv (.t 0), none, 0⟩,
  ⟨some 4, .len .sl (.t 3), none, 1⟩,
  ⟨some 5, .bin .int .eql (.t 4) (.c (.d (.int .i64 0))), none, 3⟩]
def r63_2 : List CO := [
  ⟨some 2, .mv (.c (.d (.sl .nil 0 []))), none, 0⟩]
def r63_3 : List CO := [
  ⟨some 6, .mv (.t 0), none, 0⟩,
  ⟨some 7, .call (.c (.fn 73 [])) [(.t 6)], none, 1⟩,
  ⟨some 2, .mv (.t 7), none, 3⟩]
def c63 : CF := { body := .seq (.reg r63_0 false (some [0])) (.seq (.seq (.reg r63_1 false (some [0, 5])) (.cond (.t 5) (.seq (.reg r63_2 false (some [2])) (.ret)) (.skip))) (.seq (.reg r63_3 false (some [2])) (.ret))), res := [.tmp 2], rowArgs := [], keep := true, rowRes := [(0, 2)], clone := none, dl := none }
/- 64 kaudit/backlog.reasons$1 -/
def r64_0 : List CO := [
  ⟨some 8, .mv (.c (.d (.bool false))), none, 0⟩]
def r64_1 : List CO := [
  ⟨some 9, .mv (.t 0), none, 0⟩,
  ⟨some 10, .nilck (.t 9), none, 1⟩,
  ⟨some 11, .fa 1 (.t 10), none, 3⟩,
  ⟨some 12, .load false 1 (.t 11), none, 7⟩,
  ⟨some 13, .bin .int .neq (.t 12) (.c (.d (.int .i64 0))), none, 15⟩,
  ⟨some 14, .mv (.t 13), none, 31⟩,
  ⟨some 15, .mv (.t 1), some (14, true), 63⟩,
  ⟨some 16, .bin .int .quo (.t 15) (.c (.d (.int .i64 1000))), some (14, true), 127⟩,
  ⟨some 17, .mv (.t 0), some (14, true), 63⟩,
  ⟨some 18, .nilck (.t 17), some (14, true), 319⟩,
  ⟨some 19, .fa 12 (.t 18), some (14, true), 831⟩,
  ⟨some 20, .load false 1 (.t 19), some (14, true), 1855⟩,
  ⟨some 21, .bin .int .eql (.t 16) (.t 20), some (14, true), 4095⟩,
  ⟨some 22, .pick (.t 14) (.t 21) (.c (.d (.bool false))), none, 8191⟩,
  ⟨some 23, .mv (.t 22), none, 16383⟩,
  ⟨some 24, .mv (.t 0), some (23, true), 32767⟩,
  ⟨some 25, .nilck (.t 24), some (23, true), 65535⟩,
  ⟨some 26, .fa 13 (.t 25), some (23, true), 131071⟩,
  ⟨some 27, .load false 1 (.t 26), some (23, true), 262143⟩,
  ⟨some 28, .mv (.t 0), some (23, true), 32767⟩,
  ⟨some 29, .nilck (.t 28), some (23, true), 557055⟩,
  ⟨some 30, .fa 1 (.t 29), some (23, true), 1605631⟩,
  ⟨some 31, .load false 1 (.t 30), some (23, true), 3702783⟩,
  ⟨some 32, .bin .int .geq (.t 27) (.t 31), some (23, true), 8388607⟩,
  ⟨some 33, .pick (.t 23) (.t 32) (.c (.d (.bool false))), none, 16777215⟩,
  ⟨some 8, .mv (.t 33), none, 33554431⟩]
def c64 : CF := { body := .seq (.reg r64_0 false (some [0, 1])) (.seq (.reg r64_1 true (some [8])) (.ret)), res := [.tmp 8], rowArgs := [], keep := false, rowRes := [], clone := none, dl := none }
/- 65 kaudit/backlog.reasons$2 -/
def r65_0 : List CO := [
  ⟨some 8, .mv (.c (.d (.bool false))), none, 0⟩]
def r65_1 : List CO := [
  ⟨some 9, .mv (.t 0), none, 0⟩,
  ⟨some 10, .nilck (.t 9), none, 1⟩,
  ⟨some 11, .fa 6 (.t 10), none, 3⟩,
  ⟨some 12, .load false 1 (.t 11), none, 7⟩,
  ⟨some 13, .len .sl (.t 12), none, 15⟩,
  ⟨some 14, .mv (.t 0), none, 0⟩,
  ⟨some 15, .nilck (.t 14), none, 32⟩,
  ⟨some 16, .fa 4 (.t 15), none, 96⟩,
  ⟨some 17, .load false 1 (.t 16), none, 224⟩,
  ⟨some 18, .bin .int .add (.t 13) (.t 17), none, 511⟩,
  ⟨some 19, .mv (.t 2), none, 0⟩,
  ⟨some 20, .bin .int .add (.t 18) (.t 19), none, 2047⟩,
  ⟨some 21, .mv (.t 0), none, 0⟩,
  ⟨some 22, .call (.c (.fn 46 [])) [(.t 21)], none, 4096⟩,
  ⟨some 23, .call (.c (.fn 45 [])) [(.t 22)], none, 12288⟩,
  ⟨some 24, .bin .int .add (.t 20) (.t 23), none, 32767⟩,
  ⟨some 25, .mv (.t 0), none, 0⟩,
  ⟨some 26, .nilck (.t 25), none, 65536⟩,
  ⟨some 27, .fa 0 (.t 26), none, 196608⟩,
  ⟨some 28, .load false 1 (.t 27), none, 458752⟩,
  ⟨some 29, .bin .int .gtr (.t 24) (.t 28), none, 1048575⟩,
  ⟨some 8, .mv (.t 29), none, 2097151⟩]
def c65 : CF := { body := .seq (.reg r65_0 false (some [0, 2])) (.seq (.reg r65_1 true (some [8])) (.ret)), res := [.tmp 8], rowArgs := [], keep := false, rowRes := [], clone := none, dl := none }
/- 66 kaudit/backlog.reasons$3 -/
def r66_0 : List CO := [
  ⟨some 8, .mv (.c (.d (.bool false))), none, 0⟩]
def r66_1 : List CO := [
  ⟨some 9, .mv (.t 0), none, 0⟩,
  ⟨some 10, .mv (.t 3), none, 0⟩,
  ⟨some 11, .call (.c (.fn 57 [])) [(.t 9), (.t 10)], none, 3⟩,
  ⟨some 8, .mv (.t 11), none, 7⟩]
def c66 : CF := { body := .seq (.reg r66_0 false (some [0, 3])) (.seq (.reg r66_1 false (some [8])) (.ret)), res := [.tmp 8], rowArgs := [], keep := false, rowRes := [], clone := none, dl := none }
/- 67 kaudit/emit.Stamp -/
def r67_0 : List CO := [
  ⟨some 3, .box 1 (.t 1) [], none, 0⟩,
  ⟨some 4, .mv (.c (.d (.sl .nil 0 []))), none, 0⟩]
def r67_1 : List CO := [
  ⟨some 5, .mv (.t 0), none, 0⟩,
  ⟨some 6, .mkfn 74 [(.t 3)], none, 0⟩,
  ⟨some 7, .call (.c (.fn 71 [])) [(.t 5), (.t 6)], none, 3⟩,
  ⟨some 4, .mv (.t 7), none, 7⟩]
def c67 : CF := { body := .seq (.reg r67_0 false (some [0, 3])) (.seq (.reg r67_1 false (some [4])) (.ret)), res := [.tmp 4], rowArgs := [], keep := false, rowRes := [], clone := none, dl := none }
/- 68 kaudit/emit.Loss -/
def r68_0 : List CO := [
  ⟨some 2, .box 5 (.t 0) [], none, 0⟩,
  ⟨some 4, .alloc [.d (.int .i64 0), .d (.int .i64 0), .d (.int .i64 0), .d (.sl .nil 0 [])] [], none, 0⟩]
def r68_1 : List CO := [
  ⟨some 5, .mv (.t 1), none, 0⟩,
  ⟨some 6, .fa 0 (.t 2), none, 0⟩,
  ⟨some 7, .load false 1 (.t 6), none, 2⟩,
  ⟨some 8, .call (.c (.fn 76 [])) [(.c (.d (.str ⟨⟨[102, 105, 114, 115, 116]⟩⟩))), (.t 7)], none, 6⟩,
  ⟨some 9, .fa 1 (.t 2), none, 0⟩,
  ⟨some 10, .load false 1 (.t 9), none, 16⟩,
  ⟨some 11, .call (.c (.fn 76 [])) [(.c (.d (.str ⟨⟨[108, 97, 115, 116]⟩⟩))), (.t 10)], none, 62⟩,
  ⟨some 12, .fa 2 (.t 2), none, 0⟩,
  ⟨some 13, .load false 1 (.t 12), none, 128⟩,
  ⟨some 14, .call (.c (.fn 76 [])) [(.c (.d (.str ⟨⟨[114, 97, 116, 101, 100]⟩⟩))), (.t 13)], none, 510⟩,
  ⟨some 15, .fa 3 (.t 2), none, 0⟩,
  ⟨some 16, .load false 1 (.t 15), none, 1024⟩,
  ⟨some 17, .call (.c (.fn 76 [])) [(.c (.d (.str ⟨⟨[102, 117, 108, 108]⟩⟩))), (.t 16)], none, 4094⟩,
  ⟨some 18, .fa 4 (.t 2), none, 0⟩,
  ⟨some 19, .load false 1 (.t 18), none, 8192⟩,
  ⟨some 20, .call (.c (.fn 76 [])) [(.c (.d (.str ⟨⟨[115, 116, 97, 108, 108, 101, 100]⟩⟩))), (.t 19)], none, 32766⟩,
  ⟨some 21, .bslice 4 5 [.str ⟨⟨[]⟩⟩, .int .i64 0, .int .i64 0, .str ⟨⟨[]⟩⟩, .str ⟨⟨[]⟩⟩, .int .i64 0, .int .i64 0, .str ⟨⟨[]⟩⟩, .str ⟨⟨[]⟩⟩, .int .i64 0, .int .i64 0, .str ⟨⟨[]⟩⟩, .str ⟨⟨[]⟩⟩, .int .i64 0, .int .i64 0, .str ⟨⟨[]⟩⟩, .str ⟨⟨[]⟩⟩, .int .i64 0, .int .i64 0, .str ⟨⟨[]⟩⟩] false [(0, (.t 8)), (1, (.t 11)), (2, (.t 14)), (3, (.t 17)), (4, (.t 20))], none, 65534⟩,
  ⟨some 22, .call (.c (.fn 75 [])) [(.c (.d (.int .i64 1331))), (.t 5), (.t 21)], none, 131071⟩,
  ⟨none, .store 4 (.t 4) (.t 22), none, 262143⟩]
def c68 : CF := { body := .seq (.reg r68_0 false (some [1, 2, 4])) (.seq (.reg r68_1 true (some [4])) (.ret)), res := [.cell 4 true 4], rowArgs := [], keep := false, rowRes := [], clone := none, dl := none }
/- 69 kaudit/own.List[kaudit/api.Pair] -/
def r69_0 : List CO := [
  ⟨some 2, .mv (.c (.d (.sl .nil 0 []))), none, 0⟩]
def r69_1 : List CO := [
  ⟨some 3, .mv (.t 0), none, 0⟩,
  ⟨some 4, .len .sl (.t 3), none, 1⟩,
  ⟨some 5, .bin .int .eql (.t 4) (.c (.d (.int .i64 0))), none, 3⟩]
def r69_2 : List CO := [
  ⟨some 2, .mv (.c (.d (.sl .nil 0 []))), none, 0⟩]
def r69_3 : List CO := [
  ⟨some 6, .mv (.t 0), none, 0⟩,
  ⟨some 7, .call (.c (.fn 77 [])) [(.t 6)], none, 1⟩,
  ⟨some 2, .mv (.t 7), none, 3⟩]
def c69 : CF := { body := .seq (.reg r69_0 false (some [0])) (.seq (.seq (.reg r69_1 false (some [0, 5])) (.cond (.t 5) (.seq (.reg r69_2 false (some [2])) (.ret)) (.skip))) (.seq (.reg r69_3 false (some [2])) (.ret))), res := [.tmp 2], rowArgs := [], keep := false, rowRes := [], clone := none, dl := none }
/- 70 slices.IndexFunc[[]int,int] -/
def r70_0 : List CO := [
  ⟨some 4, .mv (.c (.d (.int .i64 0))), none, 0⟩]
def r70_1 : List CO := [
  ⟨some 6, .mv (.t 0), none, 0⟩,
  ⟨some 7, .len .sl (.t 6), none, 1⟩,
  ⟨some 8, .mv (.c (.d (.int .i64 0))), none, 0⟩]
def r70_2 : List CO := [
  ⟨some 9, .bin .int .lss (.t 8) (.t 7), none, 0⟩]
def r70_3 : List CO := [
  ⟨some 10, .mv (.t 8), none, 0⟩,
  ⟨some 5, .mv (.t 10), none, 1⟩]
def r70_4 : List CO := [
  ⟨some 11, .mv (.t 1), none, 0⟩,
  ⟨some 12, .mv (.t 0), none, 0⟩,
  ⟨some 13, .mv (.t 5), none, 0⟩,
  ⟨some 14, .ia 1 (.t 12) (.t 13), none, 6⟩,
  ⟨some 15, .load false 1 (.t 14), none, 14⟩,
  ⟨some 16, .call (.t 11) [(.t 15)], none, 31⟩]
def r70_5 : List CO := [
  ⟨some 17, .mv (.t 5), none, 0⟩,
  ⟨some 4, .mv (.t 17), none, 1⟩]
def r70_6 : List CO := [
  ⟨some 18, .bin .int .add (.t 8) (.c (.d (.int .i64 1))), none, 0⟩,
  ⟨some 8, .mv (.t 18), none, 1⟩]
def l70_7 : CCode := .seq (.reg r70_2 false (some [0, 1, 7, 8, 9])) (.seq (.cond (.t 9) (.skip) (.exit 0)) (.seq (.block 1 (.seq (.reg r70_3 false (some [0, 1, 5, 7, 8])) (.seq (.reg r70_4 false (some [0, 1, 5, 7, 8, 16])) (.cond (.t 16) (.seq (.reg r70_5 false (some [4])) (.ret)) (.skip))))) (.reg r70_6 false (some [0, 1, 7, 8]))))
def r70_8 : List CO := [
  ⟨some 4, .mv (.c (.d (.int .i64 (-1)))), none, 0⟩]
def c70 : CF := { body := .seq (.reg r70_0 false (some [0, 1])) (.seq (.seq (.reg r70_1 false (some [0, 1, 7, 8])) (.block 0 (.loop [(0, none), (1, none), (7, none), (8, none)] l70_7))) (.seq (.reg r70_8 false (some [4])) (.ret))), res := [.tmp 4], rowArgs := [(0, 1)], keep := false, rowRes := [], clone := none, dl := none }
/- 71 kaudit/own.Each[kaudit/api.Record] -/
def r71_0 : List CO := [
  ⟨some 4, .mv (.c (.d (.sl .nil 0 []))), none, 0⟩]
def r71_1 : List CO := [
  ⟨some 8, .mv (.t 0), none, 0⟩,
  ⟨some 9, .len .sl (.t 8), none, 1⟩,
  ⟨some 10, .bin .int .eql (.t 9) (.c (.d (.int .i64 0))), none, 3⟩]
def r71_2 : List CO := [
  ⟨some 4, .mv (.c (.d (.sl .nil 0 []))), none, 0⟩]
def r71_3 : List CO := [
  ⟨some 11, .mv (.t 0), none, 0⟩,
  ⟨some 12, .len .sl (.t 11), none, 1⟩,
  ⟨some 13, .mkslice [.int .i64 0, .int .i64 0, .int .i64 0, .sl .nil 0 []] 4 48 false (.t 12) (.t 12), none, 3⟩,
  ⟨some 5, .mv (.t 13), none, 7⟩]
def r71_4 : List CO := [
  ⟨some 14, .mv (.t 0), none, 0⟩,
  ⟨some 15, .len .sl (.t 14), none, 1⟩,
  ⟨some 16, .mv (.c (.d (.int .i64 0))), none, 0⟩]
def r71_5 : List CO := [
  ⟨some 17, .bin .int .lss (.t 16) (.t 15), none, 0⟩]
def r71_6 : List CO := [
  ⟨some 18, .mv (.t 16), none, 0⟩,
  ⟨some 19, .ia 4 (.t 14) (.t 16), none, 0⟩,
  ⟨some 20, .load true 4 (.t 19), none, 2⟩,
  ⟨some 7, .alloc [.d (.int .i64 0), .d (.int .i64 0), .d (.int .i64 0), .d (.sl .nil 0 [])] [], none, 0⟩,
  ⟨some 6, .mv (.t 18), none, 15⟩,
  ⟨none, .store 4 (.t 7) (.t 20), none, 31⟩]
def r71_7 : List CO := [
  ⟨some 21, .mv (.t 5), none, 0⟩,
  ⟨some 22, .mv (.t 6), none, 0⟩,
  ⟨some 23, .mv (.t 1), none, 0⟩,
  ⟨some 24, .load true 4 (.t 7), none, 0⟩,
  ⟨some 25, .call (.t 23) [(.t 24)], none, 12⟩,
  ⟨some 26, .ia 4 (.t 21) (.t 22), none, 31⟩,
  ⟨none, .store 4 (.t 26) (.t 25), none, 63⟩]
def r71_8 : List CO := [
  ⟨some 27, .bin .int .add (.t 16) (.c (.d (.int .i64 1))), none, 0⟩,
  ⟨some 16, .mv (.t 27), none, 1⟩]
def l71_9 : CCode := .seq (.reg r71_5 false (some [1, 5, 14, 15, 16, 17])) (.seq (.cond (.t 17) (.skip) (.exit 0)) (.seq (.block 1 (.seq (.reg r71_6 false (some [1, 5, 6, 7, 14, 15, 16])) (.reg r71_7 false (some [1, 5, 14, 15, 16])))) (.reg r71_8 false (some [1, 5, 14, 15, 16]))))
def r71_10 : List CO := [
  ⟨some 28, .mv (.t 5), none, 0⟩,
  ⟨some 4, .mv (.t 28), none, 1⟩]
def c71 : CF := { body := .seq (.reg r71_0 false (some [0, 1])) (.seq (.seq (.reg r71_1 false (some [0, 1, 10])) (.cond (.t 10) (.seq (.reg r71_2 false (some [4])) (.ret)) (.skip))) (.seq (.reg r71_3 false (some [0, 1, 5])) (.seq (.seq (.reg r71_4 false (some [1, 5, 14, 15, 16])) (.block 0 (.loop [(1, none), (5, none), (14, none), (15, none), (16, none)] l71_9))) (.seq (.reg r71_10 false (some [4])) (.ret))))), res := [.tmp 4], rowArgs := [(0, 4)], keep := true, rowRes := [(0, 4)], clone := none, dl := none }
/- 72 slices.Clone[[]int,int] -/
def r72_0 : List CO := [
  ⟨some 2, .mv (.c (.d (.sl .nil 0 []))), none, 0⟩]
def r72_1 : List CO := [
  ⟨some 3, .mv (.t 0), none, 0⟩,
  ⟨some 4, .bin .sl .eql (.t 3) (.c (.d (.sl .nil 0 []))), none, 1⟩]
def r72_2 : List CO := [
  ⟨some 2, .mv (.c (.d (.sl .nil 0 []))), none, 0⟩]
def r72_3 : List CO := [
  ⟨some 5, .bslice 1 0 [] false [], none, 0⟩,
  ⟨some 6, .mv (.t 0), none, 0⟩,
  ⟨some 7, .app 1 8 (.t 5) (.t 6), none, 3⟩,
  ⟨some 2, .mv (.t 7), none, 7⟩]
def c72 : CF := { body := .seq (.reg r72_0 false (some [0])) (.seq (.seq (.reg r72_1 false (some [0, 4])) (.cond (.t 4) (.seq (.reg r72_2 false (some [2])) (.ret)) (.skip))) (.seq (.reg r72_3 false (some [2])) (.ret))), res := [.tmp 2], rowArgs := [], keep := false, rowRes := [], clone := (some 1), dl := none }
/- 73 slices.Clone[[]kaudit/api.Notice,kaudit/api.Notice] -/
def r73_0 : List CO := [
  ⟨some 2, .mv (.c (.d (.sl .nil 0 []))), none, 0⟩]
def r73_1 : List CO := [
  ⟨some 3, .mv (.t 0), none, 0⟩,
  ⟨some 4, .bin .sl .eql (.t 3) (.c (.d (.sl .nil 0 []))), none, 1⟩]
def r73_2 : List CO := [
  ⟨some 2, .mv (.c (.d (.sl .nil 0 []))), none, 0⟩]
def r73_3 : List CO := [
  ⟨some 5, .bslice 2 0 [] false [], none, 0⟩,
  ⟨some 6, .mv (.t 0), none, 0⟩,
  ⟨some 7, .app 2 16 (.t 5) (.t 6), none, 3⟩,
  ⟨some 2, .mv (.t 7), none, 7⟩]
def c73 : CF := { body := .seq (.reg r73_0 false (some [0])) (.seq (.seq (.reg r73_1 false (some [0, 4])) (.cond (.t 4) (.seq (.reg r73_2 false (some [2])) (.ret)) (.skip))) (.seq (.reg r73_3 false (some [2])) (.ret))), res := [.tmp 2], rowArgs := [], keep := false, rowRes := [], clone := (some 2), dl := none }
/- 74 kaudit/emit.Stamp$1 -/
def r74_0 : List CO := [
  ⟨some 2, .box 4 (.t 0) [], none, 0⟩,
  ⟨some 3, .alloc [.d (.int .i64 0), .d (.int .i64 0), .d (.int .i64 0), .d (.sl .nil 0 [])] [], none, 0⟩]
def r74_1 : List CO := [
  ⟨some 4, .load true 4 (.t 2), none, 0⟩,
  ⟨some 5, .call (.c (.fn 52 [])) [(.t 4)], none, 1⟩,
  ⟨none, .store 4 (.t 2) (.t 5), none, 3⟩]
def r74_2 : List CO := [
  ⟨some 6, .load false 1 (.t 1), none, 0⟩,
  ⟨some 7, .fa 2 (.t 2), none, 1⟩,
  ⟨none, .store 1 (.t 7) (.t 6), none, 3⟩]
def r74_3 : List CO := [
  ⟨some 8, .load true 4 (.t 2), none, 0⟩,
  ⟨none, .store 4 (.t 3) (.t 8), none, 1⟩]
def c74 : CF := { body := .seq (.reg r74_0 false (some [1, 2, 3])) (.seq (.reg r74_1 false (some [1, 2, 3])) (.seq (.reg r74_2 false (some [2, 3])) (.seq (.reg r74_3 false (some [3])) (.ret)))), res := [.cell 3 true 4], rowArgs := [], keep := false, rowRes := [], clone := none, dl := none }
/- 75 kaudit/emit.record -/
def r75_0 : List CO := [
  ⟨some 6, .alloc [.d (.int .i64 0), .d (.int .i64 0), .d (.int .i64 0), .d (.sl .nil 0 [])] [], none, 0⟩]
def r75_1 : List CO := [
  ⟨some 7, .mv (.t 0), none, 0⟩,
  ⟨some 8, .mv (.t 1), none, 0⟩,
  ⟨some 9, .mv (.t 2), none, 0⟩,
  ⟨some 10, .build [.d (.int .i64 0), .d (.int .i64 0), .d (.int .i64 0), .d (.sl .nil 0 [])] [(0, 1, (.t 7)), (1, 1, (.t 8)), (3, 1, (.t 9))], none, 7⟩,
  ⟨none, .store 4 (.t 6) (.t 10), none, 15⟩]
def c75 : CF := { body := .seq (.reg r75_0 false (some [0, 1, 2, 6])) (.seq (.reg r75_1 false (some [6])) (.ret)), res := [.cell 6 true 4], rowArgs := [], keep := false, rowRes := [], clone := none, dl := none }
/- 76 kaudit/emit.number -/
def r76_0 : List CO := [
  ⟨some 4, .alloc [.d (.str ⟨⟨[]⟩⟩), .d (.int .i64 0), .d (.int .i64 0), .d (.str ⟨⟨[]⟩⟩)] [], none, 0⟩]
def r76_1 : List CO := [
  ⟨some 5, .mv (.t 0), none, 0⟩,
  ⟨some 6, .mv (.t 1), none, 0⟩,
  ⟨some 7, .build [.d (.str ⟨⟨[]⟩⟩), .d (.int .i64 0), .d (.int .i64 0), .d (.str ⟨⟨[]⟩⟩)] [(0, 1, (.t 5)), (1, 1, (.c (.d (.int .i64 1)))), (2, 1, (.t 6))], none, 3⟩,
  ⟨none, .store 4 (.t 4) (.t 7), none, 7⟩]
def c76 : CF := { body := .seq (.reg r76_0 false (some [0, 1, 4])) (.seq (.reg r76_1 false (some [4])) (.ret)), res := [.cell 4 true 4], rowArgs := [], keep := false, rowRes := [], clone := none, dl := none }
/- 77 slices.Clone[[]kaudit/api.Pair,kaudit/api.Pair] -/
def r77_0 : List CO := [
  ⟨some 2, .mv (.c (.d (.sl .nil 0 []))), none, 0⟩]
def r77_1 : List CO := [
  ⟨some 3, .mv (.t 0), none, 0⟩,
  ⟨some 4, .bin .sl .eql (.t 3) (.c (.d (.sl .nil 0 []))), none, 1⟩]
def r77_2 : List CO := [
  ⟨some 2, .mv (.c (.d (.sl .nil 0 []))), none, 0⟩]
def r77_3 : List CO := [
  ⟨some 5, .bslice 4 0 [] false [], none, 0⟩,
  ⟨some 6, .mv (.t 0), none, 0⟩,
  ⟨some 7, .app 4 48 (.t 5) (.t 6), none, 3⟩,
  ⟨some 2, .mv (.t 7), none, 7⟩]
def c77 : CF := { body := .seq (.reg r77_0 false (some [0])) (.seq (.seq (.reg r77_1 false (some [0, 4])) (.cond (.t 4) (.seq (.reg r77_2 false (some [2])) (.ret)) (.skip))) (.seq (.reg r77_3 false (some [2])) (.ret))), res := [.tmp 2], rowArgs := [], keep := false, rowRes := [], clone := (some 4), dl := none }
def prog : FuncId → Option CF := fun
  | 3 => some c3
  | 4 => some c4
  | 10 => some c10
  | 11 => some c11
  | 12 => some c12
  | 13 => some c13
  | 14 => some c14
  | 15 => some c15
  | 16 => some c16
  | 17 => some c17
  | 18 => some c18
  | 19 => some c19
  | 20 => some c20
  | 21 => some c21
  | 24 => some c24
  | 25 => some c25
  | 26 => some c26
  | 27 => some c27
  | 28 => some c28
  | 29 => some c29
  | 30 => some c30
  | 31 => some c31
  | 32 => some c32
  | 33 => some c33
  | 34 => some c34
  | 35 => some c35
  | 36 => some c36
  | 37 => some c37
  | 38 => some c38
  | 39 => some c39
  | 40 => some c40
  | 41 => some c41
  | 42 => some c42
  | 43 => some c43
  | 44 => some c44
  | 45 => some c45
  | 46 => some c46
  | 47 => some c47
  | 48 => some c48
  | 49 => some c49
  | 50 => some c50
  | 51 => some c51
  | 52 => some c52
  | 53 => some c53
  | 54 => some c54
  | 55 => some c55
  | 56 => some c56
  | 57 => some c57
  | 58 => some c58
  | 59 => some c59
  | 60 => some c60
  | 61 => some c61
  | 62 => some c62
  | 63 => some c63
  | 64 => some c64
  | 65 => some c65
  | 66 => some c66
  | 67 => some c67
  | 68 => some c68
  | 69 => some c69
  | 70 => some c70
  | 71 => some c71
  | 72 => some c72
  | 73 => some c73
  | 74 => some c74
  | 75 => some c75
  | 76 => some c76
  | 77 => some c77
  | _ => none
end Go.Vm.Bk
