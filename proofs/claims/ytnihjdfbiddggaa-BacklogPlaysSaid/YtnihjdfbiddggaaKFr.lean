/- A part of the proof of BacklogPlaysSaid: YtnihjdfbiddggaaFr. -/
import Derived.Test.YtnihjdfbiddggaaKFq
/- Backlogs: records deleted. -/
set_option linter.unusedVariables false
set_option linter.unusedSimpArgs false
set_option maxHeartbeats 1000000
namespace Go.Vm.Bk
theorem recs_drop (q : List Rec) (n : Nat) : (recs q).drop n = recs (q.drop n) := by simp [recs, List.map_drop]
theorem recs_take (q : List Rec) (n : Nat) : (recs q).take n = recs (q.take n) := by simp [recs, List.map_take]
theorem zR_eq : [D.int .i64 0, .int .i64 0, .int .i64 0, .sl .nil 0 []] = zR := rfl
set_option maxRecDepth 20000 in
theorem Delz_eq (q : List Rec) (fq : Bool) (hq : q.length ≤ 100000) : runW false prog 56 [.row 0, .d (.int .i64 0), .d (.int .i64 0)] [.row 4 fq (recs q)] = some (.row 0, [.row 4 fq (recs q)], []) := by
  refine run_of rfl ?_
  have hrl := recs_len q
  simp -dsimp (disch := first | rfl | omega) only [r56_0, r56_1, r56_2, r56_3, r56_4, r56_5, vmK, ↓vmP, vm0, vm1, vm2, vm3, vm4, vm5, vm6, vm7, vm8, vm9, vm10, vm11, vm12, vm13, vm14, vm15, vmC, vmN, Nat.reduceAdd, Nat.reduceMul, Nat.reduceSub, Nat.reduceEqDiff, Nat.reduceLT, Nat.reduceLeDiff, ↓reduceIte, Tg.isFull, Int.reduceToNat]
set_option maxRecDepth 20000 in
theorem Deln_eq (q : List Rec) (fq : Bool) (hq : q.length ≤ 100000) (n : Nat) (hn : n ≤ q.length) (h0 : 0 < n) : runW false prog 56 [.row 0, .d (.int .i64 0), .d (.int .i64 n)] [.row 4 fq (recs q)] = some (.sub 0 0 (q.length - n) true, [.row 4 fq (recs (q.drop n) ++ List.replicate n zR)], [0]) := by
  refine run_of rfl ?_
  have hrl := recs_len q
  have e0 : (0 = (n : Int)) = False := eq_false (by omega)
  have hv : ((recs q).drop n).take (q.length - n) = recs (q.drop n) := by rw [recs_drop, List.take_of_length_le (by rw [recs_len, List.length_drop]; omega)]
  have hyl : (recs (q.drop n)).length = q.length - n := by rw [recs_len, List.length_drop]
  have hle : (q.length - n ≤ q.length) = True := eq_true (by omega)
  have hfin : ((recs (q.drop n) ++ (recs q).drop (q.length - n)).take (q.length - n) ++ (List.replicate (q.length - (q.length - n)) zR ++ (recs (q.drop n) ++ (recs q).drop (q.length - n)).drop q.length)) = recs (q.drop n) ++ List.replicate n zR := by
    rw [List.take_append_of_le_length (by omega), List.take_of_length_le (l := recs (q.drop n)) (by omega), show q.length - (q.length - n) = n by omega, List.drop_of_length_le (l := recs (q.drop n) ++ (recs q).drop (q.length - n)) (by rw [List.length_append, hyl, List.length_drop, hrl]; omega), List.append_nil]
  have hz4 : zR.length = 4 := rfl
  have hl2 : (recs (q.drop n) ++ (recs q).drop (q.length - n)).length = q.length := by rw [List.length_append, hyl, List.length_drop, hrl]; omega
  simp -dsimp (disch := first | rfl | omega) only [r56_0, r56_1, r56_2, r56_3, r56_4, r56_5, hrl, e0, hv, hyl, hle, ↓vmP, vm0, vm1, vm2, vm3, vm4, vm5, vm6, vm7, vm8, vm9, vm10, vm11, vm12, vm13, vm14, vm15, vmC, vmN, Nat.reduceAdd, Nat.reduceMul, Nat.reduceSub, Nat.reduceEqDiff, Nat.reduceLT, Nat.reduceLeDiff, ↓reduceIte, Tg.isFull, Int.reduceToNat]
  refine regD_of (by kernel_rfl) ?_
  simp -dsimp (disch := first | rfl | omega) only [r56_5, r56_6, r56_7, hrl, hv, hyl, hl2, zR_eq, hz4, hfin, vmK, ↓vmP, vm0, vm1, vm2, vm3, vm4, vm5, vm6, vm7, vm8, vm9, vm10, vm11, vm12, vm13, vm14, vm15, vmC, vmN, Nat.reduceAdd, Nat.reduceMul, Nat.reduceSub, Nat.reduceEqDiff, Nat.reduceLT, Nat.reduceLeDiff, ↓reduceIte, Tg.isFull, Int.reduceToNat]
end Go.Vm.Bk
