/- A part of the proof of BacklogPlaysSaid: YtnihjdfbiddggaaFcc. -/
import Derived.Test.YtnihjdfbiddggaaKFbb
/- Backlogs: a play; records taken. -/
set_option linter.unusedVariables false
set_option linter.unusedSimpArgs false
set_option maxHeartbeats 1000000
namespace Go.Vm.Bk
def takP (x : Ply) (n : Int) : Ply := { x with b := (takeB x.b x.time n).1, z1 := 1, z2 := tkz (takeB x.b x.time n).1.queue, z3 := 2, tk := x.tk ++ (takeB x.b x.time n).2 }
theorem takeB_out (b : Bk) (t n : Int) : (takeB b t n).2 = b.queue.take (takeM b.queue n) := rfl
set_option maxRecDepth 20000 in
theorem tak_N (x : Ply) (k : Nat) (hk : k ≤ 9000) (h : Pk k x) (f1 f2 f3 : Bool) (n : Int) : runW false prog 33 [.ptr 0 0, .d (.int .i64 n)] (PLN x f2 f3) = some (.d (.bool true), [.box (plC (takP x n) (.d (.sl .nil 0 [])) (.row 3) (.row 2)), .dead, .row 1 f3 (i64s x.gv), .row 4 false (recs (takP x n).tk)], [0, 1]) := by
  have hO := Take_eq x.b 1 4 2 (zk_of _) (h.i.sm (by omega)) x.time n
  have hR := RTake_eq x.b x.z1 x.z2 x.z3 h.z (h.i.sm (by omega)) x.time n
  have hol : (takeB x.b x.time n).2.length ≤ k := by have := h.i.lq; rw [takeB_out, List.length_take]; omega
  have hS := sRecs_eq (takeB x.b x.time n).2 (fun r hr => by rw [takeB_out] at hr; have := h.i.lp r (List.mem_of_mem_take hr); omega) (by omega) 4 4 (by simp [okSz]) (by simp [okSz])
  have hal := recs_len x.tk
  have hab := h.tk
  have hkk : k * k ≤ 81000000 := Nat.le_trans (Nat.mul_le_mul hk hk) (by decide)
  have hxl := recs_len (takeB x.b x.time n).2
  have hap := recs_app x.tk (takeB x.b x.time n).2
  simp only [takR] at hO hR
  simp only [takP, PLN, plC]
  generalize tkz (takeB x.b x.time n).1.queue = z at hR ⊢
  generalize (takeB x.b x.time n).1 = c at hO hR ⊢
  generalize recs (x.tk ++ (takeB x.b x.time n).2) = X3 at hap ⊢
  generalize recs (takeB x.b x.time n).2 = X2 at hO hR hS hxl hap
  generalize (takeB x.b x.time n).2.length = ol at hol hxl
  generalize recs x.tk = X1 at hal hap ⊢
  simp only [bA, bC, List.cons_append, List.nil_append] at hO hR ⊢
  refine run_of rfl ?_
  simp -dsimp (disch := first | rfl | omega) only [r33_0, r33_1, callW_fn pgTake, hO, ↓vmP, vm0, vm1, vm2, vm3, vm4, vm5, vm6, vm7, vm8, vm9, vm10, vm11, vm12, vm13, vm14, vm15, vmC, vmN, Nat.reduceAdd, Nat.reduceMul, Nat.reduceSub, Nat.reduceEqDiff, Nat.reduceLT, Nat.reduceLeDiff, ↓reduceIte, Tg.isFull, Int.reduceToNat]
  refine regD_of (by kernel_rfl) ?_
  simp -dsimp (disch := first | rfl | omega) only [r33_2, callW_fn pgRTake, hR, ↓vmP, vm0, vm1, vm2, vm3, vm4, vm5, vm6, vm7, vm8, vm9, vm10, vm11, vm12, vm13, vm14, vm15, vmC, vmN, Nat.reduceAdd, Nat.reduceMul, Nat.reduceSub, Nat.reduceEqDiff, Nat.reduceLT, Nat.reduceLeDiff, ↓reduceIte, Tg.isFull, Int.reduceToNat]
  refine regD_of (by kernel_rfl) ?_
  simp -dsimp (disch := first | rfl | omega) only [r33_3, ↓vmP, vm0, vm1, vm2, vm3, vm4, vm5, vm6, vm7, vm8, vm9, vm10, vm11, vm12, vm13, vm14, vm15, vmC, vmN, Nat.reduceAdd, Nat.reduceMul, Nat.reduceSub, Nat.reduceEqDiff, Nat.reduceLT, Nat.reduceLeDiff, ↓reduceIte, Tg.isFull, Int.reduceToNat]
  refine regD_of (by kernel_rfl) ?_
  simp -dsimp (disch := first | rfl | omega) only [r33_4, r33_5, callW_fn pg_sRecs, hS, hal, hxl, hap, ↓vmP, vm0, vm1, vm2, vm3, vm4, vm5, vm6, vm7, vm8, vm9, vm10, vm11, vm12, vm13, vm14, vm15, vmC, vmN, Nat.reduceAdd, Nat.reduceMul, Nat.reduceSub, Nat.reduceEqDiff, Nat.reduceLT, Nat.reduceLeDiff, ↓reduceIte, Tg.isFull, Int.reduceToNat]
set_option maxRecDepth 20000 in
theorem tak_R (x : Ply) (k : Nat) (hk : k ≤ 9000) (h : Pk k x) (f1 f2 f3 : Bool) (n : Int) : runW false prog 33 [.ptr 0 0, .d (.int .i64 n)] (PLR x f1 f2 f3) = some (.d (.bool true), [.box (plC (takP x n) (.row 1) (.row 4) (.row 3)), .row 1 f1 (opD x.op), .dead, .row 1 f3 (i64s x.gv), .row 4 false (recs (takP x n).tk)], [0, 2]) := by
  have hO := Take_eq x.b 1 4 2 (zk_of _) (h.i.sm (by omega)) x.time n
  have hR := RTake_eq x.b x.z1 x.z2 x.z3 h.z (h.i.sm (by omega)) x.time n
  have hol : (takeB x.b x.time n).2.length ≤ k := by have := h.i.lq; rw [takeB_out, List.length_take]; omega
  have hS := sRecs_eq (takeB x.b x.time n).2 (fun r hr => by rw [takeB_out] at hr; have := h.i.lp r (List.mem_of_mem_take hr); omega) (by omega) 4 4 (by simp [okSz]) (by simp [okSz])
  have hal := recs_len x.tk
  have hab := h.tk
  have hkk : k * k ≤ 81000000 := Nat.le_trans (Nat.mul_le_mul hk hk) (by decide)
  have hxl := recs_len (takeB x.b x.time n).2
  have hap := recs_app x.tk (takeB x.b x.time n).2
  simp only [takR] at hO hR
  simp only [takP, PLR, plC]
  generalize tkz (takeB x.b x.time n).1.queue = z at hR ⊢
  generalize (takeB x.b x.time n).1 = c at hO hR ⊢
  generalize recs (x.tk ++ (takeB x.b x.time n).2) = X3 at hap ⊢
  generalize recs (takeB x.b x.time n).2 = X2 at hO hR hS hxl hap
  generalize (takeB x.b x.time n).2.length = ol at hol hxl
  generalize recs x.tk = X1 at hal hap ⊢
  simp only [bA, bC, List.cons_append, List.nil_append] at hO hR ⊢
  refine run_of rfl ?_
  simp -dsimp (disch := first | rfl | omega) only [r33_0, r33_1, callW_fn pgTake, hO, ↓vmP, vm0, vm1, vm2, vm3, vm4, vm5, vm6, vm7, vm8, vm9, vm10, vm11, vm12, vm13, vm14, vm15, vmC, vmN, Nat.reduceAdd, Nat.reduceMul, Nat.reduceSub, Nat.reduceEqDiff, Nat.reduceLT, Nat.reduceLeDiff, ↓reduceIte, Tg.isFull, Int.reduceToNat]
  refine regD_of (by kernel_rfl) ?_
  simp -dsimp (disch := first | rfl | omega) only [r33_2, callW_fn pgRTake, hR, ↓vmP, vm0, vm1, vm2, vm3, vm4, vm5, vm6, vm7, vm8, vm9, vm10, vm11, vm12, vm13, vm14, vm15, vmC, vmN, Nat.reduceAdd, Nat.reduceMul, Nat.reduceSub, Nat.reduceEqDiff, Nat.reduceLT, Nat.reduceLeDiff, ↓reduceIte, Tg.isFull, Int.reduceToNat]
  refine regD_of (by kernel_rfl) ?_
  simp -dsimp (disch := first | rfl | omega) only [r33_3, ↓vmP, vm0, vm1, vm2, vm3, vm4, vm5, vm6, vm7, vm8, vm9, vm10, vm11, vm12, vm13, vm14, vm15, vmC, vmN, Nat.reduceAdd, Nat.reduceMul, Nat.reduceSub, Nat.reduceEqDiff, Nat.reduceLT, Nat.reduceLeDiff, ↓reduceIte, Tg.isFull, Int.reduceToNat]
  refine regD_of (by kernel_rfl) ?_
  simp -dsimp (disch := first | rfl | omega) only [r33_4, r33_5, callW_fn pg_sRecs, hS, hal, hxl, hap, ↓vmP, vm0, vm1, vm2, vm3, vm4, vm5, vm6, vm7, vm8, vm9, vm10, vm11, vm12, vm13, vm14, vm15, vmC, vmN, Nat.reduceAdd, Nat.reduceMul, Nat.reduceSub, Nat.reduceEqDiff, Nat.reduceLT, Nat.reduceLeDiff, ↓reduceIte, Tg.isFull, Int.reduceToNat]
end Go.Vm.Bk
