/- A part of the proof of BacklogPlaysSaid: YtnihjdfbiddggaaFs. -/
import Derived.Test.YtnihjdfbiddggaaKFr
/- Backlogs: a queue that was cut. -/
set_option linter.unusedVariables false
set_option linter.unusedSimpArgs false
set_option maxHeartbeats 1000000
namespace Go.Vm.Bk
def bS (b : Bk) (f1 f2 f3 : Bool) (m : Nat) (X : List (List D)) : List Chunk := [.box (bC b (.row 1) (.sub 2 0 m true) (.row 3)), .row 1 f1 (i64s b.op), .row 4 f2 X, .row 2 f3 (notes b.nts)]
theorem sPend_eq (b : Bk) (f1 f2 f3 : Bool) (m : Nat) (X : List (List D)) : runW false prog 46 [.ptr 0 0] (bS b f1 f2 f3 m X) = some (.d (.bool (pend b)), bS b f1 f2 f3 m X, []) := by
  refine run_of rfl ?_
  have he := eqs_z b.p0 b.p1 b.p2 b.p3 b.p4
  simp -dsimp (disch := first | rfl | omega) only [bS, bC, pend, r46_0, r46_1, he, ↓vmP, vm0, vm1, vm2, vm3, vm4, vm5, vm6, vm7, vm8, vm9, vm10, vm11, vm12, vm13, vm14, vm15, vmC, vmN, Nat.reduceAdd, Nat.reduceMul, Nat.reduceSub, Nat.reduceEqDiff, Nat.reduceLT, Nat.reduceLeDiff, ↓reduceIte, Tg.isFull, Int.reduceToNat]
theorem sEnds_eq (b : Bk) (hs : Sm b) (f1 f2 f3 : Bool) (m : Nat) (X : List (List D)) (t : Int) : runW false prog 44 [.agg (bC b (.row 0) (.sub 1 0 m true) (.row 2)), .d (.int .i64 t)] [.row 1 f1 (i64s b.op), .row 4 f2 X, .row 2 f3 (notes b.nts)] = some (.d (.bool (late t)), [.row 1 f1 (i64s b.op), .row 4 f2 X, .row 2 f3 (notes b.nts)], []) := by
  refine run_of rfl ?_
  have h1 := hs.s
  have e3 : (1073741821 < b.serial) = False := eq_false (by omega)
  by_cases c1 : t < 0
  · have e1 : (t < 0) = True := eq_true c1
    have hl : late t = true := by simp [late, c1]
    rw [hl]
    simp -dsimp (disch := first | rfl | omega) only [bC, r44_0, r44_1, e1, vmK, ↓vmP, vm0, vm1, vm2, vm3, vm4, vm5, vm6, vm7, vm8, vm9, vm10, vm11, vm12, vm13, vm14, vm15, vmC, vmN, Nat.reduceAdd, Nat.reduceMul, Nat.reduceSub, Nat.reduceEqDiff, Nat.reduceLT, Nat.reduceLeDiff, ↓reduceIte, Tg.isFull, Int.reduceToNat]
  · have e1 : (t < 0) = False := eq_false c1
    by_cases c2 : 1099511627776 < t
    · have e2 : (1099511627776 < t) = True := eq_true c2
      have hl : late t = true := by simp [late, c2]
      rw [hl]
      simp -dsimp (disch := first | rfl | omega) only [bC, r44_0, r44_1, e1, e2, vmK, ↓vmP, vm0, vm1, vm2, vm3, vm4, vm5, vm6, vm7, vm8, vm9, vm10, vm11, vm12, vm13, vm14, vm15, vmC, vmN, Nat.reduceAdd, Nat.reduceMul, Nat.reduceSub, Nat.reduceEqDiff, Nat.reduceLT, Nat.reduceLeDiff, ↓reduceIte, Tg.isFull, Int.reduceToNat]
    · have e2 : (1099511627776 < t) = False := eq_false c2
      have hl : late t = false := by simp [late]; omega
      rw [hl]
      simp -dsimp (disch := first | rfl | omega) only [bC, r44_0, r44_1, e1, e2, e3, vmK, ↓vmP, vm0, vm1, vm2, vm3, vm4, vm5, vm6, vm7, vm8, vm9, vm10, vm11, vm12, vm13, vm14, vm15, vmC, vmN, Nat.reduceAdd, Nat.reduceMul, Nat.reduceSub, Nat.reduceEqDiff, Nat.reduceLT, Nat.reduceLeDiff, ↓reduceIte, Tg.isFull, Int.reduceToNat]
theorem sStalls_eq (b : Bk) (hs : Sm b) (f1 f2 f3 : Bool) (m : Nat) (X : List (List D)) (s : Int) (h0 : 0 ≤ s ∧ s ≤ 2000000) : runW false prog 57 [.ptr 0 0, .d (.int .i64 s)] (bS b f1 f2 f3 m X) = some (.d (.bool (stl b s)), bS b f1 f2 f3 m X, []) := by
  refine run_of rfl ?_
  have hil := i64s_len b.op
  have ho := hs.oo
  have hlo := hs.lo
  cases hop : b.op with
  | nil =>
    have hst : stl b s = false := by simp [stl, hop]
    rw [hst]
    rw [hop] at hil
    have e0 : ((0 : Nat) : Int) = 0 := rfl
    simp -dsimp (disch := first | rfl | omega) only [bS, bC, hop, i64s_nil, r57_0, r57_1, e0, Int.reduceLT, ↓vmP, vm0, vm1, vm2, vm3, vm4, vm5, vm6, vm7, vm8, vm9, vm10, vm11, vm12, vm13, vm14, vm15, vmC, vmN, Nat.reduceAdd, Nat.reduceMul, Nat.reduceSub, Nat.reduceEqDiff, Nat.reduceLT, Nat.reduceLeDiff, ↓reduceIte, Tg.isFull, Int.reduceToNat]
  | cons x l =>
    have hst : stl b s = decide (64 ≤ s - x) := by simp [stl, hop]
    rw [hst]
    have hx := ho x (by rw [hop]; exact List.mem_cons_self ..)
    have e0 : (0 < ((x :: l).length : Int)) = True := eq_true (by rw [List.length_cons]; omega)
    have hat : (i64s (x :: l))[0]? = some [.int .i64 x] := rfl
    have hl2 : 0 < (x :: l).length := Nat.succ_pos _
    rw [hop] at hil hlo
    generalize hX : i64s (x :: l) = X0 at hat hil
    generalize (x :: l).length = n at hil e0 hl2 hlo
    subst hil
    simp -dsimp (disch := first | rfl | omega) only [bS, bC, hop, hX, r57_0, r57_1, e0, hat, ↓vmP, vm0, vm1, vm2, vm3, vm4, vm5, vm6, vm7, vm8, vm9, vm10, vm11, vm12, vm13, vm14, vm15, vmC, vmN, Nat.reduceAdd, Nat.reduceMul, Nat.reduceSub, Nat.reduceEqDiff, Nat.reduceLT, Nat.reduceLeDiff, ↓reduceIte, Tg.isFull, Int.reduceToNat]
set_option maxRecDepth 20000 in
theorem sTell_eq (b : Bk) (hs : Sm b) (f1 f2 f3 : Bool) (t : Int) (n : Nat) : runW false prog 51 [.ptr 0 0, .d (.int .i64 t)] (bS b f1 f2 f3 b.queue.length (recs b.queue ++ List.replicate (n + 1) zR)) =
    some (.tup [], bS (tellB b t) f1 f2 f3 (b.queue.length + 1) (recs (tellB b t).queue ++ List.replicate n zR), [0, 2]) := by
  refine run_of rfl ?_
  have h1 := Loss_eq b.p0 b.p1 b.p2 b.p3 b.p4 t
  have hser := hs.s
  have hlq := hs.lq
  have hrl := recs_len b.queue
  have h2 := Stamp_eq [lossR b.p0 b.p1 b.p2 b.p3 b.p4 t 0] (by simp) (fun r hr => by simp at hr; subst hr; simp [lossR, lossP]) 4 rfl (b.serial + 1)
  rw [List.map_cons, List.map_nil, lossR_stp] at h2
  have h3 := recs_one (lossR b.p0 b.p1 b.p2 b.p3 b.p4 t 0)
  have h4 : recs b.queue ++ recs [lossR b.p0 b.p1 b.p2 b.p3 b.p4 t (b.serial + 1)] = recs (tellB b t).queue := by rw [recs_app]; rfl
  have h5 : (recs [lossR b.p0 b.p1 b.p2 b.p3 b.p4 t (b.serial + 1)]).length = 1 := rfl
  simp only [recA] at h1
  generalize lossR b.p0 b.p1 b.p2 b.p3 b.p4 t 0 = r0 at h1 h2 h3
  generalize recs [r0] = X0 at h2 h3
  generalize recs [lossR b.p0 b.p1 b.p2 b.p3 b.p4 t (b.serial + 1)] = X1 at h2 h4 h5
  have hro : ((recs b.queue ++ List.replicate (n + 1) zR).take b.queue.length ++ (X1 ++ (recs b.queue ++ List.replicate (n + 1) zR).drop (b.queue.length + 1))) = recs (tellB b t).queue ++ List.replicate n zR := by
    rw [List.take_append_of_le_length (by omega), List.take_of_length_le (l := recs b.queue) (by omega), List.drop_append, List.drop_of_length_le (l := recs b.queue) (by omega), hrl, Nat.add_sub_cancel_left, List.nil_append, List.drop_replicate, Nat.add_sub_cancel, ← List.append_assoc, h4]
  have hrn : (recs b.queue ++ List.replicate (n + 1) zR).length = b.queue.length + (n + 1) := by rw [List.length_append, hrl, List.length_replicate]
  have hle : (b.queue.length + 1 ≤ b.queue.length + (n + 1)) = True := eq_true (by omega)
  generalize recs b.queue ++ List.replicate (n + 1) zR = Y at hro hrn ⊢
  generalize recs (tellB b t).queue ++ List.replicate n zR = Y2 at hro ⊢
  simp -dsimp (disch := first | rfl | omega) only [bS, bC, tellB, r51_0, r51_1, callW_fn pgLoss, callW_fn pgEStamp, h1, h2, h3, h5, hro, hrn, hle, ↓vmP, vm0, vm1, vm2, vm3, vm4, vm5, vm6, vm7, vm8, vm9, vm10, vm11, vm12, vm13, vm14, vm15, vmC, vmN, Nat.reduceAdd, Nat.reduceMul, Nat.reduceSub, Nat.reduceEqDiff, Nat.reduceLT, Nat.reduceLeDiff, ↓reduceIte, Tg.isFull, Int.reduceToNat]
  refine regD_of (by kernel_rfl) ?_
  simp -dsimp (disch := first | rfl | omega) only [bS, bC, tellB, r51_2, ↓vmP, vm0, vm1, vm2, vm3, vm4, vm5, vm6, vm7, vm8, vm9, vm10, vm11, vm12, vm13, vm14, vm15, vmC, vmN, Nat.reduceAdd, Nat.reduceMul, Nat.reduceSub, Nat.reduceEqDiff, Nat.reduceLT, Nat.reduceLeDiff, ↓reduceIte, Tg.isFull, Int.reduceToNat]
end Go.Vm.Bk
