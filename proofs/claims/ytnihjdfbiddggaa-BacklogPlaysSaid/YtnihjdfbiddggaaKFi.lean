/- A part of the proof of BacklogPlaysSaid: YtnihjdfbiddggaaFi. -/
import Derived.Test.YtnihjdfbiddggaaKFh
/- Backlogs: losses counted by the program. -/
set_option linter.unusedVariables false
set_option linter.unusedSimpArgs false
set_option maxHeartbeats 1000000
namespace Go.Vm.Bk
theorem ite_b (p : Prop) [Decidable p] (a b : Int) : (if decide p = true then a else b) = (if p then a else b) := by by_cases h : p <;> simp [h]
set_option maxRecDepth 20000 in
theorem Ref_other (b : Bk) (hs : Sm b) (f1 f2 f3 : Bool) (t reason : Int) (hf : b.fail ≠ 2) : runW false prog 50 [.ptr 0 0, .d (.int .i64 t), .d (.int .i64 reason)] (bP b f1 f2 f3) = some (.tup [], bP (loseB b t reason) f1 f2 f3, [0]) := by
  have hser := hs.s
  have hp2 := hs.p
  have hlo := hs.l
  have hnl := notes_len b.nts
  have hln := hs.ln
  have o0 := One_eq (decide (reason = 0))
  have o1 := One_eq (decide (reason = 1))
  have o2 := One_eq (decide (reason = 2))
  rw [ite_b] at o0 o1 o2
  have i0 : (0 : Int) ≤ (if reason = 0 then 1 else 0) ∧ (if reason = 0 then (1 : Int) else 0) ≤ 1 := by split <;> omega
  have i1 : (0 : Int) ≤ (if reason = 1 then 1 else 0) ∧ (if reason = 1 then (1 : Int) else 0) ≤ 1 := by split <;> omega
  have i2 : (0 : Int) ≤ (if reason = 2 then 1 else 0) ∧ (if reason = 2 then (1 : Int) else 0) ≤ 1 := by split <;> omega
  have hpd := Pend_eq { b with serial := b.serial + 1 } f1 f2 f3
  rw [show pend { b with serial := b.serial + 1 } = pend b from rfl] at hpd
  simp only [bP, bC] at hpd
  have e2 : (b.fail = 2) = False := eq_false hf
  simp only [bP, bC, loseB, hf, if_false]
  generalize (if reason = 0 then (1 : Int) else 0) = v0 at o0 i0 ⊢
  generalize (if reason = 1 then (1 : Int) else 0) = v1 at o1 i1 ⊢
  generalize (if reason = 2 then (1 : Int) else 0) = v2 at o2 i2 ⊢
  refine run_of rfl ?_
  cases hpe : pend b with
  | true =>
    rw [hpe] at hpd
    by_cases h3 : b.fail = 3
    · have e3 : (b.fail = 3) = True := eq_true h3
      simp -dsimp (disch := first | rfl | omega) only [bC, r50_0, r50_1, r50_2, r50_3, r50_4, r50_5, r50_6, r50_7, r50_8, r50_9, r50_15, r50_16, callW_fn pgPend, callW_fn pgOne, hpd, o0, o1, o2, e2, e3, if_true, if_false, Bool.false_eq_true, Int.reduceEq, ↓vmP, vm0, vm1, vm2, vm3, vm4, vm5, vm6, vm7, vm8, vm9, vm10, vm11, vm12, vm13, vm14, vm15, vmC, vmN, Nat.reduceAdd, Nat.reduceMul, Nat.reduceSub, Nat.reduceEqDiff, Nat.reduceLT, Nat.reduceLeDiff, ↓reduceIte, Tg.isFull, Int.reduceToNat]
      refine regD_of (by kernel_rfl) ?_
      simp -dsimp (disch := first | rfl | omega) only [bC, r50_0, r50_1, r50_2, r50_3, r50_4, r50_5, r50_6, r50_7, r50_8, r50_9, r50_15, r50_16, callW_fn pgPend, callW_fn pgOne, hpd, o0, o1, o2, e2, e3, if_true, if_false, Bool.false_eq_true, Int.reduceEq, ↓vmP, vm0, vm1, vm2, vm3, vm4, vm5, vm6, vm7, vm8, vm9, vm10, vm11, vm12, vm13, vm14, vm15, vmC, vmN, Nat.reduceAdd, Nat.reduceMul, Nat.reduceSub, Nat.reduceEqDiff, Nat.reduceLT, Nat.reduceLeDiff, ↓reduceIte, Tg.isFull, Int.reduceToNat]
      refine regD_of (by kernel_rfl) ?_
      simp -dsimp (disch := first | rfl | omega) only [bC, r50_0, r50_1, r50_2, r50_3, r50_4, r50_5, r50_6, r50_7, r50_8, r50_9, r50_15, r50_16, callW_fn pgPend, callW_fn pgOne, hpd, o0, o1, o2, e2, e3, if_true, if_false, Bool.false_eq_true, Int.reduceEq, ↓vmP, vm0, vm1, vm2, vm3, vm4, vm5, vm6, vm7, vm8, vm9, vm10, vm11, vm12, vm13, vm14, vm15, vmC, vmN, Nat.reduceAdd, Nat.reduceMul, Nat.reduceSub, Nat.reduceEqDiff, Nat.reduceLT, Nat.reduceLeDiff, ↓reduceIte, Tg.isFull, Int.reduceToNat]
      refine regD_of (by kernel_rfl) ?_
      simp -dsimp (disch := first | rfl | omega) only [bC, r50_0, r50_1, r50_2, r50_3, r50_4, r50_5, r50_6, r50_7, r50_8, r50_9, r50_15, r50_16, e2, e3, if_true, if_false, Bool.false_eq_true, Int.reduceEq, ↓vmP, vm0, vm1, vm2, vm3, vm4, vm5, vm6, vm7, vm8, vm9, vm10, vm11, vm12, vm13, vm14, vm15, vmC, vmN, Nat.reduceAdd, Nat.reduceMul, Nat.reduceSub, Nat.reduceEqDiff, Nat.reduceLT, Nat.reduceLeDiff, ↓reduceIte, Tg.isFull, Int.reduceToNat]
    · have e3 : (b.fail = 3) = False := eq_false h3
      simp -dsimp (disch := first | rfl | omega) only [bC, r50_0, r50_1, r50_2, r50_3, r50_4, r50_5, r50_6, r50_7, r50_8, r50_9, r50_15, r50_16, callW_fn pgPend, callW_fn pgOne, hpd, o0, o1, o2, e2, e3, if_true, if_false, Bool.false_eq_true, Int.reduceEq, ↓vmP, vm0, vm1, vm2, vm3, vm4, vm5, vm6, vm7, vm8, vm9, vm10, vm11, vm12, vm13, vm14, vm15, vmC, vmN, Nat.reduceAdd, Nat.reduceMul, Nat.reduceSub, Nat.reduceEqDiff, Nat.reduceLT, Nat.reduceLeDiff, ↓reduceIte, Tg.isFull, Int.reduceToNat]
      refine regD_of (by kernel_rfl) ?_
      simp -dsimp (disch := first | rfl | omega) only [bC, r50_0, r50_1, r50_2, r50_3, r50_4, r50_5, r50_6, r50_7, r50_8, r50_9, r50_15, r50_16, callW_fn pgPend, callW_fn pgOne, hpd, o0, o1, o2, e2, e3, if_true, if_false, Bool.false_eq_true, Int.reduceEq, ↓vmP, vm0, vm1, vm2, vm3, vm4, vm5, vm6, vm7, vm8, vm9, vm10, vm11, vm12, vm13, vm14, vm15, vmC, vmN, Nat.reduceAdd, Nat.reduceMul, Nat.reduceSub, Nat.reduceEqDiff, Nat.reduceLT, Nat.reduceLeDiff, ↓reduceIte, Tg.isFull, Int.reduceToNat]
      refine regD_of (by kernel_rfl) ?_
      simp -dsimp (disch := first | rfl | omega) only [bC, r50_0, r50_1, r50_2, r50_3, r50_4, r50_5, r50_6, r50_7, r50_8, r50_9, r50_15, r50_16, callW_fn pgPend, callW_fn pgOne, hpd, o0, o1, o2, e2, e3, if_true, if_false, Bool.false_eq_true, Int.reduceEq, ↓vmP, vm0, vm1, vm2, vm3, vm4, vm5, vm6, vm7, vm8, vm9, vm10, vm11, vm12, vm13, vm14, vm15, vmC, vmN, Nat.reduceAdd, Nat.reduceMul, Nat.reduceSub, Nat.reduceEqDiff, Nat.reduceLT, Nat.reduceLeDiff, ↓reduceIte, Tg.isFull, Int.reduceToNat]
      refine regD_of (by kernel_rfl) ?_
      simp -dsimp (disch := first | rfl | omega) only [bC, r50_0, r50_1, r50_2, r50_3, r50_4, r50_5, r50_6, r50_7, r50_8, r50_9, r50_15, r50_16, e2, e3, if_true, if_false, Bool.false_eq_true, Int.reduceEq, ↓vmP, vm0, vm1, vm2, vm3, vm4, vm5, vm6, vm7, vm8, vm9, vm10, vm11, vm12, vm13, vm14, vm15, vmC, vmN, Nat.reduceAdd, Nat.reduceMul, Nat.reduceSub, Nat.reduceEqDiff, Nat.reduceLT, Nat.reduceLeDiff, ↓reduceIte, Tg.isFull, Int.reduceToNat]
  | false =>
    rw [hpe] at hpd
    by_cases h3 : b.fail = 3
    · have e3 : (b.fail = 3) = True := eq_true h3
      simp -dsimp (disch := first | rfl | omega) only [bC, r50_0, r50_1, r50_2, r50_3, r50_4, r50_5, r50_6, r50_7, r50_8, r50_9, r50_15, r50_16, callW_fn pgPend, callW_fn pgOne, hpd, o0, o1, o2, e2, e3, if_true, if_false, Bool.false_eq_true, Int.reduceEq, ↓vmP, vm0, vm1, vm2, vm3, vm4, vm5, vm6, vm7, vm8, vm9, vm10, vm11, vm12, vm13, vm14, vm15, vmC, vmN, Nat.reduceAdd, Nat.reduceMul, Nat.reduceSub, Nat.reduceEqDiff, Nat.reduceLT, Nat.reduceLeDiff, ↓reduceIte, Tg.isFull, Int.reduceToNat]
      refine regD_of (by kernel_rfl) ?_
      simp -dsimp (disch := first | rfl | omega) only [bC, r50_0, r50_1, r50_2, r50_3, r50_4, r50_5, r50_6, r50_7, r50_8, r50_9, r50_15, r50_16, callW_fn pgPend, callW_fn pgOne, hpd, o0, o1, o2, e2, e3, if_true, if_false, Bool.false_eq_true, Int.reduceEq, ↓vmP, vm0, vm1, vm2, vm3, vm4, vm5, vm6, vm7, vm8, vm9, vm10, vm11, vm12, vm13, vm14, vm15, vmC, vmN, Nat.reduceAdd, Nat.reduceMul, Nat.reduceSub, Nat.reduceEqDiff, Nat.reduceLT, Nat.reduceLeDiff, ↓reduceIte, Tg.isFull, Int.reduceToNat]
      refine regD_of (by kernel_rfl) ?_
      simp -dsimp (disch := first | rfl | omega) only [bC, r50_0, r50_1, r50_2, r50_3, r50_4, r50_5, r50_6, r50_7, r50_8, r50_9, r50_15, r50_16, callW_fn pgPend, callW_fn pgOne, hpd, o0, o1, o2, e2, e3, if_true, if_false, Bool.false_eq_true, Int.reduceEq, ↓vmP, vm0, vm1, vm2, vm3, vm4, vm5, vm6, vm7, vm8, vm9, vm10, vm11, vm12, vm13, vm14, vm15, vmC, vmN, Nat.reduceAdd, Nat.reduceMul, Nat.reduceSub, Nat.reduceEqDiff, Nat.reduceLT, Nat.reduceLeDiff, ↓reduceIte, Tg.isFull, Int.reduceToNat]
      refine regD_of (by kernel_rfl) ?_
      simp -dsimp (disch := first | rfl | omega) only [bC, r50_0, r50_1, r50_2, r50_3, r50_4, r50_5, r50_6, r50_7, r50_8, r50_9, r50_15, r50_16, e2, e3, if_true, if_false, Bool.false_eq_true, Int.reduceEq, ↓vmP, vm0, vm1, vm2, vm3, vm4, vm5, vm6, vm7, vm8, vm9, vm10, vm11, vm12, vm13, vm14, vm15, vmC, vmN, Nat.reduceAdd, Nat.reduceMul, Nat.reduceSub, Nat.reduceEqDiff, Nat.reduceLT, Nat.reduceLeDiff, ↓reduceIte, Tg.isFull, Int.reduceToNat]
    · have e3 : (b.fail = 3) = False := eq_false h3
      simp -dsimp (disch := first | rfl | omega) only [bC, r50_0, r50_1, r50_2, r50_3, r50_4, r50_5, r50_6, r50_7, r50_8, r50_9, r50_15, r50_16, callW_fn pgPend, callW_fn pgOne, hpd, o0, o1, o2, e2, e3, if_true, if_false, Bool.false_eq_true, Int.reduceEq, ↓vmP, vm0, vm1, vm2, vm3, vm4, vm5, vm6, vm7, vm8, vm9, vm10, vm11, vm12, vm13, vm14, vm15, vmC, vmN, Nat.reduceAdd, Nat.reduceMul, Nat.reduceSub, Nat.reduceEqDiff, Nat.reduceLT, Nat.reduceLeDiff, ↓reduceIte, Tg.isFull, Int.reduceToNat]
      refine regD_of (by kernel_rfl) ?_
      simp -dsimp (disch := first | rfl | omega) only [bC, r50_0, r50_1, r50_2, r50_3, r50_4, r50_5, r50_6, r50_7, r50_8, r50_9, r50_15, r50_16, callW_fn pgPend, callW_fn pgOne, hpd, o0, o1, o2, e2, e3, if_true, if_false, Bool.false_eq_true, Int.reduceEq, ↓vmP, vm0, vm1, vm2, vm3, vm4, vm5, vm6, vm7, vm8, vm9, vm10, vm11, vm12, vm13, vm14, vm15, vmC, vmN, Nat.reduceAdd, Nat.reduceMul, Nat.reduceSub, Nat.reduceEqDiff, Nat.reduceLT, Nat.reduceLeDiff, ↓reduceIte, Tg.isFull, Int.reduceToNat]
      refine regD_of (by kernel_rfl) ?_
      simp -dsimp (disch := first | rfl | omega) only [bC, r50_0, r50_1, r50_2, r50_3, r50_4, r50_5, r50_6, r50_7, r50_8, r50_9, r50_15, r50_16, callW_fn pgPend, callW_fn pgOne, hpd, o0, o1, o2, e2, e3, if_true, if_false, Bool.false_eq_true, Int.reduceEq, ↓vmP, vm0, vm1, vm2, vm3, vm4, vm5, vm6, vm7, vm8, vm9, vm10, vm11, vm12, vm13, vm14, vm15, vmC, vmN, Nat.reduceAdd, Nat.reduceMul, Nat.reduceSub, Nat.reduceEqDiff, Nat.reduceLT, Nat.reduceLeDiff, ↓reduceIte, Tg.isFull, Int.reduceToNat]
      refine regD_of (by kernel_rfl) ?_
      simp -dsimp (disch := first | rfl | omega) only [bC, r50_0, r50_1, r50_2, r50_3, r50_4, r50_5, r50_6, r50_7, r50_8, r50_9, r50_15, r50_16, e2, e3, if_true, if_false, Bool.false_eq_true, Int.reduceEq, ↓vmP, vm0, vm1, vm2, vm3, vm4, vm5, vm6, vm7, vm8, vm9, vm10, vm11, vm12, vm13, vm14, vm15, vmC, vmN, Nat.reduceAdd, Nat.reduceMul, Nat.reduceSub, Nat.reduceEqDiff, Nat.reduceLT, Nat.reduceLeDiff, ↓reduceIte, Tg.isFull, Int.reduceToNat]
/-- Sixteen notices' cells, of which some are there. -/
def arr (l : List (Int × Int)) : List A := (notes l).flatten.map A.d ++ List.replicate (32 - 2 * l.length) (.d (.int .i64 0))
theorem fl_len (l : List (Int × Int)) : (notes l).flatten.length = 2 * l.length := by
  induction l with
  | nil => rfl
  | cons x l ih => simp only [notes, List.map_cons, List.flatten_cons, List.length_append, List.length_cons, List.length_nil] at ih ⊢; omega
theorem arr_len (l : List (Int × Int)) (h : l.length ≤ 16) : (arr l).length = 32 := by
  simp only [arr, List.length_append, List.length_map, List.length_replicate, fl_len]; omega
theorem arr_put (l : List (Int × Int)) (h : l.length ≤ 15) (a c : Int) : spl (arr l) (2 * l.length) [.d (.int .i64 a), .d (.int .i64 c)] = arr (l ++ [(a, c)]) := by
  rw [← splice_spl]
  have hl : ((notes l).flatten.map A.d).length = 2 * l.length := by rw [List.length_map, fl_len]
  have hr : List.replicate (32 - 2 * l.length) (A.d (.int .i64 0)) = .d (.int .i64 0) :: .d (.int .i64 0) :: List.replicate (32 - 2 * (l.length + 1)) (A.d (.int .i64 0)) := by
    rw [show 32 - 2 * l.length = (32 - 2 * (l.length + 1)) + 1 + 1 by omega, List.replicate_succ, List.replicate_succ]
  unfold splice arr
  rw [List.take_append_of_le_length (by omega), List.take_of_length_le (by omega), hr]
  have hd : (((notes l).flatten.map A.d) ++ (A.d (.int .i64 0) :: .d (.int .i64 0) :: List.replicate (32 - 2 * (l.length + 1)) (A.d (.int .i64 0)))).drop (2 * l.length + [A.d (.int .i64 a), A.d (.int .i64 c)].length) = List.replicate (32 - 2 * (l.length + 1)) (A.d (.int .i64 0)) := by
    rw [← hl, List.drop_append, Nat.add_sub_cancel_left, List.drop_of_length_le (by simp), List.nil_append]
    rfl
  rw [hd, ← notes_app, List.flatten_append, List.map_append, List.length_append]
  simp [notes]
theorem allD_map (xs : List D) : allD (xs.map A.d) = some xs := by
  induction xs with
  | nil => rfl
  | cons x xs ih => simp [allD, unD, ih]
theorem arr_all (l : List (Int × Int)) : allD (arr l) = some ((notes l).flatten ++ List.replicate (32 - 2 * l.length) (.int .i64 0)) := by
  have : arr l = ((notes l).flatten ++ List.replicate (32 - 2 * l.length) (D.int .i64 0)).map A.d := by simp [arr]
  rw [this, allD_map]
theorem arr_chunks : ∀ (l : List (Int × Int)) (r : List D), chunks 2 l.length ((notes l).flatten ++ r) = notes l
  | [], r => rfl
  | x :: l, r => by
    have := arr_chunks l r
    simp only [notes, List.map_cons, List.flatten_cons, List.cons_append, List.nil_append, List.length_cons, chunks, List.take_succ_cons, List.take_zero, List.drop_succ_cons, List.drop_zero] at this ⊢
    rw [this]
theorem reach_D : ∀ (vs : List A) (xs : List D) (_ : allD vs = some xs) (hp : Heap) (n : Nat) (acc : List Nat), reach hp n vs acc = acc
  | [], _, _, _, n, _ => by cases n <;> rfl
  | v :: vs, xs, h, hp, n, acc => by
    cases n with
    | zero => rfl
    | succ n =>
      cases v <;> simp only [allD, unD] at h <;> try contradiction
      cases ha : allD vs with
      | none => rw [ha] at h; contradiction
      | some ys => rw [reach_d]; exact reach_D vs ys ha hp n acc
theorem renL_D : ∀ (vs : List A) (xs : List D) (_ : allD vs = some xs) (σ : Nat → Option Nat), renL σ vs = vs
  | [], _, _, _ => by rw [renL_nil]
  | v :: vs, xs, h, σ => by
    cases v <;> simp only [allD, unD] at h <;> try contradiction
    cases ha : allD vs with
    | none => rw [ha] at h; contradiction
    | some ys => rw [renL_cons, ren_d, renL_D vs ys ha σ]
def z32 : List A := List.replicate 32 (.d (.int .i64 0))
theorem arr_copy (l : List (Int × Int)) (h : l.length ≤ 16) : spl z32 0 ((notes l).flatten.map A.d) = arr l := by
  rw [spl_zero, List.length_map, fl_len]
  unfold arr z32
  rw [List.drop_replicate]
def kept (b : Bk) : List (Int × Int) := b.nts.drop (b.nts.length - 15)
set_option maxRecDepth 20000 in
theorem Ref_two (b : Bk) (hs : Sm b) (h16 : b.nts.length ≤ 16) (f1 f2 f3 : Bool) (t reason : Int) (hf : b.fail = 2) : runW false prog 50 [.ptr 0 0, .d (.int .i64 t), .d (.int .i64 reason)] (bP b f1 f2 f3) =
    some (.tup [], [.box (bC (loseB b t reason) (.row 1) (.row 2) (.bs 4 0 ((kept b).length + 1) 2)), .row 1 f1 (i64s b.op), .row 4 f2 (recs b.queue), .row 2 f3 (notes b.nts), .box (arr (kept b ++ [(t, b.serial + 1)]))], [0]) := by
  have hser := hs.s
  have hp2 := hs.p
  have hlo := hs.l
  have hnl := notes_len b.nts
  have hln := hs.ln
  have o0 := One_eq (decide (reason = 0))
  have o1 := One_eq (decide (reason = 1))
  have o2 := One_eq (decide (reason = 2))
  rw [ite_b] at o0 o1 o2
  have i0 : (0 : Int) ≤ (if reason = 0 then 1 else 0) ∧ (if reason = 0 then (1 : Int) else 0) ≤ 1 := by split <;> omega
  have i1 : (0 : Int) ≤ (if reason = 1 then 1 else 0) ∧ (if reason = 1 then (1 : Int) else 0) ≤ 1 := by split <;> omega
  have i2 : (0 : Int) ≤ (if reason = 2 then 1 else 0) ∧ (if reason = 2 then (1 : Int) else 0) ≤ 1 := by split <;> omega
  have hpd := Pend_eq { b with serial := b.serial + 1 } f1 f2 f3
  rw [show pend { b with serial := b.serial + 1 } = pend b from rfl] at hpd
  simp only [bP, bC] at hpd
  have e2 : (b.fail = 2) = True := eq_true hf
  have e3 : (b.fail = 3) = False := eq_false (by omega)
  have er : (if (0 : Int) < (b.nts.length : Int) - 16 + 1 then (b.nts.length : Int) - 16 + 1 else 0) = ((b.nts.length - 15 : Nat) : Int) := by split <;> omega
  have hkl : (kept b).length = b.nts.length - (b.nts.length - 15) := by simp [kept]
  have hk15 : (kept b).length ≤ 15 := by omega
  have hview : ((notes b.nts).drop (b.nts.length - 15)).take (b.nts.length - (b.nts.length - 15)) = notes (kept b) := by
    rw [List.take_of_length_le (by rw [List.length_drop, notes_len]; omega)]
    simp [kept, notes, List.map_drop]
  have hnk := notes_len (kept b)
  have hcp := arr_copy (kept b) (by omega)
  have hput := arr_put (kept b) hk15 t (b.serial + 1)
  have hal := arr_len (kept b) (by omega)
  have hal2 := arr_len (kept b ++ [(t, b.serial + 1)]) (by simp; omega)
  have hm16 : Nat.min (kept b).length 16 = (kept b).length := by exact Nat.min_eq_left (by omega)
  have htk : (notes (kept b)).take (kept b).length = notes (kept b) := by rw [← hnk, List.take_length]
  have hle : b.nts.length - 15 ≤ b.nts.length := by omega
  have hrD := reach_D _ _ (arr_all (kept b ++ [(t, b.serial + 1)]))
  have hrN := renL_D _ _ (arr_all (kept b ++ [(t, b.serial + 1)]))
  simp only [bP, bC, loseB, hf, if_true]
  rw [hf] at hpd
  generalize (if reason = 0 then (1 : Int) else 0) = v0 at o0 i0 ⊢
  generalize (if reason = 1 then (1 : Int) else 0) = v1 at o1 i1 ⊢
  generalize (if reason = 2 then (1 : Int) else 0) = v2 at o2 i2 ⊢
  generalize arr (kept b ++ [(t, b.serial + 1)]) = arr2 at hput hal2 hrD hrN ⊢
  generalize arr (kept b) = arr1 at hcp hput hal
  generalize notes (kept b) = nk at hview hnk hcp hm16 htk
  generalize (kept b).length = kl at *
  generalize b.nts.length - 15 = d15 at er hkl hview hle
  rw [spl_zero] at hcp
  rw [Nat.mul_comm] at hput
  have etn : ((kl : Int) + 1).toNat - 0 = kl + 1 := by omega
  have htk32 : List.take 32 arr1 = arr1 := List.take_of_length_le (by omega)
  have hspl : spl z32 0 arr1 = arr1 := by rw [spl_zero, hal]; simp [z32]
  simp only [z32, List.replicate_succ, List.replicate_zero] at hcp hspl
  refine run_of rfl ?_
  cases hpe : pend b with
  | true =>
    rw [hpe] at hpd
    simp -dsimp (disch := first | rfl | omega) only [bC, r50_0, r50_1, r50_2, r50_3, r50_4, r50_5, r50_6, r50_7, r50_8, r50_9, callW_fn pgPend, callW_fn pgOne, hpd, o0, o1, o2, e2, e3, hf, if_true, if_false, Bool.false_eq_true, Int.reduceEq, ↓vmP, vm0, vm1, vm2, vm3, vm4, vm5, vm6, vm7, vm8, vm9, vm10, vm11, vm12, vm13, vm14, vm15, vmC, vmN, Nat.reduceAdd, Nat.reduceMul, Nat.reduceSub, Nat.reduceEqDiff, Nat.reduceLT, Nat.reduceLeDiff, ↓reduceIte, Tg.isFull, Int.reduceToNat]
    refine regD_of (by kernel_rfl) ?_
    simp -dsimp (disch := first | rfl | omega) only [bC, r50_0, r50_1, r50_2, r50_3, r50_4, r50_5, r50_6, r50_7, r50_8, r50_9, callW_fn pgPend, callW_fn pgOne, hpd, o0, o1, o2, e2, e3, hf, if_true, if_false, Bool.false_eq_true, Int.reduceEq, ↓vmP, vm0, vm1, vm2, vm3, vm4, vm5, vm6, vm7, vm8, vm9, vm10, vm11, vm12, vm13, vm14, vm15, vmC, vmN, Nat.reduceAdd, Nat.reduceMul, Nat.reduceSub, Nat.reduceEqDiff, Nat.reduceLT, Nat.reduceLeDiff, ↓reduceIte, Tg.isFull, Int.reduceToNat]
    refine regD_of (by kernel_rfl) ?_
    simp -dsimp (disch := first | rfl | omega) only [bC, r50_0, r50_1, r50_2, r50_3, r50_4, r50_5, r50_6, r50_7, r50_8, r50_9, callW_fn pgPend, callW_fn pgOne, hpd, o0, o1, o2, e2, e3, hf, if_true, if_false, Bool.false_eq_true, Int.reduceEq, ↓vmP, vm0, vm1, vm2, vm3, vm4, vm5, vm6, vm7, vm8, vm9, vm10, vm11, vm12, vm13, vm14, vm15, vmC, vmN, Nat.reduceAdd, Nat.reduceMul, Nat.reduceSub, Nat.reduceEqDiff, Nat.reduceLT, Nat.reduceLeDiff, ↓reduceIte, Tg.isFull, Int.reduceToNat]
    refine regD_of (by kernel_rfl) ?_
    simp -dsimp (disch := first | rfl | omega) only [bC, r50_0, r50_1, r50_2, r50_3, r50_4, r50_5, r50_6, r50_7, r50_8, r50_9, r50_10, r50_11, r50_12, r50_13, r50_14, e2, e3, hf, er, hview, hm16, htk, hcp, htk32, hspl, hal, hput, hrD, hrN, etn, Nat.zero_mul, Nat.add_zero, hal2, hnk, hnl, if_true, if_false, Bool.false_eq_true, Int.reduceEq, ↓vmP, vm0, vm1, vm2, vm3, vm4, vm5, vm6, vm7, vm8, vm9, vm10, vm11, vm12, vm13, vm14, vm15, vmC, vmN, Nat.reduceAdd, Nat.reduceMul, Nat.reduceSub, Nat.reduceEqDiff, Nat.reduceLT, Nat.reduceLeDiff, ↓reduceIte, Tg.isFull, Int.reduceToNat]
    refine regD_of (by kernel_rfl) ?_
    simp -dsimp (disch := first | rfl | omega) only [bC, r50_0, r50_1, r50_2, r50_3, r50_4, r50_5, r50_6, r50_7, r50_8, r50_9, r50_10, r50_11, r50_12, r50_13, r50_14, e2, e3, hf, hcp, htk32, hspl, hal, hput, hrD, hrN, etn, Nat.zero_mul, Nat.add_zero, hal, hal2, if_true, if_false, Bool.false_eq_true, Int.reduceEq, ↓vmP, vm0, vm1, vm2, vm3, vm4, vm5, vm6, vm7, vm8, vm9, vm10, vm11, vm12, vm13, vm14, vm15, vmC, vmN, Nat.reduceAdd, Nat.reduceMul, Nat.reduceSub, Nat.reduceEqDiff, Nat.reduceLT, Nat.reduceLeDiff, ↓reduceIte, Tg.isFull, Int.reduceToNat]
  | false =>
    rw [hpe] at hpd
    simp -dsimp (disch := first | rfl | omega) only [bC, r50_0, r50_1, r50_2, r50_3, r50_4, r50_5, r50_6, r50_7, r50_8, r50_9, callW_fn pgPend, callW_fn pgOne, hpd, o0, o1, o2, e2, e3, hf, if_true, if_false, Bool.false_eq_true, Int.reduceEq, ↓vmP, vm0, vm1, vm2, vm3, vm4, vm5, vm6, vm7, vm8, vm9, vm10, vm11, vm12, vm13, vm14, vm15, vmC, vmN, Nat.reduceAdd, Nat.reduceMul, Nat.reduceSub, Nat.reduceEqDiff, Nat.reduceLT, Nat.reduceLeDiff, ↓reduceIte, Tg.isFull, Int.reduceToNat]
    refine regD_of (by kernel_rfl) ?_
    simp -dsimp (disch := first | rfl | omega) only [bC, r50_0, r50_1, r50_2, r50_3, r50_4, r50_5, r50_6, r50_7, r50_8, r50_9, callW_fn pgPend, callW_fn pgOne, hpd, o0, o1, o2, e2, e3, hf, if_true, if_false, Bool.false_eq_true, Int.reduceEq, ↓vmP, vm0, vm1, vm2, vm3, vm4, vm5, vm6, vm7, vm8, vm9, vm10, vm11, vm12, vm13, vm14, vm15, vmC, vmN, Nat.reduceAdd, Nat.reduceMul, Nat.reduceSub, Nat.reduceEqDiff, Nat.reduceLT, Nat.reduceLeDiff, ↓reduceIte, Tg.isFull, Int.reduceToNat]
    refine regD_of (by kernel_rfl) ?_
    simp -dsimp (disch := first | rfl | omega) only [bC, r50_0, r50_1, r50_2, r50_3, r50_4, r50_5, r50_6, r50_7, r50_8, r50_9, callW_fn pgPend, callW_fn pgOne, hpd, o0, o1, o2, e2, e3, hf, if_true, if_false, Bool.false_eq_true, Int.reduceEq, ↓vmP, vm0, vm1, vm2, vm3, vm4, vm5, vm6, vm7, vm8, vm9, vm10, vm11, vm12, vm13, vm14, vm15, vmC, vmN, Nat.reduceAdd, Nat.reduceMul, Nat.reduceSub, Nat.reduceEqDiff, Nat.reduceLT, Nat.reduceLeDiff, ↓reduceIte, Tg.isFull, Int.reduceToNat]
    refine regD_of (by kernel_rfl) ?_
    simp -dsimp (disch := first | rfl | omega) only [bC, r50_0, r50_1, r50_2, r50_3, r50_4, r50_5, r50_6, r50_7, r50_8, r50_9, r50_10, r50_11, r50_12, r50_13, r50_14, e2, e3, hf, er, hview, hm16, htk, hcp, htk32, hspl, hal, hput, hrD, hrN, etn, Nat.zero_mul, Nat.add_zero, hal2, hnk, hnl, if_true, if_false, Bool.false_eq_true, Int.reduceEq, ↓vmP, vm0, vm1, vm2, vm3, vm4, vm5, vm6, vm7, vm8, vm9, vm10, vm11, vm12, vm13, vm14, vm15, vmC, vmN, Nat.reduceAdd, Nat.reduceMul, Nat.reduceSub, Nat.reduceEqDiff, Nat.reduceLT, Nat.reduceLeDiff, ↓reduceIte, Tg.isFull, Int.reduceToNat]
    refine regD_of (by kernel_rfl) ?_
    simp -dsimp (disch := first | rfl | omega) only [bC, r50_0, r50_1, r50_2, r50_3, r50_4, r50_5, r50_6, r50_7, r50_8, r50_9, r50_10, r50_11, r50_12, r50_13, r50_14, e2, e3, hf, hcp, htk32, hspl, hal, hput, hrD, hrN, etn, Nat.zero_mul, Nat.add_zero, hal, hal2, if_true, if_false, Bool.false_eq_true, Int.reduceEq, ↓vmP, vm0, vm1, vm2, vm3, vm4, vm5, vm6, vm7, vm8, vm9, vm10, vm11, vm12, vm13, vm14, vm15, vmC, vmN, Nat.reduceAdd, Nat.reduceMul, Nat.reduceSub, Nat.reduceEqDiff, Nat.reduceLT, Nat.reduceLeDiff, ↓reduceIte, Tg.isFull, Int.reduceToNat]
end Go.Vm.Bk
