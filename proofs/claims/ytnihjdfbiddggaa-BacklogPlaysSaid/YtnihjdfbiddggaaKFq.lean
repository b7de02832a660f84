/- A part of the proof of BacklogPlaysSaid: YtnihjdfbiddggaaFq. -/
import Derived.Test.YtnihjdfbiddggaaKFp
/- Backlogs: records put by the reference. -/
set_option linter.unusedVariables false
set_option linter.unusedSimpArgs false
set_option maxHeartbeats 1000000
namespace Go.Vm.Bk
theorem len7 : r60_7.length = 5 := rfl
set_option maxRecDepth 20000 in
theorem RP_loop {Q : Ex → St → Prop} (b : Bk) (hlo : b.op.length ≤ 1000000) (f1 f2 f3 : Bool) (r : Rec) : ∀ (k j : Nat) (f : Bool) (s : St), j + k = b.op.length →
    gc [(4, none), (6, none), (7, none), (8, some 1), (9, none)] s = ⟨gS [(4, .ptr 0 0), (6, .ptr 1 0), (7, .ptr 2 0), (8, .row 6), (9, .d (.int .i64 j))], gH [(0, .box (recA r)), (1, .box zB), (2, .box (bC b (.row 3) (.row 4) (.row 5))), (3, .row 1 f1 (i64s b.op)), (4, .row 4 f2 (recs b.queue)), (5, .row 2 f3 (notes b.nts)), (6, .row 1 f (i64s (delI (b.op.take j) r.serial)))], 7, 0, []⟩ →
    (∀ f T, Q (.exit 0) ⟨gS ((4, .ptr 0 0) :: (6, .ptr 1 0) :: (7, .ptr 2 0) :: (8, .row 6) :: T), gH [(0, .box (recA r)), (1, .box zB), (2, .box (bC b (.row 3) (.row 4) (.row 5))), (3, .row 1 f1 (i64s b.op)), (4, .row 4 f2 (recs b.queue)), (5, .row 2 f3 (notes b.nts)), (6, .row 1 f (i64s (delI b.op r.serial)))], 7 + 8 * r60_7.length, 0, []⟩) →
    wpW false prog (.loop [(4, none), (6, none), (7, none), (8, some 1), (9, none)] l60_11) s Q := by
  intro k
  induction k with
  | zero =>
    intro j f s hj hg hQ
    refine wp_loop1 ?_
    rw [hg]
    generalize hJ : (fun s' => wpW false prog (.loop [(4, none), (6, none), (7, none), (8, some 1), (9, none)] l60_11) s' Q) = J
    unfold l60_11
    have hil := i64s_len b.op
    have e0 : ((j : Int) < b.op.length) = False := eq_false (by omega)
    have hh := hQ f
    rw [show b.op.take j = b.op from List.take_of_length_le (by omega)]
    generalize i64s (delI b.op r.serial) = D at hh ⊢
    simp only [recA, bC, zB] at hh
    simp -dsimp (disch := first | rfl | omega) only [recA, bC, zB, r60_7, hil, e0, ↓vmP, vm0, vm1, vm2, vm3, vm4, vm5, vm6, vm7, vm8, vm9, vm10, vm11, vm12, vm13, vm14, vm15, vmC, vmN, Nat.reduceAdd, Nat.reduceMul, Nat.reduceSub, Nat.reduceEqDiff, Nat.reduceLT, Nat.reduceLeDiff, ↓reduceIte, Tg.isFull, Int.reduceToNat]
    exact hh _
  | succ k ih =>
    intro j f s hj hg hQ
    refine wp_loop1 ?_
    rw [hg]
    generalize hJ : (fun s' => wpW false prog (.loop [(4, none), (6, none), (7, none), (8, some 1), (9, none)] l60_11) s' Q) = J
    unfold l60_11
    have hjl : j < b.op.length := by omega
    have hil := i64s_len b.op
    have e0 : ((j : Int) < b.op.length) = True := eq_true (by omega)
    have ej : ((j : Int) + 1) = ((j + 1 : Nat) : Int) := by omega
    have hat := i64s_at b.op hjl
    have hdt := delI_take b.op r.serial hjl
    have hln := delI_len (b.op.take j) r.serial
    rw [List.length_take] at hln
    have hdl := i64s_len (delI (b.op.take j) r.serial)
    by_cases hx : b.op.getD j 0 = r.serial
    · rw [if_pos hx, List.append_nil] at hdt
      have e1 : (b.op.getD j 0 = r.serial) = True := eq_true hx
      have ihh := fun s => ih (j + 1) f s (by omega)
      rw [hdt] at ihh
      generalize b.op.getD j 0 = x at hat e1
      generalize i64s (delI (b.op.take j) r.serial) = D at ihh hdl ⊢
      simp -dsimp (disch := first | rfl | omega) only [recA, bC, zB, r60_7, r60_8, hil, e0, hat, ↓vmP, vm0, vm1, vm2, vm3, vm4, vm5, vm6, vm7, vm8, vm9, vm10, vm11, vm12, vm13, vm14, vm15, vmC, vmN, Nat.reduceAdd, Nat.reduceMul, Nat.reduceSub, Nat.reduceEqDiff, Nat.reduceLT, Nat.reduceLeDiff, ↓reduceIte, Tg.isFull, Int.reduceToNat]
      refine regD_of (by kernel_rfl) ?_
      simp -dsimp (disch := first | rfl | omega) only [recA, bC, zB, r60_10, e1, ej, ne_eq, not_true_eq_false, ↓vmP, vm0, vm1, vm2, vm3, vm4, vm5, vm6, vm7, vm8, vm9, vm10, vm11, vm12, vm13, vm14, vm15, vmC, vmN, Nat.reduceAdd, Nat.reduceMul, Nat.reduceSub, Nat.reduceEqDiff, Nat.reduceLT, Nat.reduceLeDiff, ↓reduceIte, Tg.isFull, Int.reduceToNat]
      rw [← hJ]
      exact ihh _ (by simp -dsimp (disch := first | rfl | omega) only [recA, bC, zB, ↓vmP, vm0, vm1, vm2, vm3, vm4, vm5, vm6, vm7, vm8, vm9, vm10, vm11, vm12, vm13, vm14, vm15, vmC, vmN, Nat.reduceAdd, Nat.reduceMul, Nat.reduceSub, Nat.reduceEqDiff, Nat.reduceLT, Nat.reduceLeDiff, ↓reduceIte, Tg.isFull, Int.reduceToNat]) hQ
    · rw [if_neg hx] at hdt
      have e1 : (b.op.getD j 0 = r.serial) = False := eq_false hx
      have hap := i64s_app (delI (b.op.take j) r.serial) [b.op.getD j 0]
      have hone : i64s [b.op.getD j 0] = [[.int .i64 (b.op.getD j 0)]] := rfl
      rw [hone, ← hdt] at hap
      have ihh := fun s => ih (j + 1) false s (by omega)
      generalize b.op.getD j 0 = x at hat e1 hap
      generalize i64s (delI (b.op.take (j + 1)) r.serial) = D2 at ihh hap
      generalize i64s (delI (b.op.take j) r.serial) = D at hap hdl ⊢
      simp -dsimp (disch := first | rfl | omega) only [recA, bC, zB, r60_7, r60_8, hil, e0, hat, ↓vmP, vm0, vm1, vm2, vm3, vm4, vm5, vm6, vm7, vm8, vm9, vm10, vm11, vm12, vm13, vm14, vm15, vmC, vmN, Nat.reduceAdd, Nat.reduceMul, Nat.reduceSub, Nat.reduceEqDiff, Nat.reduceLT, Nat.reduceLeDiff, ↓reduceIte, Tg.isFull, Int.reduceToNat]
      refine regD_of (by kernel_rfl) ?_
      simp -dsimp (disch := first | rfl | omega) only [recA, bC, zB, r60_10, r60_9, e1, ej, hat, hil, hap, ne_eq, not_false_eq_true, ↓vmP, vm0, vm1, vm2, vm3, vm4, vm5, vm6, vm7, vm8, vm9, vm10, vm11, vm12, vm13, vm14, vm15, vmC, vmN, Nat.reduceAdd, Nat.reduceMul, Nat.reduceSub, Nat.reduceEqDiff, Nat.reduceLT, Nat.reduceLeDiff, ↓reduceIte, Tg.isFull, Int.reduceToNat]
      rw [← hJ]
      exact ihh _ (by simp -dsimp (disch := first | rfl | omega) only [recA, bC, zB, ↓vmP, vm0, vm1, vm2, vm3, vm4, vm5, vm6, vm7, vm8, vm9, vm10, vm11, vm12, vm13, vm14, vm15, vmC, vmN, Nat.reduceAdd, Nat.reduceMul, Nat.reduceSub, Nat.reduceEqDiff, Nat.reduceLT, Nat.reduceLeDiff, ↓reduceIte, Tg.isFull, Int.reduceToNat]) hQ
set_option maxRecDepth 20000 in
theorem RPut_eq (b : Bk) (z1 z2 z3 : Nat) (hz : Zk b z1 z2 z3) (hs : Sm b) (r : Rec) (hr : r.pairs.length ≤ 100000) (last : Bool) : runW false prog 60 [.agg (bA b z1 z2 z3), .agg (recA r), .d (.bool last)] [] = some (.agg (bA (putB b r last) 1 4 2), [], []) := by
  have h1 := Copy_eq b z1 z2 z3 hz hs
  have hres := hs.r
  have hlq := hs.lq
  have hrl := recs_len b.queue
  have h3 := recs_one r
  have h4 := recs_app b.queue [r]
  have h5 : (recs [r]).length = 1 := rfl
  have hS := RStamp_eq [r] (by simp) (fun x hx => by simp at hx; subst hx; omega) 4 rfl r.serial
  rw [List.map_cons, List.map_nil, stp_self] at hS
  simp only [bA, bC, bH] at h1
  cases last with
  | false =>
    simp only [putB, Bool.false_eq_true, if_false]
    refine run_of rfl ?_
    generalize recs [r] = X1 at h3 h4 h5 hS
    generalize hQ : recs (b.queue ++ [r]) = QQ at h4
    simp -dsimp (disch := first | rfl | omega) only [bA, bC, bH, recA, r60_0, r60_1, r60_2, callW_fn pgCopy, callW_fn pgStamp, h1, h3, h4, h5, hS, hrl, ↓vmP, vm0, vm1, vm2, vm3, vm4, vm5, vm6, vm7, vm8, vm9, vm10, vm11, vm12, vm13, vm14, vm15, vmC, vmN, Nat.reduceAdd, Nat.reduceMul, Nat.reduceSub, Nat.reduceEqDiff, Nat.reduceLT, Nat.reduceLeDiff, ↓reduceIte, Tg.isFull, Int.reduceToNat]
    refine regD_of (by kernel_rfl) ?_
    simp -dsimp (disch := first | rfl | omega) only [bA, bC, bH, recA, r60_3, r60_4, r60_13, hQ, ↓vmP, vm0, vm1, vm2, vm3, vm4, vm5, vm6, vm7, vm8, vm9, vm10, vm11, vm12, vm13, vm14, vm15, vmC, vmN, Nat.reduceAdd, Nat.reduceMul, Nat.reduceSub, Nat.reduceEqDiff, Nat.reduceLT, Nat.reduceLeDiff, ↓reduceIte, Tg.isFull, Int.reduceToNat]
  | true =>
    have hlp := fun Q s => RP_loop (Q := Q) { b with queue := b.queue ++ [r], reserved := b.reserved - 1 } (Nat.le_trans hs.lo (by decide)) b.op.isEmpty false b.nts.isEmpty r b.op.length 0 true s (Nat.zero_add _)
    simp only [putB, if_true]
    refine run_of rfl ?_
    generalize recs [r] = X1 at h3 h4 h5 hS
    generalize hQ : recs (b.queue ++ [r]) = QQ at h4
    simp only [hQ] at hlp
    simp -dsimp (disch := first | rfl | omega) only [bA, bC, bH, recA, r60_0, r60_1, r60_2, callW_fn pgCopy, callW_fn pgStamp, h1, h3, h4, h5, hS, hrl, ↓vmP, vm0, vm1, vm2, vm3, vm4, vm5, vm6, vm7, vm8, vm9, vm10, vm11, vm12, vm13, vm14, vm15, vmC, vmN, Nat.reduceAdd, Nat.reduceMul, Nat.reduceSub, Nat.reduceEqDiff, Nat.reduceLT, Nat.reduceLeDiff, ↓reduceIte, Tg.isFull, Int.reduceToNat]
    refine regD_of (by kernel_rfl) ?_
    simp -dsimp (disch := first | rfl | omega) only [bA, bC, bH, recA, r60_3, r60_4, r60_5, r60_6, ↓vmP, vm0, vm1, vm2, vm3, vm4, vm5, vm6, vm7, vm8, vm9, vm10, vm11, vm12, vm13, vm14, vm15, vmC, vmN, Nat.reduceAdd, Nat.reduceMul, Nat.reduceSub, Nat.reduceEqDiff, Nat.reduceLT, Nat.reduceLeDiff, ↓reduceIte, Tg.isFull, Int.reduceToNat]
    refine hlp _ _ (by simp -dsimp (disch := first | rfl | omega) only [recA, bC, zB, List.take_zero, ↓vmP, vm0, vm1, vm2, vm3, vm4, vm5, vm6, vm7, vm8, vm9, vm10, vm11, vm12, vm13, vm14, vm15, vmC, vmN, Nat.reduceAdd, Nat.reduceMul, Nat.reduceSub, Nat.reduceEqDiff, Nat.reduceLT, Nat.reduceLeDiff, ↓reduceIte, Tg.isFull, Int.reduceToNat]; rfl) (fun f T => ?_)
    simp -dsimp (disch := first | rfl | omega) only [recA, bA, bC, zB, len7, r60_12, r60_13, hQ, ↓vmP, vm0, vm1, vm2, vm3, vm4, vm5, vm6, vm7, vm8, vm9, vm10, vm11, vm12, vm13, vm14, vm15, vmC, vmN, Nat.reduceAdd, Nat.reduceMul, Nat.reduceSub, Nat.reduceEqDiff, Nat.reduceLT, Nat.reduceLeDiff, ↓reduceIte, Tg.isFull, Int.reduceToNat]
theorem pgRPut : prog 60 = some c60 := rfl
end Go.Vm.Bk
