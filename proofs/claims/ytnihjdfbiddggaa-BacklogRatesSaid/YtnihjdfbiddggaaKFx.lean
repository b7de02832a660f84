/- A part of the proof of BacklogRatesSaid: YtnihjdfbiddggaaFx. -/
import Derived.Test.YtnihjdfbiddggaaKFw
/- Backlogs: the law of the rates, in the machine. -/
set_option linter.unusedVariables false
set_option linter.unusedSimpArgs false
set_option maxHeartbeats 1000000
namespace Go.Vm.Bk
def steps6 : List Int := [0, 0, 1, 300, 999, 1000]
theorem steps6_b (i : Nat) : 0 ≤ steps6.getD i 0 ∧ steps6.getD i 0 ≤ 1000 := by
  match i with
  | 0 => decide
  | 1 => decide
  | 2 => decide
  | 3 => decide
  | 4 => decide
  | 5 => decide
  | i + 6 => simp [steps6]
set_option maxRecDepth 20000 in
theorem Rt_loop {Q : Ex → St → Prop} (l : List Int) (hl : l.length ≤ 9223372036854775807) (hi : ∀ x ∈ l, InI x) (most : Int) (hm : 1 ≤ most) (hm6 : most ≤ 6) : ∀ (k j : Nat) (t used : Int) (b : Bk) (s : St), j + k = 30 → RI most t used b → Inv (3 * j) b → (0 ≤ t ∧ t ≤ 1000 * j) → (0 ≤ used ∧ used ≤ j) →
    gc [(5, none), (6, none), (7, none), (9, none), (10, none), (11, none)] s = ⟨gS [(5, .ptr 0 0), (6, .d (.int .i64 most)), (7, .ptr 1 0), (9, .d (.int .i64 t)), (10, .d (.int .i64 used)), (11, .d (.int .i64 j))], gH [(0, src l j), (1, .box (bA b 1 4 2))], 2, 0, []⟩ →
    (∀ b t used T nx, RI most t used b → Inv 90 b → Q (.exit 0) ⟨gS ((5, .ptr 0 0) :: (6, .d (.int .i64 most)) :: (7, .ptr 1 0) :: T), gH [(0, src l 30), (1, .box (bA b 1 4 2))], nx, 0, []⟩) →
    wpW false prog (.loop [(5, none), (6, none), (7, none), (9, none), (10, none), (11, none)] l8_19) s Q := by
  intro k
  induction k with
  | zero =>
    intro j t used b s hj hri hin ht hu hg hQ
    refine wp_loop1 ?_
    rw [hg]
    generalize hJ : (fun s' => wpW false prog (.loop [(5, none), (6, none), (7, none), (9, none), (10, none), (11, none)] l8_19) s' Q) = J
    unfold l8_19
    obtain rfl : j = 30 := by omega
    have e0 : (((30 : Nat) : Int) < 30) = False := eq_false (by omega)
    have hh := fun T nx => hQ b t used T nx hri hin
    simp only [src, bA, bC] at hh
    simp -dsimp (disch := first | rfl | omega) only [src, bA, bC, r8_6, e0, ↓vmP, vm0, vm1, vm2, vm3, vm4, vm5, vm6, vm7, vm8, vm9, vm10, vm11, vm12, vm13, vm14, vm15, vmC, vmN, Nat.reduceAdd, Nat.reduceMul, Nat.reduceSub, Nat.reduceEqDiff, Nat.reduceLT, Nat.reduceLeDiff, ↓reduceIte, Tg.isFull, Int.reduceToNat]
    exact hh _ _
  | succ k ih =>
    intro j t used b s hj hri hin ht hu hg hQ
    refine wp_loop1 ?_
    rw [hg]
    generalize hJ : (fun s' => wpW false prog (.loop [(5, none), (6, none), (7, none), (9, none), (10, none), (11, none)] l8_19) s' Q) = J
    unfold l8_19
    have e0 : ((j : Int) < 30) = True := eq_true (by omega)
    have ej : ((j : Int) + 1) = ((j + 1 : Nat) : Int) := by omega
    have hpk := Pick_eq l j steps6 (by omega) hl hi (by decide) (by decide)
    have hsb := steps6_b (sN l j steps6.length)
    rw [show i64s steps6 = [[.int .i64 0], [.int .i64 0], [.int .i64 1], [.int .i64 300], [.int .i64 999], [.int .i64 1000]] from rfl] at hpk
    generalize steps6.getD (sN l j steps6.length) 0 = st at hpk hsb
    have hri2 := ri_time (t' := t + st) hri ht.1 (by omega)
    have ht2 : 0 ≤ t + st ∧ t + st ≤ 1000 * (j + 1 : Nat) := by omega
    have hok := ri_ok hri2 hm (by omega)
    have hnx := ri_step hri2 hm (by omega)
    have hin2 := inv_rstep hin (t + st)
    have hsm := hin.sm (by omega)
    have ho := Offer_eq b 1 4 2 (zk_of b) hsm hin.ln (t + st) 1
    have hq1 := tdiv_b (t := t) (by omega)
    have hq2 := tdiv_b (t := t + st) (by omega)
    have hru : 0 ≤ rdu t (t + st) used ∧ rdu t (t + st) used ≤ j := by unfold rdu; split <;> omega
    have hrd : rdu t (t + st) used = if (t + st).tdiv 1000 = t.tdiv 1000 then used else 0 := rfl
    have hinO := hin.offer (t + st) 1
    have hrs : rstep b (t + st) = if (offerB b (t + st) 1).2.2 then (takeB (putB (offerB b (t + st) 1).1 ⟨1005, t + st, (offerB b (t + st) 1).2.1, []⟩ true) (t + st) 64).1 else (takeB (offerB b (t + st) 1).1 (t + st) 64).1 := rfl
    rw [hok] at hrs
    simp only [offR, hok] at ho
    generalize (offerB b (t + st) 1).2.1 = sv at ho hrs
    generalize (offerB b (t + st) 1).1 = c at ho hrs hinO
    have hinP := hinO.put ⟨1005, t + st, sv, []⟩ (by simp) true
    have hp := Put_eq c 1 4 2 (zk_of c) (hinO.sm (by omega)) ⟨1005, t + st, sv, []⟩ (by simp) true
    generalize putB c ⟨1005, t + st, sv, []⟩ true = c2 at hp hrs hinP
    have hta := Take_eq c2 1 4 2 (zk_of c2) (hinP.sm (by omega)) (t + st) 64
    have htb := Take_eq c 1 4 2 (zk_of c) (hinO.sm (by omega)) (t + st) 64
    simp only [takR] at hta htb
    generalize (takeB c2 (t + st) 64).2 = o2 at hta
    generalize (takeB c (t + st) 64).2 = o1 at htb
    generalize (takeB c2 (t + st) 64).1 = d2 at hta hrs
    generalize (takeB c (t + st) 64).1 = d1 at htb hrs
    generalize rstep b (t + st) = d at hnx hin2 hrs
    generalize hT : t + st = t' at *
    generalize rdu t t' used = uu at *
    have hwr1 : IntKind.i64.wrap (t.tdiv 1000) = t.tdiv 1000 := w_i64 (by omega)
    have hwr2 : IntKind.i64.wrap (t'.tdiv 1000) = t'.tdiv 1000 := w_i64 (by omega)
    have ihh := fun used' s hr hu' => ih (j + 1) t' used' d s (by omega) hr (by rw [show 3 * (j + 1) = 3 * j + 3 by omega]; exact hin2) ht2 hu'
    simp only [bA, bC, src, recA] at ho hp hta htb hpk
    rw [show psD [] = [] from rfl, show pz [] = 0 from rfl] at hp
    have hbt : (true == true) = true := rfl
    have hbf : (false == false) = true := rfl
    by_cases hw : t'.tdiv 1000 = t.tdiv 1000
    · have e1 : (t'.tdiv 1000 = t.tdiv 1000) = True := eq_true hw
      rw [if_pos hw] at hrd
      by_cases hx : uu < most
      · have e2 : (uu < most) = True := eq_true hx
        rw [decide_eq_true hx] at ho hrs
        rw [if_pos hx] at hnx
        rw [if_pos rfl] at hrs
        subst hrs
        have ih2 := fun s => ihh (uu + 1) s hnx (by omega)
        simp only [bA, bC, src] at ih2
        rw [hrd] at e2 ih2
        simp -dsimp (disch := first | rfl | omega) only [src, bA, bC, recA, r8_6, r8_7, r8_8, r8_9, r8_10, r8_11, r8_12, r8_14, r8_15, r8_16, r8_17, r8_18, callW_fn pgPick, callW_fn pgOffer, callW_fn pgPut, callW_fn pgTake, hpk, ho, hp, hta, e0, e1, e2, ej, hT, hwr1, hwr2, hbt, hbf, Bool.not_true, ne_eq, not_true_eq_false, not_false_eq_true, ↓vmP, vm0, vm1, vm2, vm3, vm4, vm5, vm6, vm7, vm8, vm9, vm10, vm11, vm12, vm13, vm14, vm15, vmC, vmN, Nat.reduceAdd, Nat.reduceMul, Nat.reduceSub, Nat.reduceEqDiff, Nat.reduceLT, Nat.reduceLeDiff, ↓reduceIte, Tg.isFull, Int.reduceToNat]
        rw [← hJ]
        exact ih2 _ (by simp -dsimp (disch := first | rfl | omega) only [src, bA, bC, ↓vmP, vm0, vm1, vm2, vm3, vm4, vm5, vm6, vm7, vm8, vm9, vm10, vm11, vm12, vm13, vm14, vm15, vmC, vmN, Nat.reduceAdd, Nat.reduceMul, Nat.reduceSub, Nat.reduceEqDiff, Nat.reduceLT, Nat.reduceLeDiff, ↓reduceIte, Tg.isFull, Int.reduceToNat]) hQ
      · have e2 : (uu < most) = False := eq_false hx
        rw [decide_eq_false hx] at ho hrs
        rw [if_neg hx] at hnx
        rw [if_neg (by decide)] at hrs
        subst hrs
        have ih2 := fun s => ihh uu s hnx (by omega)
        simp only [bA, bC, src] at ih2
        rw [hrd] at e2 ih2
        simp -dsimp (disch := first | rfl | omega) only [src, bA, bC, recA, r8_6, r8_7, r8_8, r8_9, r8_10, r8_11, r8_12, r8_14, r8_15, r8_16, r8_17, r8_18, callW_fn pgPick, callW_fn pgOffer, callW_fn pgPut, callW_fn pgTake, hpk, ho, htb, e0, e1, e2, ej, hT, hwr1, hwr2, hbt, hbf, Bool.not_true, ne_eq, not_true_eq_false, not_false_eq_true, ↓vmP, vm0, vm1, vm2, vm3, vm4, vm5, vm6, vm7, vm8, vm9, vm10, vm11, vm12, vm13, vm14, vm15, vmC, vmN, Nat.reduceAdd, Nat.reduceMul, Nat.reduceSub, Nat.reduceEqDiff, Nat.reduceLT, Nat.reduceLeDiff, ↓reduceIte, Tg.isFull, Int.reduceToNat]
        rw [← hJ]
        exact ih2 _ (by simp -dsimp (disch := first | rfl | omega) only [src, bA, bC, ↓vmP, vm0, vm1, vm2, vm3, vm4, vm5, vm6, vm7, vm8, vm9, vm10, vm11, vm12, vm13, vm14, vm15, vmC, vmN, Nat.reduceAdd, Nat.reduceMul, Nat.reduceSub, Nat.reduceEqDiff, Nat.reduceLT, Nat.reduceLeDiff, ↓reduceIte, Tg.isFull, Int.reduceToNat]) hQ
    · have e1 : (t'.tdiv 1000 = t.tdiv 1000) = False := eq_false hw
      rw [if_neg hw] at hrd
      by_cases hx : uu < most
      · have e2 : (uu < most) = True := eq_true hx
        rw [decide_eq_true hx] at ho hrs
        rw [if_pos hx] at hnx
        rw [if_pos rfl] at hrs
        subst hrs
        have ih2 := fun s => ihh (uu + 1) s hnx (by omega)
        simp only [bA, bC, src] at ih2
        rw [hrd] at e2 ih2
        simp -dsimp (disch := first | rfl | omega) only [src, bA, bC, recA, r8_6, r8_7, r8_8, r8_9, r8_10, r8_11, r8_12, r8_14, r8_15, r8_16, r8_17, r8_18, callW_fn pgPick, callW_fn pgOffer, callW_fn pgPut, callW_fn pgTake, hpk, ho, hp, hta, e0, e1, e2, ej, hT, hwr1, hwr2, hbt, hbf, Bool.not_true, ne_eq, not_true_eq_false, not_false_eq_true, ↓vmP, vm0, vm1, vm2, vm3, vm4, vm5, vm6, vm7, vm8, vm9, vm10, vm11, vm12, vm13, vm14, vm15, vmC, vmN, Nat.reduceAdd, Nat.reduceMul, Nat.reduceSub, Nat.reduceEqDiff, Nat.reduceLT, Nat.reduceLeDiff, ↓reduceIte, Tg.isFull, Int.reduceToNat]
        rw [← hJ]
        exact ih2 _ (by simp -dsimp (disch := first | rfl | omega) only [src, bA, bC, ↓vmP, vm0, vm1, vm2, vm3, vm4, vm5, vm6, vm7, vm8, vm9, vm10, vm11, vm12, vm13, vm14, vm15, vmC, vmN, Nat.reduceAdd, Nat.reduceMul, Nat.reduceSub, Nat.reduceEqDiff, Nat.reduceLT, Nat.reduceLeDiff, ↓reduceIte, Tg.isFull, Int.reduceToNat]) hQ
      · have e2 : (uu < most) = False := eq_false hx
        rw [decide_eq_false hx] at ho hrs
        rw [if_neg hx] at hnx
        rw [if_neg (by decide)] at hrs
        subst hrs
        have ih2 := fun s => ihh uu s hnx (by omega)
        simp only [bA, bC, src] at ih2
        rw [hrd] at e2 ih2
        simp -dsimp (disch := first | rfl | omega) only [src, bA, bC, recA, r8_6, r8_7, r8_8, r8_9, r8_10, r8_11, r8_12, r8_14, r8_15, r8_16, r8_17, r8_18, callW_fn pgPick, callW_fn pgOffer, callW_fn pgPut, callW_fn pgTake, hpk, ho, htb, e0, e1, e2, ej, hT, hwr1, hwr2, hbt, hbf, Bool.not_true, ne_eq, not_true_eq_false, not_false_eq_true, ↓vmP, vm0, vm1, vm2, vm3, vm4, vm5, vm6, vm7, vm8, vm9, vm10, vm11, vm12, vm13, vm14, vm15, vmC, vmN, Nat.reduceAdd, Nat.reduceMul, Nat.reduceSub, Nat.reduceEqDiff, Nat.reduceLT, Nat.reduceLeDiff, ↓reduceIte, Tg.isFull, Int.reduceToNat]
        rw [← hJ]
        exact ih2 _ (by simp -dsimp (disch := first | rfl | omega) only [src, bA, bC, ↓vmP, vm0, vm1, vm2, vm3, vm4, vm5, vm6, vm7, vm8, vm9, vm10, vm11, vm12, vm13, vm14, vm15, vmC, vmN, Nat.reduceAdd, Nat.reduceMul, Nat.reduceSub, Nat.reduceEqDiff, Nat.reduceLT, Nat.reduceLeDiff, ↓reduceIte, Tg.isFull, Int.reduceToNat]) hQ
set_option maxRecDepth 20000 in
theorem law_rates (l : List Int) (hl : l.length ≤ 9223372036854775807) (hi : ∀ x ∈ l, InI x) (r : UInt8) : runW false prog 8 [.d (.sl .any 1 (i64s l)), .d (.int .u8 r.toNat)] [] = some (.d (.bool true), [], []) := by
  refine run_of rfl ?_
  have a0 := SNew_eq l
  have hr := UInt8.toNat_lt r
  generalize r.toNat = n at hr ⊢
  have em : ((n : Int).tmod 6) = ((n % 6 : Nat) : Int) := by have := tmod_nat n 6; simpa using this
  have b0 := New_eq 64 (1 + ((n % 6 : Nat) : Int)) 2
  have hv : setOk 64 (1 + ((n % 6 : Nat) : Int)) 2 = true := by simp only [setOk, decide_eq_true_eq]; omega
  simp only [newR, hv, if_true] at b0
  have hri : RI (1 + ((n % 6 : Nat) : Int)) 0 0 (conf zBk 64 (1 + ((n % 6 : Nat) : Int)) 2) := ⟨rfl, rfl, rfl, rfl, rfl, by simp [conf, zBk], rfl, rfl, .inl ⟨rfl, rfl⟩⟩
  have hlp := fun Q s => Rt_loop (Q := Q) l hl hi (1 + ((n % 6 : Nat) : Int)) (by omega) (by omega) 30 0 0 0 (conf zBk 64 (1 + ((n % 6 : Nat) : Int)) 2) s (by omega) hri (inv_z _ _ _) (by omega) (by omega)
  have hm6 : 0 ≤ ((n % 6 : Nat) : Int) ∧ ((n % 6 : Nat) : Int) ≤ 5 := by omega
  generalize ((n % 6 : Nat) : Int) = q at *
  have e0 : ((0 : Nat) : Int) = 0 := rfl
  generalize conf zBk 64 (1 + q) 2 = b at b0 hlp
  simp only [src, bA, bC] at a0 b0
  simp only [src, bA, bC, e0] at hlp
  rw [e0] at a0
  have hwr : IntKind.u8.wrap q = q := w_u8 (by omega)
  simp -dsimp (disch := first | rfl | omega) only [bA, bC, r8_0, r8_1, r8_2, r8_3, r8_4, r8_5, callW_fn pgSNew, callW_fn pgNew, a0, b0, em, ↓vmP, vm0, vm1, vm2, vm3, vm4, vm5, vm6, vm7, vm8, vm9, vm10, vm11, vm12, vm13, vm14, vm15, vmC, vmN, Nat.reduceAdd, Nat.reduceMul, Nat.reduceSub, Nat.reduceEqDiff, Nat.reduceLT, Nat.reduceLeDiff, ↓reduceIte, Tg.isFull, Int.reduceToNat]
  refine hlp _ _ (by simp -dsimp (disch := first | rfl | omega) only [bA, bC, ↓vmP, vm0, vm1, vm2, vm3, vm4, vm5, vm6, vm7, vm8, vm9, vm10, vm11, vm12, vm13, vm14, vm15, vmC, vmN, Nat.reduceAdd, Nat.reduceMul, Nat.reduceSub, Nat.reduceEqDiff, Nat.reduceLT, Nat.reduceLeDiff, ↓reduceIte, Tg.isFull, Int.reduceToNat]) (fun b' t used T nx hri2 hin2 => ?_)
  have hnl := notes_len b'.nts
  have hn16 : (((b'.nts.length : Nat) : Int) ≤ 16) = True := eq_true (by have := hin2.ln; omega)
  have e3 : (b'.p3 = 0) = True := eq_true hri2.p3
  have e4 : (b'.p4 = 0) = True := eq_true hri2.p4
  simp -dsimp (disch := first | rfl | omega) only [bA, bC, r8_20, callW_fn pgAwake, awake_eq, hnl, hn16, e3, e4, ↓vmP, vm0, vm1, vm2, vm3, vm4, vm5, vm6, vm7, vm8, vm9, vm10, vm11, vm12, vm13, vm14, vm15, vmC, vmN, Nat.reduceAdd, Nat.reduceMul, Nat.reduceSub, Nat.reduceEqDiff, Nat.reduceLT, Nat.reduceLeDiff, ↓reduceIte, Tg.isFull, Int.reduceToNat]
end Go.Vm.Bk
