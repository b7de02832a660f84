/- A part of the proof of BacklogStallsSaid: YtnihjdfbiddggaaFz. -/
import Derived.Test.YtnihjdfbiddggaaKFy
/- Backlogs: the law of the stalls, in the machine. -/
set_option linter.unusedVariables false
set_option linter.unusedSimpArgs false
set_option maxHeartbeats 1000000
namespace Go.Vm.Bk
set_option maxRecDepth 20000 in
theorem St_loop {Q : Ex → St → Prop} (n : Nat) (hn : n ≤ 100) : ∀ (k j : Nat) (s : St), j + k = n →
    gc [(3, none), (4, none), (5, none), (6, none), (7, none), (8, none), (9, none)] s = ⟨gS [(3, .ptr 0 0), (4, .d (.int .i64 0)), (5, .d (.int .i64 1)), (6, .d (.bool true)), (7, .d (.int .i64 n)), (8, .d (.int .i64 (j - 63 : Nat))), (9, .d (.int .i64 j))], gH [(0, .box (bA (sT j) 1 4 2))], 1, 0, []⟩ →
    (∀ T, Q (.exit 0) ⟨gS ((3, .ptr 0 0) :: (4, .d (.int .i64 0)) :: (5, .d (.int .i64 1)) :: (6, .d (.bool true)) :: (7, .d (.int .i64 n)) :: (8, .d (.int .i64 (n - 63 : Nat))) :: T), gH [(0, .box (bA (sT n) 1 4 2))], 25, 0, []⟩) →
    wpW false prog (.loop [(3, none), (4, none), (5, none), (6, none), (7, none), (8, none), (9, none)] l7_14) s Q := by
  intro k
  induction k with
  | zero =>
    intro j s hj hg hQ
    refine wp_loop1 ?_
    rw [hg]
    generalize hJ : (fun s' => wpW false prog (.loop [(3, none), (4, none), (5, none), (6, none), (7, none), (8, none), (9, none)] l7_14) s' Q) = J
    unfold l7_14
    obtain rfl : j = n := by omega
    have e0 : ((j : Int) < (j : Int)) = False := eq_false (by omega)
    simp only [bA, bC] at hQ
    simp -dsimp (disch := first | rfl | omega) only [bA, bC, r7_6, e0, ↓vmP, vm0, vm1, vm2, vm3, vm4, vm5, vm6, vm7, vm8, vm9, vm10, vm11, vm12, vm13, vm14, vm15, vmC, vmN, Nat.reduceAdd, Nat.reduceMul, Nat.reduceSub, Nat.reduceEqDiff, Nat.reduceLT, Nat.reduceLeDiff, ↓reduceIte, Tg.isFull, Int.reduceToNat]
    exact hQ _
  | succ k ih =>
    intro j s hj hg hQ
    refine wp_loop1 ?_
    rw [hg]
    generalize hJ : (fun s' => wpW false prog (.loop [(3, none), (4, none), (5, none), (6, none), (7, none), (8, none), (9, none)] l7_14) s' Q) = J
    unfold l7_14
    have e0 : ((j : Int) < (n : Int)) = True := eq_true (by omega)
    have ej : ((j : Int) + 1) = ((j + 1 : Nat) : Int) := by omega
    have hin := inv_sT j
    obtain ⟨hst, hok⟩ := sT_step j
    have ho := Offer_eq (sT j) 1 4 2 (zk_of _) (hin.sm (by omega)) hin.ln 0 1
    have hinO := hin.offer 0 1
    have hrs : sstep (sT j) = if (offerB (sT j) 0 1).2.2 then (takeB (putB (offerB (sT j) 0 1).1 ⟨1005, 0, (offerB (sT j) 0 1).2.1, []⟩ true) 0 64).1 else (offerB (sT j) 0 1).1 := rfl
    rw [hst, hok] at hrs
    simp only [offR, hok] at ho
    generalize (offerB (sT j) 0 1).2.1 = sv at ho hrs
    generalize (offerB (sT j) 0 1).1 = c at ho hrs hinO
    have hinP := hinO.put ⟨1005, 0, sv, []⟩ (by simp) true
    have hp := Put_eq c 1 4 2 (zk_of c) (hinO.sm (by omega)) ⟨1005, 0, sv, []⟩ (by simp) true
    generalize putB c ⟨1005, 0, sv, []⟩ true = c2 at hp hrs hinP
    have hta := Take_eq c2 1 4 2 (zk_of c2) (hinP.sm (by omega)) 0 64
    simp only [takR] at hta
    generalize (takeB c2 0 64).2 = o2 at hta
    generalize (takeB c2 0 64).1 = d2 at hta hrs
    have ihh := fun s => ih (j + 1) s (by omega)
    generalize sT (j + 1) = d at hrs ihh
    generalize sT j = b at *
    simp only [bA, bC, recA] at ho hp hta
    rw [show psD [] = [] from rfl, show pz [] = 0 from rfl] at hp
    by_cases hx : j < 63
    · rw [decide_eq_true hx] at ho hrs
      rw [if_pos rfl] at hrs
      subst hrs
      have el : ((j - 63 : Nat) : Int) = ((j + 1 - 63 : Nat) : Int) := by omega
      simp only [bA, bC] at ihh
      simp -dsimp (disch := first | rfl | omega) only [bA, bC, recA, r7_6, r7_7, r7_8, r7_9, r7_10, r7_11, r7_12, r7_13, callW_fn pgOffer, callW_fn pgPut, callW_fn pgTake, ho, hp, hta, e0, ej, el, ↓vmP, vm0, vm1, vm2, vm3, vm4, vm5, vm6, vm7, vm8, vm9, vm10, vm11, vm12, vm13, vm14, vm15, vmC, vmN, Nat.reduceAdd, Nat.reduceMul, Nat.reduceSub, Nat.reduceEqDiff, Nat.reduceLT, Nat.reduceLeDiff, ↓reduceIte, Tg.isFull, Int.reduceToNat]
      rw [← hJ]
      exact ihh _ (by simp -dsimp (disch := first | rfl | omega) only [bA, bC, ↓vmP, vm0, vm1, vm2, vm3, vm4, vm5, vm6, vm7, vm8, vm9, vm10, vm11, vm12, vm13, vm14, vm15, vmC, vmN, Nat.reduceAdd, Nat.reduceMul, Nat.reduceSub, Nat.reduceEqDiff, Nat.reduceLT, Nat.reduceLeDiff, ↓reduceIte, Tg.isFull, Int.reduceToNat]) hQ
    · rw [decide_eq_false hx] at ho hrs
      rw [if_neg (by decide)] at hrs
      subst hrs
      have el : ((j - 63 : Nat) : Int) + 1 = ((j + 1 - 63 : Nat) : Int) := by omega
      simp only [bA, bC] at ihh
      simp -dsimp (disch := first | rfl | omega) only [bA, bC, recA, r7_6, r7_7, r7_8, r7_9, r7_10, r7_11, r7_12, r7_13, callW_fn pgOffer, ho, e0, ej, el, ↓vmP, vm0, vm1, vm2, vm3, vm4, vm5, vm6, vm7, vm8, vm9, vm10, vm11, vm12, vm13, vm14, vm15, vmC, vmN, Nat.reduceAdd, Nat.reduceMul, Nat.reduceSub, Nat.reduceEqDiff, Nat.reduceLT, Nat.reduceLeDiff, ↓reduceIte, Tg.isFull, Int.reduceToNat]
      rw [← hJ]
      exact ihh _ (by simp -dsimp (disch := first | rfl | omega) only [bA, bC, ↓vmP, vm0, vm1, vm2, vm3, vm4, vm5, vm6, vm7, vm8, vm9, vm10, vm11, vm12, vm13, vm14, vm15, vmC, vmN, Nat.reduceAdd, Nat.reduceMul, Nat.reduceSub, Nat.reduceEqDiff, Nat.reduceLT, Nat.reduceLeDiff, ↓reduceIte, Tg.isFull, Int.reduceToNat]) hQ
set_option maxRecDepth 20000 in
theorem law_stalls (r : UInt8) : runW false prog 7 [.d (.int .u8 r.toNat)] [] = some (.d (.bool true), [], []) := by
  refine run_of rfl ?_
  have hr := UInt8.toNat_lt r
  generalize r.toNat = n at hr ⊢
  have em : ((n : Int).tmod 16) = ((n % 16 : Nat) : Int) := by have := tmod_nat n 16; simpa using this
  have b0 := New_eq 64 0 1
  have hv : setOk 64 0 1 = true := by decide
  simp only [newR, hv, if_true] at b0
  have b1 := Offer_eq (conf zBk 64 0 1) 1 4 2 (zk_of _) (sm_z 64 0 1) (by decide) 0 1
  rw [sT_0] at b1
  simp only [offR] at b1
  have hlt : n % 16 < 16 := Nat.mod_lt _ (by omega)
  generalize n % 16 = q at em hlt
  have ek : (60 + (q : Int)) = ((60 + q : Nat) : Int) := by omega
  have hlp := fun Q s => St_loop (Q := Q) (60 + q) (by omega) (60 + q) 0 s (by omega)
  generalize 60 + q = k at ek hlp
  have e0 : ((0 : Nat) : Int) = 0 := rfl
  have hwr : IntKind.u8.wrap q = q := w_u8 (by omega)
  generalize conf zBk 64 0 1 = bb at b0 b1
  simp only [bA, bC] at b0 b1
  simp -dsimp (disch := first | rfl | omega) only [bA, bC, r7_0, r7_1, r7_2, r7_3, r7_4, r7_5, callW_fn pgNew, callW_fn pgOffer, b0, b1, em, ek, ↓vmP, vm0, vm1, vm2, vm3, vm4, vm5, vm6, vm7, vm8, vm9, vm10, vm11, vm12, vm13, vm14, vm15, vmC, vmN, Nat.reduceAdd, Nat.reduceMul, Nat.reduceSub, Nat.reduceEqDiff, Nat.reduceLT, Nat.reduceLeDiff, ↓reduceIte, Tg.isFull, Int.reduceToNat]
  refine hlp _ _ (by simp -dsimp (disch := first | rfl | omega) only [bA, bC, ↓vmP, vm0, vm1, vm2, vm3, vm4, vm5, vm6, vm7, vm8, vm9, vm10, vm11, vm12, vm13, vm14, vm15, vmC, vmN, Nat.reduceAdd, Nat.reduceMul, Nat.reduceSub, Nat.reduceEqDiff, Nat.reduceLT, Nat.reduceLeDiff, ↓reduceIte, Tg.isFull, Int.reduceToNat]; rfl) (fun T => ?_)
  have hmx : (if (k : Int) - 63 > 0 then (k : Int) - 63 else 0) = ((k - 63 : Nat) : Int) := by split <;> omega
  have hin := inv_sT k
  have hP := Put_eq (sT k) 1 4 2 (zk_of _) (hin.sm (by omega)) uR (by simp [uR]) true
  have hinP := hin.put uR (by simp [uR]) true
  have hT1 := Take_eq (putB (sT k) uR true) 1 4 2 (zk_of _) (hinP.sm (by omega)) 0 64
  have hinT := hinP.take 0 64
  have hT2 := Take_eq (takeB (putB (sT k) uR true) 0 64).1 1 4 2 (zk_of _) (hinT.sm (by omega)) 0 64
  have hp4 : (sT k).p4 = ((k - 63 : Nat) : Int) := rfl
  simp only [takR] at hT1 hT2
  rw [show uR = ⟨1005, 0, 1, []⟩ from rfl] at hP
  simp only [recA] at hP
  rw [show psD [] = [] from rfl, show pz [] = 0 from rfl] at hP
  rw [show (⟨1005, 0, 1, []⟩ : Rec) = uR from rfl] at hP
  by_cases hm : k - 63 = 0
  · have hsk : sT k = SA k 0 := by unfold sT; rw [hm, show min k 63 = k by omega]
    have h1 := sP_t0 k
    rw [← hsk] at h1
    have h2 : takeB (takeB (putB (sT k) uR true) 0 64).1 0 64 = ((takeB (putB (sT k) uR true) 0 64).1, []) := by
      rw [h1, hsk]
      simp [takeB, cutB, takeM, okTake, pend, SA]
    rw [h2] at hT2
    rw [hm] at hp4 hmx
    rw [hm]
    have ho : (takeB (putB (sT k) uR true) 0 64).2 = [uR] := by rw [h1]
    rw [ho] at hT1
    generalize (takeB (putB (sT k) uR true) 0 64).1 = d1 at hT1 hT2
    generalize putB (sT k) uR true = c1 at hP hT1
    have l1 : (recs [uR]).length = 1 := rfl
    have l2 : (recs []).length = 0 := rfl
    generalize recs [uR] = X1 at hT1 l1
    generalize recs [] = X2 at hT2 l2
    have i0 : ((0 : Nat) : Int) = 0 := rfl
    have i1 : ((1 : Nat) : Int) = 1 := rfl
    rw [i0] at hp4 hmx
    generalize sT k = b at *
    have e4 : (b.p4 = 0) = True := eq_true hp4
    simp only [bA, bC] at hP hT1 hT2
    simp -dsimp (disch := first | rfl | omega) only [i0, i1, bA, bC, r7_15, r7_16, r7_18, r7_19, r7_20, r7_21, r7_22, callW_fn pgPut, callW_fn pgTake, callW_fn pgAwake, hP, hT1, hT2, awake_eq, hmx, e4, l1, l2, ne_eq, not_true_eq_false, Bool.not_true, ↓vmP, vm0, vm1, vm2, vm3, vm4, vm5, vm6, vm7, vm8, vm9, vm10, vm11, vm12, vm13, vm14, vm15, vmC, vmN, Nat.reduceAdd, Nat.reduceMul, Nat.reduceSub, Nat.reduceEqDiff, Nat.reduceLT, Nat.reduceLeDiff, ↓reduceIte, Tg.isFull, Int.reduceToNat]
  · obtain ⟨m, hm2⟩ : ∃ m, k - 63 = m + 1 := ⟨k - 63 - 1, by omega⟩
    have hsk : sT k = SA 63 (m + 1) := by unfold sT; rw [hm2, show min k 63 = 63 by omega]
    have h1 := sP_t1 m
    rw [← hsk] at h1
    have hlr : lossR 65 (64 + ((m + 1 : Nat) : Int)) 0 0 ((m + 1 : Nat) : Int) 0 (64 + ((m + 1 : Nat) : Int) + 1) = lossR (sT k).p0 (sT k).p1 (sT k).p2 (sT k).p3 (sT k).p4 0 ((sT k).serial + 1) := by
      rw [hsk]
      simp [SA]
      try omega
    have hc1 : (takeB (putB (sT k) uR true) 0 64).2 = [uR] := by rw [h1]
    have hc2 : (takeB (putB (sT k) uR true) 0 64).1.queue = [lossR 65 (64 + ((m + 1 : Nat) : Int)) 0 0 ((m + 1 : Nat) : Int) 0 (64 + ((m + 1 : Nat) : Int) + 1)] := by rw [hlr, h1, hsk]; rfl
    have hc3 : pend (takeB (putB (sT k) uR true) 0 64).1 = false := by rw [h1]; rfl
    have h2 : (takeB (takeB (putB (sT k) uR true) 0 64).1 0 64).2 = [lossR 65 (64 + ((m + 1 : Nat) : Int)) 0 0 ((m + 1 : Nat) : Int) 0 (64 + ((m + 1 : Nat) : Int) + 1)] := by
      generalize (takeB (putB (sT k) uR true) 0 64).1 = d1 at hc2 ⊢
      unfold takeB
      show List.take (takeM _ 64) _ = _
      rw [hc2, takeM_64 _ (by simp)]; rfl
    have h3 : pend (takeB (takeB (putB (sT k) uR true) 0 64).1 0 64).1 = false := by
      have : ∀ n, okTake (cutB (takeB (putB (sT k) uR true) 0 64).1 n) 0 = false := fun n => by
        have : pend (cutB (takeB (putB (sT k) uR true) 0 64).1 n) = false := hc3
        simp [okTake, this]
      generalize (takeB (putB (sT k) uR true) 0 64).1 = d1 at this hc3
      unfold takeB
      rw [this]
      exact hc3
    have hz0 := pend_of h3
    rw [hc1] at hT1
    rw [h2] at hT2
    generalize (takeB (takeB (putB (sT k) uR true) 0 64).1 0 64).1 = d2 at hT2 hz0
    clear h1 hc1 hc2 hc3 h2 h3 hlr
    generalize (takeB (putB (sT k) uR true) 0 64).1 = d1 at hT1 hT2 hinT
    generalize putB (sT k) uR true = c1 at hP hT1 hinP
    rw [hm2] at hp4 hmx
    rw [hm2]
    have l1 : (recs [uR]).length = 1 := rfl
    generalize recs [uR] = X1 at hT1 l1
    have hml : m ≤ 100 := by omega
    have hm0 : (((m + 1 : Nat) : Int) = 0) = False := eq_false (by omega)
    generalize ((m + 1 : Nat) : Int) = w at *
    have hLs := RLoss_eq 65 (64 + w) 0 0 w 0
    have hSt := RStamp_eq [lossR 65 (64 + w) 0 0 w 0 0] (by simp) (fun x hx => by simp at hx; subst hx; simp [lossR, lossP]) 4 rfl (64 + w + 1)
    rw [List.map_cons, List.map_nil, lossR_stp] at hSt
    have hSa := sRec_eq (lossR 65 (64 + w) 0 0 w 0 (64 + w + 1)) (by simp [lossR, lossP])
    have hat : (recs [lossR 65 (64 + w) 0 0 w 0 (64 + w + 1)])[0]? = some (recC (lossR 65 (64 + w) 0 0 w 0 (64 + w + 1))) := rfl
    have h0 := recs_one (lossR 65 (64 + w) 0 0 w 0 0)
    have l2 : (recs [lossR 65 (64 + w) 0 0 w 0 (64 + w + 1)]).length = 1 := rfl
    have hee := eqs_z d2.p0 d2.p1 d2.p2 d2.p3 d2.p4
    rw [decide_eq_true hz0] at hee
    have i1 : ((1 : Nat) : Int) = 1 := rfl
    have hwb : 0 ≤ w ∧ w ≤ 1000 := by omega
    generalize lossR 65 (64 + w) 0 0 w 0 (64 + w + 1) = lr at hT2 hSt hSa hat l2
    generalize lossR 65 (64 + w) 0 0 w 0 0 = l0 at hLs hSt h0
    generalize recs [lr] = X2 at hT2 hSt hat l2
    generalize recs [l0] = X0 at hSt h0
    generalize sT k = b at *
    have e4 : (b.p4 = w) = True := eq_true hp4
    have e5 : (64 + w) = 64 + w := rfl
    simp only [bA, bC] at hP hT1 hT2
    simp only [recA, recC] at hLs hSa hat
    simp -dsimp (disch := first | rfl | omega) only [i1, bA, bC, r7_15, r7_16, r7_18, r7_19, r7_20, r7_21, r7_22, r7_23, callW_fn pgPut, callW_fn pgTake, callW_fn pgAwake, callW_fn pgRLoss, callW_fn pgStamp, callW_fn pg_sRec, hP, hT1, hT2, awake_eq, hmx, e4, l1, l2, hm0, hat, hLs, h0, hSt, hSa, hee, ne_eq, not_true_eq_false, Bool.not_true, ↓vmP, vm0, vm1, vm2, vm3, vm4, vm5, vm6, vm7, vm8, vm9, vm10, vm11, vm12, vm13, vm14, vm15, vmC, vmN, Nat.reduceAdd, Nat.reduceMul, Nat.reduceSub, Nat.reduceEqDiff, Nat.reduceLT, Nat.reduceLeDiff, ↓reduceIte, Tg.isFull, Int.reduceToNat]
    refine regD_of (by kernel_rfl) ?_
    simp -dsimp (disch := first | rfl | omega) only [bA, bC, ↓vmP, vm0, vm1, vm2, vm3, vm4, vm5, vm6, vm7, vm8, vm9, vm10, vm11, vm12, vm13, vm14, vm15, vmC, vmN, Nat.reduceAdd, Nat.reduceMul, Nat.reduceSub, Nat.reduceEqDiff, Nat.reduceLT, Nat.reduceLeDiff, ↓reduceIte, Tg.isFull, Int.reduceToNat]
end Go.Vm.Bk
