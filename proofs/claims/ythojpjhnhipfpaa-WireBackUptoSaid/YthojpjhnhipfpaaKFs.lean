/- A part of the proof of WireBackUptoSaid: YthojpjhnhipfpaaFs. -/
import Derived.Test.YthojpjhnhipfpaaKFr
/- The bytes of a message: both read the same. -/
set_option linter.unusedVariables false
set_option linter.unusedSimpArgs false
set_option maxHeartbeats 1000000
namespace Go.Vm.Wr
theorem rd_rel (W : List UInt8) (fs : List Int) (hl : lst (kd W) = some fs) (m : Msg) (ok : Bool) (hp : (prs fs (W.drop 5) (m0 (kd W)) = none ∧ ok = false) ∨ (∃ m' b', prs fs (W.drop 5) (m0 (kd W)) = some (m', b') ∧ nM m' = m ∧ ok = decide (b'.length = 0))) : (dR W).2 = (ok && vld m && decide (enc m = W)) ∧ ((dR W).2 = true → m = (dR W).1) := by
  rcases hp with ⟨hn, rfl⟩ | ⟨m', b', hp, rfl, rfl⟩
  · have : dR W = (zM, false) := by simp [dR, hl, hn]
    rw [this]; simp
  · have hR : dR W = (nM m', vld m' && decide (enc m' = W)) := by simp [dR, hl, hp]
    have hvv : vld (nM m') = vld m' := vld_tg _ _ _ _ _ _ _ _ _ _
    have hee : enc (nM m') = enc m' := enc_tg m' .any
    rw [hR, hvv, hee]
    refine ⟨?_, fun _ => rfl⟩
    by_cases hv : vld m' = true
    · by_cases he : enc m' = W
      · obtain ⟨gs, q1, q2, q3⟩ := prs_fbl m' hv
        have hk := enc_kd m' (by omega)
        have ht := enc_tail m' gs q1
        rw [he] at hk ht
        rw [← hk, hl] at q1
        cases q1
        rw [← hk, ← ht, hp] at q3
        have q4 : b' = [] := by simp at q3; exact q3.2
        subst q4
        simp [hv, he]
      · simp [he]
    · have hv' : vld m' = false := by simpa using hv
      simp [hv']
theorem lst_none (k : Int) (h1 : k ≠ 1) (h2 : k ≠ 2) (h3 : k ≠ 3) (h4 : k ≠ 4) (h5 : k ≠ 5) : us k = (false, false, false, false) ∧ (lst k = none ∨ lst k = some []) := by
  refine ⟨by simp [us, h1, h2, h3, h4, h5], ?_⟩
  by_cases h6 : k = 6
  · subst h6; exact .inr rfl
  by_cases h7 : k = 7
  · subst h7; exact .inr rfl
  exact .inl (by simp [lst, h1, h2, h3, h4, h5, h6, h7])
theorem RDec_ex (W : List UInt8) (h5 : 5 ≤ W.length) (hW : W.length ≤ 1000000) : ∃ (m : Msg) (ok : Bool), runW false prog 44 [.d (.sl .any 1 (u8s (W.drop 4)))] [] = some (.tup [.agg (mC m), .d (.bool ok)], [], []) ∧ Wf m ∧ m.tg = .any ∧ (dR W).2 = (ok && vld m && decide (enc m = W)) ∧ ((dR W).2 = true → m = (dR W).1) := by
  have hB : (W.drop 5).length ≤ 1000000 := by simp; omega
  by_cases k1 : kd W = 1
  · by_cases hc : ((W.drop 5).getD 0 0).toNat + 1 ≤ (W.drop 5).length
    · have hr := RD_1 W h5 hW k1 hc
      refine ⟨_, _, hr, ⟨?_, by simp, rfl⟩, rfl, rd_rel W [1, 2, 3] (by rw [k1]; rfl) _ _ ?_⟩
      · have := ((W.drop 5).getD 0 0).toNat_lt
        show (((W.drop 5).drop 1).take ((W.drop 5).getD 0 0).toNat).length ≤ _
        rw [List.length_take]; omega
      · rw [k1]
        generalize W.drop 5 = b at hc
        generalize hcc : (b.getD 0 0).toNat = c at hc
        have hf : fst1 1 b (m0 1) = some ({ m0 1 with host := (b.drop 1).take c }, b.drop (c + 1)) := by
          unfold fst1
          rw [if_pos rfl, hcc, if_neg (by omega), if_neg (by omega)]
        simp only [prs, hf]
        generalize b.drop (c + 1) = b2
        generalize (b.drop 1).take c = ho
        cases h1 : rd b2 0 0 with
        | none => refine .inl ⟨by simp [fst1, h1], by simp [rn, h1]⟩
        | some p =>
          cases h2 : rd (b2.drop p.2) 0 0 with
          | none => refine .inl ⟨by simp [fst1, h1, h2], by simp [rn, h1, h2]⟩
          | some q => exact .inr ⟨_, _, (by simp only [fst1, h1, h2, Int.reduceEq, if_true, if_false]; rfl), by simp [nM, m0, rn, h1, h2], by simp [rn, h1, h2]⟩
    · have hr := RD_1n W h5 hW k1 hc
      refine ⟨_, _, hr, ⟨by simp, by simp, rfl⟩, rfl, rd_rel W [1, 2, 3] (by rw [k1]; rfl) _ _ (.inl ⟨?_, rfl⟩)⟩
      generalize W.drop 5 = b at hc
      have hf : fst1 1 b (m0 (kd W)) = none := by
        unfold fst1
        rw [if_pos rfl]
        split
        · rfl
        · rw [if_pos (by omega)]
      simp only [prs, hf]
  by_cases k2 : kd W = 2
  · have hr := RD_2 W h5 hW k2
    refine ⟨_, _, hr, ⟨by simp, by simp, rfl⟩, rfl, rd_rel W [3] (by rw [k2]; rfl) _ _ ?_⟩
    rw [k2]
    generalize W.drop 5 = b
    simp only [prs]
    cases h1 : rd b 0 0 with
    | none => refine .inl ⟨by simp [fst1, h1], by simp [rn, h1]⟩
    | some p => exact .inr ⟨_, _, (by simp only [fst1, h1, Int.reduceEq, if_true, if_false]; rfl), by simp [nM, m0, rn, h1], by simp [rn, h1]⟩
  by_cases k3 : kd W = 3
  · have hr := RD_3 W h5 hW k3
    have hn := rn_len (W.drop 5) false
    refine ⟨_, _, hr, ⟨by simp, by show (rn (W.drop 5) false).2.1.length ≤ _; omega, rfl⟩, rfl, rd_rel W [3, 5] (by rw [k3]; rfl) _ _ ?_⟩
    rw [k3]
    generalize W.drop 5 = b
    simp only [prs]
    cases h1 : rd b 0 0 with
    | none => refine .inl ⟨by simp [fst1, h1], by simp [rn, h1]⟩
    | some p => exact .inr ⟨_, _, (by simp only [fst1, h1, Int.reduceEq, if_true, if_false]; rfl), by simp [nM, m0, rn, h1], by simp [rn, h1]⟩
  by_cases k4 : kd W = 4
  · have hr := RD_4 W h5 hW k4
    refine ⟨_, _, hr, ⟨by simp, by simp, rfl⟩, rfl, rd_rel W [3, 4] (by rw [k4]; rfl) _ _ ?_⟩
    rw [k4]
    generalize W.drop 5 = b
    simp only [prs]
    cases h1 : rd b 0 0 with
    | none => refine .inl ⟨by simp [fst1, h1], by simp [rn, h1]⟩
    | some p =>
      cases h2 : rd (b.drop p.2) 0 0 with
      | none => refine .inl ⟨by simp [fst1, h1, h2], by simp [rn, h1, h2]⟩
      | some q => exact .inr ⟨_, _, (by simp only [fst1, h1, h2, Int.reduceEq, if_true, if_false]; rfl), by simp [nM, m0, rn, h1, h2], by simp [rn, h1, h2]⟩
  by_cases k5 : kd W = 5
  · have hr := RD_5 W h5 hW k5
    refine ⟨_, _, hr, ⟨by simp, by simp, rfl⟩, rfl, rd_rel W [3] (by rw [k5]; rfl) _ _ ?_⟩
    rw [k5]
    generalize W.drop 5 = b
    simp only [prs]
    cases h1 : rd b 0 0 with
    | none => refine .inl ⟨by simp [fst1, h1], by simp [rn, h1]⟩
    | some p => exact .inr ⟨_, _, (by simp only [fst1, h1, Int.reduceEq, if_true, if_false]; rfl), by simp [nM, m0, rn, h1], by simp [rn, h1]⟩
  obtain ⟨hu, hl⟩ := lst_none _ k1 k2 k3 k4 k5
  have hr := RD_0 W h5 hW hu
  rcases hl with hl | hl
  · refine ⟨_, _, hr, ⟨by simp, by simp, rfl⟩, rfl, ?_⟩
    have hR : dR W = (zM, false) := by simp [dR, hl]
    have hv : vld ⟨kd W, [], 0, 0, 0, [], .any, 0⟩ = false := by simp [vld, hl]
    rw [hR, hv]; simp
  · exact ⟨_, _, hr, ⟨by simp, by simp, rfl⟩, rfl, rd_rel W [] hl _ _ (.inr ⟨_, _, rfl, rfl, by simp⟩)⟩
end Go.Vm.Wr
