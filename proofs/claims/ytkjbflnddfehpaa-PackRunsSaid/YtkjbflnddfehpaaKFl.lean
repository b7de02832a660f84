/- A part of the proof of PackRunsSaid: YtkjbflnddfehpaaFl. -/
import Derived.Test.YtkjbflnddfehpaaKFk
/- What is packed comes back, and how long it is: plain. -/
set_option linter.unusedVariables false
set_option linter.unusedSimpArgs false
set_option maxHeartbeats 1000000
namespace Go.Vm.Pk
theorem pk_out (b : List UInt8) : ∀ k i run out, pk b k i run out = out ++ pk b k i run []
  | 0, i, run, out => by simp [pk]
  | k + 1, i, run, out => by
    unfold pk
    split
    · split
      · split
        · rw [pk_out b k _ _ (out ++ _), pk_out b k _ _ ([] ++ _)]; simp
        · exact pk_out b k _ _ _
      · rw [pk_out b k _ _ (out ++ _ ++ _), pk_out b k _ _ ([] ++ _ ++ _)]; simp
    · simp
theorem cop_is (b : List UInt8) (i : Nat) : ∀ k d n a, cop b i k d n a = (n, a) ∨ (d ≤ (cop b i k d n a).2 ∧ (cop b i k d n a).2 < d + k ∧ (cop b i k d n a).1 = ml b i (cop b i k d n a).2 (mo b i) 0)
  | 0, d, n, a => .inl rfl
  | k + 1, d, n, a => by
    rw [cop_s]
    split
    · rcases cop_is b i k (d + 1) (ml b i d (mo b i) 0) d with h | ⟨h1, h2, h3⟩
      · rw [h]; exact .inr ⟨Nat.le_refl _, by omega, rfl⟩
      · exact .inr ⟨by omega, by omega, h3⟩
    · rcases cop_is b i k (d + 1) n a with h | ⟨h1, h2, h3⟩
      · rw [h]; exact .inl rfl
      · exact .inr ⟨by omega, by omega, h3⟩
theorem copd_is (b : List UInt8) (i : Nat) (h : ¬ (copd b i).1 < 4) : 1 ≤ (copd b i).2 ∧ (copd b i).2 ≤ min i 2048 ∧ (copd b i).1 = ml b i (copd b i).2 (mo b i) 0 := by
  rcases cop_is b i (min i 2048) 1 0 0 with h1 | ⟨h1, h2, h3⟩
  · have e : copd b i = (0, 0) := h1
    rw [e] at h; exact absurd (by omega) h
  · change 1 ≤ (copd b i).2 at h1
    change (copd b i).2 < _ at h2
    exact ⟨h1, by omega, h3⟩
theorem cop_max (b : List UInt8) (i : Nat) : ∀ k d n a, n ≤ (cop b i k d n a).1 ∧ ∀ e, d ≤ e → e < d + k → ml b i e (mo b i) 0 ≤ (cop b i k d n a).1
  | 0, d, n, a => ⟨Nat.le_refl _, fun e h1 h2 => by omega⟩
  | k + 1, d, n, a => by
    rw [cop_s]
    split
    · have ⟨h1, h2⟩ := cop_max b i k (d + 1) (ml b i d (mo b i) 0) d
      refine ⟨by omega, fun e h3 h4 => ?_⟩
      by_cases he : e = d
      · rw [he]; exact h1
      · exact h2 e (by omega) (by omega)
    · have ⟨h1, h2⟩ := cop_max b i k (d + 1) n a
      refine ⟨h1, fun e h3 h4 => ?_⟩
      by_cases he : e = d
      · rw [he]; omega
      · exact h2 e (by omega) (by omega)
theorem ml_spec (b : List UInt8) (i d : Nat) : ∀ k n j, n ≤ j → j < ml b i d k n → b.getD (i + j) 0 = b.getD (i + j - d) 0
  | 0, n, j, h1, h2 => by simp only [ml] at h2; omega
  | k + 1, n, j, h1, h2 => by
    unfold ml at h2
    split at h2
    · rename_i h
      by_cases e : j = n
      · rw [e]; exact h
      · exact ml_spec b i d k (n + 1) j (by omega) h2
    · omega
theorem ml_all (b : List UInt8) (i d : Nat) : ∀ k n, (∀ j, n ≤ j → j < n + k → b.getD (i + j) 0 = b.getD (i + j - d) 0) → ml b i d k n = n + k
  | 0, n, _ => rfl
  | k + 1, n, h => by
    unfold ml
    rw [if_pos (h n (by omega) (by omega)), ml_all b i d k (n + 1) (fun j h1 h2 => h j (by omega) (by omega))]
    omega
theorem cpy_take (b : List UInt8) (d : Nat) (hd : 1 ≤ d) : ∀ n i, d ≤ i → i + n ≤ b.length → (∀ j, j < n → b.getD (i + j) 0 = b.getD (i + j - d) 0) → cpy d n (b.take i) = b.take (i + n)
  | 0, i, _, _, _ => rfl
  | n + 1, i, h1, h2, h3 => by
    have e : (b.take i).length = i := by rw [List.length_take]; omega
    have e2 : (b.take i).getD (i - d) 0 = b.getD i 0 := by
      rw [List.getD_eq_getElem?_getD, List.getElem?_take, if_pos (by omega), ← List.getD_eq_getElem?_getD]
      exact (h3 0 (by omega)).symm
    have e3 : b.take i ++ [b.getD i 0] = b.take (i + 1) := by
      rw [List.take_add_one, List.getElem?_eq_getElem (by omega)]
      simp [List.getD_eq_getElem?_getD, List.getElem?_eq_getElem (show i < b.length by omega)]
    unfold cpy
    rw [e, e2, e3, cpy_take b d hd n (i + 1) (by omega) (by omega) (fun j hj => by
      have := h3 (j + 1) (by omega)
      rw [show i + 1 + j = i + (j + 1) by omega]; exact this)]
    rw [show i + 1 + n = i + (n + 1) by omega]
theorem dist_back (d : Nat) (h : d ≤ 2048) : (UInt8.ofNat (d / 256)).toNat * 256 ||| (UInt8.ofNat d).toNat = d := by
  rw [UInt8.toNat_ofNat', UInt8.toNat_ofNat']
  have h1 : d / 256 % 2 ^ 8 = d / 256 := by omega
  have h2 : d % 2 ^ 8 = d % 256 := rfl
  rw [h1, h2]
  have := Nat.two_pow_add_eq_or_of_lt (i := 8) (show d % 256 < 2 ^ 8 by omega) (d / 256)
  rw [show d / 256 * 256 = 2 ^ 8 * (d / 256) by omega, ← this]; omega
/-- A piece of bytes as they are, read back. -/
theorem unp_fl (b : List UInt8) (run i : Nat) (h1 : run < i) (h2 : i ≤ b.length) (h3 : i - run ≤ 127) (rest : List UInt8) (f : Nat) : unp b.length (f + 1) (fl b run i ++ rest) (b.take run) = unp b.length f rest (b.take i) := by
  have e : fl b run i = UInt8.ofNat (i - run) :: (b.drop run).take (i - run) := by unfold fl; rw [if_pos h1]
  have en : (UInt8.ofNat (i - run)).toNat = i - run := by rw [UInt8.toNat_ofNat']; omega
  have el : ((b.drop run).take (i - run)).length = i - run := by rw [List.length_take, List.length_drop]; omega
  have er : (b.take run).length = run := by rw [List.length_take]; omega
  have c0 : ¬ (UInt8.ofNat (i - run) = 0) := fun h => by
    have := congrArg UInt8.toNat h
    rw [en] at this; simp at this; omega
  have c1 : UInt8.ofNat (i - run) < 128 := by
    rw [UInt8.lt_iff_toNat_lt, en]; simp; omega
  rw [e]
  simp only [unp, List.cons_append, List.getD_cons_zero, List.length_cons, er, en]
  rw [if_pos (by omega), if_neg (fun h => h.elim (fun h => by omega) c0), if_pos c1, if_neg (by simp [el]; omega)]
  simp only [List.drop_succ_cons, List.drop_zero]
  rw [List.drop_left' el, List.take_left' el]
  congr 1
  rw [show b.take i = b.take (run + (i - run)) by rw [show run + (i - run) = i by omega], List.take_add]
theorem unp_cp (b : List UInt8) (i n d : Nat) (h1 : 4 ≤ n) (h2 : n ≤ 131) (h3 : i + n ≤ b.length) (h4 : 1 ≤ d) (h5 : d ≤ 2048) (h6 : d ≤ i) (hm : ∀ j, j < n → b.getD (i + j) 0 = b.getD (i + j - d) 0) (rest : List UInt8) (f : Nat) : unp b.length (f + 1) ([UInt8.ofNat (124 + n), UInt8.ofNat (d / 256), UInt8.ofNat d] ++ rest) (b.take i) = unp b.length f rest (b.take (i + n)) := by
  have en : (UInt8.ofNat (124 + n)).toNat = 124 + n := by rw [UInt8.toNat_ofNat']; omega
  have ei : (b.take i).length = i := by rw [List.length_take]; omega
  have c0 : ¬ (UInt8.ofNat (124 + n) = 0) := fun h => by
    have := congrArg UInt8.toNat h
    rw [en] at this; simp at this
  have c1 : ¬ UInt8.ofNat (124 + n) < 128 := by
    rw [UInt8.lt_iff_toNat_lt, en]; simp; omega
  have ed := dist_back d h5
  simp only [unp, List.cons_append, List.nil_append, List.getD_cons_zero, List.getD_cons_succ, List.length_cons, ei, en, ed]
  rw [if_pos (by omega), if_neg (fun h => h.elim (fun h => by omega) c0), if_neg c1, if_neg (by omega), if_neg (by omega)]
  simp only [List.drop_succ_cons, List.drop_zero]
  rw [show 124 + n - 124 = n by omega, cpy_take b d h4 n i h6 h3 hm]
theorem fl_len' (b : List UInt8) (run i : Nat) (h : run < i) : 2 ≤ (fl b run i).length ∨ b.length ≤ run := by
  unfold fl; rw [if_pos h]
  simp only [List.length_cons, List.length_take, List.length_drop]; omega
theorem unp_pk (b : List UInt8) : ∀ k i run f, b.length - i < k → run ≤ i → i ≤ b.length → i - run < 127 → (pk b k i run []).length < f → unp b.length f (pk b k i run []) (b.take run) = some b
  | 0, i, run, f, h, _, _, _, _ => by omega
  | k + 1, i, run, f, h, h1, h2, h3, h4 => by
    obtain ⟨f, rfl⟩ : ∃ g, f = g + 1 := ⟨f - 1, by omega⟩
    by_cases hi : i < b.length
    · by_cases hn : (copd b i).1 < 4
      · by_cases h7 : i + 1 - run = 127
        · have e : pk b (k + 1) i run [] = fl b run (i + 1) ++ pk b k (i + 1) (i + 1) [] := by
            rw [pk, if_pos hi, if_pos hn, if_pos h7, List.nil_append, pk_out]
          rw [e] at h4 ⊢
          rw [List.length_append] at h4
          have g := fl_len' b run (i + 1) (by omega)
          rw [unp_fl b run (i + 1) (by omega) (by omega) (by omega)]
          exact unp_pk b k (i + 1) (i + 1) f (by omega) (by omega) (by omega) (by omega) (by omega)
        · have e : pk b (k + 1) i run [] = pk b k (i + 1) run [] := by rw [pk, if_pos hi, if_pos hn, if_neg h7]
          rw [e] at h4 ⊢
          exact unp_pk b k (i + 1) run (f + 1) (by omega) (by omega) (by omega) (by omega) (by omega)
      · have ⟨g1, g2, g3⟩ := copd_is b i hn
        have hs := cop_spec b i hi (min i 2048) 1 0 0 (by omega) (by omega) (by omega) (by omega)
        change (copd b i).1 ≤ mo b i ∧ (copd b i).2 ≤ 2048 at hs
        have hmo : mo b i ≤ 131 ∧ mo b i ≤ b.length - i := by unfold mo; omega
        have hm : ∀ j, j < (copd b i).1 → b.getD (i + j) 0 = b.getD (i + j - (copd b i).2) 0 := fun j hj => ml_spec b i (copd b i).2 (mo b i) 0 j (by omega) (by rw [← g3]; exact hj)
        have e : pk b (k + 1) i run [] = fl b run i ++ ([UInt8.ofNat (124 + (copd b i).1), UInt8.ofNat ((copd b i).2 / 256), UInt8.ofNat (copd b i).2] ++ pk b k (i + (copd b i).1) (i + (copd b i).1) []) := by
          rw [pk, if_pos hi, if_neg hn, List.nil_append, pk_out, List.append_assoc]
        rw [e] at h4 ⊢
        rw [List.length_append, List.length_append] at h4
        simp only [List.length_cons, List.length_nil] at h4
        by_cases hr : run < i
        · obtain ⟨f, rfl⟩ : ∃ g, f = g + 1 := ⟨f - 1, by omega⟩
          have g := fl_len' b run i hr
          rw [unp_fl b run i hr (by omega) (by omega), unp_cp b i _ _ (by omega) (by omega) (by omega) g1 hs.2 (by omega) hm]
          exact unp_pk b k _ _ f (by omega) (by omega) (by omega) (by omega) (by omega)
        · have e : run = i := by omega
          subst e
          have hfz : fl b run run = [] := by unfold fl; rw [if_neg (by omega)]
          rw [hfz, List.nil_append, unp_cp b run _ _ (by omega) (by omega) (by omega) g1 hs.2 (by omega) hm]
          exact unp_pk b k _ _ f (by omega) (by omega) (by omega) (by omega) (by omega)
    · have hi : i = b.length := by omega
      subst hi
      rw [pk, if_neg hi, List.nil_append] at h4 ⊢
      by_cases hr : run < b.length
      · have g := fl_len' b run b.length hr
        obtain ⟨f, rfl⟩ : ∃ g, f = g + 1 := ⟨f - 1, by omega⟩
        have := unp_fl b run b.length hr (by omega) (by omega) [] (f + 1)
        rw [List.append_nil] at this
        rw [this]
        simp [unp]
      · have e : run = b.length := by omega
        subst e
        have hfz : fl b b.length b.length = [] := by unfold fl; rw [if_neg (by omega)]
        rw [hfz]; simp [unp]
end Go.Vm.Pk
