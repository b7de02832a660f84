/- A part of the proof of PackRunsSaid: YtkjbflnddfehpaaFm. -/
import Derived.Test.YtkjbflnddfehpaaKFl
/- What is packed comes back, and how long it is: the laws' numbers. -/
set_option linter.unusedVariables false
set_option linter.unusedSimpArgs false
set_option maxHeartbeats 1000000
namespace Go.Vm.Pk
theorem u8_hi : ∀ n < 256, ¬ (UInt8.ofNat n ||| 128) < 128 ∧ ((UInt8.ofNat n ||| 128) &&& 127).toNat = n % 128 ∧ (UInt8.ofNat n ||| 128) ≠ 0 := by decide +kernel
theorem u8_lo : ∀ n < 128, UInt8.ofNat n < 128 ∧ (UInt8.ofNat n &&& 127).toNat = n := by decide +kernel
theorem ofNat_mod (n : Nat) : UInt8.ofNat n = UInt8.ofNat (n % 256) := by
  apply UInt8.toNat_inj.1; rw [UInt8.toNat_ofNat', UInt8.toNat_ofNat']; omega
theorem or_parts (n i : Nat) : (n % 128) * 128 ^ i ||| (n / 128) * 128 ^ (i + 1) = n * 128 ^ i := by
  have e : ∀ x, x * 128 ^ i = x <<< (7 * i) := fun x => by rw [Nat.shiftLeft_eq, show (128 : Nat) = 2 ^ 7 from rfl, ← Nat.pow_mul]
  rw [show n / 128 * 128 ^ (i + 1) = (n / 128 * 128) * 128 ^ i by rw [Nat.pow_succ]; rw [Nat.mul_assoc, Nat.mul_comm (128 ^ i)], e, e, e, ← Nat.shiftLeft_or_distrib]
  congr 1
  have := Nat.two_pow_add_eq_or_of_lt (i := 7) (show n % 128 < 2 ^ 7 by omega) (n / 128)
  rw [Nat.or_comm, show n / 128 * 128 = 2 ^ 7 * (n / 128) by omega, ← this]; omega
theorem rd_vb : ∀ (k n i acc : Nat) (r : List UInt8), n < 128 ^ k → i + k ≤ 9 → 0 < k → (0 < i → 0 < n) → rd (vb n ++ r) i acc = some (acc ||| n * 128 ^ i, i + (vb n).length)
  | 0, n, i, acc, r, _, _, h, _ => by omega
  | k + 1, n, i, acc, r, h1, h2, h3, h4 => by
    by_cases hn : n < 128
    · have ⟨a1, a2⟩ := u8_lo n hn
      rw [vb_lt hn]
      simp only [List.cons_append, List.nil_append, rd, a2, List.length_cons, List.length_nil]
      rw [if_neg, if_pos a1]
      rintro (h | ⟨h5, h6⟩)
      · omega
      · have := congrArg (fun c : UInt8 => (c &&& 127).toNat) h6
        simp only [a2] at this
        have := h4 h5
        simp at *; omega
    · have hk : 0 < k := by
        rcases Nat.eq_zero_or_pos k with e | e
        · rw [e] at h1; simp at h1; omega
        · exact e
      have ⟨a1, a2, a3⟩ := u8_hi (n % 256) (by omega)
      rw [← ofNat_mod] at a1 a2 a3
      rw [vb_ge (by omega)]
      simp only [List.cons_append, rd, a2, List.length_cons]
      rw [if_neg (fun h => h.elim (fun h => by omega) (fun h => a3 h.2)), if_neg a1]
      have hq : n / 128 < 128 ^ k := by
        rw [Nat.div_lt_iff_lt_mul (by omega)]; rw [Nat.pow_succ] at h1; exact h1
      rw [rd_vb k (n / 128) (i + 1) _ r hq (by omega) hk (fun _ => by omega)]
      congr 2
      · rw [show n % 256 % 128 = n % 128 by omega, Nat.or_assoc, or_parts]
      · omega
theorem upk_pk (b : List UInt8) (hb : b.length ≤ 1000000000) (most : Int) (hm : (b.length : Int) ≤ most) : upk (pk b (b.length + 1) 0 0 (vb b.length)) most = (1, b, 0) := by
  rw [pk_out]
  have h1 := rd_vb 9 b.length 0 0 (pk b (b.length + 1) 0 0 []) (by omega) (by omega) (by omega) (by omega)
  simp only [Nat.pow_zero, Nat.mul_one, Nat.zero_or, Nat.zero_add] at h1
  refine upk_ok h1 (by omega) ?_
  rw [List.drop_left' rfl]
  have hg := unp_pk b (b.length + 1) 0 0 ((vb b.length ++ pk b (b.length + 1) 0 0 []).length + 1) (by omega) (by omega) (by omega) (by omega) (by rw [List.length_append]; omega)
  exact hg
theorem upk_short (b : List UInt8) (hb : b.length ≤ 1000000000) : upk (pk b (b.length + 1) 0 0 (vb b.length)) ((b.length : Int) - 1) = (0, [], 291) := by
  rw [pk_out]
  have h1 := rd_vb 9 b.length 0 0 (pk b (b.length + 1) 0 0 []) (by omega) (by omega) (by omega) (by omega)
  simp only [Nat.pow_zero, Nat.mul_one, Nat.zero_or, Nat.zero_add] at h1
  exact upk_long h1 (by omega)
/-- The length, at most a byte more for each 127. -/
theorem pk_small (b : List UInt8) : ∀ k i run, run ≤ i → i ≤ b.length → i - run < 127 → (pk b k i run []).length ≤ (b.length - run) + (b.length - run + 126) / 127
  | 0, i, run, _, _, _ => by simp [pk]
  | k + 1, i, run, h1, h2, h3 => by
    unfold pk
    split
    · rename_i hi
      have hs := cop_spec b i hi (min i 2048) 1 0 0 (by omega) (by omega) (by omega) (by omega)
      change (copd b i).1 ≤ mo b i ∧ (copd b i).2 ≤ 2048 at hs
      have hmo : mo b i ≤ b.length - i := by unfold mo; omega
      split
      · split
        · have g1 := pk_small b k (i + 1) (i + 1) (by omega) (by omega) (by omega)
          have g2 := fl_len b run (i + 1)
          rw [pk_out]
          simp only [List.length_append, List.length_nil]
          omega
        · exact pk_small b k (i + 1) run (by omega) (by omega) (by omega)
      · have g1 := pk_small b k (i + (copd b i).1) (i + (copd b i).1) (by omega) (by omega) (by omega)
        have g2 : (fl b run i).length ≤ i - run + (if run < i then 1 else 0) := by
          unfold fl; split
          · simp only [List.length_cons, List.length_take, List.length_drop]; omega
          · simp
        rw [pk_out]
        simp only [List.length_append, List.length_nil, List.length_cons]
        split at g2 <;> omega
    · have g2 : (fl b run b.length).length ≤ b.length - run + (if run < b.length then 1 else 0) := by
        unfold fl; split
        · simp only [List.length_cons, List.length_take, List.length_drop]; omega
        · simp
      simp only [List.length_append, List.length_nil]
      split at g2 <;> omega
theorem pk_least (b : List UInt8) (hb : b.length ≤ 1000000000) : (pk b (b.length + 1) 0 0 (vb b.length)).length ≤ b.length + (b.length + 126) / 127 + 10 := by
  have h1 := pk_small b (b.length + 1) 0 0 (by omega) (by omega) (by omega)
  have h2 := vb_len b.length (by omega)
  rw [pk_out, List.length_append]
  omega
/-! repetitions of a few bytes -/
def hd (run i : Nat) : Nat := if run < i then i - run + 1 else 0
theorem fl_hd (b : List UInt8) (run i : Nat) : (fl b run i).length ≤ hd run i := by
  unfold fl hd; split
  · simp only [List.length_cons, List.length_take, List.length_drop]; omega
  · simp
/-- Near the end no copy is long enough. -/
theorem pk_tail (b : List UInt8) : ∀ k i run, run ≤ i → i ≤ b.length → b.length < i + 4 → i - run < 127 → (pk b k i run []).length ≤ hd run i + (b.length - i) + (if run < i then (if 127 ≤ b.length - run then 1 else 0) else if i < b.length then 1 else 0)
  | 0, i, run, _, _, _, _ => by simp [pk]
  | k + 1, i, run, h1, h2, h3, h4 => by
    unfold pk
    split
    · rename_i hi
      have hs := cop_spec b i hi (min i 2048) 1 0 0 (by omega) (by omega) (by omega) (by omega)
      change (copd b i).1 ≤ mo b i ∧ (copd b i).2 ≤ 2048 at hs
      have hmo : mo b i ≤ b.length - i := by unfold mo; omega
      rw [if_pos (by omega)]
      split
      · have g1 := pk_tail b k (i + 1) (i + 1) (by omega) (by omega) (by omega) (by omega)
        have g2 := fl_len b run (i + 1)
        rw [pk_out]
        simp only [List.length_append, List.length_nil]
        unfold hd at *
        repeat' split at *
        all_goals omega
      · have g1 := pk_tail b k (i + 1) run (by omega) (by omega) (by omega) (by omega)
        unfold hd at *
        repeat' split at *
        all_goals omega
    · have g2 := fl_hd b run b.length
      have : i = b.length := by omega
      subst this
      simp only [List.length_append, List.length_nil]
      omega
/-- Bytes that come again after m. -/
def per (b : List UInt8) (m : Nat) : Prop := ∀ j, m ≤ j → j < b.length → b.getD j 0 = b.getD (j - m) 0
theorem pk_per (b : List UInt8) (m : Nat) (hm : m ≤ 9) (hm0 : 0 < m) (h : per b m) : ∀ k i run, b.length - i < k → run ≤ i → i ≤ b.length → i - run < 127 → (pk b k i run []).length ≤ hd run i + 2 * (m - i) + (if i < m then 1 else 0) + 3 * ((b.length - i + 130) / 131) + 4
  | 0, i, run, h0, _, _, _ => by omega
  | k + 1, i, run, h0, h1, h2, h3 => by
    by_cases ht : b.length < i + 4
    · have := pk_tail b (k + 1) i run h1 h2 ht h3
      repeat' split at this
      all_goals split <;> omega
    · have hi : i < b.length := by omega
      have hs := cop_spec b i hi (min i 2048) 1 0 0 (by omega) (by omega) (by omega) (by omega)
      change (copd b i).1 ≤ mo b i ∧ (copd b i).2 ≤ 2048 at hs
      have hmo : mo b i = min 131 (b.length - i) := rfl
      have hfull : m ≤ i → 0 < m → (copd b i).1 = mo b i := fun hmi hm0 => by
        have h5 := (cop_max b i (min i 2048) 1 0 0).2 m (by omega) (by omega)
        change ml b i m (mo b i) 0 ≤ (copd b i).1 at h5
        rw [ml_all b i m (mo b i) 0 (fun j h6 h7 => h (i + j) (by omega) (by omega))] at h5
        omega
      have hf := fl_hd b run i
      unfold pk
      rw [if_pos hi]
      split
      · rename_i hn
        have hmi : i < m := by
          rcases Nat.lt_or_ge i m with e | e
          · exact e
          · have := hfull e hm0
            omega
        rw [if_neg (by omega)]
        have := pk_per b m hm hm0 h k (i + 1) run (by omega) (by omega) (by omega) (by omega)
        unfold hd at *
        repeat' split at *
        all_goals omega
      · rename_i hn
        have := pk_per b m hm hm0 h k (i + (copd b i).1) (i + (copd b i).1) (by omega) (by omega) (by omega) (by omega)
        have h8 : hd (i + (copd b i).1) (i + (copd b i).1) = 0 := by unfold hd; rw [if_neg (by omega)]
        rw [h8] at this
        rw [List.nil_append, pk_out]
        simp only [List.length_append, List.length_cons, List.length_nil]
        by_cases hmi : i < m
        · rw [if_pos hmi]
          split at this <;> omega
        · rw [if_neg hmi]
          rw [if_neg (by omega)] at this
          have hn2 := hfull (by omega) hm0
          omega
theorem vb_two (n : Nat) (h : n < 16384) : (vb n).length ≤ 2 := by
  rw [vb]; split
  · simp
  · rw [vb, if_pos (by omega)]; simp
/-- A part, so many times. -/
def reps (part : List UInt8) : Nat → List UInt8
  | 0 => []
  | t + 1 => reps part t ++ part
theorem reps_len (part : List UInt8) : ∀ t, (reps part t).length = t * part.length
  | 0 => by simp [reps]
  | t + 1 => by rw [reps, List.length_append, reps_len part t, Nat.succ_mul]
theorem reps_at (part : List UInt8) (hp : 0 < part.length) : ∀ t j, j < t * part.length → (reps part t).getD j 0 = part.getD (j % part.length) 0
  | 0, j, h => by omega
  | t + 1, j, h => by
    have hl := reps_len part t
    rw [reps, List.getD_eq_getElem?_getD]
    by_cases e : j < t * part.length
    · rw [List.getElem?_append_left (by omega), ← List.getD_eq_getElem?_getD]
      exact reps_at part hp t j e
    · rw [List.getElem?_append_right (by omega), ← List.getD_eq_getElem?_getD, hl]
      congr 1
      rw [Nat.succ_mul] at h
      have : j - t * part.length < part.length := by omega
      rw [← Nat.mod_eq_of_lt this]
      conv => rhs; rw [show j = (j - t * part.length) + t * part.length by omega, Nat.add_mul_mod_self_right]
theorem reps_per (part : List UInt8) (hp : 0 < part.length) (t : Nat) : per (reps part t) part.length := fun j h1 h2 => by
  rw [reps_len] at h2
  rw [reps_at part hp t j h2, reps_at part hp t (j - part.length) (by omega)]
  congr 1
  conv => lhs; rw [show j = (j - part.length) + part.length by omega, Nat.add_mod_right]
theorem pk_runs (part : List UInt8) (hp : part.length ≤ 9) (t : Nat) (ht : t ≤ 255) : (pk (reps part t) ((reps part t).length + 1) 0 0 (vb (reps part t).length)).length ≤ 5 + 2 * part.length + 3 * ((reps part t).length / 131 + 2) := by
  have hl := reps_len part t
  have hle : t * part.length ≤ 255 * 9 := Nat.mul_le_mul ht hp
  have h2 := vb_two (reps part t).length (by omega)
  rw [pk_out, List.length_append]
  by_cases h0 : part.length = 0
  · have e : reps part t = [] := List.eq_nil_of_length_eq_zero (by rw [hl, h0]; rfl)
    rw [e] at h2 ⊢
    simp only [pk, List.length_nil, fl] at h2 ⊢
    simp
    omega
  · have h3 := pk_per (reps part t) part.length hp (by omega) (reps_per part (by omega) t) ((reps part t).length + 1) 0 0 (by omega) (by omega) (by omega) (by omega)
    have h4 : hd 0 0 = 0 := rfl
    rw [h4, if_pos (by omega)] at h3
    omega
end Go.Vm.Pk
