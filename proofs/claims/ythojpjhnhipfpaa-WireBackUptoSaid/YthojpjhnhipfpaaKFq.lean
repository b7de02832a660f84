/- A part of the proof of WireBackUptoSaid: YthojpjhnhipfpaaFq. -/
import Derived.Test.YthojpjhnhipfpaaKFp
/- What the bytes of a message say: reading and writing. -/
set_option linter.unusedVariables false
set_option linter.unusedSimpArgs false
set_option maxHeartbeats 1000000
namespace Go.Vm.Wr
theorem u8_hi : ∀ n < 256, ¬ (UInt8.ofNat n ||| 128) < 128 ∧ ((UInt8.ofNat n ||| 128) &&& 127).toNat = n % 128 ∧ (UInt8.ofNat n ||| 128) ≠ 0 := by decide +kernel
theorem u8_lo : ∀ n < 128, UInt8.ofNat n < 128 ∧ (UInt8.ofNat n &&& 127).toNat = n := by decide +kernel
theorem ofNat_mod (n : Nat) : UInt8.ofNat n = UInt8.ofNat (n % 256) := by
  apply UInt8.toNat_inj.1; rw [UInt8.toNat_ofNat', UInt8.toNat_ofNat']; omega
theorem or_parts (n i : Nat) : (n % 128) * 128 ^ i ||| (n / 128) * 128 ^ (i + 1) = n * 128 ^ i := by
  have e : ∀ x, x * 128 ^ i = x <<< (7 * i) := fun x => by rw [Nat.shiftLeft_eq, show (128 : Nat) = 2 ^ 7 from rfl, ← Nat.pow_mul]
  rw [show n / 128 * 128 ^ (i + 1) = (n / 128 * 128) * 128 ^ i by rw [Nat.pow_succ]; rw [Nat.mul_assoc, Nat.mul_comm (128 ^ i)], e, e, e, ← Nat.shiftLeft_or_distrib]
  congr 1
  have := Nat.two_pow_add_eq_or_of_lt (i := 7) (show n % 128 < 2 ^ 7 by omega) (n / 128)
  rw [Nat.or_comm, show n / 128 * 128 = 2 ^ 7 * (n / 128) by omega, ← this]; omega
theorem rd_vb : ∀ (k n i acc : Nat) (r : List UInt8), n < 128 ^ k → i + k ≤ 9 → 0 < k → (0 < i → 0 < n) → rd (vb n ++ r) i acc = some (acc ||| n * 128 ^ i, i + (vb n).length)
  | 0, n, i, acc, r, _, _, h, _ => by omega
  | k + 1, n, i, acc, r, h1, h2, h3, h4 => by
    by_cases hn : n < 128
    · have ⟨a1, a2⟩ := u8_lo n hn
      rw [vb_lt hn]
      simp only [List.cons_append, List.nil_append, rd, a2, List.length_cons, List.length_nil]
      rw [if_neg, if_pos a1]
      rintro (h | ⟨h5, h6⟩)
      · omega
      · have := congrArg (fun c : UInt8 => (c &&& 127).toNat) h6
        simp only [a2] at this
        have := h4 h5
        simp at *; omega
    · have hk : 0 < k := by
        rcases Nat.eq_zero_or_pos k with e | e
        · rw [e] at h1; simp at h1; omega
        · exact e
      have ⟨a1, a2, a3⟩ := u8_hi (n % 256) (by omega)
      rw [← ofNat_mod] at a1 a2 a3
      rw [vb_ge (by omega)]
      simp only [List.cons_append, rd, a2, List.length_cons]
      rw [if_neg (fun h => h.elim (fun h => by omega) (fun h => a3 h.2)), if_neg a1]
      have hq : n / 128 < 128 ^ k := by
        rw [Nat.div_lt_iff_lt_mul (by omega)]; rw [Nat.pow_succ] at h1; exact h1
      rw [rd_vb k (n / 128) (i + 1) _ r hq (by omega) hk (fun _ => by omega)]
      congr 2
      · rw [show n % 256 % 128 = n % 128 by omega, Nat.or_assoc, or_parts]
      · omega
theorem rd_num (n : Nat) (hn : n ≤ 1099511627776) (r : List UInt8) : rd (vb n ++ r) 0 0 = some (n, (vb n).length) := by
  rw [rd_vb 9 n 0 0 r (by omega) (by omega) (by omega) (by omega)]; simp
theorem f_host (h r : List UInt8) (hh : h.length ≤ 255) (m : Msg) : fst1 1 ((UInt8.ofNat h.length :: h) ++ r) m = some ({ m with host := h }, r) := by
  have e : (((UInt8.ofNat h.length :: h) ++ r).getD 0 0).toNat = h.length := by simp; omega
  unfold fst1
  rw [if_pos rfl, e, if_neg (by simp), if_neg (by simp)]
  congr 3
  · simp
  · simp
theorem f_ep (n : Nat) (hn : n ≤ 1099511627776) (r : List UInt8) (m : Msg) : fst1 2 (vb n ++ r) m = some ({ m with epoch := n }, r) := by
  simp [fst1, rd_num n hn]
theorem f_sq (n : Nat) (hn : n ≤ 1099511627776) (r : List UInt8) (m : Msg) : fst1 3 (vb n ++ r) m = some ({ m with seq := n }, r) := by
  simp [fst1, rd_num n hn]
theorem f_to (n : Nat) (hn : n ≤ 1099511627776) (r : List UInt8) (m : Msg) : fst1 4 (vb n ++ r) m = some ({ m with to := n }, r) := by
  simp [fst1, rd_num n hn]
/-- As it is read. -/
def rdM (m : Msg) : Msg := { m with tg := (if m.kind = 3 then .any else .nil), bz := (if m.kind = 3 then 1 else 0) }
def noM (m : Msg) : Msg := { m with tg := .any, bz := (if m.kind = 3 then 1 else 0) }
theorem prs_fbl (m : Msg) (hv : vld m = true) : ∃ fs, lst m.kind = some fs ∧ (m.kind = 1 ∨ m.kind = 2 ∨ m.kind = 3 ∨ m.kind = 4 ∨ m.kind = 5 ∨ m.kind = 6 ∨ m.kind = 7) ∧ prs fs (fbl m fs) (m0 m.kind) = some (rdM m, []) := by
  have hh := vld_host hv
  obtain ⟨k, ho, e, s, t, b, tg, bz⟩ := m
  simp only at hh ⊢
  by_cases h1 : k = 1
  · subst h1; rw [vld_1] at hv; simp at hv
    obtain ⟨n, rfl⟩ : ∃ n : Nat, e = n := ⟨e.toNat, by omega⟩
    obtain ⟨q, rfl⟩ : ∃ n : Nat, s = n := ⟨s.toNat, by omega⟩
    refine ⟨[1, 2, 3], rfl, .inl rfl, ?_⟩
    have a1 := f_host ho (vb n ++ (vb q ++ [])) (by omega)
    have a2 := f_ep n (by omega) (vb q ++ [])
    have a3 := f_sq q (by omega) []
    obtain ⟨⟨⟨⟨_, _⟩, _⟩, rfl⟩, rfl⟩ := hv
    simp only [fbl, prs, show fbs ⟨1, ho, n, q, 0, [], tg, bz⟩ 1 = UInt8.ofNat ho.length :: ho from rfl, show fbs ⟨1, ho, n, q, 0, [], tg, bz⟩ 2 = vb n from rfl, show fbs ⟨1, ho, n, q, 0, [], tg, bz⟩ 3 = vb q from rfl, a1, a2, a3]
    rfl
  by_cases h2 : k = 2
  · subst h2; rw [vld_2] at hv; simp at hv
    obtain ⟨q, rfl⟩ : ∃ n : Nat, s = n := ⟨s.toNat, by omega⟩
    refine ⟨[3], rfl, .inr (.inl rfl), ?_⟩
    have a3 := f_sq q (by omega) []
    obtain ⟨⟨⟨⟨rfl, rfl⟩, _⟩, rfl⟩, rfl⟩ := hv
    simp only [fbl, prs, show fbs ⟨2, [], 0, q, 0, [], tg, bz⟩ 3 = vb q from rfl, a3]
    rfl
  by_cases h3 : k = 3
  · subst h3; rw [vld_3] at hv; simp at hv
    obtain ⟨q, rfl⟩ : ∃ n : Nat, s = n := ⟨s.toNat, by omega⟩
    refine ⟨[3, 5], rfl, .inr (.inr (.inl rfl)), ?_⟩
    have a3 := f_sq q (by omega) b
    obtain ⟨⟨⟨⟨rfl, rfl⟩, _⟩, rfl⟩, _⟩ := hv
    simp only [fbl, prs, show fbs ⟨3, [], 0, q, 0, b, tg, bz⟩ 3 = vb q from rfl, show fbs ⟨3, [], 0, q, 0, b, tg, bz⟩ 5 = b from rfl, List.append_nil, a3]
    rfl
  by_cases h4 : k = 4
  · subst h4; rw [vld_4] at hv; simp at hv
    obtain ⟨q, rfl⟩ : ∃ n : Nat, s = n := ⟨s.toNat, by omega⟩
    obtain ⟨u, rfl⟩ : ∃ n : Nat, t = n := ⟨t.toNat, by omega⟩
    refine ⟨[3, 4], rfl, .inr (.inr (.inr (.inl rfl))), ?_⟩
    have a3 := f_sq q (by omega) (vb u ++ [])
    have a4 := f_to u (by omega) []
    obtain ⟨⟨⟨⟨rfl, rfl⟩, _⟩, _⟩, rfl⟩ := hv
    simp only [fbl, prs, show fbs ⟨4, [], 0, q, u, [], tg, bz⟩ 3 = vb q from rfl, show fbs ⟨4, [], 0, q, u, [], tg, bz⟩ 4 = vb u from rfl, a3, a4]
    rfl
  by_cases h5 : k = 5
  · subst h5; rw [vld_5] at hv; simp at hv
    obtain ⟨q, rfl⟩ : ∃ n : Nat, s = n := ⟨s.toNat, by omega⟩
    refine ⟨[3], rfl, .inr (.inr (.inr (.inr (.inl rfl)))), ?_⟩
    have a3 := f_sq q (by omega) []
    obtain ⟨⟨⟨⟨rfl, rfl⟩, _⟩, rfl⟩, rfl⟩ := hv
    simp only [fbl, prs, show fbs ⟨5, [], 0, q, 0, [], tg, bz⟩ 3 = vb q from rfl, a3]
    rfl
  by_cases h6 : k = 6
  · subst h6; rw [vld_6] at hv; simp at hv
    obtain ⟨⟨⟨⟨rfl, rfl⟩, rfl⟩, rfl⟩, rfl⟩ := hv
    exact ⟨[], rfl, .inr (.inr (.inr (.inr (.inr (.inl rfl))))), rfl⟩
  by_cases h7 : k = 7
  · subst h7; rw [vld_7] at hv; simp at hv
    obtain ⟨⟨⟨⟨rfl, rfl⟩, rfl⟩, rfl⟩, rfl⟩ := hv
    exact ⟨[], rfl, .inr (.inr (.inr (.inr (.inr (.inr rfl))))), rfl⟩
  simp [vld, lst, h1, h2, h3, h4, h5, h6, h7] at hv
theorem vld_rd (m : Msg) : vld (rdM m) = vld m := vld_tg _ _ _ _ _ _ _ _ _ _
theorem vld_no (m : Msg) : vld (noM m) = vld m := vld_tg _ _ _ _ _ _ _ _ _ _
theorem fbl_bz (m : Msg) (t : Tg) (z : Nat) : ∀ fs : List Int, fbl { m with tg := t, bz := z } fs = fbl m fs
  | [] => rfl
  | f :: fs => by simp only [fbl, fbl_bz m t z fs]; rfl
theorem enc_bz (m : Msg) (t : Tg) (z : Nat) : enc { m with tg := t, bz := z } = enc m := by
  simp only [enc, bodyB, fbl_bz]
theorem toB_k (k : Int) (h : 0 ≤ k ∧ k ≤ 255) : ((toB k).toNat : Int) = k := by rw [← w_toB]; exact w_u8 h
theorem enc_kd (m : Msg) (h : 0 ≤ m.kind ∧ m.kind ≤ 255) : kd (enc m) = m.kind := by
  show ((toB m.kind).toNat : Int) = _
  exact toB_k _ h
theorem enc_tail (m : Msg) (fs : List Int) (h : lst m.kind = some fs) : (enc m).drop 5 = fbl m fs := by
  show (bodyB m).drop 1 = _
  simp [bodyB, h]
theorem enc_len (m : Msg) : 5 ≤ (enc m).length := by simp [enc, lenB, bodyB]
theorem dR_enc (m : Msg) (hv : vld m = true) : dR (enc m) = (noM m, true) := by
  obtain ⟨fs, h1, h2, h3⟩ := prs_fbl m hv
  have hk := enc_kd m (by omega)
  unfold dR
  rw [hk, h1]
  simp only
  rw [enc_tail m fs h1, h3]
  simp only [vld_rd, hv, show enc (rdM m) = enc m from enc_bz _ _ _, decide_true, Bool.and_true]
  rfl
theorem dR_ok {W : List UInt8} (h : (dR W).2 = true) : ∃ m, dR W = (noM m, true) ∧ vld m = true ∧ enc m = W := by
  have h' := h
  unfold dR at h'
  cases hl : lst (kd W) with
  | none => rw [hl] at h'; cases h'
  | some fs =>
    rw [hl] at h'
    simp only at h'
    cases hp : prs fs (W.drop 5) (m0 (kd W)) with
    | none => rw [hp] at h'; cases h'
    | some p =>
      rw [hp] at h'
      simp only [Bool.and_eq_true, decide_eq_true_eq] at h'
      refine ⟨p.1, ?_, h'.1, h'.2⟩
      have := dR_enc p.1 h'.1
      rw [h'.2] at this
      exact this
end Go.Vm.Wr
