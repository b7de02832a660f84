/- A part of the proof of PackRunsSaid: YtkjbflnddfehpaaFf. -/
import Derived.Test.YtkjbflnddfehpaaKFe
/- The program's search. -/
set_option linter.unusedVariables false
set_option linter.unusedSimpArgs false
set_option maxHeartbeats 1000000
namespace Go.Vm.Pk
def kD (k : List UInt8) : List D := k.map fun c => .int .u8 c.toNat
def kvD (m : List (List UInt8 × Nat)) : List (List D × D) := m.map fun p => (kD p.1, .int .i64 p.2)
def i64s (l : List Int) : List (List D) := l.map fun x => [.int .i64 x]
/-- Four bytes at i. -/
def k4 (b : List UInt8) (i : Nat) : List UInt8 := [b.getD i 0, b.getD (i + 1) 0, b.getD (i + 2) 0, b.getD (i + 3) 0]
def lk (k : List UInt8) : List (List UInt8 × Nat) → Option Nat
  | [] => none
  | (k', p) :: r => if k = k' then some p else lk k r
def pt (k : List UInt8) (v : Nat) : List (List UInt8 × Nat) → List (List UInt8 × Nat)
  | [] => [(k, v)]
  | (k', p) :: r => if k = k' then (k, v) :: r else (k', p) :: pt k v r
theorem cE4 (k k' : List UInt8) (h : k.length = 4) (h' : k'.length = 4) : cellsEq [.int, .int, .int, .int] (kD k) (kD k') = some (decide (k = k')) := by
  match k, h, k', h' with
  | [a, b, c, d], _, [a', b', c', d'], _ =>
    simp only [kD, List.map_cons, List.map_nil, cellsEq, if_true]
    have e : ∀ x y : UInt8, ((x.toNat : Int) == (y.toNat : Int)) = decide (x = y) := fun x y => by
      rw [Bool.eq_iff_iff]; simp only [beq_iff_eq, decide_eq_true_eq, ← UInt8.toNat_inj]; omega
    simp only [e, decide_eq_true_eq]
    by_cases h1 : a = a'
    · by_cases h2 : b = b'
      · by_cases h3 : c = c'
        · by_cases h4 : d = d' <;> simp [h1, h2, h3, h4]
        · simp [h1, h2, h3]
      · simp [h1, h2]
    · simp [h1]
def all4 (m : List (List UInt8 × Nat)) : Prop := ∀ p ∈ m, p.1.length = 4
theorem kfind4 (k : List UInt8) (h : k.length = 4) : ∀ (m : List (List UInt8 × Nat)), all4 m → kfind [.int, .int, .int, .int] (kD k) (kvD m) = some ((lk k m).map fun (p : Nat) => D.int .i64 p)
  | [], _ => rfl
  | (k', p) :: r, hm => by
    have ih := kfind4 k h r (fun q hq => hm q (List.mem_cons_of_mem _ hq))
    have h' : k'.length = 4 := hm _ (List.mem_cons_self ..)
    simp only [kvD, List.map_cons, kfind, lk, cE4 k k' h h'] at ih ⊢
    by_cases e : k = k'
    · simp [e]
    · simp only [e, decide_false, if_false]; exact ih
theorem kput4 (k : List UInt8) (h : k.length = 4) (v : Nat) : ∀ (m : List (List UInt8 × Nat)), all4 m → kput [.int, .int, .int, .int] (kD k) (.int .i64 v) (kvD m) = some (kvD (pt k v m))
  | [], _ => rfl
  | (k', p) :: r, hm => by
    have ih := kput4 k h v r (fun q hq => hm q (List.mem_cons_of_mem _ hq))
    have h' : k'.length = 4 := hm _ (List.mem_cons_self ..)
    simp only [kvD, List.map_cons, kput, pt, cE4 k k' h h'] at ih ⊢
    by_cases e : k = k'
    · simp [e]
    · simp only [e, decide_false, if_false, ih, List.map_cons]
theorem all4_pt (k : List UInt8) (h : k.length = 4) (v : Nat) : ∀ (m : List (List UInt8 × Nat)), all4 m → all4 (pt k v m)
  | [], _ => by intro p hp; simp [pt] at hp; rw [hp]; exact h
  | (k', p) :: r, hm => by
    have ih := all4_pt k h v r (fun q hq => hm q (List.mem_cons_of_mem _ hq))
    have h' : k'.length = 4 := hm _ (List.mem_cons_self ..)
    unfold pt
    split
    · intro q hq
      rcases List.mem_cons.1 hq with rfl | hq
      · exact h
      · exact hm q (List.mem_cons_of_mem _ hq)
    · intro q hq
      rcases List.mem_cons.1 hq with rfl | hq
      · exact h'
      · exact ih q hq
theorem lk_pt (k : List UInt8) (v : Nat) (k2 : List UInt8) : ∀ (m : List (List UInt8 × Nat)), lk k2 (pt k v m) = if k2 = k then some v else lk k2 m
  | [] => by simp [pt, lk]
  | (k', p) :: r => by
    have ih := lk_pt k v k2 r
    unfold pt
    by_cases e : k = k'
    · subst e; simp only [if_true, lk]; split <;> rfl
    · simp only [e, if_false, lk, ih]
      by_cases e2 : k2 = k'
      · simp only [e2, if_true]; rw [if_neg (fun h => e h.symm)]
      · simp only [e2, if_false]
theorem k4_len (b : List UInt8) (i : Nat) : (k4 b i).length = 4 := rfl
/-- The last place before q with the same four bytes. -/
def prv (b : List UInt8) (i : Nat) : Nat → Option Nat
  | 0 => none
  | q + 1 => if k4 b q = k4 b i then some q else prv b i q
theorem prv_none {b : List UInt8} {i : Nat} : ∀ {q : Nat}, prv b i q = none → ∀ p, p < q → k4 b p ≠ k4 b i
  | 0, _, p, h => by omega
  | q + 1, h, p, hp => by
    unfold prv at h
    by_cases e : k4 b q = k4 b i
    · rw [if_pos e] at h; cases h
    · rw [if_neg e] at h
      by_cases e2 : p = q
      · rw [e2]; exact e
      · exact prv_none h p (by omega)
theorem prv_some {b : List UInt8} {i p0 : Nat} : ∀ {q : Nat}, prv b i q = some p0 → p0 < q ∧ k4 b p0 = k4 b i ∧ ∀ p, p0 < p → p < q → k4 b p ≠ k4 b i
  | 0, h => by cases h
  | q + 1, h => by
    unfold prv at h
    by_cases e : k4 b q = k4 b i
    · rw [if_pos e] at h; cases h
      exact ⟨by omega, e, fun p h1 h2 => by omega⟩
    · rw [if_neg e] at h
      have ⟨h1, h2, h3⟩ := prv_some h
      refine ⟨by omega, h2, fun p h4 h5 => ?_⟩
      by_cases e2 : p = q
      · rw [e2]; exact e
      · exact h3 p h4 (by omega)
theorem prv_congr {b : List UInt8} {i j : Nat} (h : k4 b i = k4 b j) : ∀ q, prv b i q = prv b j q
  | 0 => rfl
  | q + 1 => by unfold prv; rw [h, prv_congr h q]
theorem k4_inj {b : List UInt8} {p i : Nat} : k4 b p = k4 b i ↔ b.getD p 0 = b.getD i 0 ∧ b.getD (p + 1) 0 = b.getD (i + 1) 0 ∧ b.getD (p + 2) 0 = b.getD (i + 2) 0 ∧ b.getD (p + 3) 0 = b.getD (i + 3) 0 := by
  simp [k4]
theorem ml_lt4 (b : List UInt8) (i p k : Nat) (hp : p < i) (h : k4 b p ≠ k4 b i) : ml b i (i - p) k 0 < 4 := by
  have e0 : i + 0 - (i - p) = p := by omega
  have e1 : i + (0 + 1) - (i - p) = p + 1 := by omega
  have e2 : i + (0 + 1 + 1) - (i - p) = p + 2 := by omega
  have e3 : i + (0 + 1 + 1 + 1) - (i - p) = p + 3 := by omega
  match k with
  | 0 => unfold ml; omega
  | 1 => have := ml_le b i (i - p) 1 0; omega
  | 2 => have := ml_le b i (i - p) 2 0; omega
  | 3 => have := ml_le b i (i - p) 3 0; omega
  | k + 4 =>
    unfold ml; split
    · rename_i h0
      unfold ml; split
      · rename_i h1
        unfold ml; split
        · rename_i h2
          unfold ml; split
          · rename_i h3
            rw [e0] at h0; rw [e1] at h1; rw [e2] at h2; rw [e3] at h3
            exact absurd (k4_inj.2 ⟨h0.symm, h1.symm, h2.symm, h3.symm⟩) h
          · omega
        · omega
      · omega
    · omega
theorem ml_ge4 (b : List UInt8) (i p k : Nat) (hp : p < i) (hk : 4 ≤ k) (h : k4 b p = k4 b i) : 4 ≤ ml b i (i - p) k 0 := by
  have e0 : i + 0 - (i - p) = p := by omega
  have e1 : i + (0 + 1) - (i - p) = p + 1 := by omega
  have e2 : i + (0 + 1 + 1) - (i - p) = p + 2 := by omega
  have e3 : i + (0 + 1 + 1 + 1) - (i - p) = p + 3 := by omega
  have ⟨h0, h1, h2, h3⟩ := k4_inj.1 h
  obtain ⟨k, rfl⟩ : ∃ j, k = j + 4 := ⟨k - 4, by omega⟩
  unfold ml; rw [e0, if_pos (show b.getD (i + 0) 0 = _ from h0.symm)]
  unfold ml; rw [e1, if_pos (show b.getD (i + (0 + 1)) 0 = _ from h1.symm)]
  unfold ml; rw [e2, if_pos (show b.getD (i + (0 + 1 + 1)) 0 = _ from h2.symm)]
  unfold ml; rw [e3, if_pos (show b.getD (i + (0 + 1 + 1 + 1)) 0 = _ from h3.symm)]
  exact (ml_le b i (i - p) k _).1
def b4 (x : Nat × Nat) : Nat × Nat := if x.1 < 4 then (0, 0) else x
theorem cop_s (b : List UInt8) (i k d n a : Nat) : cop b i (k + 1) d n a = if n < ml b i d (mo b i) 0 then cop b i k (d + 1) (ml b i d (mo b i) 0) d else cop b i k (d + 1) n a := rfl
theorem cop_skip (b : List UInt8) (i r : Nat) : ∀ k d n a, (∀ j, d ≤ j → j < d + k → ml b i j (mo b i) 0 < 4) → ∃ n2 a2, cop b i (r + k) d n a = cop b i r (d + k) n2 a2 ∧ b4 (n2, a2) = b4 (n, a) ∧ (n ≤ mo b i → n2 ≤ mo b i)
  | 0, d, n, a, _ => ⟨n, a, rfl, rfl, id⟩
  | k + 1, d, n, a, h => by
    have hx := h d (by omega) (by omega)
    have hm := (ml_le b i d (mo b i) 0).2
    rw [show r + (k + 1) = (r + k) + 1 by omega, cop_s]
    by_cases e : n < ml b i d (mo b i) 0
    · rw [if_pos e]
      obtain ⟨n2, a2, h1, h2, h3⟩ := cop_skip b i r k (d + 1) (ml b i d (mo b i) 0) d (fun j h1 h2 => h j (by omega) (by omega))
      refine ⟨n2, a2, by rw [h1, show d + 1 + k = d + (k + 1) by omega], ?_, fun _ => h3 (by omega)⟩
      rw [h2]; unfold b4; simp only; rw [if_pos hx, if_pos (by omega)]
    · rw [if_neg e]
      obtain ⟨n2, a2, h1, h2, h3⟩ := cop_skip b i r k (d + 1) n a (fun j h1 h2 => h j (by omega) (by omega))
      exact ⟨n2, a2, by rw [h1, show d + 1 + k = d + (k + 1) by omega], h2, h3⟩
theorem cop_full (b : List UInt8) (i : Nat) : ∀ k d a, cop b i k d (mo b i) a = (mo b i, a)
  | 0, d, a => rfl
  | k + 1, d, a => by
    have := (ml_le b i d (mo b i) 0).2
    unfold cop
    rw [if_neg (by omega)]
    exact cop_full b i k (d + 1) a
def enc : Option Nat → Int
  | none => -1
  | some p => p
theorem i64s_at (l : List Int) {i : Nat} (h : i < l.length) : (i64s l)[i]? = some [.int .i64 (l.getD i 0)] := by
  simp [i64s, h, List.getD_eq_getElem?_getD]
theorem i64s_len (l : List Int) : (i64s l).length = l.length := by simp [i64s]
def fH (b : List UInt8) (m : List (List UInt8 × Nat)) (f : Bool) (be : List Int) : List (Nat × Chunk) := [(0, .box [sB b, .map 1, .row 2]), (1, .map true (kvD m)), (2, .row 1 f (i64s be))]
theorem mi_loop {Q : Ex → St → Prop} (b : List UInt8) (hb : b.length ≤ 1000000000000) (i p : Nat) (hi : i < b.length) (hp : p < i) (m : List (List UInt8 × Nat)) (be : List Int) (f : Bool) (le di : Nat) : ∀ (k n : Nat) (s : St), n + k = mo b i →
    gc [(0, none), (1, none), (6, none), (8, none), (9, none), (10, none), (11, none)] s = ⟨gS [(0, .ptr 0 0), (1, .d (.int .i64 i)), (6, .d (.int .i64 p)), (8, .d (.int .i64 (mo b i : Nat))), (9, .d (.int .i64 le)), (10, .d (.int .i64 di)), (11, .d (.int .i64 n))], gH (fH b m f be), 3, 3, []⟩ →
    (∀ nx L, Q (.exit 2) ⟨gS ((0, .ptr 0 0) :: (1, .d (.int .i64 i)) :: (6, .d (.int .i64 p)) :: (8, .d (.int .i64 (mo b i : Nat))) :: (9, .d (.int .i64 le)) :: (10, .d (.int .i64 di)) :: (11, .d (.int .i64 (ml b i (i - p) k n : Nat))) :: L), gH (fH b m f be), nx, 3, []⟩) →
    wpW false prog (.loop [(0, none), (1, none), (6, none), (8, none), (9, none), (10, none), (11, none)] l20_13) s Q := by
  intro k
  induction k with
  | zero =>
    intro n s hn hg hQ
    refine wp_loop1 ?_
    rw [hg]
    generalize hJ : (fun s' => wpW false prog (.loop [(0, none), (1, none), (6, none), (8, none), (9, none), (10, none), (11, none)] l20_13) s' Q) = J
    unfold l20_13
    have e1 : ((n : Int) < (mo b i : Nat)) = False := eq_false (by omega)
    simp only [fH] at hQ
    simp -dsimp (disch := first | rfl | omega) only [fH, r20_10, e1, w_bi64, w_byte, or_128, or_128', u8_one, u8s_len, u8s_app, bytesOf_u8s, u8s_drop, u8s_take, tk_all, w_i64, u8s_at, ↓vmP, vm0, vm1, vm2, vm3, vm4, vm5, vm6, vm7, vm8, vm9, vm10, vm11, vm12, vm13, vm14, vm15, Nat.not_lt_zero, ifs_pos, b_quo, b_rem, b_shl, b_shr, b_sadd, Nat.reduceAdd, Nat.reduceMul, Nat.reduceSub, Nat.reduceEqDiff, Nat.reduceLT, Nat.reduceLeDiff, ↓reduceIte, List.length_cons, List.length_nil, List.take_succ_cons, List.take_zero, List.take_nil, List.drop_succ_cons, List.drop_zero, List.drop_nil, List.cons_append, List.nil_append, List.append_nil, List.map_cons, List.map_nil, List.getElem?_cons_zero, List.getElem?_cons_succ, List.flatten_cons, List.flatten_nil, and_true, true_and, Bool.false_eq_true, Bool.not_true, Bool.not_false, Bool.and_false, Bool.and_true, Bool.false_and, Bool.true_and, decide_true, decide_false, List.isEmpty_nil, List.isEmpty_cons, Option.isSome_none, Option.isSome_some, Option.isNone_none, Option.isNone_some, List.lookup_nil, List.set_cons_zero, List.set_cons_succ, Tg.isFull, List.length_append, Nat.zero_add, Nat.add_zero, Int.toNat_natCast, Nat.sub_zero, Int.toNat_zero, Int.reduceToNat, Nat.add_one_sub_one]
    exact hQ _ _
  | succ k ih =>
    intro n s hn hg hQ
    refine wp_loop1 ?_
    rw [hg]
    generalize hJ : (fun s' => wpW false prog (.loop [(0, none), (1, none), (6, none), (8, none), (9, none), (10, none), (11, none)] l20_13) s' Q) = J
    unfold l20_13
    have e1 : ((n : Int) < (mo b i : Nat)) = True := eq_true (by omega)
    have hmo : mo b i ≤ b.length - i := by unfold mo; omega
    have e3 : ((i : Int) + n).toNat = i + n := by omega
    have e4 : ((p : Int) + n).toNat = i + n - (i - p) := by omega
    simp only [ml] at hQ
    by_cases hx : b.getD (i + n) 0 = b.getD (i + n - (i - p)) 0
    · have e5 : (((b.getD (i + n - (i - p)) 0).toNat : Int) = ((b.getD (i + n) 0).toNat : Int)) = True := eq_true (by rw [hx])
      have e6 : ((n : Int) + 1) = ((n + 1 : Nat) : Int) := by omega
      rw [if_pos hx] at hQ
      simp -dsimp (disch := first | rfl | omega) only [fH, sB, r20_10, r20_11, e1, e3, e4, e5, ne_eq, not_true_eq_false, not_false_eq_true, w_bi64, w_byte, or_128, or_128', u8_one, u8s_len, u8s_app, bytesOf_u8s, u8s_drop, u8s_take, tk_all, w_i64, u8s_at, ↓vmP, vm0, vm1, vm2, vm3, vm4, vm5, vm6, vm7, vm8, vm9, vm10, vm11, vm12, vm13, vm14, vm15, Nat.not_lt_zero, ifs_pos, b_quo, b_rem, b_shl, b_shr, b_sadd, Nat.reduceAdd, Nat.reduceMul, Nat.reduceSub, Nat.reduceEqDiff, Nat.reduceLT, Nat.reduceLeDiff, ↓reduceIte, List.length_cons, List.length_nil, List.take_succ_cons, List.take_zero, List.take_nil, List.drop_succ_cons, List.drop_zero, List.drop_nil, List.cons_append, List.nil_append, List.append_nil, List.map_cons, List.map_nil, List.getElem?_cons_zero, List.getElem?_cons_succ, List.flatten_cons, List.flatten_nil, and_true, true_and, Bool.false_eq_true, Bool.not_true, Bool.not_false, Bool.and_false, Bool.and_true, Bool.false_and, Bool.true_and, decide_true, decide_false, List.isEmpty_nil, List.isEmpty_cons, Option.isSome_none, Option.isSome_some, Option.isNone_none, Option.isNone_some, List.lookup_nil, List.set_cons_zero, List.set_cons_succ, Tg.isFull, List.length_append, Nat.zero_add, Nat.add_zero, Int.toNat_natCast, Nat.sub_zero, Int.toNat_zero, Int.reduceToNat, Nat.add_one_sub_one]
      refine regD_of (by kernel_rfl) ?_
      simp -dsimp (disch := first | rfl | omega) only [sB, r20_12, e1, e3, e4, e5, e6, ne_eq, not_true_eq_false, not_false_eq_true, w_bi64, w_byte, or_128, or_128', u8_one, u8s_len, u8s_app, bytesOf_u8s, u8s_drop, u8s_take, tk_all, w_i64, u8s_at, ↓vmP, vm0, vm1, vm2, vm3, vm4, vm5, vm6, vm7, vm8, vm9, vm10, vm11, vm12, vm13, vm14, vm15, Nat.not_lt_zero, ifs_pos, b_quo, b_rem, b_shl, b_shr, b_sadd, Nat.reduceAdd, Nat.reduceMul, Nat.reduceSub, Nat.reduceEqDiff, Nat.reduceLT, Nat.reduceLeDiff, ↓reduceIte, List.length_cons, List.length_nil, List.take_succ_cons, List.take_zero, List.take_nil, List.drop_succ_cons, List.drop_zero, List.drop_nil, List.cons_append, List.nil_append, List.append_nil, List.map_cons, List.map_nil, List.getElem?_cons_zero, List.getElem?_cons_succ, List.flatten_cons, List.flatten_nil, and_true, true_and, Bool.false_eq_true, Bool.not_true, Bool.not_false, Bool.and_false, Bool.and_true, Bool.false_and, Bool.true_and, decide_true, decide_false, List.isEmpty_nil, List.isEmpty_cons, Option.isSome_none, Option.isSome_some, Option.isNone_none, Option.isNone_some, List.lookup_nil, List.set_cons_zero, List.set_cons_succ, Tg.isFull, List.length_append, Nat.zero_add, Nat.add_zero, Int.toNat_natCast, Nat.sub_zero, Int.toNat_zero, Int.reduceToNat, Nat.add_one_sub_one]
      rw [← hJ]
      exact ih (n + 1) _ (by omega) (by simp -dsimp (disch := first | rfl | omega) only [fH, sB, w_bi64, w_byte, or_128, or_128', u8_one, u8s_len, u8s_app, bytesOf_u8s, u8s_drop, u8s_take, tk_all, w_i64, u8s_at, ↓vmP, vm0, vm1, vm2, vm3, vm4, vm5, vm6, vm7, vm8, vm9, vm10, vm11, vm12, vm13, vm14, vm15, Nat.not_lt_zero, ifs_pos, b_quo, b_rem, b_shl, b_shr, b_sadd, Nat.reduceAdd, Nat.reduceMul, Nat.reduceSub, Nat.reduceEqDiff, Nat.reduceLT, Nat.reduceLeDiff, ↓reduceIte, List.length_cons, List.length_nil, List.take_succ_cons, List.take_zero, List.take_nil, List.drop_succ_cons, List.drop_zero, List.drop_nil, List.cons_append, List.nil_append, List.append_nil, List.map_cons, List.map_nil, List.getElem?_cons_zero, List.getElem?_cons_succ, List.flatten_cons, List.flatten_nil, and_true, true_and, Bool.false_eq_true, Bool.not_true, Bool.not_false, Bool.and_false, Bool.and_true, Bool.false_and, Bool.true_and, decide_true, decide_false, List.isEmpty_nil, List.isEmpty_cons, Option.isSome_none, Option.isSome_some, Option.isNone_none, Option.isNone_some, List.lookup_nil, List.set_cons_zero, List.set_cons_succ, Tg.isFull, List.length_append, Nat.zero_add, Nat.add_zero, Int.toNat_natCast, Nat.sub_zero, Int.toNat_zero, Int.reduceToNat, Nat.add_one_sub_one]) hQ
    · have e5 : (((b.getD (i + n - (i - p)) 0).toNat : Int) = ((b.getD (i + n) 0).toNat : Int)) = False := eq_false (fun h => hx (UInt8.toNat_inj.1 (by omega)))
      rw [if_neg hx] at hQ
      simp -dsimp (disch := first | rfl | omega) only [fH, sB, r20_10, r20_11, e1, e3, e4, e5, ne_eq, not_true_eq_false, not_false_eq_true, w_bi64, w_byte, or_128, or_128', u8_one, u8s_len, u8s_app, bytesOf_u8s, u8s_drop, u8s_take, tk_all, w_i64, u8s_at, ↓vmP, vm0, vm1, vm2, vm3, vm4, vm5, vm6, vm7, vm8, vm9, vm10, vm11, vm12, vm13, vm14, vm15, Nat.not_lt_zero, ifs_pos, b_quo, b_rem, b_shl, b_shr, b_sadd, Nat.reduceAdd, Nat.reduceMul, Nat.reduceSub, Nat.reduceEqDiff, Nat.reduceLT, Nat.reduceLeDiff, ↓reduceIte, List.length_cons, List.length_nil, List.take_succ_cons, List.take_zero, List.take_nil, List.drop_succ_cons, List.drop_zero, List.drop_nil, List.cons_append, List.nil_append, List.append_nil, List.map_cons, List.map_nil, List.getElem?_cons_zero, List.getElem?_cons_succ, List.flatten_cons, List.flatten_nil, and_true, true_and, Bool.false_eq_true, Bool.not_true, Bool.not_false, Bool.and_false, Bool.and_true, Bool.false_and, Bool.true_and, decide_true, decide_false, List.isEmpty_nil, List.isEmpty_cons, Option.isSome_none, Option.isSome_some, Option.isNone_none, Option.isNone_some, List.lookup_nil, List.set_cons_zero, List.set_cons_succ, Tg.isFull, List.length_append, Nat.zero_add, Nat.add_zero, Int.toNat_natCast, Nat.sub_zero, Int.toNat_zero, Int.reduceToNat, Nat.add_one_sub_one]
      refine regD_of (by kernel_rfl) ?_
      simp only [fH, sB] at hQ
      simp -dsimp (disch := first | rfl | omega) only [sB, e1, e3, e4, e5, ne_eq, not_true_eq_false, not_false_eq_true, w_bi64, w_byte, or_128, or_128', u8_one, u8s_len, u8s_app, bytesOf_u8s, u8s_drop, u8s_take, tk_all, w_i64, u8s_at, ↓vmP, vm0, vm1, vm2, vm3, vm4, vm5, vm6, vm7, vm8, vm9, vm10, vm11, vm12, vm13, vm14, vm15, Nat.not_lt_zero, ifs_pos, b_quo, b_rem, b_shl, b_shr, b_sadd, Nat.reduceAdd, Nat.reduceMul, Nat.reduceSub, Nat.reduceEqDiff, Nat.reduceLT, Nat.reduceLeDiff, ↓reduceIte, List.length_cons, List.length_nil, List.take_succ_cons, List.take_zero, List.take_nil, List.drop_succ_cons, List.drop_zero, List.drop_nil, List.cons_append, List.nil_append, List.append_nil, List.map_cons, List.map_nil, List.getElem?_cons_zero, List.getElem?_cons_succ, List.flatten_cons, List.flatten_nil, and_true, true_and, Bool.false_eq_true, Bool.not_true, Bool.not_false, Bool.and_false, Bool.and_true, Bool.false_and, Bool.true_and, decide_true, decide_false, List.isEmpty_nil, List.isEmpty_cons, Option.isSome_none, Option.isSome_some, Option.isNone_none, Option.isNone_some, List.lookup_nil, List.set_cons_zero, List.set_cons_succ, Tg.isFull, List.length_append, Nat.zero_add, Nat.add_zero, Int.toNat_natCast, Nat.sub_zero, Int.toNat_zero, Int.reduceToNat, Nat.add_one_sub_one]
      exact hQ _ _
/-- What the finder knows when the places below q are entered. -/
structure Fnd (b : List UInt8) (m : List (List UInt8 × Nat)) (be : List Int) (q : Nat) : Prop where
  a4 : all4 m
  len : be.length = q
  bef : ∀ j, j < q → j + 4 ≤ b.length → be.getD j 0 = enc (prv b j j)
  last : ∀ j, q ≤ j → j + 4 ≤ b.length → lk (k4 b j) m = prv b j q
theorem b4_len {n a : Nat} {L D' : Nat} (h : b4 (n, a) = (L, D')) : (n < 4 ∧ L = 0 ∧ D' = 0) ∨ (4 ≤ n ∧ L = n ∧ D' = a) := by
  unfold b4 at h; simp only at h
  by_cases e : n < 4
  · rw [if_pos e] at h; cases h; exact .inl ⟨e, rfl, rfl⟩
  · rw [if_neg e] at h; cases h; exact .inr ⟨by omega, rfl, rfl⟩
theorem se_loop {Q : Ex → St → Prop} (b : List UInt8) (hb : b.length ≤ 1000000000000) (i : Nat) (hi : i + 4 ≤ b.length) (m : List (List UInt8 × Nat)) (be : List Int) (f : Bool) (hF : Fnd b m be i) : ∀ (k q d n a L D' : Nat) (s : St), q < k → q + d = i + 1 → 1 ≤ d → d ≤ min i 2048 + 1 → n ≤ mo b i → b4 (n, a) = (L, D') → L < mo b i → cop b i (min i 2048 + 1 - d) d n a = copd b i →
    gc [(0, none), (1, none), (6, none), (8, none), (9, none), (10, none)] s = ⟨gS [(0, .ptr 0 0), (1, .d (.int .i64 i)), (6, .d (.int .i64 (enc (prv b i q)))), (8, .d (.int .i64 (mo b i : Nat))), (9, .d (.int .i64 L)), (10, .d (.int .i64 D'))], gH (fH b m f be), 3, 3, []⟩ →
    (∀ nx p T, Q (.exit 0) ⟨gS ((0, .ptr 0 0) :: (1, .d (.int .i64 i)) :: (6, p) :: (8, .d (.int .i64 (mo b i : Nat))) :: (9, .d (.int .i64 (b4 (copd b i)).1)) :: (10, .d (.int .i64 (b4 (copd b i)).2)) :: T), gH (fH b m f be), nx, 3, []⟩) →
    wpW false prog (.loop [(0, none), (1, none), (6, none), (8, none), (9, none), (10, none)] l20_18) s Q := by
  intro k
  induction k with
  | zero => intro q d n a L D' s h; omega
  | succ k ih =>
    intro q d n a L D' s hq hqd hd1 hd2 hn h4 hL hT hg hQ
    refine wp_loop1 ?_
    rw [hg]
    generalize hJ : (fun s' => wpW false prog (.loop [(0, none), (1, none), (6, none), (8, none), (9, none), (10, none)] l20_18) s' Q) = J
    unfold l20_18
    have hmo : mo b i ≤ 131 ∧ 4 ≤ mo b i := by unfold mo; omega
    have hskip : ∀ j : Nat, 1 ≤ j → j ≤ i → (k4 b (i - j) ≠ k4 b i) → ml b i j (mo b i) 0 < 4 := fun j h1 h2 h3 => by
      have := ml_lt4 b i (i - j) (mo b i) (by omega) h3
      rwa [show i - (i - j) = j by omega] at this
    simp only [fH] at hQ
    cases hp : prv b i q with
    | none =>
      have hno := prv_none hp
      obtain ⟨n2, a2, g1, g2, g3⟩ := cop_skip b i 0 (min i 2048 + 1 - d) d n a (fun j h1 h2 => hskip j (by omega) (by omega) (hno _ (by omega)))
      rw [Nat.zero_add, hT] at g1
      have g4 : b4 (copd b i) = (L, D') := by rw [g1]; exact g2.trans h4
      rw [g4] at hQ
      have e1 : (0 ≤ (-1 : Int)) = False := eq_false (by omega)
      simp -dsimp (disch := first | rfl | omega) only [fH, enc, r20_8, e1, w_bi64, w_byte, or_128, or_128', u8_one, u8s_len, u8s_app, bytesOf_u8s, u8s_drop, u8s_take, tk_all, w_i64, u8s_at, ↓vmP, vm0, vm1, vm2, vm3, vm4, vm5, vm6, vm7, vm8, vm9, vm10, vm11, vm12, vm13, vm14, vm15, Nat.not_lt_zero, ifs_pos, b_quo, b_rem, b_shl, b_shr, b_sadd, Nat.reduceAdd, Nat.reduceMul, Nat.reduceSub, Nat.reduceEqDiff, Nat.reduceLT, Nat.reduceLeDiff, ↓reduceIte, List.length_cons, List.length_nil, List.take_succ_cons, List.take_zero, List.take_nil, List.drop_succ_cons, List.drop_zero, List.drop_nil, List.cons_append, List.nil_append, List.append_nil, List.map_cons, List.map_nil, List.getElem?_cons_zero, List.getElem?_cons_succ, List.flatten_cons, List.flatten_nil, and_true, true_and, Bool.false_eq_true, Bool.not_true, Bool.not_false, Bool.and_false, Bool.and_true, Bool.false_and, Bool.true_and, decide_true, decide_false, List.isEmpty_nil, List.isEmpty_cons, Option.isSome_none, Option.isSome_some, Option.isNone_none, Option.isNone_some, List.lookup_nil, List.set_cons_zero, List.set_cons_succ, Tg.isFull, List.length_append, Nat.zero_add, Nat.add_zero, Int.toNat_natCast, Nat.sub_zero, Int.toNat_zero, Int.reduceToNat, Nat.add_one_sub_one]
      exact hQ _ _ _
    | some p =>
      obtain ⟨p1, p2, p3⟩ := prv_some hp
      have e1 : (0 ≤ (p : Int)) = True := eq_true (by omega)
      by_cases hf : i - p ≤ 2048
      · have e2 : ((i : Int) - p ≤ 2048) = True := eq_true (by omega)
        obtain ⟨n2, a2, g1, g2, g3⟩ := cop_skip b i (min i 2048 + 1 - (i - p)) ((i - p) - d) d n a (fun j h1 h2 => hskip j (by omega) (by omega) (p3 _ (by omega) (by omega)))
        rw [show min i 2048 + 1 - (i - p) + ((i - p) - d) = min i 2048 + 1 - d by omega, hT, show d + ((i - p) - d) = i - p by omega, show min i 2048 + 1 - (i - p) = (min i 2048 - (i - p)) + 1 by omega, cop_s] at g1
        have hx1 := ml_ge4 b i p (mo b i) (by omega) hmo.2 p2
        have hx2 := (ml_le b i (i - p) (mo b i) 0).2
        have g5 := g3 hn
        have g6 := b4_len (g2.trans h4)
        simp -dsimp (disch := first | rfl | omega) only [fH, enc, r20_8, r20_9, e1, e2, w_bi64, w_byte, or_128, or_128', u8_one, u8s_len, u8s_app, bytesOf_u8s, u8s_drop, u8s_take, tk_all, w_i64, u8s_at, ↓vmP, vm0, vm1, vm2, vm3, vm4, vm5, vm6, vm7, vm8, vm9, vm10, vm11, vm12, vm13, vm14, vm15, Nat.not_lt_zero, ifs_pos, b_quo, b_rem, b_shl, b_shr, b_sadd, Nat.reduceAdd, Nat.reduceMul, Nat.reduceSub, Nat.reduceEqDiff, Nat.reduceLT, Nat.reduceLeDiff, ↓reduceIte, List.length_cons, List.length_nil, List.take_succ_cons, List.take_zero, List.take_nil, List.drop_succ_cons, List.drop_zero, List.drop_nil, List.cons_append, List.nil_append, List.append_nil, List.map_cons, List.map_nil, List.getElem?_cons_zero, List.getElem?_cons_succ, List.flatten_cons, List.flatten_nil, and_true, true_and, Bool.false_eq_true, Bool.not_true, Bool.not_false, Bool.and_false, Bool.and_true, Bool.false_and, Bool.true_and, decide_true, decide_false, List.isEmpty_nil, List.isEmpty_cons, Option.isSome_none, Option.isSome_some, Option.isNone_none, Option.isNone_some, List.lookup_nil, List.set_cons_zero, List.set_cons_succ, Tg.isFull, List.length_append, Nat.zero_add, Nat.add_zero, Int.toNat_natCast, Nat.sub_zero, Int.toNat_zero, Int.reduceToNat, Nat.add_one_sub_one]
        refine mi_loop b hb i p (by omega) (by omega) m be f L D' (mo b i) 0 _ (by omega) (by simp -dsimp (disch := first | rfl | omega) only [fH, w_bi64, w_byte, or_128, or_128', u8_one, u8s_len, u8s_app, bytesOf_u8s, u8s_drop, u8s_take, tk_all, w_i64, u8s_at, ↓vmP, vm0, vm1, vm2, vm3, vm4, vm5, vm6, vm7, vm8, vm9, vm10, vm11, vm12, vm13, vm14, vm15, Nat.not_lt_zero, ifs_pos, b_quo, b_rem, b_shl, b_shr, b_sadd, Nat.reduceAdd, Nat.reduceMul, Nat.reduceSub, Nat.reduceEqDiff, Nat.reduceLT, Nat.reduceLeDiff, ↓reduceIte, List.length_cons, List.length_nil, List.take_succ_cons, List.take_zero, List.take_nil, List.drop_succ_cons, List.drop_zero, List.drop_nil, List.cons_append, List.nil_append, List.append_nil, List.map_cons, List.map_nil, List.getElem?_cons_zero, List.getElem?_cons_succ, List.flatten_cons, List.flatten_nil, and_true, true_and, Bool.false_eq_true, Bool.not_true, Bool.not_false, Bool.and_false, Bool.and_true, Bool.false_and, Bool.true_and, decide_true, decide_false, List.isEmpty_nil, List.isEmpty_cons, Option.isSome_none, Option.isSome_some, Option.isNone_none, Option.isNone_some, List.lookup_nil, List.set_cons_zero, List.set_cons_succ, Tg.isFull, List.length_append, Nat.zero_add, Nat.add_zero, Int.toNat_natCast, Nat.sub_zero, Int.toNat_zero, Int.reduceToNat, Nat.add_one_sub_one]; rfl) (fun nx T => ?_)
        generalize ml b i (i - p) (mo b i) 0 = x at g1 hx1 hx2 ⊢
        have ex : ((i : Int) - p) = ((i - p : Nat) : Int) := by omega
        by_cases hxn : n2 < x
        · rw [if_pos hxn] at g1
          have e3 : ((L : Int) < (x : Nat)) = True := eq_true (by omega)
          have g7 : b4 (x, i - p) = (x, i - p) := by unfold b4; rw [if_neg (show ¬ x < 4 by omega)]
          by_cases hxm : x = mo b i
          · have e4 : ((x : Int) = (mo b i : Nat)) = True := eq_true (by omega)
            rw [hxm, cop_full, ← hxm] at g1
            rw [g1, g7] at hQ
            simp -dsimp (disch := first | rfl | omega) only [fH, r20_14, r20_15, r20_16, e3, e4, ex, w_bi64, w_byte, or_128, or_128', u8_one, u8s_len, u8s_app, bytesOf_u8s, u8s_drop, u8s_take, tk_all, w_i64, u8s_at, ↓vmP, vm0, vm1, vm2, vm3, vm4, vm5, vm6, vm7, vm8, vm9, vm10, vm11, vm12, vm13, vm14, vm15, Nat.not_lt_zero, ifs_pos, b_quo, b_rem, b_shl, b_shr, b_sadd, Nat.reduceAdd, Nat.reduceMul, Nat.reduceSub, Nat.reduceEqDiff, Nat.reduceLT, Nat.reduceLeDiff, ↓reduceIte, List.length_cons, List.length_nil, List.take_succ_cons, List.take_zero, List.take_nil, List.drop_succ_cons, List.drop_zero, List.drop_nil, List.cons_append, List.nil_append, List.append_nil, List.map_cons, List.map_nil, List.getElem?_cons_zero, List.getElem?_cons_succ, List.flatten_cons, List.flatten_nil, and_true, true_and, Bool.false_eq_true, Bool.not_true, Bool.not_false, Bool.and_false, Bool.and_true, Bool.false_and, Bool.true_and, decide_true, decide_false, List.isEmpty_nil, List.isEmpty_cons, Option.isSome_none, Option.isSome_some, Option.isNone_none, Option.isNone_some, List.lookup_nil, List.set_cons_zero, List.set_cons_succ, Tg.isFull, List.length_append, Nat.zero_add, Nat.add_zero, Int.toNat_natCast, Nat.sub_zero, Int.toNat_zero, Int.reduceToNat, Nat.add_one_sub_one]
            exact hQ _ _ _
          · have e4 : ((x : Int) = (mo b i : Nat)) = False := eq_false (by omega)
            have e5 := hF.bef p (by omega) (by omega)
            rw [prv_congr p2] at e5
            have hl := hF.len
            simp -dsimp (disch := first | rfl | omega) only [fH, r20_14, r20_15, r20_16, r20_17, e3, e4, e5, ex, i64s_len, i64s_at, w_bi64, w_byte, or_128, or_128', u8_one, u8s_len, u8s_app, bytesOf_u8s, u8s_drop, u8s_take, tk_all, w_i64, u8s_at, ↓vmP, vm0, vm1, vm2, vm3, vm4, vm5, vm6, vm7, vm8, vm9, vm10, vm11, vm12, vm13, vm14, vm15, Nat.not_lt_zero, ifs_pos, b_quo, b_rem, b_shl, b_shr, b_sadd, Nat.reduceAdd, Nat.reduceMul, Nat.reduceSub, Nat.reduceEqDiff, Nat.reduceLT, Nat.reduceLeDiff, ↓reduceIte, List.length_cons, List.length_nil, List.take_succ_cons, List.take_zero, List.take_nil, List.drop_succ_cons, List.drop_zero, List.drop_nil, List.cons_append, List.nil_append, List.append_nil, List.map_cons, List.map_nil, List.getElem?_cons_zero, List.getElem?_cons_succ, List.flatten_cons, List.flatten_nil, and_true, true_and, Bool.false_eq_true, Bool.not_true, Bool.not_false, Bool.and_false, Bool.and_true, Bool.false_and, Bool.true_and, decide_true, decide_false, List.isEmpty_nil, List.isEmpty_cons, Option.isSome_none, Option.isSome_some, Option.isNone_none, Option.isNone_some, List.lookup_nil, List.set_cons_zero, List.set_cons_succ, Tg.isFull, List.length_append, Nat.zero_add, Nat.add_zero, Int.toNat_natCast, Nat.sub_zero, Int.toNat_zero, Int.reduceToNat, Nat.add_one_sub_one]
            rw [← hJ]
            refine ih p (i - p + 1) x (i - p) x (i - p) _ (by omega) (by omega) (by omega) (by omega) (by omega) g7 (by omega) ?_ (by simp -dsimp (disch := first | rfl | omega) only [fH, sB, w_bi64, w_byte, or_128, or_128', u8_one, u8s_len, u8s_app, bytesOf_u8s, u8s_drop, u8s_take, tk_all, w_i64, u8s_at, ↓vmP, vm0, vm1, vm2, vm3, vm4, vm5, vm6, vm7, vm8, vm9, vm10, vm11, vm12, vm13, vm14, vm15, Nat.not_lt_zero, ifs_pos, b_quo, b_rem, b_shl, b_shr, b_sadd, Nat.reduceAdd, Nat.reduceMul, Nat.reduceSub, Nat.reduceEqDiff, Nat.reduceLT, Nat.reduceLeDiff, ↓reduceIte, List.length_cons, List.length_nil, List.take_succ_cons, List.take_zero, List.take_nil, List.drop_succ_cons, List.drop_zero, List.drop_nil, List.cons_append, List.nil_append, List.append_nil, List.map_cons, List.map_nil, List.getElem?_cons_zero, List.getElem?_cons_succ, List.flatten_cons, List.flatten_nil, and_true, true_and, Bool.false_eq_true, Bool.not_true, Bool.not_false, Bool.and_false, Bool.and_true, Bool.false_and, Bool.true_and, decide_true, decide_false, List.isEmpty_nil, List.isEmpty_cons, Option.isSome_none, Option.isSome_some, Option.isNone_none, Option.isNone_some, List.lookup_nil, List.set_cons_zero, List.set_cons_succ, Tg.isFull, List.length_append, Nat.zero_add, Nat.add_zero, Int.toNat_natCast, Nat.sub_zero, Int.toNat_zero, Int.reduceToNat, Nat.add_one_sub_one]) (by simp only [fH]; exact hQ)
            rw [show min i 2048 + 1 - (i - p + 1) = min i 2048 - (i - p) by omega]; exact g1.symm
        · rw [if_neg hxn] at g1
          have e3 : ((L : Int) < (x : Nat)) = False := eq_false (by omega)
          have e4 : ((x : Int) = (mo b i : Nat)) = False := eq_false (by omega)
          have e5 := hF.bef p (by omega) (by omega)
          rw [prv_congr p2] at e5
          have hl := hF.len
          simp -dsimp (disch := first | rfl | omega) only [fH, r20_14, r20_15, r20_16, r20_17, e3, e4, e5, ex, i64s_len, i64s_at, w_bi64, w_byte, or_128, or_128', u8_one, u8s_len, u8s_app, bytesOf_u8s, u8s_drop, u8s_take, tk_all, w_i64, u8s_at, ↓vmP, vm0, vm1, vm2, vm3, vm4, vm5, vm6, vm7, vm8, vm9, vm10, vm11, vm12, vm13, vm14, vm15, Nat.not_lt_zero, ifs_pos, b_quo, b_rem, b_shl, b_shr, b_sadd, Nat.reduceAdd, Nat.reduceMul, Nat.reduceSub, Nat.reduceEqDiff, Nat.reduceLT, Nat.reduceLeDiff, ↓reduceIte, List.length_cons, List.length_nil, List.take_succ_cons, List.take_zero, List.take_nil, List.drop_succ_cons, List.drop_zero, List.drop_nil, List.cons_append, List.nil_append, List.append_nil, List.map_cons, List.map_nil, List.getElem?_cons_zero, List.getElem?_cons_succ, List.flatten_cons, List.flatten_nil, and_true, true_and, Bool.false_eq_true, Bool.not_true, Bool.not_false, Bool.and_false, Bool.and_true, Bool.false_and, Bool.true_and, decide_true, decide_false, List.isEmpty_nil, List.isEmpty_cons, Option.isSome_none, Option.isSome_some, Option.isNone_none, Option.isNone_some, List.lookup_nil, List.set_cons_zero, List.set_cons_succ, Tg.isFull, List.length_append, Nat.zero_add, Nat.add_zero, Int.toNat_natCast, Nat.sub_zero, Int.toNat_zero, Int.reduceToNat, Nat.add_one_sub_one]
          rw [← hJ]
          refine ih p (i - p + 1) n2 a2 L D' _ (by omega) (by omega) (by omega) (by omega) (by omega) (g2.trans h4) (by omega) ?_ (by simp -dsimp (disch := first | rfl | omega) only [fH, sB, w_bi64, w_byte, or_128, or_128', u8_one, u8s_len, u8s_app, bytesOf_u8s, u8s_drop, u8s_take, tk_all, w_i64, u8s_at, ↓vmP, vm0, vm1, vm2, vm3, vm4, vm5, vm6, vm7, vm8, vm9, vm10, vm11, vm12, vm13, vm14, vm15, Nat.not_lt_zero, ifs_pos, b_quo, b_rem, b_shl, b_shr, b_sadd, Nat.reduceAdd, Nat.reduceMul, Nat.reduceSub, Nat.reduceEqDiff, Nat.reduceLT, Nat.reduceLeDiff, ↓reduceIte, List.length_cons, List.length_nil, List.take_succ_cons, List.take_zero, List.take_nil, List.drop_succ_cons, List.drop_zero, List.drop_nil, List.cons_append, List.nil_append, List.append_nil, List.map_cons, List.map_nil, List.getElem?_cons_zero, List.getElem?_cons_succ, List.flatten_cons, List.flatten_nil, and_true, true_and, Bool.false_eq_true, Bool.not_true, Bool.not_false, Bool.and_false, Bool.and_true, Bool.false_and, Bool.true_and, decide_true, decide_false, List.isEmpty_nil, List.isEmpty_cons, Option.isSome_none, Option.isSome_some, Option.isNone_none, Option.isNone_some, List.lookup_nil, List.set_cons_zero, List.set_cons_succ, Tg.isFull, List.length_append, Nat.zero_add, Nat.add_zero, Int.toNat_natCast, Nat.sub_zero, Int.toNat_zero, Int.reduceToNat, Nat.add_one_sub_one]) (by simp only [fH]; exact hQ)
          rw [show min i 2048 + 1 - (i - p + 1) = min i 2048 - (i - p) by omega]; exact g1.symm
      · have e2 : ((i : Int) - p ≤ 2048) = False := eq_false (by omega)
        obtain ⟨n2, a2, g1, g2, g3⟩ := cop_skip b i 0 (min i 2048 + 1 - d) d n a (fun j h1 h2 => hskip j (by omega) (by omega) (p3 _ (by omega) (by omega)))
        rw [Nat.zero_add, hT] at g1
        have g4 : b4 (copd b i) = (L, D') := by rw [g1]; exact g2.trans h4
        rw [g4] at hQ
        simp -dsimp (disch := first | rfl | omega) only [fH, enc, r20_8, e1, e2, w_bi64, w_byte, or_128, or_128', u8_one, u8s_len, u8s_app, bytesOf_u8s, u8s_drop, u8s_take, tk_all, w_i64, u8s_at, ↓vmP, vm0, vm1, vm2, vm3, vm4, vm5, vm6, vm7, vm8, vm9, vm10, vm11, vm12, vm13, vm14, vm15, Nat.not_lt_zero, ifs_pos, b_quo, b_rem, b_shl, b_shr, b_sadd, Nat.reduceAdd, Nat.reduceMul, Nat.reduceSub, Nat.reduceEqDiff, Nat.reduceLT, Nat.reduceLeDiff, ↓reduceIte, List.length_cons, List.length_nil, List.take_succ_cons, List.take_zero, List.take_nil, List.drop_succ_cons, List.drop_zero, List.drop_nil, List.cons_append, List.nil_append, List.append_nil, List.map_cons, List.map_nil, List.getElem?_cons_zero, List.getElem?_cons_succ, List.flatten_cons, List.flatten_nil, and_true, true_and, Bool.false_eq_true, Bool.not_true, Bool.not_false, Bool.and_false, Bool.and_true, Bool.false_and, Bool.true_and, decide_true, decide_false, List.isEmpty_nil, List.isEmpty_cons, Option.isSome_none, Option.isSome_some, Option.isNone_none, Option.isNone_some, List.lookup_nil, List.set_cons_zero, List.set_cons_succ, Tg.isFull, List.length_append, Nat.zero_add, Nat.add_zero, Int.toNat_natCast, Nat.sub_zero, Int.toNat_zero, Int.reduceToNat, Nat.add_one_sub_one]
        exact hQ _ _ _
theorem copyAt_eq (b : List UInt8) (hb : b.length ≤ 1000000000000) (i : Nat) (hi : i < b.length) (m : List (List UInt8 × Nat)) (be : List Int) (f : Bool) (hF : Fnd b m be i) : runW false prog 20 [.ptr 0 0, .d (.int .i64 i)] [.box [sB b, .map 1, .row 2], .map true (kvD m), .row 1 f (i64s be)] = some (.tup [.d (.int .i64 (b4 (copd b i)).1), .d (.int .i64 (b4 (copd b i)).2)], [.box [sB b, .map 1, .row 2], .map true (kvD m), .row 1 f (i64s be)], []) := by
  refine run_of rfl ?_
  by_cases h4 : b.length < i + 4
  · have e1 : ((b.length : Int) < (i : Int) + 4) = True := eq_true (by omega)
    have hs := cop_spec b i hi (min i 2048) 1 0 0 (by omega) (by omega) (by omega) (by omega)
    have hz : b4 (copd b i) = (0, 0) := by
      unfold b4; rw [if_pos]
      have : mo b i < 4 := by unfold mo; omega
      exact Nat.lt_of_le_of_lt hs.1 this
    rw [hz]
    simp -dsimp (disch := first | rfl | omega) only [sB, r20_0, r20_1, r20_2, e1, w_bi64, w_byte, or_128, or_128', u8_one, u8s_len, u8s_app, bytesOf_u8s, u8s_drop, u8s_take, tk_all, w_i64, u8s_at, ↓vmP, vm0, vm1, vm2, vm3, vm4, vm5, vm6, vm7, vm8, vm9, vm10, vm11, vm12, vm13, vm14, vm15, Nat.not_lt_zero, ifs_pos, b_quo, b_rem, b_shl, b_shr, b_sadd, Nat.reduceAdd, Nat.reduceMul, Nat.reduceSub, Nat.reduceEqDiff, Nat.reduceLT, Nat.reduceLeDiff, ↓reduceIte, List.length_cons, List.length_nil, List.take_succ_cons, List.take_zero, List.take_nil, List.drop_succ_cons, List.drop_zero, List.drop_nil, List.cons_append, List.nil_append, List.append_nil, List.map_cons, List.map_nil, List.getElem?_cons_zero, List.getElem?_cons_succ, List.flatten_cons, List.flatten_nil, and_true, true_and, Bool.false_eq_true, Bool.not_true, Bool.not_false, Bool.and_false, Bool.and_true, Bool.false_and, Bool.true_and, decide_true, decide_false, List.isEmpty_nil, List.isEmpty_cons, Option.isSome_none, Option.isSome_some, Option.isNone_none, Option.isNone_some, List.lookup_nil, List.set_cons_zero, List.set_cons_succ, Tg.isFull, List.length_append, Nat.zero_add, Nat.add_zero, Int.toNat_natCast, Nat.sub_zero, Int.toNat_zero, Int.reduceToNat, Nat.add_one_sub_one]
    try rfl
  · have e1 : ((b.length : Int) < (i : Int) + 4) = False := eq_false (by omega)
    have e2 : (4 ≤ (b.drop i).length) = True := eq_true (by rw [List.length_drop]; omega)
    have hflat : (u8s ((b.drop i).take 4)).flatten = kD (k4 b i) := by
      have e : (b.drop i).take 4 = k4 b i := by
        apply List.ext_getElem?
        intro j
        rw [List.getElem?_take, List.getElem?_drop]
        have e : ∀ t, i + t < b.length → b[i + t]? = some (b.getD (i + t) 0) := fun t h => by
          simp [List.getD_eq_getElem?_getD, List.getElem?_eq_getElem h]
        match j with
        | 0 => rw [if_pos (by omega), e 0 (by omega)]; rfl
        | 1 => rw [if_pos (by omega), e 1 (by omega)]; rfl
        | 2 => rw [if_pos (by omega), e 2 (by omega)]; rfl
        | 3 => rw [if_pos (by omega), e 3 (by omega)]; rfl
        | j + 4 => rw [if_neg (by omega)]; rfl
      rw [e]; rfl
    have hk := kfind4 (k4 b i) rfl m hF.a4
    simp only [kD, k4, List.map_cons, List.map_nil] at hk hflat
    have hlast := hF.last i (by omega) (by omega)
    simp only [k4] at hlast
    rw [hlast] at hk
    simp -dsimp (disch := first | rfl | omega) only [sB, r20_0, r20_1, r20_3, e1, e2, hflat, hk, w_bi64, w_byte, or_128, or_128', u8_one, u8s_len, u8s_app, bytesOf_u8s, u8s_drop, u8s_take, tk_all, w_i64, u8s_at, ↓vmP, vm0, vm1, vm2, vm3, vm4, vm5, vm6, vm7, vm8, vm9, vm10, vm11, vm12, vm13, vm14, vm15, Nat.not_lt_zero, ifs_pos, b_quo, b_rem, b_shl, b_shr, b_sadd, Nat.reduceAdd, Nat.reduceMul, Nat.reduceSub, Nat.reduceEqDiff, Nat.reduceLT, Nat.reduceLeDiff, ↓reduceIte, List.length_cons, List.length_nil, List.take_succ_cons, List.take_zero, List.take_nil, List.drop_succ_cons, List.drop_zero, List.drop_nil, List.cons_append, List.nil_append, List.append_nil, List.map_cons, List.map_nil, List.getElem?_cons_zero, List.getElem?_cons_succ, List.flatten_cons, List.flatten_nil, and_true, true_and, Bool.false_eq_true, Bool.not_true, Bool.not_false, Bool.and_false, Bool.and_true, Bool.false_and, Bool.true_and, decide_true, decide_false, List.isEmpty_nil, List.isEmpty_cons, Option.isSome_none, Option.isSome_some, Option.isNone_none, Option.isNone_some, List.lookup_nil, List.set_cons_zero, List.set_cons_succ, Tg.isFull, List.length_append, Nat.zero_add, Nat.add_zero, Int.toNat_natCast, Nat.sub_zero, Int.toNat_zero, Int.reduceToNat, Nat.add_one_sub_one]
    refine regD_of (by kernel_rfl) ?_
    cases hp : prv b i i with
    | none =>
      have hno := prv_none hp
      obtain ⟨n2, a2, g1, g2, g3⟩ := cop_skip b i 0 (min i 2048) 1 0 0 (fun j h1 h2 => by
        have := ml_lt4 b i (i - j) (mo b i) (by omega) (hno _ (by omega))
        rwa [show i - (i - j) = j by omega] at this)
      rw [Nat.zero_add] at g1
      have g4 : b4 (copd b i) = (0, 0) := by
        change b4 (cop b i (min i 2048) 1 0 0) = _
        rw [g1]; exact g2
      rw [g4]
      rw [hp] at hk
      simp -dsimp (disch := first | rfl | omega) only [sB, r20_4, r20_5, hflat, hk, e2, Option.map_none, w_bi64, w_byte, or_128, or_128', u8_one, u8s_len, u8s_app, bytesOf_u8s, u8s_drop, u8s_take, tk_all, w_i64, u8s_at, ↓vmP, vm0, vm1, vm2, vm3, vm4, vm5, vm6, vm7, vm8, vm9, vm10, vm11, vm12, vm13, vm14, vm15, Nat.not_lt_zero, ifs_pos, b_quo, b_rem, b_shl, b_shr, b_sadd, Nat.reduceAdd, Nat.reduceMul, Nat.reduceSub, Nat.reduceEqDiff, Nat.reduceLT, Nat.reduceLeDiff, ↓reduceIte, List.length_cons, List.length_nil, List.take_succ_cons, List.take_zero, List.take_nil, List.drop_succ_cons, List.drop_zero, List.drop_nil, List.cons_append, List.nil_append, List.append_nil, List.map_cons, List.map_nil, List.getElem?_cons_zero, List.getElem?_cons_succ, List.flatten_cons, List.flatten_nil, and_true, true_and, Bool.false_eq_true, Bool.not_true, Bool.not_false, Bool.and_false, Bool.and_true, Bool.false_and, Bool.true_and, decide_true, decide_false, List.isEmpty_nil, List.isEmpty_cons, Option.isSome_none, Option.isSome_some, Option.isNone_none, Option.isNone_some, List.lookup_nil, List.set_cons_zero, List.set_cons_succ, Tg.isFull, List.length_append, Nat.zero_add, Nat.add_zero, Int.toNat_natCast, Nat.sub_zero, Int.toNat_zero, Int.reduceToNat, Nat.add_one_sub_one]
      rfl
    | some p =>
      rw [hp] at hk
      have e3 : (if (b.length : Int) - (i : Int) < 131 then (b.length : Int) - (i : Int) else 131) = ((mo b i : Nat) : Int) := by unfold mo; split <;> omega
      have hmo : 4 ≤ mo b i := by unfold mo; omega
      simp -dsimp (disch := first | rfl | omega) only [sB, r20_4, r20_6, r20_7, hflat, hk, e2, Option.map_some, e3, w_bi64, w_byte, or_128, or_128', u8_one, u8s_len, u8s_app, bytesOf_u8s, u8s_drop, u8s_take, tk_all, w_i64, u8s_at, ↓vmP, vm0, vm1, vm2, vm3, vm4, vm5, vm6, vm7, vm8, vm9, vm10, vm11, vm12, vm13, vm14, vm15, Nat.not_lt_zero, ifs_pos, b_quo, b_rem, b_shl, b_shr, b_sadd, Nat.reduceAdd, Nat.reduceMul, Nat.reduceSub, Nat.reduceEqDiff, Nat.reduceLT, Nat.reduceLeDiff, ↓reduceIte, List.length_cons, List.length_nil, List.take_succ_cons, List.take_zero, List.take_nil, List.drop_succ_cons, List.drop_zero, List.drop_nil, List.cons_append, List.nil_append, List.append_nil, List.map_cons, List.map_nil, List.getElem?_cons_zero, List.getElem?_cons_succ, List.flatten_cons, List.flatten_nil, and_true, true_and, Bool.false_eq_true, Bool.not_true, Bool.not_false, Bool.and_false, Bool.and_true, Bool.false_and, Bool.true_and, decide_true, decide_false, List.isEmpty_nil, List.isEmpty_cons, Option.isSome_none, Option.isSome_some, Option.isNone_none, Option.isNone_some, List.lookup_nil, List.set_cons_zero, List.set_cons_succ, Tg.isFull, List.length_append, Nat.zero_add, Nat.add_zero, Int.toNat_natCast, Nat.sub_zero, Int.toNat_zero, Int.reduceToNat, Nat.add_one_sub_one]
      refine se_loop b hb i (by omega) m be f hF (i + 1) i 1 0 0 0 0 _ (by omega) (by omega) (by omega) (by omega) (by omega) rfl (by omega) rfl (by simp -dsimp (disch := first | rfl | omega) only [fH, sB, hp, enc, w_bi64, w_byte, or_128, or_128', u8_one, u8s_len, u8s_app, bytesOf_u8s, u8s_drop, u8s_take, tk_all, w_i64, u8s_at, ↓vmP, vm0, vm1, vm2, vm3, vm4, vm5, vm6, vm7, vm8, vm9, vm10, vm11, vm12, vm13, vm14, vm15, Nat.not_lt_zero, ifs_pos, b_quo, b_rem, b_shl, b_shr, b_sadd, Nat.reduceAdd, Nat.reduceMul, Nat.reduceSub, Nat.reduceEqDiff, Nat.reduceLT, Nat.reduceLeDiff, ↓reduceIte, List.length_cons, List.length_nil, List.take_succ_cons, List.take_zero, List.take_nil, List.drop_succ_cons, List.drop_zero, List.drop_nil, List.cons_append, List.nil_append, List.append_nil, List.map_cons, List.map_nil, List.getElem?_cons_zero, List.getElem?_cons_succ, List.flatten_cons, List.flatten_nil, and_true, true_and, Bool.false_eq_true, Bool.not_true, Bool.not_false, Bool.and_false, Bool.and_true, Bool.false_and, Bool.true_and, decide_true, decide_false, List.isEmpty_nil, List.isEmpty_cons, Option.isSome_none, Option.isSome_some, Option.isNone_none, Option.isNone_some, List.lookup_nil, List.set_cons_zero, List.set_cons_succ, Tg.isFull, List.length_append, Nat.zero_add, Nat.add_zero, Int.toNat_natCast, Nat.sub_zero, Int.toNat_zero, Int.reduceToNat, Nat.add_one_sub_one]; rfl) (fun nx p' T => ?_)
      simp -dsimp (disch := first | rfl | omega) only [fH, sB, r20_19, w_bi64, w_byte, or_128, or_128', u8_one, u8s_len, u8s_app, bytesOf_u8s, u8s_drop, u8s_take, tk_all, w_i64, u8s_at, ↓vmP, vm0, vm1, vm2, vm3, vm4, vm5, vm6, vm7, vm8, vm9, vm10, vm11, vm12, vm13, vm14, vm15, Nat.not_lt_zero, ifs_pos, b_quo, b_rem, b_shl, b_shr, b_sadd, Nat.reduceAdd, Nat.reduceMul, Nat.reduceSub, Nat.reduceEqDiff, Nat.reduceLT, Nat.reduceLeDiff, ↓reduceIte, List.length_cons, List.length_nil, List.take_succ_cons, List.take_zero, List.take_nil, List.drop_succ_cons, List.drop_zero, List.drop_nil, List.cons_append, List.nil_append, List.append_nil, List.map_cons, List.map_nil, List.getElem?_cons_zero, List.getElem?_cons_succ, List.flatten_cons, List.flatten_nil, and_true, true_and, Bool.false_eq_true, Bool.not_true, Bool.not_false, Bool.and_false, Bool.and_true, Bool.false_and, Bool.true_and, decide_true, decide_false, List.isEmpty_nil, List.isEmpty_cons, Option.isSome_none, Option.isSome_some, Option.isNone_none, Option.isNone_some, List.lookup_nil, List.set_cons_zero, List.set_cons_succ, Tg.isFull, List.length_append, Nat.zero_add, Nat.add_zero, Int.toNat_natCast, Nat.sub_zero, Int.toNat_zero, Int.reduceToNat, Nat.add_one_sub_one]
end Go.Vm.Pk
