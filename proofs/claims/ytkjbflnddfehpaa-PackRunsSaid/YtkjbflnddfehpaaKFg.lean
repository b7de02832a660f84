/- A part of the proof of PackRunsSaid: YtkjbflnddfehpaaFg. -/
import Derived.Test.YtkjbflnddfehpaaKFf
/- The finder's entering; packing. -/
set_option linter.unusedVariables false
set_option linter.unusedSimpArgs false
set_option maxHeartbeats 1000000
namespace Go.Vm.Pk
theorem i64_one (x : Int) : [[D.int .i64 x]] = i64s [x] := rfl
theorem i64s_app (l r : List Int) : i64s l ++ i64s r = i64s (l ++ r) := by simp [i64s]
theorem flat4 (b : List UInt8) (i : Nat) (hi : i + 4 ≤ b.length) : (u8s ((b.drop i).take 4)).flatten = kD (k4 b i) := by
  have e : (b.drop i).take 4 = k4 b i := by
    apply List.ext_getElem?
    intro j
    rw [List.getElem?_take, List.getElem?_drop]
    have e : ∀ t, i + t < b.length → b[i + t]? = some (b.getD (i + t) 0) := fun t h => by
      simp [List.getD_eq_getElem?_getD, List.getElem?_eq_getElem h]
    match j with
    | 0 => rw [if_pos (by omega), e 0 (by omega)]; rfl
    | 1 => rw [if_pos (by omega), e 1 (by omega)]; rfl
    | 2 => rw [if_pos (by omega), e 2 (by omega)]; rfl
    | 3 => rw [if_pos (by omega), e 3 (by omega)]; rfl
    | j + 4 => rw [if_neg (by omega)]; rfl
  rw [e]; rfl
def mk' (b : List UInt8) (i : Nat) (m : List (List UInt8 × Nat)) : List (List UInt8 × Nat) := if b.length < i + 4 then m else pt (k4 b i) i m
def bk' (b : List UInt8) (i : Nat) (be : List Int) : List Int := if b.length < i + 4 then be ++ [-1] else be ++ [enc (prv b i i)]
theorem fnd_next {b : List UInt8} {m : List (List UInt8 × Nat)} {be : List Int} {q : Nat} (h : Fnd b m be q) : Fnd b (mk' b q m) (bk' b q be) (q + 1) := by
  have hb : bk' b q be = be ++ [if b.length < q + 4 then -1 else enc (prv b q q)] := by unfold bk'; split <;> rfl
  refine ⟨?_, ?_, ?_, ?_⟩
  · unfold mk'; split
    · exact h.a4
    · exact all4_pt _ rfl _ _ h.a4
  · rw [hb, List.length_append, h.len]; rfl
  · intro j h1 h2
    rw [hb]
    have hl := h.len
    by_cases e : j < q
    · rw [List.getD_eq_getElem?_getD, List.getElem?_append_left (by omega), ← List.getD_eq_getElem?_getD]
      exact h.bef j e h2
    · have : j = q := by omega
      subst this
      rw [List.getD_eq_getElem?_getD, List.getElem?_append_right (by omega), hl, Nat.sub_self, if_neg (by omega)]
      rfl
  · intro j h0 h1
    unfold mk'
    by_cases e : b.length < q + 4
    · omega
    · rw [if_neg e, lk_pt, h.last j (by omega) h1, prv]
      by_cases e2 : k4 b j = k4 b q
      · rw [if_pos e2, if_pos e2.symm]
      · rw [if_neg e2, if_neg (fun h => e2 h.symm)]
theorem enter_eq (b : List UInt8) (hb : b.length ≤ 1000000000000) (i : Nat) (hi : i < b.length) (m : List (List UInt8 × Nat)) (be : List Int) (f : Bool) (hF : Fnd b m be i) : runW false prog 21 [.ptr 0 0, .d (.int .i64 i)] [.box [sB b, .map 1, .row 2], .map true (kvD m), .row 1 f (i64s be)] = some (.tup [], [.box [sB b, .map 1, .row 3], .map true (kvD (mk' b i m)), .dead, .row 1 false (i64s (bk' b i be))], [0, 1, 2]) := by
  refine run_of rfl ?_
  have hl := hF.len
  by_cases h4 : b.length < i + 4
  · have e1 : ((b.length : Int) < (i : Int) + 4) = True := eq_true (by omega)
    unfold mk' bk'
    rw [if_pos h4, if_pos h4]
    simp -dsimp (disch := first | rfl | omega) only [sB, r21_0, r21_1, e1, i64s_len, i64_one, i64s_app, w_bi64, w_byte, or_128, or_128', u8_one, u8s_len, u8s_app, bytesOf_u8s, u8s_drop, u8s_take, tk_all, w_i64, u8s_at, ↓vmP, vm0, vm1, vm2, vm3, vm4, vm5, vm6, vm7, vm8, vm9, vm10, vm11, vm12, vm13, vm14, vm15, Nat.not_lt_zero, ifs_pos, b_quo, b_rem, b_shl, b_shr, b_sadd, Nat.reduceAdd, Nat.reduceMul, Nat.reduceSub, Nat.reduceEqDiff, Nat.reduceLT, Nat.reduceLeDiff, ↓reduceIte, List.length_cons, List.length_nil, List.take_succ_cons, List.take_zero, List.take_nil, List.drop_succ_cons, List.drop_zero, List.drop_nil, List.cons_append, List.nil_append, List.append_nil, List.map_cons, List.map_nil, List.getElem?_cons_zero, List.getElem?_cons_succ, List.flatten_cons, List.flatten_nil, and_true, true_and, Bool.false_eq_true, Bool.not_true, Bool.not_false, Bool.and_false, Bool.and_true, Bool.false_and, Bool.true_and, decide_true, decide_false, List.isEmpty_nil, List.isEmpty_cons, Option.isSome_none, Option.isSome_some, Option.isNone_none, Option.isNone_some, List.lookup_nil, List.set_cons_zero, List.set_cons_succ, Tg.isFull, List.length_append, Nat.zero_add, Nat.add_zero, Int.toNat_natCast, Nat.sub_zero, Int.toNat_zero, Int.reduceToNat, Nat.add_one_sub_one]
  · have e1 : ((b.length : Int) < (i : Int) + 4) = False := eq_false (by omega)
    have e2 : (4 ≤ (b.drop i).length) = True := eq_true (by rw [List.length_drop]; omega)
    have hflat := flat4 b i (by omega)
    have hk := kfind4 (k4 b i) rfl m hF.a4
    have hp := kput4 (k4 b i) rfl i m hF.a4
    simp only [kD, k4, List.map_cons, List.map_nil] at hk hflat hp
    have hlast := hF.last i (by omega) (by omega)
    simp only [k4] at hlast
    rw [hlast] at hk
    unfold mk' bk'
    rw [if_neg h4, if_neg h4]
    simp -dsimp (disch := first | rfl | omega) only [sB, r21_0, r21_2, r21_3, e1, e2, hflat, hk, w_bi64, w_byte, or_128, or_128', u8_one, u8s_len, u8s_app, bytesOf_u8s, u8s_drop, u8s_take, tk_all, w_i64, u8s_at, ↓vmP, vm0, vm1, vm2, vm3, vm4, vm5, vm6, vm7, vm8, vm9, vm10, vm11, vm12, vm13, vm14, vm15, Nat.not_lt_zero, ifs_pos, b_quo, b_rem, b_shl, b_shr, b_sadd, Nat.reduceAdd, Nat.reduceMul, Nat.reduceSub, Nat.reduceEqDiff, Nat.reduceLT, Nat.reduceLeDiff, ↓reduceIte, List.length_cons, List.length_nil, List.take_succ_cons, List.take_zero, List.take_nil, List.drop_succ_cons, List.drop_zero, List.drop_nil, List.cons_append, List.nil_append, List.append_nil, List.map_cons, List.map_nil, List.getElem?_cons_zero, List.getElem?_cons_succ, List.flatten_cons, List.flatten_nil, and_true, true_and, Bool.false_eq_true, Bool.not_true, Bool.not_false, Bool.and_false, Bool.and_true, Bool.false_and, Bool.true_and, decide_true, decide_false, List.isEmpty_nil, List.isEmpty_cons, Option.isSome_none, Option.isSome_some, Option.isNone_none, Option.isNone_some, List.lookup_nil, List.set_cons_zero, List.set_cons_succ, Tg.isFull, List.length_append, Nat.zero_add, Nat.add_zero, Int.toNat_natCast, Nat.sub_zero, Int.toNat_zero, Int.reduceToNat, Nat.add_one_sub_one]
    refine regD_of (by kernel_rfl) ?_
    cases hpr : prv b i i with
    | none =>
      rw [hpr] at hk
      simp -dsimp (disch := first | rfl | omega) only [r21_4, r21_5, r21_6, r21_7, hflat, hk, e2, Option.map_none, i64s_len, i64_one, i64s_app, enc, hp, w_bi64, w_byte, or_128, or_128', u8_one, u8s_len, u8s_app, bytesOf_u8s, u8s_drop, u8s_take, tk_all, w_i64, u8s_at, ↓vmP, vm0, vm1, vm2, vm3, vm4, vm5, vm6, vm7, vm8, vm9, vm10, vm11, vm12, vm13, vm14, vm15, Nat.not_lt_zero, ifs_pos, b_quo, b_rem, b_shl, b_shr, b_sadd, Nat.reduceAdd, Nat.reduceMul, Nat.reduceSub, Nat.reduceEqDiff, Nat.reduceLT, Nat.reduceLeDiff, ↓reduceIte, List.length_cons, List.length_nil, List.take_succ_cons, List.take_zero, List.take_nil, List.drop_succ_cons, List.drop_zero, List.drop_nil, List.cons_append, List.nil_append, List.append_nil, List.map_cons, List.map_nil, List.getElem?_cons_zero, List.getElem?_cons_succ, List.flatten_cons, List.flatten_nil, and_true, true_and, Bool.false_eq_true, Bool.not_true, Bool.not_false, Bool.and_false, Bool.and_true, Bool.false_and, Bool.true_and, decide_true, decide_false, List.isEmpty_nil, List.isEmpty_cons, Option.isSome_none, Option.isSome_some, Option.isNone_none, Option.isNone_some, List.lookup_nil, List.set_cons_zero, List.set_cons_succ, Tg.isFull, List.length_append, Nat.zero_add, Nat.add_zero, Int.toNat_natCast, Nat.sub_zero, Int.toNat_zero, Int.reduceToNat, Nat.add_one_sub_one]
      refine regD_of (by kernel_rfl) ?_
      simp -dsimp (disch := first | rfl | omega) only [hflat, hk, e2, Option.map_none, i64s_len, i64_one, i64s_app, enc, hp, w_bi64, w_byte, or_128, or_128', u8_one, u8s_len, u8s_app, bytesOf_u8s, u8s_drop, u8s_take, tk_all, w_i64, u8s_at, ↓vmP, vm0, vm1, vm2, vm3, vm4, vm5, vm6, vm7, vm8, vm9, vm10, vm11, vm12, vm13, vm14, vm15, Nat.not_lt_zero, ifs_pos, b_quo, b_rem, b_shl, b_shr, b_sadd, Nat.reduceAdd, Nat.reduceMul, Nat.reduceSub, Nat.reduceEqDiff, Nat.reduceLT, Nat.reduceLeDiff, ↓reduceIte, List.length_cons, List.length_nil, List.take_succ_cons, List.take_zero, List.take_nil, List.drop_succ_cons, List.drop_zero, List.drop_nil, List.cons_append, List.nil_append, List.append_nil, List.map_cons, List.map_nil, List.getElem?_cons_zero, List.getElem?_cons_succ, List.flatten_cons, List.flatten_nil, and_true, true_and, Bool.false_eq_true, Bool.not_true, Bool.not_false, Bool.and_false, Bool.and_true, Bool.false_and, Bool.true_and, decide_true, decide_false, List.isEmpty_nil, List.isEmpty_cons, Option.isSome_none, Option.isSome_some, Option.isNone_none, Option.isNone_some, List.lookup_nil, List.set_cons_zero, List.set_cons_succ, Tg.isFull, List.length_append, Nat.zero_add, Nat.add_zero, Int.toNat_natCast, Nat.sub_zero, Int.toNat_zero, Int.reduceToNat, Nat.add_one_sub_one]
      rfl
    | some p =>
      rw [hpr] at hk
      simp -dsimp (disch := first | rfl | omega) only [r21_4, r21_5, r21_6, r21_7, hflat, hk, e2, Option.map_some, Option.getD_some, i64s_len, i64_one, i64s_app, enc, hp, w_bi64, w_byte, or_128, or_128', u8_one, u8s_len, u8s_app, bytesOf_u8s, u8s_drop, u8s_take, tk_all, w_i64, u8s_at, ↓vmP, vm0, vm1, vm2, vm3, vm4, vm5, vm6, vm7, vm8, vm9, vm10, vm11, vm12, vm13, vm14, vm15, Nat.not_lt_zero, ifs_pos, b_quo, b_rem, b_shl, b_shr, b_sadd, Nat.reduceAdd, Nat.reduceMul, Nat.reduceSub, Nat.reduceEqDiff, Nat.reduceLT, Nat.reduceLeDiff, ↓reduceIte, List.length_cons, List.length_nil, List.take_succ_cons, List.take_zero, List.take_nil, List.drop_succ_cons, List.drop_zero, List.drop_nil, List.cons_append, List.nil_append, List.append_nil, List.map_cons, List.map_nil, List.getElem?_cons_zero, List.getElem?_cons_succ, List.flatten_cons, List.flatten_nil, and_true, true_and, Bool.false_eq_true, Bool.not_true, Bool.not_false, Bool.and_false, Bool.and_true, Bool.false_and, Bool.true_and, decide_true, decide_false, List.isEmpty_nil, List.isEmpty_cons, Option.isSome_none, Option.isSome_some, Option.isNone_none, Option.isNone_some, List.lookup_nil, List.set_cons_zero, List.set_cons_succ, Tg.isFull, List.length_append, Nat.zero_add, Nat.add_zero, Int.toNat_natCast, Nat.sub_zero, Int.toNat_zero, Int.reduceToNat, Nat.add_one_sub_one]
      refine regD_of (by kernel_rfl) ?_
      simp -dsimp (disch := first | rfl | omega) only [hflat, hk, e2, Option.map_none, i64s_len, i64_one, i64s_app, enc, hp, w_bi64, w_byte, or_128, or_128', u8_one, u8s_len, u8s_app, bytesOf_u8s, u8s_drop, u8s_take, tk_all, w_i64, u8s_at, ↓vmP, vm0, vm1, vm2, vm3, vm4, vm5, vm6, vm7, vm8, vm9, vm10, vm11, vm12, vm13, vm14, vm15, Nat.not_lt_zero, ifs_pos, b_quo, b_rem, b_shl, b_shr, b_sadd, Nat.reduceAdd, Nat.reduceMul, Nat.reduceSub, Nat.reduceEqDiff, Nat.reduceLT, Nat.reduceLeDiff, ↓reduceIte, List.length_cons, List.length_nil, List.take_succ_cons, List.take_zero, List.take_nil, List.drop_succ_cons, List.drop_zero, List.drop_nil, List.cons_append, List.nil_append, List.append_nil, List.map_cons, List.map_nil, List.getElem?_cons_zero, List.getElem?_cons_succ, List.flatten_cons, List.flatten_nil, and_true, true_and, Bool.false_eq_true, Bool.not_true, Bool.not_false, Bool.and_false, Bool.and_true, Bool.false_and, Bool.true_and, decide_true, decide_false, List.isEmpty_nil, List.isEmpty_cons, Option.isSome_none, Option.isSome_some, Option.isNone_none, Option.isNone_some, List.lookup_nil, List.set_cons_zero, List.set_cons_succ, Tg.isFull, List.length_append, Nat.zero_add, Nat.add_zero, Int.toNat_natCast, Nat.sub_zero, Int.toNat_zero, Int.reduceToNat, Nat.add_one_sub_one]
      rfl
end Go.Vm.Pk
