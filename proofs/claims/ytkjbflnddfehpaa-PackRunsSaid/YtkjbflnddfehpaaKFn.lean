/- A part of the proof of PackRunsSaid: YtkjbflnddfehpaaFn. -/
import Derived.Test.YtkjbflnddfehpaaKFm
/- The laws on packing and back, and on repetitions, run by the machine. -/
set_option linter.unusedVariables false
set_option linter.unusedSimpArgs false
set_option maxHeartbeats 1000000
namespace Go.Vm.Pk
theorem l5_loop {Q : Ex → St → Prop} (xs : List (List UInt8)) (hx : ∀ x ∈ xs, x.length ≤ 100000) (hl : xs.length ≤ 1000) : ∀ (k j : Nat) (s : St), j + k = xs.length →
    gc [(22, none), (23, none), (24, none)] s = ⟨gS [(22, .row 0), (23, .d (.int .i64 xs.length)), (24, .d (.int .i64 j))], gH [(0, .row 1 false (sls xs))], 1, 0, []⟩ →
    (∀ L H, Q (.exit 0) ⟨gS L, gH H, 9, 0, []⟩) → wpW false prog (.loop [(22, none), (23, none), (24, none)] l5_13) s Q := by
  intro k
  induction k with
  | zero =>
    intro j s hj hg hQ
    refine wp_loop1 ?_
    rw [hg]
    generalize hJ : (fun s' => wpW false prog (.loop [(22, none), (23, none), (24, none)] l5_13) s' Q) = J
    unfold l5_13
    have e1 : ((j : Int) < xs.length) = False := eq_false (by omega)
    simp -dsimp (disch := first | rfl | omega) only [r5_3, e1, w_bi64, w_byte, or_128, or_128', u8_one, u8s_len, u8s_app, bytesOf_u8s, u8s_drop, u8s_take, tk_all, w_i64, u8s_at, ↓vmP, vm0, vm1, vm2, vm3, vm4, vm5, vm6, vm7, vm8, vm9, vm10, vm11, vm12, vm13, vm14, vm15, Nat.not_lt_zero, ifs_pos, b_quo, b_rem, b_shl, b_shr, b_sadd, Nat.reduceAdd, Nat.reduceMul, Nat.reduceSub, Nat.reduceEqDiff, Nat.reduceLT, Nat.reduceLeDiff, ↓reduceIte, List.length_cons, List.length_nil, List.take_succ_cons, List.take_zero, List.take_nil, List.drop_succ_cons, List.drop_zero, List.drop_nil, List.cons_append, List.nil_append, List.append_nil, List.map_cons, List.map_nil, List.getElem?_cons_zero, List.getElem?_cons_succ, List.flatten_cons, List.flatten_nil, and_true, true_and, Bool.false_eq_true, Bool.not_true, Bool.not_false, Bool.and_false, Bool.and_true, Bool.false_and, Bool.true_and, decide_true, decide_false, List.isEmpty_nil, List.isEmpty_cons, Option.isSome_none, Option.isSome_some, Option.isNone_none, Option.isNone_some, List.lookup_nil, List.set_cons_zero, List.set_cons_succ, Tg.isFull, List.length_append, Nat.zero_add, Nat.add_zero, Int.toNat_natCast, Nat.sub_zero, Int.toNat_zero, Int.reduceToNat, Nat.add_one_sub_one]
    exact hQ _ _
  | succ k ih =>
    intro j s hj hg hQ
    refine wp_loop1 ?_
    rw [hg]
    generalize hJ : (fun s' => wpW false prog (.loop [(22, none), (23, none), (24, none)] l5_13) s' Q) = J
    unfold l5_13
    have e1 : ((j : Int) < xs.length) = True := eq_true (by omega)
    have e2 : ((j : Int) + 1) = ((j + 1 : Nat) : Int) := by omega
    have hb : (xs.getD j []).length ≤ 100000 := hx _ (by
      rw [List.getD_eq_getElem?_getD, List.getElem?_eq_getElem (by omega)]; exact List.getElem_mem _)
    have hat := sls_at xs (j := j) (by omega)
    generalize xs.getD j [] = b at hb hat
    have h1 := Pack_eq b (by omega)
    have g1 := upk_pk b (by omega) b.length (by omega)
    have g2 := upk_short b (by omega)
    have g3 := pk_least b (by omega)
    generalize pk b (b.length + 1) 0 0 (vb b.length) = x at h1 g1 g2 g3
    have h2 := Unpack_eq x (by omega) b.length (by omega)
    have h4 := Unpack_eq x (by omega) ((b.length : Int) - 1) (by omega)
    rw [g1] at h2
    rw [g2] at h4
    simp only at h2 h4
    have h3 := fun t1 t2 z1 z2 => SameBytes_eq b b t1 t2 z1 z2
    simp only [decide_true] at h3
    simp only [sB] at h1
    have eq : ((b.length : Int) + 126).tdiv 127 = (((b.length + 126) / 127 : Nat) : Int) := by
      rw [Int.tdiv_eq_ediv_of_nonneg (by omega)]; omega
    have e5 : ((b.length : Int) + (((b.length + 126) / 127 : Nat) : Int) + 10 < (x.length : Int)) = False := eq_false (by omega)
    simp -dsimp (disch := first | rfl | omega) only [r5_3, r5_4, r5_5, r5_6, r5_7, r5_9, r5_10, r5_12, callW_fn pgPack, callW_fn pgUnpack, callW_fn pgSame, e1, e2, h1, h2, h3, h4, hat, sls_len, eq, e5, ne_eq, not_true_eq_false, w_bi64, w_byte, or_128, or_128', u8_one, u8s_len, u8s_app, bytesOf_u8s, u8s_drop, u8s_take, tk_all, w_i64, u8s_at, ↓vmP, vm0, vm1, vm2, vm3, vm4, vm5, vm6, vm7, vm8, vm9, vm10, vm11, vm12, vm13, vm14, vm15, Nat.not_lt_zero, ifs_pos, b_quo, b_rem, b_shl, b_shr, b_sadd, Nat.reduceAdd, Nat.reduceMul, Nat.reduceSub, Nat.reduceEqDiff, Nat.reduceLT, Nat.reduceLeDiff, ↓reduceIte, List.length_cons, List.length_nil, List.take_succ_cons, List.take_zero, List.take_nil, List.drop_succ_cons, List.drop_zero, List.drop_nil, List.cons_append, List.nil_append, List.append_nil, List.map_cons, List.map_nil, List.getElem?_cons_zero, List.getElem?_cons_succ, List.flatten_cons, List.flatten_nil, and_true, true_and, Bool.false_eq_true, Bool.not_true, Bool.not_false, Bool.and_false, Bool.and_true, Bool.false_and, Bool.true_and, decide_true, decide_false, List.isEmpty_nil, List.isEmpty_cons, Option.isSome_none, Option.isSome_some, Option.isNone_none, Option.isNone_some, List.lookup_nil, List.set_cons_zero, List.set_cons_succ, Tg.isFull, List.length_append, Nat.zero_add, Nat.add_zero, Int.toNat_natCast, Nat.sub_zero, Int.toNat_zero, Int.reduceToNat, Nat.add_one_sub_one]
    rw [← hJ]
    exact ih (j + 1) _ (by omega) (by simp -dsimp (disch := first | rfl | omega) only [w_bi64, w_byte, or_128, or_128', u8_one, u8s_len, u8s_app, bytesOf_u8s, u8s_drop, u8s_take, tk_all, w_i64, u8s_at, ↓vmP, vm0, vm1, vm2, vm3, vm4, vm5, vm6, vm7, vm8, vm9, vm10, vm11, vm12, vm13, vm14, vm15, Nat.not_lt_zero, ifs_pos, b_quo, b_rem, b_shl, b_shr, b_sadd, Nat.reduceAdd, Nat.reduceMul, Nat.reduceSub, Nat.reduceEqDiff, Nat.reduceLT, Nat.reduceLeDiff, ↓reduceIte, List.length_cons, List.length_nil, List.take_succ_cons, List.take_zero, List.take_nil, List.drop_succ_cons, List.drop_zero, List.drop_nil, List.cons_append, List.nil_append, List.append_nil, List.map_cons, List.map_nil, List.getElem?_cons_zero, List.getElem?_cons_succ, List.flatten_cons, List.flatten_nil, and_true, true_and, Bool.false_eq_true, Bool.not_true, Bool.not_false, Bool.and_false, Bool.and_true, Bool.false_and, Bool.true_and, decide_true, decide_false, List.isEmpty_nil, List.isEmpty_cons, Option.isSome_none, Option.isSome_some, Option.isNone_none, Option.isNone_some, List.lookup_nil, List.set_cons_zero, List.set_cons_succ, Tg.isFull, List.length_append, Nat.zero_add, Nat.add_zero, Int.toNat_natCast, Nat.sub_zero, Int.toNat_zero, Int.reduceToNat, Nat.add_one_sub_one]) hQ
theorem law_back (codes raw : List UInt8) (hr : raw.length ≤ 9223372036854775807) : runW false prog 5 [sB codes, sB raw] [] = some (.d (.bool true), [], []) := by
  refine run_of rfl ?_
  have h1 := New_eq codes 150 (by omega)
  obtain ⟨bs, a', hb1, hb2, h2⟩ := Text_ex (codes.take 150) 0 800 (by rw [List.length_take]; omega) (by omega) (by omega)
  have er : (if (800 : Int) < (raw.length : Int) then (800 : Int) else (raw.length : Int)) = ((min raw.length 800 : Nat) : Int) := by split <;> omega
  have hl : (raw.take (min raw.length 800)).length ≤ 800 := by rw [List.length_take]; omega
  rw [show ((150 : Nat) : Int) = 150 from rfl] at h1
  rw [show ((800 : Nat) : Int) = 800 from rfl] at h2
  simp only [cs] at h1 h2
  simp -dsimp (disch := first | rfl | omega) only [sB, r5_0, r5_1, r5_2, callW_fn pgNew, callW_fn pgText, h1, h2, er, w_bi64, w_byte, or_128, or_128', u8_one, u8s_len, u8s_app, bytesOf_u8s, u8s_drop, u8s_take, tk_all, w_i64, u8s_at, ↓vmP, vm0, vm1, vm2, vm3, vm4, vm5, vm6, vm7, vm8, vm9, vm10, vm11, vm12, vm13, vm14, vm15, Nat.not_lt_zero, ifs_pos, b_quo, b_rem, b_shl, b_shr, b_sadd, Nat.reduceAdd, Nat.reduceMul, Nat.reduceSub, Nat.reduceEqDiff, Nat.reduceLT, Nat.reduceLeDiff, ↓reduceIte, List.length_cons, List.length_nil, List.take_succ_cons, List.take_zero, List.take_nil, List.drop_succ_cons, List.drop_zero, List.drop_nil, List.cons_append, List.nil_append, List.append_nil, List.map_cons, List.map_nil, List.getElem?_cons_zero, List.getElem?_cons_succ, List.flatten_cons, List.flatten_nil, and_true, true_and, Bool.false_eq_true, Bool.not_true, Bool.not_false, Bool.and_false, Bool.and_true, Bool.false_and, Bool.true_and, decide_true, decide_false, List.isEmpty_nil, List.isEmpty_cons, Option.isSome_none, Option.isSome_some, Option.isNone_none, Option.isNone_some, List.lookup_nil, List.set_cons_zero, List.set_cons_succ, Tg.isFull, List.length_append, Nat.zero_add, Nat.add_zero, Int.toNat_natCast, Nat.sub_zero, Int.toNat_zero, Int.reduceToNat, Nat.add_one_sub_one]
  refine regD_of (by kernel_rfl) ?_
  simp -dsimp (disch := first | rfl | omega) only [sls2, w_bi64, w_byte, or_128, or_128', u8_one, u8s_len, u8s_app, bytesOf_u8s, u8s_drop, u8s_take, tk_all, w_i64, u8s_at, ↓vmP, vm0, vm1, vm2, vm3, vm4, vm5, vm6, vm7, vm8, vm9, vm10, vm11, vm12, vm13, vm14, vm15, Nat.not_lt_zero, ifs_pos, b_quo, b_rem, b_shl, b_shr, b_sadd, Nat.reduceAdd, Nat.reduceMul, Nat.reduceSub, Nat.reduceEqDiff, Nat.reduceLT, Nat.reduceLeDiff, ↓reduceIte, List.length_cons, List.length_nil, List.take_succ_cons, List.take_zero, List.take_nil, List.drop_succ_cons, List.drop_zero, List.drop_nil, List.cons_append, List.nil_append, List.append_nil, List.map_cons, List.map_nil, List.getElem?_cons_zero, List.getElem?_cons_succ, List.flatten_cons, List.flatten_nil, and_true, true_and, Bool.false_eq_true, Bool.not_true, Bool.not_false, Bool.and_false, Bool.and_true, Bool.false_and, Bool.true_and, decide_true, decide_false, List.isEmpty_nil, List.isEmpty_cons, Option.isSome_none, Option.isSome_some, Option.isNone_none, Option.isNone_some, List.lookup_nil, List.set_cons_zero, List.set_cons_succ, Tg.isFull, List.length_append, Nat.zero_add, Nat.add_zero, Int.toNat_natCast, Nat.sub_zero, Int.toNat_zero, Int.reduceToNat, Nat.add_one_sub_one]
  refine l5_loop [bs, raw.take (min raw.length 800)] (fun x hx => ?_) (by simp) 2 0 _ rfl (by simp -dsimp (disch := first | rfl | omega) only [w_bi64, w_byte, or_128, or_128', u8_one, u8s_len, u8s_app, bytesOf_u8s, u8s_drop, u8s_take, tk_all, w_i64, u8s_at, ↓vmP, vm0, vm1, vm2, vm3, vm4, vm5, vm6, vm7, vm8, vm9, vm10, vm11, vm12, vm13, vm14, vm15, Nat.not_lt_zero, ifs_pos, b_quo, b_rem, b_shl, b_shr, b_sadd, Nat.reduceAdd, Nat.reduceMul, Nat.reduceSub, Nat.reduceEqDiff, Nat.reduceLT, Nat.reduceLeDiff, ↓reduceIte, List.length_cons, List.length_nil, List.take_succ_cons, List.take_zero, List.take_nil, List.drop_succ_cons, List.drop_zero, List.drop_nil, List.cons_append, List.nil_append, List.append_nil, List.map_cons, List.map_nil, List.getElem?_cons_zero, List.getElem?_cons_succ, List.flatten_cons, List.flatten_nil, and_true, true_and, Bool.false_eq_true, Bool.not_true, Bool.not_false, Bool.and_false, Bool.and_true, Bool.false_and, Bool.true_and, decide_true, decide_false, List.isEmpty_nil, List.isEmpty_cons, Option.isSome_none, Option.isSome_some, Option.isNone_none, Option.isNone_some, List.lookup_nil, List.set_cons_zero, List.set_cons_succ, Tg.isFull, List.length_append, Nat.zero_add, Nat.add_zero, Int.toNat_natCast, Nat.sub_zero, Int.toNat_zero, Int.reduceToNat, Nat.add_one_sub_one]; rfl) (fun L H => ?_)
  · simp at hx; rcases hx with rfl | rfl <;> omega
  · simp -dsimp (disch := first | rfl | omega) only [r5_14, callW_fn pgBegun, begun_eq, w_bi64, w_byte, or_128, or_128', u8_one, u8s_len, u8s_app, bytesOf_u8s, u8s_drop, u8s_take, tk_all, w_i64, u8s_at, ↓vmP, vm0, vm1, vm2, vm3, vm4, vm5, vm6, vm7, vm8, vm9, vm10, vm11, vm12, vm13, vm14, vm15, Nat.not_lt_zero, ifs_pos, b_quo, b_rem, b_shl, b_shr, b_sadd, Nat.reduceAdd, Nat.reduceMul, Nat.reduceSub, Nat.reduceEqDiff, Nat.reduceLT, Nat.reduceLeDiff, ↓reduceIte, List.length_cons, List.length_nil, List.take_succ_cons, List.take_zero, List.take_nil, List.drop_succ_cons, List.drop_zero, List.drop_nil, List.cons_append, List.nil_append, List.append_nil, List.map_cons, List.map_nil, List.getElem?_cons_zero, List.getElem?_cons_succ, List.flatten_cons, List.flatten_nil, and_true, true_and, Bool.false_eq_true, Bool.not_true, Bool.not_false, Bool.and_false, Bool.and_true, Bool.false_and, Bool.true_and, decide_true, decide_false, List.isEmpty_nil, List.isEmpty_cons, Option.isSome_none, Option.isSome_some, Option.isNone_none, Option.isNone_some, List.lookup_nil, List.set_cons_zero, List.set_cons_succ, Tg.isFull, List.length_append, Nat.zero_add, Nat.add_zero, Int.toNat_natCast, Nat.sub_zero, Int.toNat_zero, Int.reduceToNat, Nat.add_one_sub_one]
theorem l6_loop {Q : Ex → St → Prop} (part : List UInt8) (hp : part.length ≤ 9) (times : UInt8) : ∀ (k t : Nat) (f : Bool) (s : St), t + k = times.toNat →
    gc [(0, none), (1, none), (5, some 1), (6, none)] s = ⟨gS [(0, sB part), (1, .d (.int .u8 times.toNat)), (5, .row 0), (6, .d (.int .i64 t))], gH [(0, .row 1 f (u8s (reps part t)))], 1, 0, []⟩ →
    (∀ f, Q (.exit 0) ⟨gS [(0, sB part), (1, .d (.int .u8 times.toNat)), (5, .row 0), (6, .d (.int .i64 times.toNat)), (18, .d (.bool false))], gH [(0, .row 1 f (u8s (reps part times.toNat)))], 33, 0, []⟩) → wpW false prog (.loop [(0, none), (1, none), (5, some 1), (6, none)] l6_7) s Q := by
  intro k
  have h256 := times.toNat_lt
  induction k with
  | zero =>
    intro t f s hj hg hQ
    refine wp_loop1 ?_
    rw [hg]
    generalize hJ : (fun s' => wpW false prog (.loop [(0, none), (1, none), (5, some 1), (6, none)] l6_7) s' Q) = J
    unfold l6_7
    have ht : t = times.toNat := by omega
    subst ht
    have e1 : ((times.toNat : Int) < times.toNat) = False := eq_false (by omega)
    simp only [sB] at hQ
    simp -dsimp (disch := first | rfl | omega) only [sB, r6_4, e1, w_bi64, w_byte, or_128, or_128', u8_one, u8s_len, u8s_app, bytesOf_u8s, u8s_drop, u8s_take, tk_all, w_i64, u8s_at, ↓vmP, vm0, vm1, vm2, vm3, vm4, vm5, vm6, vm7, vm8, vm9, vm10, vm11, vm12, vm13, vm14, vm15, Nat.not_lt_zero, ifs_pos, b_quo, b_rem, b_shl, b_shr, b_sadd, Nat.reduceAdd, Nat.reduceMul, Nat.reduceSub, Nat.reduceEqDiff, Nat.reduceLT, Nat.reduceLeDiff, ↓reduceIte, List.length_cons, List.length_nil, List.take_succ_cons, List.take_zero, List.take_nil, List.drop_succ_cons, List.drop_zero, List.drop_nil, List.cons_append, List.nil_append, List.append_nil, List.map_cons, List.map_nil, List.getElem?_cons_zero, List.getElem?_cons_succ, List.flatten_cons, List.flatten_nil, and_true, true_and, Bool.false_eq_true, Bool.not_true, Bool.not_false, Bool.and_false, Bool.and_true, Bool.false_and, Bool.true_and, decide_true, decide_false, List.isEmpty_nil, List.isEmpty_cons, Option.isSome_none, Option.isSome_some, Option.isNone_none, Option.isNone_some, List.lookup_nil, List.set_cons_zero, List.set_cons_succ, Tg.isFull, List.length_append, Nat.zero_add, Nat.add_zero, Int.toNat_natCast, Nat.sub_zero, Int.toNat_zero, Int.reduceToNat, Nat.add_one_sub_one]
    exact hQ f
  | succ k ih =>
    intro t f s hj hg hQ
    refine wp_loop1 ?_
    rw [hg]
    generalize hJ : (fun s' => wpW false prog (.loop [(0, none), (1, none), (5, some 1), (6, none)] l6_7) s' Q) = J
    unfold l6_7
    have e1 : ((t : Int) < times.toNat) = True := eq_true (by omega)
    have e2 : ((t : Int) + 1) = ((t + 1 : Nat) : Int) := by omega
    have hl := reps_len part t
    have hle : t * part.length ≤ 255 * 9 := Nat.mul_le_mul (by omega) hp
    simp -dsimp (disch := first | rfl | omega) only [sB, r6_4, r6_5, r6_6, e1, e2, w_bi64, w_byte, or_128, or_128', u8_one, u8s_len, u8s_app, bytesOf_u8s, u8s_drop, u8s_take, tk_all, w_i64, u8s_at, ↓vmP, vm0, vm1, vm2, vm3, vm4, vm5, vm6, vm7, vm8, vm9, vm10, vm11, vm12, vm13, vm14, vm15, Nat.not_lt_zero, ifs_pos, b_quo, b_rem, b_shl, b_shr, b_sadd, Nat.reduceAdd, Nat.reduceMul, Nat.reduceSub, Nat.reduceEqDiff, Nat.reduceLT, Nat.reduceLeDiff, ↓reduceIte, List.length_cons, List.length_nil, List.take_succ_cons, List.take_zero, List.take_nil, List.drop_succ_cons, List.drop_zero, List.drop_nil, List.cons_append, List.nil_append, List.append_nil, List.map_cons, List.map_nil, List.getElem?_cons_zero, List.getElem?_cons_succ, List.flatten_cons, List.flatten_nil, and_true, true_and, Bool.false_eq_true, Bool.not_true, Bool.not_false, Bool.and_false, Bool.and_true, Bool.false_and, Bool.true_and, decide_true, decide_false, List.isEmpty_nil, List.isEmpty_cons, Option.isSome_none, Option.isSome_some, Option.isNone_none, Option.isNone_some, List.lookup_nil, List.set_cons_zero, List.set_cons_succ, Tg.isFull, List.length_append, Nat.zero_add, Nat.add_zero, Int.toNat_natCast, Nat.sub_zero, Int.toNat_zero, Int.reduceToNat, Nat.add_one_sub_one]
    rw [← hJ]
    exact ih (t + 1) false _ (by omega) (by simp -dsimp (disch := first | rfl | omega) only [sB, reps, w_bi64, w_byte, or_128, or_128', u8_one, u8s_len, u8s_app, bytesOf_u8s, u8s_drop, u8s_take, tk_all, w_i64, u8s_at, ↓vmP, vm0, vm1, vm2, vm3, vm4, vm5, vm6, vm7, vm8, vm9, vm10, vm11, vm12, vm13, vm14, vm15, Nat.not_lt_zero, ifs_pos, b_quo, b_rem, b_shl, b_shr, b_sadd, Nat.reduceAdd, Nat.reduceMul, Nat.reduceSub, Nat.reduceEqDiff, Nat.reduceLT, Nat.reduceLeDiff, ↓reduceIte, List.length_cons, List.length_nil, List.take_succ_cons, List.take_zero, List.take_nil, List.drop_succ_cons, List.drop_zero, List.drop_nil, List.cons_append, List.nil_append, List.append_nil, List.map_cons, List.map_nil, List.getElem?_cons_zero, List.getElem?_cons_succ, List.flatten_cons, List.flatten_nil, and_true, true_and, Bool.false_eq_true, Bool.not_true, Bool.not_false, Bool.and_false, Bool.and_true, Bool.false_and, Bool.true_and, decide_true, decide_false, List.isEmpty_nil, List.isEmpty_cons, Option.isSome_none, Option.isSome_some, Option.isNone_none, Option.isNone_some, List.lookup_nil, List.set_cons_zero, List.set_cons_succ, Tg.isFull, List.length_append, Nat.zero_add, Nat.add_zero, Int.toNat_natCast, Nat.sub_zero, Int.toNat_zero, Int.reduceToNat, Nat.add_one_sub_one]) hQ
theorem law_runs (part : List UInt8) (hr : part.length ≤ 9223372036854775807) (times : UInt8) : runW false prog 6 [sB part, .d (.int .u8 times.toNat)] [] = some (.d (.bool true), [], []) := by
  refine run_of rfl ?_
  have er : (if (9 : Int) < (part.length : Int) then (9 : Int) else (part.length : Int)) = ((min part.length 9 : Nat) : Int) := by split <;> omega
  have hp : (part.take (min part.length 9)).length ≤ 9 := by rw [List.length_take]; omega
  simp -dsimp (disch := first | rfl | omega) only [sB, r6_0, r6_1, r6_2, r6_3, er, w_bi64, w_byte, or_128, or_128', u8_one, u8s_len, u8s_app, bytesOf_u8s, u8s_drop, u8s_take, tk_all, w_i64, u8s_at, ↓vmP, vm0, vm1, vm2, vm3, vm4, vm5, vm6, vm7, vm8, vm9, vm10, vm11, vm12, vm13, vm14, vm15, Nat.not_lt_zero, ifs_pos, b_quo, b_rem, b_shl, b_shr, b_sadd, Nat.reduceAdd, Nat.reduceMul, Nat.reduceSub, Nat.reduceEqDiff, Nat.reduceLT, Nat.reduceLeDiff, ↓reduceIte, List.length_cons, List.length_nil, List.take_succ_cons, List.take_zero, List.take_nil, List.drop_succ_cons, List.drop_zero, List.drop_nil, List.cons_append, List.nil_append, List.append_nil, List.map_cons, List.map_nil, List.getElem?_cons_zero, List.getElem?_cons_succ, List.flatten_cons, List.flatten_nil, and_true, true_and, Bool.false_eq_true, Bool.not_true, Bool.not_false, Bool.and_false, Bool.and_true, Bool.false_and, Bool.true_and, decide_true, decide_false, List.isEmpty_nil, List.isEmpty_cons, Option.isSome_none, Option.isSome_some, Option.isNone_none, Option.isNone_some, List.lookup_nil, List.set_cons_zero, List.set_cons_succ, Tg.isFull, List.length_append, Nat.zero_add, Nat.add_zero, Int.toNat_natCast, Nat.sub_zero, Int.toNat_zero, Int.reduceToNat, Nat.add_one_sub_one]
  generalize part.take (min part.length 9) = part at hp
  have h256 := times.toNat_lt
  refine l6_loop part hp times times.toNat 0 true _ (by omega) (by simp -dsimp (disch := first | rfl | omega) only [sB, w_bi64, w_byte, or_128, or_128', u8_one, u8s_len, u8s_app, bytesOf_u8s, u8s_drop, u8s_take, tk_all, w_i64, u8s_at, ↓vmP, vm0, vm1, vm2, vm3, vm4, vm5, vm6, vm7, vm8, vm9, vm10, vm11, vm12, vm13, vm14, vm15, Nat.not_lt_zero, ifs_pos, b_quo, b_rem, b_shl, b_shr, b_sadd, Nat.reduceAdd, Nat.reduceMul, Nat.reduceSub, Nat.reduceEqDiff, Nat.reduceLT, Nat.reduceLeDiff, ↓reduceIte, List.length_cons, List.length_nil, List.take_succ_cons, List.take_zero, List.take_nil, List.drop_succ_cons, List.drop_zero, List.drop_nil, List.cons_append, List.nil_append, List.append_nil, List.map_cons, List.map_nil, List.getElem?_cons_zero, List.getElem?_cons_succ, List.flatten_cons, List.flatten_nil, and_true, true_and, Bool.false_eq_true, Bool.not_true, Bool.not_false, Bool.and_false, Bool.and_true, Bool.false_and, Bool.true_and, decide_true, decide_false, List.isEmpty_nil, List.isEmpty_cons, Option.isSome_none, Option.isSome_some, Option.isNone_none, Option.isNone_some, List.lookup_nil, List.set_cons_zero, List.set_cons_succ, Tg.isFull, List.length_append, Nat.zero_add, Nat.add_zero, Int.toNat_natCast, Nat.sub_zero, Int.toNat_zero, Int.reduceToNat, Nat.add_one_sub_one]; rfl) (fun f => ?_)
  have hl := reps_len part times.toNat
  have hle : times.toNat * part.length ≤ 255 * 9 := Nat.mul_le_mul (by omega) hp
  have g3 := pk_runs part hp times.toNat (by omega)
  generalize reps part times.toNat = b at hl g3
  have h1 := Pack_eq b (by omega)
  have g1 := upk_pk b (by omega) b.length (by omega)
  generalize pk b (b.length + 1) 0 0 (vb b.length) = x at h1 g1 g3
  have h2 := Unpack_eq x (by omega) b.length (by omega)
  rw [g1] at h2
  simp only at h2
  have h3 := fun t1 t2 z1 z2 => SameBytes_eq b b t1 t2 z1 z2
  simp only [decide_true] at h3
  simp only [sB] at h1
  have eq : (b.length : Int).tdiv 131 = ((b.length / 131 : Nat) : Int) := by
    rw [Int.tdiv_eq_ediv_of_nonneg (by omega)]; omega
  have e5 : ((x.length : Int) ≤ 5 + 2 * (part.length : Int) + 3 * (((b.length / 131 : Nat) : Int) + 2)) = True := eq_true (by omega)
  simp -dsimp (disch := first | rfl | omega) only [sB, r6_8, r6_9, r6_10, callW_fn pgPack, callW_fn pgUnpack, callW_fn pgSame, callW_fn pgBegun, begun_eq, h1, h2, h3, eq, e5, w_bi64, w_byte, or_128, or_128', u8_one, u8s_len, u8s_app, bytesOf_u8s, u8s_drop, u8s_take, tk_all, w_i64, u8s_at, ↓vmP, vm0, vm1, vm2, vm3, vm4, vm5, vm6, vm7, vm8, vm9, vm10, vm11, vm12, vm13, vm14, vm15, Nat.not_lt_zero, ifs_pos, b_quo, b_rem, b_shl, b_shr, b_sadd, Nat.reduceAdd, Nat.reduceMul, Nat.reduceSub, Nat.reduceEqDiff, Nat.reduceLT, Nat.reduceLeDiff, ↓reduceIte, List.length_cons, List.length_nil, List.take_succ_cons, List.take_zero, List.take_nil, List.drop_succ_cons, List.drop_zero, List.drop_nil, List.cons_append, List.nil_append, List.append_nil, List.map_cons, List.map_nil, List.getElem?_cons_zero, List.getElem?_cons_succ, List.flatten_cons, List.flatten_nil, and_true, true_and, Bool.false_eq_true, Bool.not_true, Bool.not_false, Bool.and_false, Bool.and_true, Bool.false_and, Bool.true_and, decide_true, decide_false, List.isEmpty_nil, List.isEmpty_cons, Option.isSome_none, Option.isSome_some, Option.isNone_none, Option.isNone_some, List.lookup_nil, List.set_cons_zero, List.set_cons_succ, Tg.isFull, List.length_append, Nat.zero_add, Nat.add_zero, Int.toNat_natCast, Nat.sub_zero, Int.toNat_zero, Int.reduceToNat, Nat.add_one_sub_one]
end Go.Vm.Pk
