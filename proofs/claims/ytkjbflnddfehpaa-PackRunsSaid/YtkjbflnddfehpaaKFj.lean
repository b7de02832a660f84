/- A part of the proof of PackRunsSaid: YtkjbflnddfehpaaFj. -/
import Derived.Test.YtkjbflnddfehpaaKFi
/- The law on unpacking, run by the machine. -/
set_option linter.unusedVariables false
set_option linter.unusedSimpArgs false
set_option maxHeartbeats 1000000
namespace Go.Vm.Pk
theorem u8s_set (l : List UInt8) (i : Nat) (c : UInt8) : (u8s l).set i [.int .u8 c.toNat] = u8s (l.set i c) := by simp [u8s, List.map_set]
theorem i64_cons3 (a b c : Int) : [[D.int .i64 a], [D.int .i64 b], [D.int .i64 c]] = i64s [a, b, c] := rfl
def mn (n : Int) : Int := if (100000 : Int) < n then 100000 else n
theorem mn_le (n : Int) : mn n ≤ 1000000 := by unfold mn; split <;> omega
theorem ni_loop {Q : Ex → St → Prop} (most : Int) (l : List UInt8) (a : Nat) (y : List UInt8) (hy : y.length ≤ 9223372036854775807) (ys : List (List UInt8)) (j : Nat) (ns : List Int) (hl : ns.length ≤ 1000) : ∀ (k t : Nat) (s : St), t + k = ns.length →
    gc [(5, none), (13, none), (18, none), (78, none), (79, none), (80, none), (87, none), (88, none), (89, none)] s = ⟨gS [(5, .d (.int .i64 most)), (13, .ptr 0 0), (18, sB y), (78, .row 1), (79, .d (.int .i64 ys.length)), (80, .d (.int .i64 j)), (87, .row 2), (88, .d (.int .i64 ns.length)), (89, .d (.int .i64 t))], gH [(0, cs l a), (1, .row 1 false (sls ys)), (2, .row 1 false (i64s ns))], 3, 0, []⟩ →
    (∀ T, Q (.exit 3) ⟨gS ((5, .d (.int .i64 most)) :: (13, .ptr 0 0) :: (18, sB y) :: (78, .row 1) :: (79, .d (.int .i64 ys.length)) :: (80, .d (.int .i64 j)) :: T), gH [(0, cs l a), (1, .row 1 false (sls ys)), (2, .row 1 false (i64s ns))], 11, 0, []⟩) → wpW false prog (.loop [(5, none), (13, none), (18, none), (78, none), (79, none), (80, none), (87, none), (88, none), (89, none)] l4_27) s Q := by
  intro k
  induction k with
  | zero =>
    intro t s ht hg hQ
    refine wp_loop1 ?_
    rw [hg]
    generalize hJ : (fun s' => wpW false prog (.loop [(5, none), (13, none), (18, none), (78, none), (79, none), (80, none), (87, none), (88, none), (89, none)] l4_27) s' Q) = J
    unfold l4_27
    have e1 : ((t : Int) < ns.length) = False := eq_false (by omega)
    simp only [cs, sB] at hQ
    simp -dsimp (disch := first | rfl | omega) only [cs, sB, r4_19, e1, w_bi64, w_byte, or_128, or_128', u8_one, u8s_len, u8s_app, bytesOf_u8s, u8s_drop, u8s_take, tk_all, w_i64, u8s_at, ↓vmP, vm0, vm1, vm2, vm3, vm4, vm5, vm6, vm7, vm8, vm9, vm10, vm11, vm12, vm13, vm14, vm15, Nat.not_lt_zero, ifs_pos, b_quo, b_rem, b_shl, b_shr, b_sadd, Nat.reduceAdd, Nat.reduceMul, Nat.reduceSub, Nat.reduceEqDiff, Nat.reduceLT, Nat.reduceLeDiff, ↓reduceIte, List.length_cons, List.length_nil, List.take_succ_cons, List.take_zero, List.take_nil, List.drop_succ_cons, List.drop_zero, List.drop_nil, List.cons_append, List.nil_append, List.append_nil, List.map_cons, List.map_nil, List.getElem?_cons_zero, List.getElem?_cons_succ, List.flatten_cons, List.flatten_nil, and_true, true_and, Bool.false_eq_true, Bool.not_true, Bool.not_false, Bool.and_false, Bool.and_true, Bool.false_and, Bool.true_and, decide_true, decide_false, List.isEmpty_nil, List.isEmpty_cons, Option.isSome_none, Option.isSome_some, Option.isNone_none, Option.isNone_some, List.lookup_nil, List.set_cons_zero, List.set_cons_succ, Tg.isFull, List.length_append, Nat.zero_add, Nat.add_zero, Int.toNat_natCast, Nat.sub_zero, Int.toNat_zero, Int.reduceToNat, Nat.add_one_sub_one]
    exact hQ _
  | succ k ih =>
    intro t s ht hg hQ
    refine wp_loop1 ?_
    rw [hg]
    generalize hJ : (fun s' => wpW false prog (.loop [(5, none), (13, none), (18, none), (78, none), (79, none), (80, none), (87, none), (88, none), (89, none)] l4_27) s' Q) = J
    unfold l4_27
    have e1 : ((t : Int) < ns.length) = True := eq_true (by omega)
    have e2 : ((t : Int) + 1) = ((t + 1 : Nat) : Int) := by omega
    have e3 : (if (100000 : Int) < ns.getD t 0 then (100000 : Int) else ns.getD t 0) = mn (ns.getD t 0) := rfl
    have hm := mn_le (ns.getD t 0)
    have h1 := Unpack_eq y hy (mn (ns.getD t 0)) hm
    have h2 := UnpackR_eq y hy (mn (ns.getD t 0)) hm
    generalize mn (ns.getD t 0) = m at e3 h1 h2
    generalize upk y m = u at h1 h2
    obtain ⟨u1, u2, u3⟩ := u
    simp only at h1 h2
    have h3 := fun t1 t2 z1 z2 => SameBytes_eq u2 u2 t1 t2 z1 z2
    simp only [decide_true] at h3
    simp -dsimp (disch := first | rfl | omega) only [cs, sB, r4_19, r4_20, r4_21, r4_22, r4_23, r4_24, r4_26, callW_fn pgUnpack, callW_fn pgRUnpack, callW_fn pgSame, e1, e2, e3, h1, h2, h3, i64s_len, i64s_at, ne_eq, not_true_eq_false, w_bi64, w_byte, or_128, or_128', u8_one, u8s_len, u8s_app, bytesOf_u8s, u8s_drop, u8s_take, tk_all, w_i64, u8s_at, ↓vmP, vm0, vm1, vm2, vm3, vm4, vm5, vm6, vm7, vm8, vm9, vm10, vm11, vm12, vm13, vm14, vm15, Nat.not_lt_zero, ifs_pos, b_quo, b_rem, b_shl, b_shr, b_sadd, Nat.reduceAdd, Nat.reduceMul, Nat.reduceSub, Nat.reduceEqDiff, Nat.reduceLT, Nat.reduceLeDiff, ↓reduceIte, List.length_cons, List.length_nil, List.take_succ_cons, List.take_zero, List.take_nil, List.drop_succ_cons, List.drop_zero, List.drop_nil, List.cons_append, List.nil_append, List.append_nil, List.map_cons, List.map_nil, List.getElem?_cons_zero, List.getElem?_cons_succ, List.flatten_cons, List.flatten_nil, and_true, true_and, Bool.false_eq_true, Bool.not_true, Bool.not_false, Bool.and_false, Bool.and_true, Bool.false_and, Bool.true_and, decide_true, decide_false, List.isEmpty_nil, List.isEmpty_cons, Option.isSome_none, Option.isSome_some, Option.isNone_none, Option.isNone_some, List.lookup_nil, List.set_cons_zero, List.set_cons_succ, Tg.isFull, List.length_append, Nat.zero_add, Nat.add_zero, Int.toNat_natCast, Nat.sub_zero, Int.toNat_zero, Int.reduceToNat, Nat.add_one_sub_one]
    rw [← hJ]
    exact ih (t + 1) _ (by omega) (by simp -dsimp (disch := first | rfl | omega) only [cs, sB, w_bi64, w_byte, or_128, or_128', u8_one, u8s_len, u8s_app, bytesOf_u8s, u8s_drop, u8s_take, tk_all, w_i64, u8s_at, ↓vmP, vm0, vm1, vm2, vm3, vm4, vm5, vm6, vm7, vm8, vm9, vm10, vm11, vm12, vm13, vm14, vm15, Nat.not_lt_zero, ifs_pos, b_quo, b_rem, b_shl, b_shr, b_sadd, Nat.reduceAdd, Nat.reduceMul, Nat.reduceSub, Nat.reduceEqDiff, Nat.reduceLT, Nat.reduceLeDiff, ↓reduceIte, List.length_cons, List.length_nil, List.take_succ_cons, List.take_zero, List.take_nil, List.drop_succ_cons, List.drop_zero, List.drop_nil, List.cons_append, List.nil_append, List.append_nil, List.map_cons, List.map_nil, List.getElem?_cons_zero, List.getElem?_cons_succ, List.flatten_cons, List.flatten_nil, and_true, true_and, Bool.false_eq_true, Bool.not_true, Bool.not_false, Bool.and_false, Bool.and_true, Bool.false_and, Bool.true_and, decide_true, decide_false, List.isEmpty_nil, List.isEmpty_cons, Option.isSome_none, Option.isSome_some, Option.isNone_none, Option.isNone_some, List.lookup_nil, List.set_cons_zero, List.set_cons_succ, Tg.isFull, List.length_append, Nat.zero_add, Nat.add_zero, Int.toNat_natCast, Nat.sub_zero, Int.toNat_zero, Int.reduceToNat, Nat.add_one_sub_one]) hQ
theorem yi_loop {Q : Ex → St → Prop} (most : Int) (l : List UInt8) (hla : l.length ≤ 100000) (ys : List (List UInt8)) (hy : ∀ y ∈ ys, y.length ≤ 9223372036854775807) (hl : ys.length ≤ 1000) : ∀ (k j a : Nat) (s : St), j + k = ys.length → a ≤ 10000 + j →
    gc [(5, none), (13, none), (78, none), (79, none), (80, none)] s = ⟨gS [(5, .d (.int .i64 most)), (13, .ptr 0 0), (78, .row 1), (79, .d (.int .i64 ys.length)), (80, .d (.int .i64 j))], gH [(0, cs l a), (1, .row 1 false (sls ys))], 2, 0, []⟩ →
    (∀ L H, Q (.exit 1) ⟨gS L, gH H, 10, 0, []⟩) → wpW false prog (.loop [(5, none), (13, none), (78, none), (79, none), (80, none)] l4_29) s Q := by
  intro k
  induction k with
  | zero =>
    intro j a s hj ha hg hQ
    refine wp_loop1 ?_
    rw [hg]
    generalize hJ : (fun s' => wpW false prog (.loop [(5, none), (13, none), (78, none), (79, none), (80, none)] l4_29) s' Q) = J
    unfold l4_29
    have e1 : ((j : Int) < ys.length) = False := eq_false (by omega)
    simp -dsimp (disch := first | rfl | omega) only [cs, r4_16, e1, w_bi64, w_byte, or_128, or_128', u8_one, u8s_len, u8s_app, bytesOf_u8s, u8s_drop, u8s_take, tk_all, w_i64, u8s_at, ↓vmP, vm0, vm1, vm2, vm3, vm4, vm5, vm6, vm7, vm8, vm9, vm10, vm11, vm12, vm13, vm14, vm15, Nat.not_lt_zero, ifs_pos, b_quo, b_rem, b_shl, b_shr, b_sadd, Nat.reduceAdd, Nat.reduceMul, Nat.reduceSub, Nat.reduceEqDiff, Nat.reduceLT, Nat.reduceLeDiff, ↓reduceIte, List.length_cons, List.length_nil, List.take_succ_cons, List.take_zero, List.take_nil, List.drop_succ_cons, List.drop_zero, List.drop_nil, List.cons_append, List.nil_append, List.append_nil, List.map_cons, List.map_nil, List.getElem?_cons_zero, List.getElem?_cons_succ, List.flatten_cons, List.flatten_nil, and_true, true_and, Bool.false_eq_true, Bool.not_true, Bool.not_false, Bool.and_false, Bool.and_true, Bool.false_and, Bool.true_and, decide_true, decide_false, List.isEmpty_nil, List.isEmpty_cons, Option.isSome_none, Option.isSome_some, Option.isNone_none, Option.isNone_some, List.lookup_nil, List.set_cons_zero, List.set_cons_succ, Tg.isFull, List.length_append, Nat.zero_add, Nat.add_zero, Int.toNat_natCast, Nat.sub_zero, Int.toNat_zero, Int.reduceToNat, Nat.add_one_sub_one]
    exact hQ _ _
  | succ k ih =>
    intro j a s hj ha hg hQ
    refine wp_loop1 ?_
    rw [hg]
    generalize hJ : (fun s' => wpW false prog (.loop [(5, none), (13, none), (78, none), (79, none), (80, none)] l4_29) s' Q) = J
    unfold l4_29
    have e1 : ((j : Int) < ys.length) = True := eq_true (by omega)
    have e2 : ((j : Int) + 1) = ((j + 1 : Nat) : Int) := by omega
    have h1 := Int_eq l a 300 (by omega) hla (by omega)
    rw [show ((300 : Nat) : Int) = 300 from rfl] at h1
    have ha1 := cN_le l a 300
    generalize cN l a 300 = a1 at h1 ha1
    generalize cI l a 300 = v at h1
    have hb : (ys.getD j []).length ≤ 9223372036854775807 := hy _ (by
      rw [List.getD_eq_getElem?_getD, List.getElem?_eq_getElem (by omega)]; exact List.getElem_mem _)
    simp only [cs] at h1
    simp -dsimp (disch := first | rfl | omega) only [cs, sB, r4_16, r4_17, r4_18, callW_fn pgI, e1, h1, sls_len, sls_at, i64_cons3, w_bi64, w_byte, or_128, or_128', u8_one, u8s_len, u8s_app, bytesOf_u8s, u8s_drop, u8s_take, tk_all, w_i64, u8s_at, ↓vmP, vm0, vm1, vm2, vm3, vm4, vm5, vm6, vm7, vm8, vm9, vm10, vm11, vm12, vm13, vm14, vm15, Nat.not_lt_zero, ifs_pos, b_quo, b_rem, b_shl, b_shr, b_sadd, Nat.reduceAdd, Nat.reduceMul, Nat.reduceSub, Nat.reduceEqDiff, Nat.reduceLT, Nat.reduceLeDiff, ↓reduceIte, List.length_cons, List.length_nil, List.take_succ_cons, List.take_zero, List.take_nil, List.drop_succ_cons, List.drop_zero, List.drop_nil, List.cons_append, List.nil_append, List.append_nil, List.map_cons, List.map_nil, List.getElem?_cons_zero, List.getElem?_cons_succ, List.flatten_cons, List.flatten_nil, and_true, true_and, Bool.false_eq_true, Bool.not_true, Bool.not_false, Bool.and_false, Bool.and_true, Bool.false_and, Bool.true_and, decide_true, decide_false, List.isEmpty_nil, List.isEmpty_cons, Option.isSome_none, Option.isSome_some, Option.isNone_none, Option.isNone_some, List.lookup_nil, List.set_cons_zero, List.set_cons_succ, Tg.isFull, List.length_append, Nat.zero_add, Nat.add_zero, Int.toNat_natCast, Nat.sub_zero, Int.toNat_zero, Int.reduceToNat, Nat.add_one_sub_one]
    refine ni_loop most l a1 (ys.getD j []) hb ys j [most, 300, (v : Int)] (by simp) 3 0 _ rfl (by simp -dsimp (disch := first | rfl | omega) only [cs, sB, w_bi64, w_byte, or_128, or_128', u8_one, u8s_len, u8s_app, bytesOf_u8s, u8s_drop, u8s_take, tk_all, w_i64, u8s_at, ↓vmP, vm0, vm1, vm2, vm3, vm4, vm5, vm6, vm7, vm8, vm9, vm10, vm11, vm12, vm13, vm14, vm15, Nat.not_lt_zero, ifs_pos, b_quo, b_rem, b_shl, b_shr, b_sadd, Nat.reduceAdd, Nat.reduceMul, Nat.reduceSub, Nat.reduceEqDiff, Nat.reduceLT, Nat.reduceLeDiff, ↓reduceIte, List.length_cons, List.length_nil, List.take_succ_cons, List.take_zero, List.take_nil, List.drop_succ_cons, List.drop_zero, List.drop_nil, List.cons_append, List.nil_append, List.append_nil, List.map_cons, List.map_nil, List.getElem?_cons_zero, List.getElem?_cons_succ, List.flatten_cons, List.flatten_nil, and_true, true_and, Bool.false_eq_true, Bool.not_true, Bool.not_false, Bool.and_false, Bool.and_true, Bool.false_and, Bool.true_and, decide_true, decide_false, List.isEmpty_nil, List.isEmpty_cons, Option.isSome_none, Option.isSome_some, Option.isNone_none, Option.isNone_some, List.lookup_nil, List.set_cons_zero, List.set_cons_succ, Tg.isFull, List.length_append, Nat.zero_add, Nat.add_zero, Int.toNat_natCast, Nat.sub_zero, Int.toNat_zero, Int.reduceToNat, Nat.add_one_sub_one]; rfl) (fun T => ?_)
    simp -dsimp (disch := first | rfl | omega) only [r4_28, e2, w_bi64, w_byte, or_128, or_128', u8_one, u8s_len, u8s_app, bytesOf_u8s, u8s_drop, u8s_take, tk_all, w_i64, u8s_at, ↓vmP, vm0, vm1, vm2, vm3, vm4, vm5, vm6, vm7, vm8, vm9, vm10, vm11, vm12, vm13, vm14, vm15, Nat.not_lt_zero, ifs_pos, b_quo, b_rem, b_shl, b_shr, b_sadd, Nat.reduceAdd, Nat.reduceMul, Nat.reduceSub, Nat.reduceEqDiff, Nat.reduceLT, Nat.reduceLeDiff, ↓reduceIte, List.length_cons, List.length_nil, List.take_succ_cons, List.take_zero, List.take_nil, List.drop_succ_cons, List.drop_zero, List.drop_nil, List.cons_append, List.nil_append, List.append_nil, List.map_cons, List.map_nil, List.getElem?_cons_zero, List.getElem?_cons_succ, List.flatten_cons, List.flatten_nil, and_true, true_and, Bool.false_eq_true, Bool.not_true, Bool.not_false, Bool.and_false, Bool.and_true, Bool.false_and, Bool.true_and, decide_true, decide_false, List.isEmpty_nil, List.isEmpty_cons, Option.isSome_none, Option.isSome_some, Option.isNone_none, Option.isNone_some, List.lookup_nil, List.set_cons_zero, List.set_cons_succ, Tg.isFull, List.length_append, Nat.zero_add, Nat.add_zero, Int.toNat_natCast, Nat.sub_zero, Int.toNat_zero, Int.reduceToNat, Nat.add_one_sub_one]
    rw [← hJ]
    exact ih (j + 1) a1 _ (by omega) (by omega) (by simp -dsimp (disch := first | rfl | omega) only [cs, sB, w_bi64, w_byte, or_128, or_128', u8_one, u8s_len, u8s_app, bytesOf_u8s, u8s_drop, u8s_take, tk_all, w_i64, u8s_at, ↓vmP, vm0, vm1, vm2, vm3, vm4, vm5, vm6, vm7, vm8, vm9, vm10, vm11, vm12, vm13, vm14, vm15, Nat.not_lt_zero, ifs_pos, b_quo, b_rem, b_shl, b_shr, b_sadd, Nat.reduceAdd, Nat.reduceMul, Nat.reduceSub, Nat.reduceEqDiff, Nat.reduceLT, Nat.reduceLeDiff, ↓reduceIte, List.length_cons, List.length_nil, List.take_succ_cons, List.take_zero, List.take_nil, List.drop_succ_cons, List.drop_zero, List.drop_nil, List.cons_append, List.nil_append, List.append_nil, List.map_cons, List.map_nil, List.getElem?_cons_zero, List.getElem?_cons_succ, List.flatten_cons, List.flatten_nil, and_true, true_and, Bool.false_eq_true, Bool.not_true, Bool.not_false, Bool.and_false, Bool.and_true, Bool.false_and, Bool.true_and, decide_true, decide_false, List.isEmpty_nil, List.isEmpty_cons, Option.isSome_none, Option.isSome_some, Option.isNone_none, Option.isNone_some, List.lookup_nil, List.set_cons_zero, List.set_cons_succ, Tg.isFull, List.length_append, Nat.zero_add, Nat.add_zero, Int.toNat_natCast, Nat.sub_zero, Int.toNat_zero, Int.reduceToNat, Nat.add_one_sub_one]) hQ
end Go.Vm.Pk
