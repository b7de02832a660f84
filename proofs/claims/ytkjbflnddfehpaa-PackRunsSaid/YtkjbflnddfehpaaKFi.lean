/- A part of the proof of PackRunsSaid: YtkjbflnddfehpaaFi. -/
import Derived.Test.YtkjbflnddfehpaaKFh
import Derived.Test.YtkjbflnddfehpaaKFc
import Derived.Test.YtkjbflnddfehpaaKFd
/- The laws: the example, and packing as the reference packs. -/
set_option linter.unusedVariables false
set_option linter.unusedSimpArgs false
set_option maxHeartbeats 1000000
namespace Go.Vm.Pk
theorem pgUnpack : prog 14 = some c14 := rfl
theorem pgRUnpack : prog 15 = some c15 := rfl
theorem pgPack : prog 10 = some c10 := rfl
theorem pgRPack : prog 11 = some c11 := rfl
theorem pgSame : prog 9 = some c9 := rfl
theorem pgNew : prog 7 = some c7 := rfl
theorem pgText : prog 8 = some c8 := rfl
theorem pgBegun : prog 12 = some c12 := rfl
def ex8 : List UInt8 := [9, 3, 97, 98, 99, 130, 0, 3]
def ex9 : List UInt8 := [97, 98, 99, 97, 98, 99, 97, 98, 99]
theorem ex_pk : pk ex9 10 0 0 (vb 9) = ex8 := by
  rw [vb_lt (by omega)]; rfl
theorem e8 : [[D.int .u8 9], [D.int .u8 3], [D.int .u8 97], [D.int .u8 98], [D.int .u8 99], [D.int .u8 130], [D.int .u8 0], [D.int .u8 3]] = u8s ex8 := rfl
theorem e9 : [[D.int .u8 97], [D.int .u8 98], [D.int .u8 99], [D.int .u8 97], [D.int .u8 98], [D.int .u8 99], [D.int .u8 97], [D.int .u8 98], [D.int .u8 99]] = u8s ex9 := rfl
theorem es9 : (({ data := ex9.toArray } : ByteArray) = { data := { toList := [97, 98, 99, 97, 98, 99, 97, 98, 99] } }) = True := eq_true rfl
theorem ex_upk : upk ex8 9 = (1, ex9, 0) := rfl
theorem begun_eq : runW false prog 12 [] [] = some (.d (.bool true), [], []) := by
  refine run_of rfl ?_
  have h1 := Unpack_eq ex8 (by simp [ex8]) 9 (by omega)
  rw [ex_upk] at h1
  have h2 := Pack_eq ex9 (by simp [ex9])
  rw [show ex9.length = 9 from rfl, ex_pk] at h2
  have h3 := fun t1 t2 z1 z2 => SameBytes_eq ex8 ex8 t1 t2 z1 z2
  simp only [sB] at h2
  simp -dsimp (disch := first | rfl | omega) only [r12_0, r12_1, r12_2, callW_fn pgUnpack, callW_fn pgPack, callW_fn pgSame, e8, e9, es9, h1, h2, h3, show (u8s ex9).isEmpty = false from rfl, w_bi64, w_byte, or_128, or_128', u8_one, u8s_len, u8s_app, bytesOf_u8s, u8s_drop, u8s_take, tk_all, w_i64, u8s_at, ↓vmP, vm0, vm1, vm2, vm3, vm4, vm5, vm6, vm7, vm8, vm9, vm10, vm11, vm12, vm13, vm14, vm15, Nat.not_lt_zero, ifs_pos, b_quo, b_rem, b_shl, b_shr, b_sadd, Nat.reduceAdd, Nat.reduceMul, Nat.reduceSub, Nat.reduceEqDiff, Nat.reduceLT, Nat.reduceLeDiff, ↓reduceIte, List.length_cons, List.length_nil, List.take_succ_cons, List.take_zero, List.take_nil, List.drop_succ_cons, List.drop_zero, List.drop_nil, List.cons_append, List.nil_append, List.append_nil, List.map_cons, List.map_nil, List.getElem?_cons_zero, List.getElem?_cons_succ, List.flatten_cons, List.flatten_nil, and_true, true_and, Bool.false_eq_true, Bool.not_true, Bool.not_false, Bool.and_false, Bool.and_true, Bool.false_and, Bool.true_and, decide_true, decide_false, List.isEmpty_nil, List.isEmpty_cons, Option.isSome_none, Option.isSome_some, Option.isNone_none, Option.isNone_some, List.lookup_nil, List.set_cons_zero, List.set_cons_succ, Tg.isFull, List.length_append, Nat.zero_add, Nat.add_zero, Int.toNat_natCast, Nat.sub_zero, Int.toNat_zero, Int.reduceToNat, Nat.add_one_sub_one]
/-- Byte strings as cells. -/
def sls (xs : List (List UInt8)) : List (List D) := xs.map fun b => [.sl .any 1 (u8s b)]
theorem sls_at (xs : List (List UInt8)) {j : Nat} (h : j < xs.length) : (sls xs)[j]? = some [.sl .any 1 (u8s (xs.getD j []))] := by
  simp [sls, h, List.getD_eq_getElem?_getD]
theorem sls_len (xs : List (List UInt8)) : (sls xs).length = xs.length := by simp [sls]
theorem sls2 (a b : List UInt8) : [[D.sl .any 1 (u8s a)], [D.sl .any 1 (u8s b)]] = sls [a, b] := rfl
theorem sls3 (a b c : List UInt8) : [[D.sl .any 1 (u8s a)], [D.sl .any 1 (u8s b)], [D.sl .any 1 (u8s c)]] = sls [a, b, c] := rfl
theorem l3_loop {Q : Ex → St → Prop} (xs : List (List UInt8)) (hx : ∀ x ∈ xs, x.length ≤ 1000000000) (hl : xs.length ≤ 1000) : ∀ (k j : Nat) (s : St), j + k = xs.length →
    gc [(17, none), (18, none), (19, none)] s = ⟨gS [(17, .row 0), (18, .d (.int .i64 xs.length)), (19, .d (.int .i64 j))], gH [(0, .row 1 false (sls xs))], 1, 0, []⟩ →
    (∀ L H, Q (.exit 0) ⟨gS L, gH H, 9, 0, []⟩) → wpW false prog (.loop [(17, none), (18, none), (19, none)] l3_8) s Q := by
  intro k
  induction k with
  | zero =>
    intro j s hj hg hQ
    refine wp_loop1 ?_
    rw [hg]
    generalize hJ : (fun s' => wpW false prog (.loop [(17, none), (18, none), (19, none)] l3_8) s' Q) = J
    unfold l3_8
    have e1 : ((j : Int) < xs.length) = False := eq_false (by omega)
    simp -dsimp (disch := first | rfl | omega) only [r3_3, e1, w_bi64, w_byte, or_128, or_128', u8_one, u8s_len, u8s_app, bytesOf_u8s, u8s_drop, u8s_take, tk_all, w_i64, u8s_at, ↓vmP, vm0, vm1, vm2, vm3, vm4, vm5, vm6, vm7, vm8, vm9, vm10, vm11, vm12, vm13, vm14, vm15, Nat.not_lt_zero, ifs_pos, b_quo, b_rem, b_shl, b_shr, b_sadd, Nat.reduceAdd, Nat.reduceMul, Nat.reduceSub, Nat.reduceEqDiff, Nat.reduceLT, Nat.reduceLeDiff, ↓reduceIte, List.length_cons, List.length_nil, List.take_succ_cons, List.take_zero, List.take_nil, List.drop_succ_cons, List.drop_zero, List.drop_nil, List.cons_append, List.nil_append, List.append_nil, List.map_cons, List.map_nil, List.getElem?_cons_zero, List.getElem?_cons_succ, List.flatten_cons, List.flatten_nil, and_true, true_and, Bool.false_eq_true, Bool.not_true, Bool.not_false, Bool.and_false, Bool.and_true, Bool.false_and, Bool.true_and, decide_true, decide_false, List.isEmpty_nil, List.isEmpty_cons, Option.isSome_none, Option.isSome_some, Option.isNone_none, Option.isNone_some, List.lookup_nil, List.set_cons_zero, List.set_cons_succ, Tg.isFull, List.length_append, Nat.zero_add, Nat.add_zero, Int.toNat_natCast, Nat.sub_zero, Int.toNat_zero, Int.reduceToNat, Nat.add_one_sub_one]
    exact hQ _ _
  | succ k ih =>
    intro j s hj hg hQ
    refine wp_loop1 ?_
    rw [hg]
    generalize hJ : (fun s' => wpW false prog (.loop [(17, none), (18, none), (19, none)] l3_8) s' Q) = J
    unfold l3_8
    have e1 : ((j : Int) < xs.length) = True := eq_true (by omega)
    have e2 : ((j : Int) + 1) = ((j + 1 : Nat) : Int) := by omega
    have hb : (xs.getD j []).length ≤ 1000000000 := hx _ (by
      rw [List.getD_eq_getElem?_getD, List.getElem?_eq_getElem (by omega)]; exact List.getElem_mem _)
    have h1 := Pack_eq (xs.getD j []) hb
    have h2 := RPack_eq (xs.getD j []) hb
    generalize pk (xs.getD j []) ((xs.getD j []).length + 1) 0 0 (vb (xs.getD j []).length) = x at h1 h2
    have h3 := SameBytes_eq x x .any .any 1 1
    simp only [sB] at h1 h2
    simp only [decide_true] at h3
    simp -dsimp (disch := first | rfl | omega) only [r3_3, r3_4, r3_5, r3_7, callW_fn pgPack, callW_fn pgRPack, callW_fn pgSame, e1, e2, h1, h2, h3, sls_len, sls_at, w_bi64, w_byte, or_128, or_128', u8_one, u8s_len, u8s_app, bytesOf_u8s, u8s_drop, u8s_take, tk_all, w_i64, u8s_at, ↓vmP, vm0, vm1, vm2, vm3, vm4, vm5, vm6, vm7, vm8, vm9, vm10, vm11, vm12, vm13, vm14, vm15, Nat.not_lt_zero, ifs_pos, b_quo, b_rem, b_shl, b_shr, b_sadd, Nat.reduceAdd, Nat.reduceMul, Nat.reduceSub, Nat.reduceEqDiff, Nat.reduceLT, Nat.reduceLeDiff, ↓reduceIte, List.length_cons, List.length_nil, List.take_succ_cons, List.take_zero, List.take_nil, List.drop_succ_cons, List.drop_zero, List.drop_nil, List.cons_append, List.nil_append, List.append_nil, List.map_cons, List.map_nil, List.getElem?_cons_zero, List.getElem?_cons_succ, List.flatten_cons, List.flatten_nil, and_true, true_and, Bool.false_eq_true, Bool.not_true, Bool.not_false, Bool.and_false, Bool.and_true, Bool.false_and, Bool.true_and, decide_true, decide_false, List.isEmpty_nil, List.isEmpty_cons, Option.isSome_none, Option.isSome_some, Option.isNone_none, Option.isNone_some, List.lookup_nil, List.set_cons_zero, List.set_cons_succ, Tg.isFull, List.length_append, Nat.zero_add, Nat.add_zero, Int.toNat_natCast, Nat.sub_zero, Int.toNat_zero, Int.reduceToNat, Nat.add_one_sub_one]
    rw [← hJ]
    exact ih (j + 1) _ (by omega) (by simp -dsimp (disch := first | rfl | omega) only [w_bi64, w_byte, or_128, or_128', u8_one, u8s_len, u8s_app, bytesOf_u8s, u8s_drop, u8s_take, tk_all, w_i64, u8s_at, ↓vmP, vm0, vm1, vm2, vm3, vm4, vm5, vm6, vm7, vm8, vm9, vm10, vm11, vm12, vm13, vm14, vm15, Nat.not_lt_zero, ifs_pos, b_quo, b_rem, b_shl, b_shr, b_sadd, Nat.reduceAdd, Nat.reduceMul, Nat.reduceSub, Nat.reduceEqDiff, Nat.reduceLT, Nat.reduceLeDiff, ↓reduceIte, List.length_cons, List.length_nil, List.take_succ_cons, List.take_zero, List.take_nil, List.drop_succ_cons, List.drop_zero, List.drop_nil, List.cons_append, List.nil_append, List.append_nil, List.map_cons, List.map_nil, List.getElem?_cons_zero, List.getElem?_cons_succ, List.flatten_cons, List.flatten_nil, and_true, true_and, Bool.false_eq_true, Bool.not_true, Bool.not_false, Bool.and_false, Bool.and_true, Bool.false_and, Bool.true_and, decide_true, decide_false, List.isEmpty_nil, List.isEmpty_cons, Option.isSome_none, Option.isSome_some, Option.isNone_none, Option.isNone_some, List.lookup_nil, List.set_cons_zero, List.set_cons_succ, Tg.isFull, List.length_append, Nat.zero_add, Nat.add_zero, Int.toNat_natCast, Nat.sub_zero, Int.toNat_zero, Int.reduceToNat, Nat.add_one_sub_one]) hQ
/-- PackPacks, run by the machine. -/
theorem law_packs (codes raw : List UInt8) (hr : raw.length ≤ 9223372036854775807) : runW false prog 3 [sB codes, sB raw] [] = some (.d (.bool true), [], []) := by
  refine run_of rfl ?_
  have h1 := New_eq codes 120 (by omega)
  obtain ⟨bs, a', hb1, hb2, h2⟩ := Text_ex (codes.take 120) 0 600 (by rw [List.length_take]; omega) (by omega) (by omega)
  have er : (if (600 : Int) < (raw.length : Int) then (600 : Int) else (raw.length : Int)) = ((min raw.length 600 : Nat) : Int) := by split <;> omega
  have hl : (raw.take (min raw.length 600)).length ≤ 600 := by rw [List.length_take]; omega
  rw [show ((120 : Nat) : Int) = 120 from rfl] at h1
  rw [show ((600 : Nat) : Int) = 600 from rfl] at h2
  simp only [cs] at h1 h2
  simp -dsimp (disch := first | rfl | omega) only [sB, r3_0, r3_1, r3_2, callW_fn pgNew, callW_fn pgText, h1, h2, er, w_bi64, w_byte, or_128, or_128', u8_one, u8s_len, u8s_app, bytesOf_u8s, u8s_drop, u8s_take, tk_all, w_i64, u8s_at, ↓vmP, vm0, vm1, vm2, vm3, vm4, vm5, vm6, vm7, vm8, vm9, vm10, vm11, vm12, vm13, vm14, vm15, Nat.not_lt_zero, ifs_pos, b_quo, b_rem, b_shl, b_shr, b_sadd, Nat.reduceAdd, Nat.reduceMul, Nat.reduceSub, Nat.reduceEqDiff, Nat.reduceLT, Nat.reduceLeDiff, ↓reduceIte, List.length_cons, List.length_nil, List.take_succ_cons, List.take_zero, List.take_nil, List.drop_succ_cons, List.drop_zero, List.drop_nil, List.cons_append, List.nil_append, List.append_nil, List.map_cons, List.map_nil, List.getElem?_cons_zero, List.getElem?_cons_succ, List.flatten_cons, List.flatten_nil, and_true, true_and, Bool.false_eq_true, Bool.not_true, Bool.not_false, Bool.and_false, Bool.and_true, Bool.false_and, Bool.true_and, decide_true, decide_false, List.isEmpty_nil, List.isEmpty_cons, Option.isSome_none, Option.isSome_some, Option.isNone_none, Option.isNone_some, List.lookup_nil, List.set_cons_zero, List.set_cons_succ, Tg.isFull, List.length_append, Nat.zero_add, Nat.add_zero, Int.toNat_natCast, Nat.sub_zero, Int.toNat_zero, Int.reduceToNat, Nat.add_one_sub_one]
  refine regD_of (by kernel_rfl) ?_
  simp -dsimp (disch := first | rfl | omega) only [sls2, w_bi64, w_byte, or_128, or_128', u8_one, u8s_len, u8s_app, bytesOf_u8s, u8s_drop, u8s_take, tk_all, w_i64, u8s_at, ↓vmP, vm0, vm1, vm2, vm3, vm4, vm5, vm6, vm7, vm8, vm9, vm10, vm11, vm12, vm13, vm14, vm15, Nat.not_lt_zero, ifs_pos, b_quo, b_rem, b_shl, b_shr, b_sadd, Nat.reduceAdd, Nat.reduceMul, Nat.reduceSub, Nat.reduceEqDiff, Nat.reduceLT, Nat.reduceLeDiff, ↓reduceIte, List.length_cons, List.length_nil, List.take_succ_cons, List.take_zero, List.take_nil, List.drop_succ_cons, List.drop_zero, List.drop_nil, List.cons_append, List.nil_append, List.append_nil, List.map_cons, List.map_nil, List.getElem?_cons_zero, List.getElem?_cons_succ, List.flatten_cons, List.flatten_nil, and_true, true_and, Bool.false_eq_true, Bool.not_true, Bool.not_false, Bool.and_false, Bool.and_true, Bool.false_and, Bool.true_and, decide_true, decide_false, List.isEmpty_nil, List.isEmpty_cons, Option.isSome_none, Option.isSome_some, Option.isNone_none, Option.isNone_some, List.lookup_nil, List.set_cons_zero, List.set_cons_succ, Tg.isFull, List.length_append, Nat.zero_add, Nat.add_zero, Int.toNat_natCast, Nat.sub_zero, Int.toNat_zero, Int.reduceToNat, Nat.add_one_sub_one]
  refine l3_loop [bs, raw.take (min raw.length 600)] (fun x hx => ?_) (by simp) 2 0 _ rfl (by simp -dsimp (disch := first | rfl | omega) only [w_bi64, w_byte, or_128, or_128', u8_one, u8s_len, u8s_app, bytesOf_u8s, u8s_drop, u8s_take, tk_all, w_i64, u8s_at, ↓vmP, vm0, vm1, vm2, vm3, vm4, vm5, vm6, vm7, vm8, vm9, vm10, vm11, vm12, vm13, vm14, vm15, Nat.not_lt_zero, ifs_pos, b_quo, b_rem, b_shl, b_shr, b_sadd, Nat.reduceAdd, Nat.reduceMul, Nat.reduceSub, Nat.reduceEqDiff, Nat.reduceLT, Nat.reduceLeDiff, ↓reduceIte, List.length_cons, List.length_nil, List.take_succ_cons, List.take_zero, List.take_nil, List.drop_succ_cons, List.drop_zero, List.drop_nil, List.cons_append, List.nil_append, List.append_nil, List.map_cons, List.map_nil, List.getElem?_cons_zero, List.getElem?_cons_succ, List.flatten_cons, List.flatten_nil, and_true, true_and, Bool.false_eq_true, Bool.not_true, Bool.not_false, Bool.and_false, Bool.and_true, Bool.false_and, Bool.true_and, decide_true, decide_false, List.isEmpty_nil, List.isEmpty_cons, Option.isSome_none, Option.isSome_some, Option.isNone_none, Option.isNone_some, List.lookup_nil, List.set_cons_zero, List.set_cons_succ, Tg.isFull, List.length_append, Nat.zero_add, Nat.add_zero, Int.toNat_natCast, Nat.sub_zero, Int.toNat_zero, Int.reduceToNat, Nat.add_one_sub_one]; rfl) (fun L H => ?_)
  · simp at hx; rcases hx with rfl | rfl <;> omega
  · simp -dsimp (disch := first | rfl | omega) only [r3_9, callW_fn pgBegun, begun_eq, w_bi64, w_byte, or_128, or_128', u8_one, u8s_len, u8s_app, bytesOf_u8s, u8s_drop, u8s_take, tk_all, w_i64, u8s_at, ↓vmP, vm0, vm1, vm2, vm3, vm4, vm5, vm6, vm7, vm8, vm9, vm10, vm11, vm12, vm13, vm14, vm15, Nat.not_lt_zero, ifs_pos, b_quo, b_rem, b_shl, b_shr, b_sadd, Nat.reduceAdd, Nat.reduceMul, Nat.reduceSub, Nat.reduceEqDiff, Nat.reduceLT, Nat.reduceLeDiff, ↓reduceIte, List.length_cons, List.length_nil, List.take_succ_cons, List.take_zero, List.take_nil, List.drop_succ_cons, List.drop_zero, List.drop_nil, List.cons_append, List.nil_append, List.append_nil, List.map_cons, List.map_nil, List.getElem?_cons_zero, List.getElem?_cons_succ, List.flatten_cons, List.flatten_nil, and_true, true_and, Bool.false_eq_true, Bool.not_true, Bool.not_false, Bool.and_false, Bool.and_true, Bool.false_and, Bool.true_and, decide_true, decide_false, List.isEmpty_nil, List.isEmpty_cons, Option.isSome_none, Option.isSome_some, Option.isNone_none, Option.isNone_some, List.lookup_nil, List.set_cons_zero, List.set_cons_succ, Tg.isFull, List.length_append, Nat.zero_add, Nat.add_zero, Int.toNat_natCast, Nat.sub_zero, Int.toNat_zero, Int.reduceToNat, Nat.add_one_sub_one]
end Go.Vm.Pk
