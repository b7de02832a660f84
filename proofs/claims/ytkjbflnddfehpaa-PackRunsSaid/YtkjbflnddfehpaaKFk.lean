/- A part of the proof of PackRunsSaid: YtkjbflnddfehpaaFk. -/
import Derived.Test.YtkjbflnddfehpaaKFj
/- The law on unpacking, run by the machine: what is unpacked. -/
set_option linter.unusedVariables false
set_option linter.unusedSimpArgs false
set_option maxHeartbeats 1000000
namespace Go.Vm.Pk
theorem vb_ne (n : Nat) : 0 < (vb n).length := by
  rw [vb]; split <;> simp
theorem pk_ge (b : List UInt8) : ∀ k i run out, out.length ≤ (pk b k i run out).length
  | 0, i, run, out => Nat.le_refl _
  | k + 1, i, run, out => by
    unfold pk
    split
    · split
      · split
        · exact Nat.le_trans (by simp) (pk_ge b k _ _ _)
        · exact pk_ge b k _ _ _
      · exact Nat.le_trans (by simp) (pk_ge b k _ _ _)
    · simp
theorem pk_len (b : List UInt8) : ∀ k i run out, run ≤ i → i ≤ b.length → (pk b k i run out).length ≤ out.length + 4 * (b.length - run) + 4
  | 0, i, run, out, _, _ => by simp only [pk]; omega
  | k + 1, i, run, out, h1, h2 => by
    unfold pk
    split
    · have hs := cop_spec b i (by assumption) (min i 2048) 1 0 0 (by omega) (by omega) (by omega) (by omega)
      change (copd b i).1 ≤ mo b i ∧ (copd b i).2 ≤ 2048 at hs
      unfold mo at hs
      split
      · split
        · have := pk_len b k (i + 1) (i + 1) (out ++ fl b run (i + 1)) (by omega) (by omega)
          have := fl_len b run (i + 1)
          simp only [List.length_append] at *; omega
        · have := pk_len b k (i + 1) run out (by omega) (by omega); omega
      · have := pk_len b k (i + (copd b i).1) (i + (copd b i).1) (out ++ fl b run i ++ [UInt8.ofNat (124 + (copd b i).1), UInt8.ofNat ((copd b i).2 / 256), UInt8.ofNat (copd b i).2]) (by omega) (by omega)
        have := fl_len b run i
        simp only [List.length_append, List.length_cons, List.length_nil] at *; omega
    · have := fl_len b run b.length
      simp only [List.length_append]; omega
theorem lt0 (l : List UInt8) (h : 0 < l.length) : ((l.length : Int) = 0) = False := eq_false (by omega)
theorem law_unpacks (codes raw : List UInt8) (hr : raw.length ≤ 9223372036854775807) (at' : Nat) (hat : at' < 65536) (by' how : UInt8) (most : Int) : runW false prog 4 [sB codes, sB raw, .d (.int .u16 at'), .d (.int .u8 by'.toNat), .d (.int .u8 how.toNat), .d (.int .i64 most)] [] = some (.d (.bool true), [], []) := by
  refine run_of rfl ?_
  have h1 := New_eq codes 120 (by omega)
  have hlc : (codes.take 120).length ≤ 120 := by rw [List.length_take]; omega
  obtain ⟨bs, a', hb1, hb2, h2⟩ := Text_ex (codes.take 120) 0 300 (by omega) (by omega) (by omega)
  rw [show ((120 : Nat) : Int) = 120 from rfl] at h1
  rw [show ((300 : Nat) : Int) = 300 from rfl] at h2
  have hp := Pack_eq bs (by omega)
  have g1 := pk_ge bs (bs.length + 1) 0 0 (vb bs.length)
  have g2 := pk_len bs (bs.length + 1) 0 0 (vb bs.length) (by omega) (by omega)
  have g3 := vb_ne bs.length
  have g4 := vb_len bs.length (by omega)
  generalize pk bs (bs.length + 1) 0 0 (vb bs.length) = p at hp g1 g2
  have hpl : 0 < p.length ∧ p.length ≤ 2000 := by omega
  clear g1 g2 g3 g4
  generalize hl : codes.take 120 = l at h1 h2 hlc hb2
  have e0 := lt0 p hpl.1
  have hi := Nat.mod_lt at' hpl.1
  have e1 : IntKind.i64.wrap (at' : Int) = (at' : Int) := w_i64 (by omega)
  have e2 : (at' : Int).tmod (p.length : Int) = ((at' % p.length : Nat) : Int) := tmod_nat _ _
  generalize at' % p.length = i at e2 hi
  have e3 : (how.toNat : Int).tmod 4 = ((how.toNat % 4 : Nat) : Int) := tmod_nat _ 4
  have h4 := Nat.mod_lt how.toNat (show 0 < 4 by omega)
  generalize how.toNat % 4 = w at e3 h4
  simp only [cs, sB] at h1 h2 hp
  have fin : ∀ (x : List UInt8) (hx : x.length ≤ 100000) (s : St), gc [(5, none), (13, none), (78, none), (79, none), (80, none)] s = ⟨gS [(5, .d (.int .i64 most)), (13, .ptr 0 0), (78, .row 1), (79, .d (.int .i64 ([p, x, raw] : List (List UInt8)).length)), (80, .d (.int .i64 (0 : Nat)))], gH [(0, cs l a'), (1, .row 1 false (sls [p, x, raw]))], 2, 0, []⟩ →
      wpW false prog (.loop [(5, none), (13, none), (78, none), (79, none), (80, none)] l4_29) s (blockK 1 (seqK false prog ((CCode.reg r4_30 false (some [12])).seq CCode.ret) (leaveK false [CRes.tmp 12] false [] none 0 (A.d (D.bool true), [], [])))) := fun x hx s hg => by
    refine yi_loop most l (by omega) [p, x, raw] (fun y hy => ?_) (by simp) 3 0 a' s rfl (by omega) hg (fun L H => ?_)
    · simp at hy; rcases hy with rfl | rfl | rfl <;> omega
    · simp -dsimp (disch := first | rfl | omega) only [r4_30, callW_fn pgBegun, begun_eq, w_bi64, w_byte, or_128, or_128', u8_one, u8s_len, u8s_app, bytesOf_u8s, u8s_drop, u8s_take, tk_all, w_i64, u8s_at, ↓vmP, vm0, vm1, vm2, vm3, vm4, vm5, vm6, vm7, vm8, vm9, vm10, vm11, vm12, vm13, vm14, vm15, Nat.not_lt_zero, ifs_pos, b_quo, b_rem, b_shl, b_shr, b_sadd, Nat.reduceAdd, Nat.reduceMul, Nat.reduceSub, Nat.reduceEqDiff, Nat.reduceLT, Nat.reduceLeDiff, ↓reduceIte, List.length_cons, List.length_nil, List.take_succ_cons, List.take_zero, List.take_nil, List.drop_succ_cons, List.drop_zero, List.drop_nil, List.cons_append, List.nil_append, List.append_nil, List.map_cons, List.map_nil, List.getElem?_cons_zero, List.getElem?_cons_succ, List.flatten_cons, List.flatten_nil, and_true, true_and, Bool.false_eq_true, Bool.not_true, Bool.not_false, Bool.and_false, Bool.and_true, Bool.false_and, Bool.true_and, decide_true, decide_false, List.isEmpty_nil, List.isEmpty_cons, Option.isSome_none, Option.isSome_some, Option.isNone_none, Option.isNone_some, List.lookup_nil, List.set_cons_zero, List.set_cons_succ, Tg.isFull, List.length_append, Nat.zero_add, Nat.add_zero, Int.toNat_natCast, Nat.sub_zero, Int.toNat_zero, Int.reduceToNat, Nat.add_one_sub_one]
  simp -dsimp (disch := first | rfl | omega) only [cs, sB, r4_0, r4_1, r4_2, r4_3, r4_5, r4_6, r4_7, r4_8, callW_fn pgNew, callW_fn pgText, callW_fn pgPack, h1, h2, hp, e0, e1, e2, e3, w_bi64, w_byte, or_128, or_128', u8_one, u8s_len, u8s_app, bytesOf_u8s, u8s_drop, u8s_take, tk_all, w_i64, u8s_at, ↓vmP, vm0, vm1, vm2, vm3, vm4, vm5, vm6, vm7, vm8, vm9, vm10, vm11, vm12, vm13, vm14, vm15, Nat.not_lt_zero, ifs_pos, b_quo, b_rem, b_shl, b_shr, b_sadd, Nat.reduceAdd, Nat.reduceMul, Nat.reduceSub, Nat.reduceEqDiff, Nat.reduceLT, Nat.reduceLeDiff, ↓reduceIte, List.length_cons, List.length_nil, List.take_succ_cons, List.take_zero, List.take_nil, List.drop_succ_cons, List.drop_zero, List.drop_nil, List.cons_append, List.nil_append, List.append_nil, List.map_cons, List.map_nil, List.getElem?_cons_zero, List.getElem?_cons_succ, List.flatten_cons, List.flatten_nil, and_true, true_and, Bool.false_eq_true, Bool.not_true, Bool.not_false, Bool.and_false, Bool.and_true, Bool.false_and, Bool.true_and, decide_true, decide_false, List.isEmpty_nil, List.isEmpty_cons, Option.isSome_none, Option.isSome_some, Option.isNone_none, Option.isNone_some, List.lookup_nil, List.set_cons_zero, List.set_cons_succ, Tg.isFull, List.length_append, Nat.zero_add, Nat.add_zero, Int.toNat_natCast, Nat.sub_zero, Int.toNat_zero, Int.reduceToNat, Nat.add_one_sub_one]
  have t0 : ((w : Int) = 0) = (w = 0) := by apply propext; omega
  have t1 : ((w : Int) = 1) = (w = 1) := by apply propext; omega
  have t2 : ((w : Int) = 2) = (w = 2) := by apply propext; omega
  by_cases w0 : w = 0
  · have q0 := eq_true w0
    simp -dsimp (disch := first | rfl | omega) only [t0, q0, r4_9, r4_15, w_toB, u8s_set, sls3, w_bi64, w_byte, or_128, or_128', u8_one, u8s_len, u8s_app, bytesOf_u8s, u8s_drop, u8s_take, tk_all, w_i64, u8s_at, ↓vmP, vm0, vm1, vm2, vm3, vm4, vm5, vm6, vm7, vm8, vm9, vm10, vm11, vm12, vm13, vm14, vm15, Nat.not_lt_zero, ifs_pos, b_quo, b_rem, b_shl, b_shr, b_sadd, Nat.reduceAdd, Nat.reduceMul, Nat.reduceSub, Nat.reduceEqDiff, Nat.reduceLT, Nat.reduceLeDiff, ↓reduceIte, List.length_cons, List.length_nil, List.take_succ_cons, List.take_zero, List.take_nil, List.drop_succ_cons, List.drop_zero, List.drop_nil, List.cons_append, List.nil_append, List.append_nil, List.map_cons, List.map_nil, List.getElem?_cons_zero, List.getElem?_cons_succ, List.flatten_cons, List.flatten_nil, and_true, true_and, Bool.false_eq_true, Bool.not_true, Bool.not_false, Bool.and_false, Bool.and_true, Bool.false_and, Bool.true_and, decide_true, decide_false, List.isEmpty_nil, List.isEmpty_cons, Option.isSome_none, Option.isSome_some, Option.isNone_none, Option.isNone_some, List.lookup_nil, List.set_cons_zero, List.set_cons_succ, Tg.isFull, List.length_append, Nat.zero_add, Nat.add_zero, Int.toNat_natCast, Nat.sub_zero, Int.toNat_zero, Int.reduceToNat, Nat.add_one_sub_one]
    exact fin (p.set i (toB ((p.getD i 0).toNat + by'.toNat))) (by simp; omega) _ (by simp -dsimp (disch := first | rfl | omega) only [cs, w_bi64, w_byte, or_128, or_128', u8_one, u8s_len, u8s_app, bytesOf_u8s, u8s_drop, u8s_take, tk_all, w_i64, u8s_at, ↓vmP, vm0, vm1, vm2, vm3, vm4, vm5, vm6, vm7, vm8, vm9, vm10, vm11, vm12, vm13, vm14, vm15, Nat.not_lt_zero, ifs_pos, b_quo, b_rem, b_shl, b_shr, b_sadd, Nat.reduceAdd, Nat.reduceMul, Nat.reduceSub, Nat.reduceEqDiff, Nat.reduceLT, Nat.reduceLeDiff, ↓reduceIte, List.length_cons, List.length_nil, List.take_succ_cons, List.take_zero, List.take_nil, List.drop_succ_cons, List.drop_zero, List.drop_nil, List.cons_append, List.nil_append, List.append_nil, List.map_cons, List.map_nil, List.getElem?_cons_zero, List.getElem?_cons_succ, List.flatten_cons, List.flatten_nil, and_true, true_and, Bool.false_eq_true, Bool.not_true, Bool.not_false, Bool.and_false, Bool.and_true, Bool.false_and, Bool.true_and, decide_true, decide_false, List.isEmpty_nil, List.isEmpty_cons, Option.isSome_none, Option.isSome_some, Option.isNone_none, Option.isNone_some, List.lookup_nil, List.set_cons_zero, List.set_cons_succ, Tg.isFull, List.length_append, Nat.zero_add, Nat.add_zero, Int.toNat_natCast, Nat.sub_zero, Int.toNat_zero, Int.reduceToNat, Nat.add_one_sub_one]; rfl)
  · have q0 := eq_false w0
    by_cases w1 : w = 1
    · have q1 := eq_true w1
      simp -dsimp (disch := first | rfl | omega) only [t0, t1, q0, q1, r4_10, r4_11, r4_15, sls3, w_bi64, w_byte, or_128, or_128', u8_one, u8s_len, u8s_app, bytesOf_u8s, u8s_drop, u8s_take, tk_all, w_i64, u8s_at, ↓vmP, vm0, vm1, vm2, vm3, vm4, vm5, vm6, vm7, vm8, vm9, vm10, vm11, vm12, vm13, vm14, vm15, Nat.not_lt_zero, ifs_pos, b_quo, b_rem, b_shl, b_shr, b_sadd, Nat.reduceAdd, Nat.reduceMul, Nat.reduceSub, Nat.reduceEqDiff, Nat.reduceLT, Nat.reduceLeDiff, ↓reduceIte, List.length_cons, List.length_nil, List.take_succ_cons, List.take_zero, List.take_nil, List.drop_succ_cons, List.drop_zero, List.drop_nil, List.cons_append, List.nil_append, List.append_nil, List.map_cons, List.map_nil, List.getElem?_cons_zero, List.getElem?_cons_succ, List.flatten_cons, List.flatten_nil, and_true, true_and, Bool.false_eq_true, Bool.not_true, Bool.not_false, Bool.and_false, Bool.and_true, Bool.false_and, Bool.true_and, decide_true, decide_false, List.isEmpty_nil, List.isEmpty_cons, Option.isSome_none, Option.isSome_some, Option.isNone_none, Option.isNone_some, List.lookup_nil, List.set_cons_zero, List.set_cons_succ, Tg.isFull, List.length_append, Nat.zero_add, Nat.add_zero, Int.toNat_natCast, Nat.sub_zero, Int.toNat_zero, Int.reduceToNat, Nat.add_one_sub_one]
      exact fin (p.take i) (by simp; omega) _ (by simp -dsimp (disch := first | rfl | omega) only [cs, w_bi64, w_byte, or_128, or_128', u8_one, u8s_len, u8s_app, bytesOf_u8s, u8s_drop, u8s_take, tk_all, w_i64, u8s_at, ↓vmP, vm0, vm1, vm2, vm3, vm4, vm5, vm6, vm7, vm8, vm9, vm10, vm11, vm12, vm13, vm14, vm15, Nat.not_lt_zero, ifs_pos, b_quo, b_rem, b_shl, b_shr, b_sadd, Nat.reduceAdd, Nat.reduceMul, Nat.reduceSub, Nat.reduceEqDiff, Nat.reduceLT, Nat.reduceLeDiff, ↓reduceIte, List.length_cons, List.length_nil, List.take_succ_cons, List.take_zero, List.take_nil, List.drop_succ_cons, List.drop_zero, List.drop_nil, List.cons_append, List.nil_append, List.append_nil, List.map_cons, List.map_nil, List.getElem?_cons_zero, List.getElem?_cons_succ, List.flatten_cons, List.flatten_nil, and_true, true_and, Bool.false_eq_true, Bool.not_true, Bool.not_false, Bool.and_false, Bool.and_true, Bool.false_and, Bool.true_and, decide_true, decide_false, List.isEmpty_nil, List.isEmpty_cons, Option.isSome_none, Option.isSome_some, Option.isNone_none, Option.isNone_some, List.lookup_nil, List.set_cons_zero, List.set_cons_succ, Tg.isFull, List.length_append, Nat.zero_add, Nat.add_zero, Int.toNat_natCast, Nat.sub_zero, Int.toNat_zero, Int.reduceToNat, Nat.add_one_sub_one]; rfl)
    · have q1 := eq_false w1
      by_cases w2 : w = 2
      · have q2 := eq_true w2
        simp -dsimp (disch := first | rfl | omega) only [t0, t1, t2, q0, q1, q2, r4_10, r4_12, r4_13, r4_15, sls3, w_bi64, w_byte, or_128, or_128', u8_one, u8s_len, u8s_app, bytesOf_u8s, u8s_drop, u8s_take, tk_all, w_i64, u8s_at, ↓vmP, vm0, vm1, vm2, vm3, vm4, vm5, vm6, vm7, vm8, vm9, vm10, vm11, vm12, vm13, vm14, vm15, Nat.not_lt_zero, ifs_pos, b_quo, b_rem, b_shl, b_shr, b_sadd, Nat.reduceAdd, Nat.reduceMul, Nat.reduceSub, Nat.reduceEqDiff, Nat.reduceLT, Nat.reduceLeDiff, ↓reduceIte, List.length_cons, List.length_nil, List.take_succ_cons, List.take_zero, List.take_nil, List.drop_succ_cons, List.drop_zero, List.drop_nil, List.cons_append, List.nil_append, List.append_nil, List.map_cons, List.map_nil, List.getElem?_cons_zero, List.getElem?_cons_succ, List.flatten_cons, List.flatten_nil, and_true, true_and, Bool.false_eq_true, Bool.not_true, Bool.not_false, Bool.and_false, Bool.and_true, Bool.false_and, Bool.true_and, decide_true, decide_false, List.isEmpty_nil, List.isEmpty_cons, Option.isSome_none, Option.isSome_some, Option.isNone_none, Option.isNone_some, List.lookup_nil, List.set_cons_zero, List.set_cons_succ, Tg.isFull, List.length_append, Nat.zero_add, Nat.add_zero, Int.toNat_natCast, Nat.sub_zero, Int.toNat_zero, Int.reduceToNat, Nat.add_one_sub_one]
        exact fin (p ++ [by']) (by simp; omega) _ (by simp -dsimp (disch := first | rfl | omega) only [cs, w_bi64, w_byte, or_128, or_128', u8_one, u8s_len, u8s_app, bytesOf_u8s, u8s_drop, u8s_take, tk_all, w_i64, u8s_at, ↓vmP, vm0, vm1, vm2, vm3, vm4, vm5, vm6, vm7, vm8, vm9, vm10, vm11, vm12, vm13, vm14, vm15, Nat.not_lt_zero, ifs_pos, b_quo, b_rem, b_shl, b_shr, b_sadd, Nat.reduceAdd, Nat.reduceMul, Nat.reduceSub, Nat.reduceEqDiff, Nat.reduceLT, Nat.reduceLeDiff, ↓reduceIte, List.length_cons, List.length_nil, List.take_succ_cons, List.take_zero, List.take_nil, List.drop_succ_cons, List.drop_zero, List.drop_nil, List.cons_append, List.nil_append, List.append_nil, List.map_cons, List.map_nil, List.getElem?_cons_zero, List.getElem?_cons_succ, List.flatten_cons, List.flatten_nil, and_true, true_and, Bool.false_eq_true, Bool.not_true, Bool.not_false, Bool.and_false, Bool.and_true, Bool.false_and, Bool.true_and, decide_true, decide_false, List.isEmpty_nil, List.isEmpty_cons, Option.isSome_none, Option.isSome_some, Option.isNone_none, Option.isNone_some, List.lookup_nil, List.set_cons_zero, List.set_cons_succ, Tg.isFull, List.length_append, Nat.zero_add, Nat.add_zero, Int.toNat_natCast, Nat.sub_zero, Int.toNat_zero, Int.reduceToNat, Nat.add_one_sub_one]; rfl)
      · have q2 := eq_false w2
        have hlt : (p.take i).length = i := by rw [List.length_take]; omega
        have hld : (p.drop i).length = p.length - i := by rw [List.length_drop]
        simp -dsimp (disch := first | rfl | omega) only [hlt, hld, t0, t1, t2, q0, q1, q2, r4_10, r4_12, r4_14, w_bi64, w_byte, or_128, or_128', u8_one, u8s_len, u8s_app, bytesOf_u8s, u8s_drop, u8s_take, tk_all, w_i64, u8s_at, ↓vmP, vm0, vm1, vm2, vm3, vm4, vm5, vm6, vm7, vm8, vm9, vm10, vm11, vm12, vm13, vm14, vm15, Nat.not_lt_zero, ifs_pos, b_quo, b_rem, b_shl, b_shr, b_sadd, Nat.reduceAdd, Nat.reduceMul, Nat.reduceSub, Nat.reduceEqDiff, Nat.reduceLT, Nat.reduceLeDiff, ↓reduceIte, List.length_cons, List.length_nil, List.take_succ_cons, List.take_zero, List.take_nil, List.drop_succ_cons, List.drop_zero, List.drop_nil, List.cons_append, List.nil_append, List.append_nil, List.map_cons, List.map_nil, List.getElem?_cons_zero, List.getElem?_cons_succ, List.flatten_cons, List.flatten_nil, and_true, true_and, Bool.false_eq_true, Bool.not_true, Bool.not_false, Bool.and_false, Bool.and_true, Bool.false_and, Bool.true_and, decide_true, decide_false, List.isEmpty_nil, List.isEmpty_cons, Option.isSome_none, Option.isSome_some, Option.isNone_none, Option.isNone_some, List.lookup_nil, List.set_cons_zero, List.set_cons_succ, Tg.isFull, List.length_append, Nat.zero_add, Nat.add_zero, Int.toNat_natCast, Nat.sub_zero, Int.toNat_zero, Int.reduceToNat, Nat.add_one_sub_one]
        refine regD_of (by kernel_rfl) ?_
        simp -dsimp (disch := first | rfl | omega) only [hlt, hld, r4_15, sls3, w_bi64, w_byte, or_128, or_128', u8_one, u8s_len, u8s_app, bytesOf_u8s, u8s_drop, u8s_take, tk_all, w_i64, u8s_at, ↓vmP, vm0, vm1, vm2, vm3, vm4, vm5, vm6, vm7, vm8, vm9, vm10, vm11, vm12, vm13, vm14, vm15, Nat.not_lt_zero, ifs_pos, b_quo, b_rem, b_shl, b_shr, b_sadd, Nat.reduceAdd, Nat.reduceMul, Nat.reduceSub, Nat.reduceEqDiff, Nat.reduceLT, Nat.reduceLeDiff, ↓reduceIte, List.length_cons, List.length_nil, List.take_succ_cons, List.take_zero, List.take_nil, List.drop_succ_cons, List.drop_zero, List.drop_nil, List.cons_append, List.nil_append, List.append_nil, List.map_cons, List.map_nil, List.getElem?_cons_zero, List.getElem?_cons_succ, List.flatten_cons, List.flatten_nil, and_true, true_and, Bool.false_eq_true, Bool.not_true, Bool.not_false, Bool.and_false, Bool.and_true, Bool.false_and, Bool.true_and, decide_true, decide_false, List.isEmpty_nil, List.isEmpty_cons, Option.isSome_none, Option.isSome_some, Option.isNone_none, Option.isNone_some, List.lookup_nil, List.set_cons_zero, List.set_cons_succ, Tg.isFull, List.length_append, Nat.zero_add, Nat.add_zero, Int.toNat_natCast, Nat.sub_zero, Int.toNat_zero, Int.reduceToNat, Nat.add_one_sub_one]
        exact fin (p.take i ++ [by'] ++ p.drop i) (by simp; omega) _ (by simp -dsimp (disch := first | rfl | omega) only [cs, w_bi64, w_byte, or_128, or_128', u8_one, u8s_len, u8s_app, bytesOf_u8s, u8s_drop, u8s_take, tk_all, w_i64, u8s_at, ↓vmP, vm0, vm1, vm2, vm3, vm4, vm5, vm6, vm7, vm8, vm9, vm10, vm11, vm12, vm13, vm14, vm15, Nat.not_lt_zero, ifs_pos, b_quo, b_rem, b_shl, b_shr, b_sadd, Nat.reduceAdd, Nat.reduceMul, Nat.reduceSub, Nat.reduceEqDiff, Nat.reduceLT, Nat.reduceLeDiff, ↓reduceIte, List.length_cons, List.length_nil, List.take_succ_cons, List.take_zero, List.take_nil, List.drop_succ_cons, List.drop_zero, List.drop_nil, List.cons_append, List.nil_append, List.append_nil, List.map_cons, List.map_nil, List.getElem?_cons_zero, List.getElem?_cons_succ, List.flatten_cons, List.flatten_nil, and_true, true_and, Bool.false_eq_true, Bool.not_true, Bool.not_false, Bool.and_false, Bool.and_true, Bool.false_and, Bool.true_and, decide_true, decide_false, List.isEmpty_nil, List.isEmpty_cons, Option.isSome_none, Option.isSome_some, Option.isNone_none, Option.isNone_some, List.lookup_nil, List.set_cons_zero, List.set_cons_succ, Tg.isFull, List.length_append, Nat.zero_add, Nat.add_zero, Int.toNat_natCast, Nat.sub_zero, Int.toNat_zero, Int.reduceToNat, Nat.add_one_sub_one]; rfl)
end Go.Vm.Pk
