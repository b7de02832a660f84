/- A part of the proof of WireBackUptoSaid: YthojpjhnhipfpaaFr. -/
import Derived.Test.YthojpjhnhipfpaaKFq
/- The bytes of a message read by the reference. -/
set_option linter.unusedVariables false
set_option linter.unusedSimpArgs false
set_option maxHeartbeats 4000000
namespace Go.Vm.Wr
theorem pgTake : prog 65 = some c65 := rfl
/-- A number of the reader's: the number, what is left, whether one was missing. -/
def rn (b : List UInt8) (bad : Bool) : Int × List UInt8 × Bool := if bad then (0, b, true) else match rd b 0 0 with
  | none => (0, b, true)
  | some p => (p.1, b.drop p.2, false)
theorem rnum_eq (b : List UInt8) (hb : b.length ≤ 1000000) (bad : Bool) : runW false prog 61 [.ptr 0 0] [.box [.d (.sl .any 1 (u8s b)), .d (.bool bad)]] = some (.d (.int .i64 (rn b bad).1), [.box [.d (.sl .any 1 (u8s (rn b bad).2.1)), .d (.bool (rn b bad).2.2)]], [0]) := by
  refine run_of rfl ?_
  cases hr : rd b 0 0 with
  | none =>
    obtain ⟨n, k, h1⟩ := Take_none b (by omega) hr
    have e : rn b bad = (0, b, true) := by cases bad <;> simp [rn, hr]
    rw [e]
    cases bad
    · simp -dsimp (disch := first | rfl | omega) only [r61_0, r61_1, r61_2, r61_3, r61_4, callW_fn pgTake, h1, ↓vmP, vm0, vm1, vm2, vm3, vm4, vm5, vm6, vm7, vm8, vm9, vm10, vm11, vm12, vm13, vm14, vm15, vmC, vmN, Nat.reduceAdd, Nat.reduceMul, Nat.reduceSub, Nat.reduceEqDiff, Nat.reduceLT, Nat.reduceLeDiff, ↓reduceIte, Tg.isFull, Int.reduceToNat]
    · simp -dsimp (disch := first | rfl | omega) only [r61_0, r61_1, r61_2, r61_3, r61_4, callW_fn pgTake, h1, ↓vmP, vm0, vm1, vm2, vm3, vm4, vm5, vm6, vm7, vm8, vm9, vm10, vm11, vm12, vm13, vm14, vm15, vmC, vmN, Nat.reduceAdd, Nat.reduceMul, Nat.reduceSub, Nat.reduceEqDiff, Nat.reduceLT, Nat.reduceLeDiff, ↓reduceIte, Tg.isFull, Int.reduceToNat]
  | some p =>
    obtain ⟨n, k⟩ := p
    have h1 := Take_some b (by omega) hr
    have hk := rd_le hr
    have hkl : k ≤ b.length := by omega
    cases bad
    · have e : rn b false = ((n : Int), b.drop k, false) := by simp [rn, hr]
      rw [e]
      simp -dsimp (disch := first | rfl | omega) only [r61_0, r61_1, r61_2, r61_5, r61_6, callW_fn pgTake, h1, ↓vmP, vm0, vm1, vm2, vm3, vm4, vm5, vm6, vm7, vm8, vm9, vm10, vm11, vm12, vm13, vm14, vm15, vmC, vmN, Nat.reduceAdd, Nat.reduceMul, Nat.reduceSub, Nat.reduceEqDiff, Nat.reduceLT, Nat.reduceLeDiff, ↓reduceIte, Tg.isFull, Int.reduceToNat]
    · have e : rn b true = (0, b, true) := by simp [rn]
      rw [e]
      simp -dsimp (disch := first | rfl | omega) only [r61_0, r61_1, r61_2, r61_3, r61_4, callW_fn pgTake, h1, ↓vmP, vm0, vm1, vm2, vm3, vm4, vm5, vm6, vm7, vm8, vm9, vm10, vm11, vm12, vm13, vm14, vm15, vmC, vmN, Nat.reduceAdd, Nat.reduceMul, Nat.reduceSub, Nat.reduceEqDiff, Nat.reduceLT, Nat.reduceLeDiff, ↓reduceIte, Tg.isFull, Int.reduceToNat]
theorem rn_len (b : List UInt8) (bad : Bool) : (rn b bad).2.1.length ≤ b.length := by
  unfold rn
  repeat' split
  all_goals simp
theorem pgRnum : prog 61 = some c61 := rfl
theorem pgUsesR : prog 53 = some c53 := rfl
theorem RD_1 (W : List UInt8) (h5 : 5 ≤ W.length) (hW : W.length ≤ 1000000) (hk : kd W = 1) (hc : ((W.drop 5).getD 0 0).toNat + 1 ≤ (W.drop 5).length) : runW false prog 44 [.d (.sl .any 1 (u8s (W.drop 4)))] [] = some (.tup [.agg (mC ⟨1, (((W.drop 5).drop 1).take ((W.drop 5).getD 0 0).toNat), (rn ((W.drop 5).drop (((W.drop 5).getD 0 0).toNat + 1)) false).1, (rn (rn ((W.drop 5).drop (((W.drop 5).getD 0 0).toNat + 1)) false).2.1 (rn ((W.drop 5).drop (((W.drop 5).getD 0 0).toNat + 1)) false).2.2).1, 0, [], .any, 0⟩), .d (.bool (!(rn (rn ((W.drop 5).drop (((W.drop 5).getD 0 0).toNat + 1)) false).2.1 (rn ((W.drop 5).drop (((W.drop 5).getD 0 0).toNat + 1)) false).2.2).2.2 && decide ((rn (rn ((W.drop 5).drop (((W.drop 5).getD 0 0).toNat + 1)) false).2.1 (rn ((W.drop 5).drop (((W.drop 5).getD 0 0).toNat + 1)) false).2.2).2.1.length = 0)))], [], []) := by
  refine run_of rfl ?_
  have h4 : 4 ≤ W.length := by omega
  have hd0 := u8s_at (W.drop 4) (i := 0) (by simp; omega)
  rw [show (W.drop 4).getD 0 0 = W.getD 4 0 by simp [List.getD_eq_getElem?_getD]] at hd0
  have hd1 : 1 ≤ W.length - 4 := by omega
  have hdd : (W.drop 4).drop 1 = W.drop 5 := by simp
  have hdl : (W.drop 4).length = W.length - 4 := by simp
  have hdt : (W.drop 5).take (W.length - 4 - 1) = W.drop 5 := by rw [List.take_of_length_le]; simp; omega
  have hkb : IntKind.i64.wrap ((W.getD 4 0).toNat : Int) = kd W := w_bi64 _
  have hB : (W.drop 5).length ≤ 1000000 := by simp; omega
  have hu := uses_eq 1
  rw [show us 1 = (true, true, false, false) from rfl] at hu
  rw [hk] at hkb
  simp only at hu
  have hb0 := u8s_at (W.drop 5) (i := 0) (by omega)
  have hcc := ((W.drop 5).getD 0 0).toNat_lt
  generalize (W.drop 5).getD 0 0 = c at hb0 hcc hc ⊢
  generalize W.drop 5 = b at hb0 hc hB hdd hdt ⊢
  have e1 : ((b.length : Int) = 0) = False := eq_false (by omega)
  have e2 : ((b.length : Int) - 1 < (c.toNat : Int)) = False := eq_false (by omega)
  have ec : (1 + (c.toNat : Int)) = ((c.toNat + 1 : Nat) : Int) := by omega
  have hbl : (b.drop (c.toNat + 1)).length ≤ 1000000 := by simp; omega
  have htk : (b.drop (c.toNat + 1)).take (b.length - (c.toNat + 1)) = b.drop (c.toNat + 1) := by rw [List.take_of_length_le]; simp
  have n1 := rnum_eq (b.drop (c.toNat + 1)) hbl false
  have l1 := rn_len (b.drop (c.toNat + 1)) false
  generalize rn (b.drop (c.toNat + 1)) false = p1 at n1 l1 ⊢
  have n2 := rnum_eq p1.2.1 (by omega) p1.2.2
  have l2 := rn_len p1.2.1 p1.2.2
  generalize rn p1.2.1 p1.2.2 = p2 at n2 l2 ⊢
  simp -dsimp (disch := first | rfl | omega) only [mC, r44_0, r44_1, r44_2, r44_3, r44_4, r44_5, r44_7, r44_8, r44_9, r44_10, r44_11, r44_12, r44_14, r44_16, callW_fn pgUsesR, callW_fn pgRnum, hu, hd0, hkb, hdl, hdd, hdt, hd1, h4, e1, e2, ec, hb0, htk, n1, n2, ↓vmP, vm0, vm1, vm2, vm3, vm4, vm5, vm6, vm7, vm8, vm9, vm10, vm11, vm12, vm13, vm14, vm15, vmC, vmN, Nat.reduceAdd, Nat.reduceMul, Nat.reduceSub, Nat.reduceEqDiff, Nat.reduceLT, Nat.reduceLeDiff, ↓reduceIte, Tg.isFull, Int.reduceToNat]
  refine regD_of (by kernel_rfl) ?_
  simp -dsimp (disch := first | rfl | omega) only [mC, r44_0, r44_1, r44_2, r44_3, r44_4, r44_5, r44_7, r44_8, r44_9, r44_10, r44_11, r44_12, r44_14, r44_16, callW_fn pgUsesR, callW_fn pgRnum, hu, hd0, hkb, hdl, hdd, hdt, hd1, h4, e1, e2, ec, hb0, htk, n1, n2, ↓vmP, vm0, vm1, vm2, vm3, vm4, vm5, vm6, vm7, vm8, vm9, vm10, vm11, vm12, vm13, vm14, vm15, vmC, vmN, Nat.reduceAdd, Nat.reduceMul, Nat.reduceSub, Nat.reduceEqDiff, Nat.reduceLT, Nat.reduceLeDiff, ↓reduceIte, Tg.isFull, Int.reduceToNat]
  refine regD_of (by kernel_rfl) ?_
  obtain ⟨v, r, bad⟩ := p2
  simp only at *
  cases bad
  · skip
    by_cases hr : r.length = 0
    · have er : ((r.length : Int) = 0) = True := eq_true (by omega)
      have er2 : decide (r.length = 0) = true := by simp [hr]
      rw [er2]
      simp -dsimp (disch := first | rfl | omega) only [mC, r44_0, r44_1, r44_2, r44_3, r44_4, r44_5, r44_7, r44_8, r44_9, r44_10, r44_11, r44_12, r44_14, r44_16, callW_fn pgUsesR, callW_fn pgRnum, hu, hd0, hkb, hdl, hdd, hdt, hd1, h4, e1, e2, ec, hb0, htk, n1, n2, er, ↓vmP, vm0, vm1, vm2, vm3, vm4, vm5, vm6, vm7, vm8, vm9, vm10, vm11, vm12, vm13, vm14, vm15, vmC, vmN, Nat.reduceAdd, Nat.reduceMul, Nat.reduceSub, Nat.reduceEqDiff, Nat.reduceLT, Nat.reduceLeDiff, ↓reduceIte, Tg.isFull, Int.reduceToNat]
      refine regD_of (by kernel_rfl) ?_
      simp -dsimp (disch := first | rfl | omega) only [mC, u8s_nil, ↓vmP, vm0, vm1, vm2, vm3, vm4, vm5, vm6, vm7, vm8, vm9, vm10, vm11, vm12, vm13, vm14, vm15, vmC, vmN, Nat.reduceAdd, Nat.reduceMul, Nat.reduceSub, Nat.reduceEqDiff, Nat.reduceLT, Nat.reduceLeDiff, ↓reduceIte, Tg.isFull, Int.reduceToNat]
    · have er : ((r.length : Int) = 0) = False := eq_false (by omega)
      have er2 : decide (r.length = 0) = false := by simp [hr]
      rw [er2]
      simp -dsimp (disch := first | rfl | omega) only [mC, r44_0, r44_1, r44_2, r44_3, r44_4, r44_5, r44_7, r44_8, r44_9, r44_10, r44_11, r44_12, r44_14, r44_16, callW_fn pgUsesR, callW_fn pgRnum, hu, hd0, hkb, hdl, hdd, hdt, hd1, h4, e1, e2, ec, hb0, htk, n1, n2, er, ↓vmP, vm0, vm1, vm2, vm3, vm4, vm5, vm6, vm7, vm8, vm9, vm10, vm11, vm12, vm13, vm14, vm15, vmC, vmN, Nat.reduceAdd, Nat.reduceMul, Nat.reduceSub, Nat.reduceEqDiff, Nat.reduceLT, Nat.reduceLeDiff, ↓reduceIte, Tg.isFull, Int.reduceToNat]
      refine regD_of (by kernel_rfl) ?_
      simp -dsimp (disch := first | rfl | omega) only [mC, u8s_nil, ↓vmP, vm0, vm1, vm2, vm3, vm4, vm5, vm6, vm7, vm8, vm9, vm10, vm11, vm12, vm13, vm14, vm15, vmC, vmN, Nat.reduceAdd, Nat.reduceMul, Nat.reduceSub, Nat.reduceEqDiff, Nat.reduceLT, Nat.reduceLeDiff, ↓reduceIte, Tg.isFull, Int.reduceToNat]
  · simp -dsimp (disch := first | rfl | omega) only [mC, r44_0, r44_1, r44_2, r44_3, r44_4, r44_5, r44_7, r44_8, r44_9, r44_10, r44_11, r44_12, r44_14, r44_16, callW_fn pgUsesR, callW_fn pgRnum, hu, hd0, hkb, hdl, hdd, hdt, hd1, h4, e1, e2, ec, hb0, htk, n1, n2, ↓vmP, vm0, vm1, vm2, vm3, vm4, vm5, vm6, vm7, vm8, vm9, vm10, vm11, vm12, vm13, vm14, vm15, vmC, vmN, Nat.reduceAdd, Nat.reduceMul, Nat.reduceSub, Nat.reduceEqDiff, Nat.reduceLT, Nat.reduceLeDiff, ↓reduceIte, Tg.isFull, Int.reduceToNat]
    refine regD_of (by kernel_rfl) ?_
    simp -dsimp (disch := first | rfl | omega) only [mC, u8s_nil, ↓vmP, vm0, vm1, vm2, vm3, vm4, vm5, vm6, vm7, vm8, vm9, vm10, vm11, vm12, vm13, vm14, vm15, vmC, vmN, Nat.reduceAdd, Nat.reduceMul, Nat.reduceSub, Nat.reduceEqDiff, Nat.reduceLT, Nat.reduceLeDiff, ↓reduceIte, Tg.isFull, Int.reduceToNat]
theorem RD_2 (W : List UInt8) (h5 : 5 ≤ W.length) (hW : W.length ≤ 1000000) (hk : kd W = 2) : runW false prog 44 [.d (.sl .any 1 (u8s (W.drop 4)))] [] = some (.tup [.agg (mC ⟨2, [], 0, (rn (W.drop 5) false).1, 0, [], .any, 0⟩), .d (.bool (!(rn (W.drop 5) false).2.2 && decide ((rn (W.drop 5) false).2.1.length = 0)))], [], []) := by
  refine run_of rfl ?_
  have h4 : 4 ≤ W.length := by omega
  have hd0 := u8s_at (W.drop 4) (i := 0) (by simp; omega)
  rw [show (W.drop 4).getD 0 0 = W.getD 4 0 by simp [List.getD_eq_getElem?_getD]] at hd0
  have hd1 : 1 ≤ W.length - 4 := by omega
  have hdd : (W.drop 4).drop 1 = W.drop 5 := by simp
  have hdl : (W.drop 4).length = W.length - 4 := by simp
  have hdt : (W.drop 5).take (W.length - 4 - 1) = W.drop 5 := by rw [List.take_of_length_le]; simp; omega
  have hkb : IntKind.i64.wrap ((W.getD 4 0).toNat : Int) = kd W := w_bi64 _
  have hB : (W.drop 5).length ≤ 1000000 := by simp; omega
  have hu := uses_eq 2
  rw [show us 2 = (false, true, false, false) from rfl] at hu
  rw [hk] at hkb
  simp only at hu
  generalize W.drop 5 = b at hB hdd hdt ⊢
  have n1 := rnum_eq b (by omega) false
  have l1 := rn_len b false
  generalize rn b false = p1 at n1 l1 ⊢
  obtain ⟨v, r, bad⟩ := p1
  simp only at *
  cases bad
  · skip
    by_cases hr : r.length = 0
    · have er : ((r.length : Int) = 0) = True := eq_true (by omega)
      have er2 : decide (r.length = 0) = true := by simp [hr]
      rw [er2]
      simp -dsimp (disch := first | rfl | omega) only [mC, r44_0, r44_1, r44_2, r44_3, r44_4, r44_10, r44_11, r44_12, r44_14, r44_16, callW_fn pgUsesR, callW_fn pgRnum, hu, hd0, hkb, hdl, hdd, hdt, hd1, h4, n1, er, ↓vmP, vm0, vm1, vm2, vm3, vm4, vm5, vm6, vm7, vm8, vm9, vm10, vm11, vm12, vm13, vm14, vm15, vmC, vmN, Nat.reduceAdd, Nat.reduceMul, Nat.reduceSub, Nat.reduceEqDiff, Nat.reduceLT, Nat.reduceLeDiff, ↓reduceIte, Tg.isFull, Int.reduceToNat]
      refine regD_of (by kernel_rfl) ?_
      simp -dsimp (disch := first | rfl | omega) only [mC, u8s_nil, ↓vmP, vm0, vm1, vm2, vm3, vm4, vm5, vm6, vm7, vm8, vm9, vm10, vm11, vm12, vm13, vm14, vm15, vmC, vmN, Nat.reduceAdd, Nat.reduceMul, Nat.reduceSub, Nat.reduceEqDiff, Nat.reduceLT, Nat.reduceLeDiff, ↓reduceIte, Tg.isFull, Int.reduceToNat]
    · have er : ((r.length : Int) = 0) = False := eq_false (by omega)
      have er2 : decide (r.length = 0) = false := by simp [hr]
      rw [er2]
      simp -dsimp (disch := first | rfl | omega) only [mC, r44_0, r44_1, r44_2, r44_3, r44_4, r44_10, r44_11, r44_12, r44_14, r44_16, callW_fn pgUsesR, callW_fn pgRnum, hu, hd0, hkb, hdl, hdd, hdt, hd1, h4, n1, er, ↓vmP, vm0, vm1, vm2, vm3, vm4, vm5, vm6, vm7, vm8, vm9, vm10, vm11, vm12, vm13, vm14, vm15, vmC, vmN, Nat.reduceAdd, Nat.reduceMul, Nat.reduceSub, Nat.reduceEqDiff, Nat.reduceLT, Nat.reduceLeDiff, ↓reduceIte, Tg.isFull, Int.reduceToNat]
      refine regD_of (by kernel_rfl) ?_
      simp -dsimp (disch := first | rfl | omega) only [mC, u8s_nil, ↓vmP, vm0, vm1, vm2, vm3, vm4, vm5, vm6, vm7, vm8, vm9, vm10, vm11, vm12, vm13, vm14, vm15, vmC, vmN, Nat.reduceAdd, Nat.reduceMul, Nat.reduceSub, Nat.reduceEqDiff, Nat.reduceLT, Nat.reduceLeDiff, ↓reduceIte, Tg.isFull, Int.reduceToNat]
  · simp -dsimp (disch := first | rfl | omega) only [mC, r44_0, r44_1, r44_2, r44_3, r44_4, r44_10, r44_11, r44_12, r44_14, r44_16, callW_fn pgUsesR, callW_fn pgRnum, hu, hd0, hkb, hdl, hdd, hdt, hd1, h4, n1, ↓vmP, vm0, vm1, vm2, vm3, vm4, vm5, vm6, vm7, vm8, vm9, vm10, vm11, vm12, vm13, vm14, vm15, vmC, vmN, Nat.reduceAdd, Nat.reduceMul, Nat.reduceSub, Nat.reduceEqDiff, Nat.reduceLT, Nat.reduceLeDiff, ↓reduceIte, Tg.isFull, Int.reduceToNat]
    refine regD_of (by kernel_rfl) ?_
    simp -dsimp (disch := first | rfl | omega) only [mC, u8s_nil, ↓vmP, vm0, vm1, vm2, vm3, vm4, vm5, vm6, vm7, vm8, vm9, vm10, vm11, vm12, vm13, vm14, vm15, vmC, vmN, Nat.reduceAdd, Nat.reduceMul, Nat.reduceSub, Nat.reduceEqDiff, Nat.reduceLT, Nat.reduceLeDiff, ↓reduceIte, Tg.isFull, Int.reduceToNat]
theorem RD_3 (W : List UInt8) (h5 : 5 ≤ W.length) (hW : W.length ≤ 1000000) (hk : kd W = 3) : runW false prog 44 [.d (.sl .any 1 (u8s (W.drop 4)))] [] = some (.tup [.agg (mC ⟨3, [], 0, (rn (W.drop 5) false).1, 0, (rn (W.drop 5) false).2.1, .any, 1⟩), .d (.bool (!(rn (W.drop 5) false).2.2))], [], []) := by
  refine run_of rfl ?_
  have h4 : 4 ≤ W.length := by omega
  have hd0 := u8s_at (W.drop 4) (i := 0) (by simp; omega)
  rw [show (W.drop 4).getD 0 0 = W.getD 4 0 by simp [List.getD_eq_getElem?_getD]] at hd0
  have hd1 : 1 ≤ W.length - 4 := by omega
  have hdd : (W.drop 4).drop 1 = W.drop 5 := by simp
  have hdl : (W.drop 4).length = W.length - 4 := by simp
  have hdt : (W.drop 5).take (W.length - 4 - 1) = W.drop 5 := by rw [List.take_of_length_le]; simp; omega
  have hkb : IntKind.i64.wrap ((W.getD 4 0).toNat : Int) = kd W := w_bi64 _
  have hB : (W.drop 5).length ≤ 1000000 := by simp; omega
  have hu := uses_eq 3
  rw [show us 3 = (false, true, false, true) from rfl] at hu
  rw [hk] at hkb
  simp only at hu
  generalize W.drop 5 = b at hB hdd hdt ⊢
  have n1 := rnum_eq b (by omega) false
  have l1 := rn_len b false
  generalize rn b false = p1 at n1 l1 ⊢
  obtain ⟨v, r, bad⟩ := p1
  simp only at *
  cases bad
  · simp -dsimp (disch := first | rfl | omega) only [mC, r44_0, r44_1, r44_2, r44_3, r44_4, r44_10, r44_11, r44_12, r44_14, r44_15, r44_16, callW_fn pgUsesR, callW_fn pgRnum, hu, hd0, hkb, hdl, hdd, hdt, hd1, h4, n1, List.append_nil, ↓vmP, vm0, vm1, vm2, vm3, vm4, vm5, vm6, vm7, vm8, vm9, vm10, vm11, vm12, vm13, vm14, vm15, vmC, vmN, Nat.reduceAdd, Nat.reduceMul, Nat.reduceSub, Nat.reduceEqDiff, Nat.reduceLT, Nat.reduceLeDiff, ↓reduceIte, Tg.isFull, Int.reduceToNat]
    refine regD_of (by kernel_rfl) ?_
    simp -dsimp (disch := first | rfl | omega) only [mC, u8s_nil, ↓vmP, vm0, vm1, vm2, vm3, vm4, vm5, vm6, vm7, vm8, vm9, vm10, vm11, vm12, vm13, vm14, vm15, vmC, vmN, Nat.reduceAdd, Nat.reduceMul, Nat.reduceSub, Nat.reduceEqDiff, Nat.reduceLT, Nat.reduceLeDiff, ↓reduceIte, Tg.isFull, Int.reduceToNat]
    try rfl
  · simp -dsimp (disch := first | rfl | omega) only [mC, r44_0, r44_1, r44_2, r44_3, r44_4, r44_10, r44_11, r44_12, r44_14, r44_15, r44_16, callW_fn pgUsesR, callW_fn pgRnum, hu, hd0, hkb, hdl, hdd, hdt, hd1, h4, n1, List.append_nil, ↓vmP, vm0, vm1, vm2, vm3, vm4, vm5, vm6, vm7, vm8, vm9, vm10, vm11, vm12, vm13, vm14, vm15, vmC, vmN, Nat.reduceAdd, Nat.reduceMul, Nat.reduceSub, Nat.reduceEqDiff, Nat.reduceLT, Nat.reduceLeDiff, ↓reduceIte, Tg.isFull, Int.reduceToNat]
    refine regD_of (by kernel_rfl) ?_
    simp -dsimp (disch := first | rfl | omega) only [mC, u8s_nil, ↓vmP, vm0, vm1, vm2, vm3, vm4, vm5, vm6, vm7, vm8, vm9, vm10, vm11, vm12, vm13, vm14, vm15, vmC, vmN, Nat.reduceAdd, Nat.reduceMul, Nat.reduceSub, Nat.reduceEqDiff, Nat.reduceLT, Nat.reduceLeDiff, ↓reduceIte, Tg.isFull, Int.reduceToNat]
    try rfl
theorem RD_4 (W : List UInt8) (h5 : 5 ≤ W.length) (hW : W.length ≤ 1000000) (hk : kd W = 4) : runW false prog 44 [.d (.sl .any 1 (u8s (W.drop 4)))] [] = some (.tup [.agg (mC ⟨4, [], 0, (rn (W.drop 5) false).1, (rn (rn (W.drop 5) false).2.1 (rn (W.drop 5) false).2.2).1, [], .any, 0⟩), .d (.bool (!(rn (rn (W.drop 5) false).2.1 (rn (W.drop 5) false).2.2).2.2 && decide ((rn (rn (W.drop 5) false).2.1 (rn (W.drop 5) false).2.2).2.1.length = 0)))], [], []) := by
  refine run_of rfl ?_
  have h4 : 4 ≤ W.length := by omega
  have hd0 := u8s_at (W.drop 4) (i := 0) (by simp; omega)
  rw [show (W.drop 4).getD 0 0 = W.getD 4 0 by simp [List.getD_eq_getElem?_getD]] at hd0
  have hd1 : 1 ≤ W.length - 4 := by omega
  have hdd : (W.drop 4).drop 1 = W.drop 5 := by simp
  have hdl : (W.drop 4).length = W.length - 4 := by simp
  have hdt : (W.drop 5).take (W.length - 4 - 1) = W.drop 5 := by rw [List.take_of_length_le]; simp; omega
  have hkb : IntKind.i64.wrap ((W.getD 4 0).toNat : Int) = kd W := w_bi64 _
  have hB : (W.drop 5).length ≤ 1000000 := by simp; omega
  have hu := uses_eq 4
  rw [show us 4 = (false, true, true, false) from rfl] at hu
  rw [hk] at hkb
  simp only at hu
  generalize W.drop 5 = b at hB hdd hdt ⊢
  have n1 := rnum_eq b (by omega) false
  have l1 := rn_len b false
  generalize rn b false = p1 at n1 l1 ⊢
  have n2 := rnum_eq p1.2.1 (by omega) p1.2.2
  have l2 := rn_len p1.2.1 p1.2.2
  generalize rn p1.2.1 p1.2.2 = p2 at n2 l2 ⊢
  obtain ⟨v, r, bad⟩ := p2
  simp only at *
  cases bad
  · skip
    by_cases hr : r.length = 0
    · have er : ((r.length : Int) = 0) = True := eq_true (by omega)
      have er2 : decide (r.length = 0) = true := by simp [hr]
      rw [er2]
      simp -dsimp (disch := first | rfl | omega) only [mC, r44_0, r44_1, r44_2, r44_3, r44_4, r44_10, r44_11, r44_12, r44_13, r44_14, r44_16, callW_fn pgUsesR, callW_fn pgRnum, hu, hd0, hkb, hdl, hdd, hdt, hd1, h4, n1, n2, er, ↓vmP, vm0, vm1, vm2, vm3, vm4, vm5, vm6, vm7, vm8, vm9, vm10, vm11, vm12, vm13, vm14, vm15, vmC, vmN, Nat.reduceAdd, Nat.reduceMul, Nat.reduceSub, Nat.reduceEqDiff, Nat.reduceLT, Nat.reduceLeDiff, ↓reduceIte, Tg.isFull, Int.reduceToNat]
      refine regD_of (by kernel_rfl) ?_
      simp -dsimp (disch := first | rfl | omega) only [mC, u8s_nil, ↓vmP, vm0, vm1, vm2, vm3, vm4, vm5, vm6, vm7, vm8, vm9, vm10, vm11, vm12, vm13, vm14, vm15, vmC, vmN, Nat.reduceAdd, Nat.reduceMul, Nat.reduceSub, Nat.reduceEqDiff, Nat.reduceLT, Nat.reduceLeDiff, ↓reduceIte, Tg.isFull, Int.reduceToNat]
    · have er : ((r.length : Int) = 0) = False := eq_false (by omega)
      have er2 : decide (r.length = 0) = false := by simp [hr]
      rw [er2]
      simp -dsimp (disch := first | rfl | omega) only [mC, r44_0, r44_1, r44_2, r44_3, r44_4, r44_10, r44_11, r44_12, r44_13, r44_14, r44_16, callW_fn pgUsesR, callW_fn pgRnum, hu, hd0, hkb, hdl, hdd, hdt, hd1, h4, n1, n2, er, ↓vmP, vm0, vm1, vm2, vm3, vm4, vm5, vm6, vm7, vm8, vm9, vm10, vm11, vm12, vm13, vm14, vm15, vmC, vmN, Nat.reduceAdd, Nat.reduceMul, Nat.reduceSub, Nat.reduceEqDiff, Nat.reduceLT, Nat.reduceLeDiff, ↓reduceIte, Tg.isFull, Int.reduceToNat]
      refine regD_of (by kernel_rfl) ?_
      simp -dsimp (disch := first | rfl | omega) only [mC, u8s_nil, ↓vmP, vm0, vm1, vm2, vm3, vm4, vm5, vm6, vm7, vm8, vm9, vm10, vm11, vm12, vm13, vm14, vm15, vmC, vmN, Nat.reduceAdd, Nat.reduceMul, Nat.reduceSub, Nat.reduceEqDiff, Nat.reduceLT, Nat.reduceLeDiff, ↓reduceIte, Tg.isFull, Int.reduceToNat]
  · simp -dsimp (disch := first | rfl | omega) only [mC, r44_0, r44_1, r44_2, r44_3, r44_4, r44_10, r44_11, r44_12, r44_13, r44_14, r44_16, callW_fn pgUsesR, callW_fn pgRnum, hu, hd0, hkb, hdl, hdd, hdt, hd1, h4, n1, n2, ↓vmP, vm0, vm1, vm2, vm3, vm4, vm5, vm6, vm7, vm8, vm9, vm10, vm11, vm12, vm13, vm14, vm15, vmC, vmN, Nat.reduceAdd, Nat.reduceMul, Nat.reduceSub, Nat.reduceEqDiff, Nat.reduceLT, Nat.reduceLeDiff, ↓reduceIte, Tg.isFull, Int.reduceToNat]
    refine regD_of (by kernel_rfl) ?_
    simp -dsimp (disch := first | rfl | omega) only [mC, u8s_nil, ↓vmP, vm0, vm1, vm2, vm3, vm4, vm5, vm6, vm7, vm8, vm9, vm10, vm11, vm12, vm13, vm14, vm15, vmC, vmN, Nat.reduceAdd, Nat.reduceMul, Nat.reduceSub, Nat.reduceEqDiff, Nat.reduceLT, Nat.reduceLeDiff, ↓reduceIte, Tg.isFull, Int.reduceToNat]
theorem RD_5 (W : List UInt8) (h5 : 5 ≤ W.length) (hW : W.length ≤ 1000000) (hk : kd W = 5) : runW false prog 44 [.d (.sl .any 1 (u8s (W.drop 4)))] [] = some (.tup [.agg (mC ⟨5, [], 0, (rn (W.drop 5) false).1, 0, [], .any, 0⟩), .d (.bool (!(rn (W.drop 5) false).2.2 && decide ((rn (W.drop 5) false).2.1.length = 0)))], [], []) := by
  refine run_of rfl ?_
  have h4 : 4 ≤ W.length := by omega
  have hd0 := u8s_at (W.drop 4) (i := 0) (by simp; omega)
  rw [show (W.drop 4).getD 0 0 = W.getD 4 0 by simp [List.getD_eq_getElem?_getD]] at hd0
  have hd1 : 1 ≤ W.length - 4 := by omega
  have hdd : (W.drop 4).drop 1 = W.drop 5 := by simp
  have hdl : (W.drop 4).length = W.length - 4 := by simp
  have hdt : (W.drop 5).take (W.length - 4 - 1) = W.drop 5 := by rw [List.take_of_length_le]; simp; omega
  have hkb : IntKind.i64.wrap ((W.getD 4 0).toNat : Int) = kd W := w_bi64 _
  have hB : (W.drop 5).length ≤ 1000000 := by simp; omega
  have hu := uses_eq 5
  rw [show us 5 = (false, true, false, false) from rfl] at hu
  rw [hk] at hkb
  simp only at hu
  generalize W.drop 5 = b at hB hdd hdt ⊢
  have n1 := rnum_eq b (by omega) false
  have l1 := rn_len b false
  generalize rn b false = p1 at n1 l1 ⊢
  obtain ⟨v, r, bad⟩ := p1
  simp only at *
  cases bad
  · skip
    by_cases hr : r.length = 0
    · have er : ((r.length : Int) = 0) = True := eq_true (by omega)
      have er2 : decide (r.length = 0) = true := by simp [hr]
      rw [er2]
      simp -dsimp (disch := first | rfl | omega) only [mC, r44_0, r44_1, r44_2, r44_3, r44_4, r44_10, r44_11, r44_12, r44_14, r44_16, callW_fn pgUsesR, callW_fn pgRnum, hu, hd0, hkb, hdl, hdd, hdt, hd1, h4, n1, er, ↓vmP, vm0, vm1, vm2, vm3, vm4, vm5, vm6, vm7, vm8, vm9, vm10, vm11, vm12, vm13, vm14, vm15, vmC, vmN, Nat.reduceAdd, Nat.reduceMul, Nat.reduceSub, Nat.reduceEqDiff, Nat.reduceLT, Nat.reduceLeDiff, ↓reduceIte, Tg.isFull, Int.reduceToNat]
      refine regD_of (by kernel_rfl) ?_
      simp -dsimp (disch := first | rfl | omega) only [mC, u8s_nil, ↓vmP, vm0, vm1, vm2, vm3, vm4, vm5, vm6, vm7, vm8, vm9, vm10, vm11, vm12, vm13, vm14, vm15, vmC, vmN, Nat.reduceAdd, Nat.reduceMul, Nat.reduceSub, Nat.reduceEqDiff, Nat.reduceLT, Nat.reduceLeDiff, ↓reduceIte, Tg.isFull, Int.reduceToNat]
    · have er : ((r.length : Int) = 0) = False := eq_false (by omega)
      have er2 : decide (r.length = 0) = false := by simp [hr]
      rw [er2]
      simp -dsimp (disch := first | rfl | omega) only [mC, r44_0, r44_1, r44_2, r44_3, r44_4, r44_10, r44_11, r44_12, r44_14, r44_16, callW_fn pgUsesR, callW_fn pgRnum, hu, hd0, hkb, hdl, hdd, hdt, hd1, h4, n1, er, ↓vmP, vm0, vm1, vm2, vm3, vm4, vm5, vm6, vm7, vm8, vm9, vm10, vm11, vm12, vm13, vm14, vm15, vmC, vmN, Nat.reduceAdd, Nat.reduceMul, Nat.reduceSub, Nat.reduceEqDiff, Nat.reduceLT, Nat.reduceLeDiff, ↓reduceIte, Tg.isFull, Int.reduceToNat]
      refine regD_of (by kernel_rfl) ?_
      simp -dsimp (disch := first | rfl | omega) only [mC, u8s_nil, ↓vmP, vm0, vm1, vm2, vm3, vm4, vm5, vm6, vm7, vm8, vm9, vm10, vm11, vm12, vm13, vm14, vm15, vmC, vmN, Nat.reduceAdd, Nat.reduceMul, Nat.reduceSub, Nat.reduceEqDiff, Nat.reduceLT, Nat.reduceLeDiff, ↓reduceIte, Tg.isFull, Int.reduceToNat]
  · simp -dsimp (disch := first | rfl | omega) only [mC, r44_0, r44_1, r44_2, r44_3, r44_4, r44_10, r44_11, r44_12, r44_14, r44_16, callW_fn pgUsesR, callW_fn pgRnum, hu, hd0, hkb, hdl, hdd, hdt, hd1, h4, n1, ↓vmP, vm0, vm1, vm2, vm3, vm4, vm5, vm6, vm7, vm8, vm9, vm10, vm11, vm12, vm13, vm14, vm15, vmC, vmN, Nat.reduceAdd, Nat.reduceMul, Nat.reduceSub, Nat.reduceEqDiff, Nat.reduceLT, Nat.reduceLeDiff, ↓reduceIte, Tg.isFull, Int.reduceToNat]
    refine regD_of (by kernel_rfl) ?_
    simp -dsimp (disch := first | rfl | omega) only [mC, u8s_nil, ↓vmP, vm0, vm1, vm2, vm3, vm4, vm5, vm6, vm7, vm8, vm9, vm10, vm11, vm12, vm13, vm14, vm15, vmC, vmN, Nat.reduceAdd, Nat.reduceMul, Nat.reduceSub, Nat.reduceEqDiff, Nat.reduceLT, Nat.reduceLeDiff, ↓reduceIte, Tg.isFull, Int.reduceToNat]
theorem RD_0 (W : List UInt8) (h5 : 5 ≤ W.length) (hW : W.length ≤ 1000000) (hk : us (kd W) = (false, false, false, false)) : runW false prog 44 [.d (.sl .any 1 (u8s (W.drop 4)))] [] = some (.tup [.agg (mC ⟨(kd W), [], 0, 0, 0, [], .any, 0⟩), .d (.bool (!false && decide ((W.drop 5).length = 0)))], [], []) := by
  refine run_of rfl ?_
  have h4 : 4 ≤ W.length := by omega
  have hd0 := u8s_at (W.drop 4) (i := 0) (by simp; omega)
  rw [show (W.drop 4).getD 0 0 = W.getD 4 0 by simp [List.getD_eq_getElem?_getD]] at hd0
  have hd1 : 1 ≤ W.length - 4 := by omega
  have hdd : (W.drop 4).drop 1 = W.drop 5 := by simp
  have hdl : (W.drop 4).length = W.length - 4 := by simp
  have hdt : (W.drop 5).take (W.length - 4 - 1) = W.drop 5 := by rw [List.take_of_length_le]; simp; omega
  have hkb : IntKind.i64.wrap ((W.getD 4 0).toNat : Int) = kd W := w_bi64 _
  have hB : (W.drop 5).length ≤ 1000000 := by simp; omega
  have hu := uses_eq (kd W)
  rw [hk] at hu
  simp only at hu
  generalize W.drop 5 = b at hB hdd hdt ⊢
  by_cases hr : b.length = 0
  · have er : ((b.length : Int) = 0) = True := eq_true (by omega)
    have er2 : decide (b.length = 0) = true := by simp [hr]
    rw [er2]
    simp -dsimp (disch := first | rfl | omega) only [mC, r44_0, r44_1, r44_2, r44_3, r44_4, r44_10, r44_12, r44_14, r44_16, callW_fn pgUsesR, callW_fn pgRnum, hu, hd0, hkb, hdl, hdd, hdt, hd1, h4, er, ↓vmP, vm0, vm1, vm2, vm3, vm4, vm5, vm6, vm7, vm8, vm9, vm10, vm11, vm12, vm13, vm14, vm15, vmC, vmN, Nat.reduceAdd, Nat.reduceMul, Nat.reduceSub, Nat.reduceEqDiff, Nat.reduceLT, Nat.reduceLeDiff, ↓reduceIte, Tg.isFull, Int.reduceToNat]
    refine regD_of (by kernel_rfl) ?_
    simp -dsimp (disch := first | rfl | omega) only [mC, u8s_nil, ↓vmP, vm0, vm1, vm2, vm3, vm4, vm5, vm6, vm7, vm8, vm9, vm10, vm11, vm12, vm13, vm14, vm15, vmC, vmN, Nat.reduceAdd, Nat.reduceMul, Nat.reduceSub, Nat.reduceEqDiff, Nat.reduceLT, Nat.reduceLeDiff, ↓reduceIte, Tg.isFull, Int.reduceToNat]
  · have er : ((b.length : Int) = 0) = False := eq_false (by omega)
    have er2 : decide (b.length = 0) = false := by simp [hr]
    rw [er2]
    simp -dsimp (disch := first | rfl | omega) only [mC, r44_0, r44_1, r44_2, r44_3, r44_4, r44_10, r44_12, r44_14, r44_16, callW_fn pgUsesR, callW_fn pgRnum, hu, hd0, hkb, hdl, hdd, hdt, hd1, h4, er, ↓vmP, vm0, vm1, vm2, vm3, vm4, vm5, vm6, vm7, vm8, vm9, vm10, vm11, vm12, vm13, vm14, vm15, vmC, vmN, Nat.reduceAdd, Nat.reduceMul, Nat.reduceSub, Nat.reduceEqDiff, Nat.reduceLT, Nat.reduceLeDiff, ↓reduceIte, Tg.isFull, Int.reduceToNat]
    refine regD_of (by kernel_rfl) ?_
    simp -dsimp (disch := first | rfl | omega) only [mC, u8s_nil, ↓vmP, vm0, vm1, vm2, vm3, vm4, vm5, vm6, vm7, vm8, vm9, vm10, vm11, vm12, vm13, vm14, vm15, vmC, vmN, Nat.reduceAdd, Nat.reduceMul, Nat.reduceSub, Nat.reduceEqDiff, Nat.reduceLT, Nat.reduceLeDiff, ↓reduceIte, Tg.isFull, Int.reduceToNat]
theorem RD_1n (W : List UInt8) (h5 : 5 ≤ W.length) (hW : W.length ≤ 1000000) (hk : kd W = 1) (hc : ¬ ((W.drop 5).getD 0 0).toNat + 1 ≤ (W.drop 5).length) : runW false prog 44 [.d (.sl .any 1 (u8s (W.drop 4)))] [] = some (.tup [.agg (mC ⟨1, [], 0, 0, 0, [], .any, 0⟩), .d (.bool false)], [], []) := by
  refine run_of rfl ?_
  have h4 : 4 ≤ W.length := by omega
  have hd0 := u8s_at (W.drop 4) (i := 0) (by simp; omega)
  rw [show (W.drop 4).getD 0 0 = W.getD 4 0 by simp [List.getD_eq_getElem?_getD]] at hd0
  have hd1 : 1 ≤ W.length - 4 := by omega
  have hdd : (W.drop 4).drop 1 = W.drop 5 := by simp
  have hdl : (W.drop 4).length = W.length - 4 := by simp
  have hdt : (W.drop 5).take (W.length - 4 - 1) = W.drop 5 := by rw [List.take_of_length_le]; simp; omega
  have hkb : IntKind.i64.wrap ((W.getD 4 0).toNat : Int) = kd W := w_bi64 _
  have hB : (W.drop 5).length ≤ 1000000 := by simp; omega
  have hu := uses_eq 1
  rw [show us 1 = (true, true, false, false) from rfl] at hu
  rw [hk] at hkb
  simp only at hu
  have hb0 := fun h => u8s_at (W.drop 5) (i := 0) h
  have hcc := ((W.drop 5).getD 0 0).toNat_lt
  generalize (W.drop 5).getD 0 0 = c at hb0 hcc hc ⊢
  generalize W.drop 5 = b at hb0 hc hB hdd hdt ⊢
  by_cases h0 : b.length = 0
  · have e1 : ((b.length : Int) = 0) = True := eq_true (by omega)
    simp -dsimp (disch := first | rfl | omega) only [mC, r44_0, r44_1, r44_2, r44_3, r44_4, r44_5, r44_6, callW_fn pgUsesR, hu, hd0, hkb, hdl, hdd, hdt, hd1, h4, e1, ↓vmP, vm0, vm1, vm2, vm3, vm4, vm5, vm6, vm7, vm8, vm9, vm10, vm11, vm12, vm13, vm14, vm15, vmC, vmN, Nat.reduceAdd, Nat.reduceMul, Nat.reduceSub, Nat.reduceEqDiff, Nat.reduceLT, Nat.reduceLeDiff, ↓reduceIte, Tg.isFull, Int.reduceToNat]
    refine regD_of (by kernel_rfl) ?_
    simp -dsimp (disch := first | rfl | omega) only [mC, r44_0, r44_1, r44_2, r44_3, r44_4, r44_5, r44_6, u8s_nil, ↓vmP, vm0, vm1, vm2, vm3, vm4, vm5, vm6, vm7, vm8, vm9, vm10, vm11, vm12, vm13, vm14, vm15, vmC, vmN, Nat.reduceAdd, Nat.reduceMul, Nat.reduceSub, Nat.reduceEqDiff, Nat.reduceLT, Nat.reduceLeDiff, ↓reduceIte, Tg.isFull, Int.reduceToNat]
  · have e1 : ((b.length : Int) = 0) = False := eq_false (by omega)
    have e2 : ((b.length : Int) - 1 < (c.toNat : Int)) = True := eq_true (by omega)
    have hb0 := hb0 (by omega)
    simp -dsimp (disch := first | rfl | omega) only [mC, r44_0, r44_1, r44_2, r44_3, r44_4, r44_5, r44_6, callW_fn pgUsesR, hu, hd0, hkb, hdl, hdd, hdt, hd1, h4, e1, e2, hb0, ↓vmP, vm0, vm1, vm2, vm3, vm4, vm5, vm6, vm7, vm8, vm9, vm10, vm11, vm12, vm13, vm14, vm15, vmC, vmN, Nat.reduceAdd, Nat.reduceMul, Nat.reduceSub, Nat.reduceEqDiff, Nat.reduceLT, Nat.reduceLeDiff, ↓reduceIte, Tg.isFull, Int.reduceToNat]
    refine regD_of (by kernel_rfl) ?_
    simp -dsimp (disch := first | rfl | omega) only [mC, r44_0, r44_1, r44_2, r44_3, r44_4, r44_5, r44_6, u8s_nil, ↓vmP, vm0, vm1, vm2, vm3, vm4, vm5, vm6, vm7, vm8, vm9, vm10, vm11, vm12, vm13, vm14, vm15, vmC, vmN, Nat.reduceAdd, Nat.reduceMul, Nat.reduceSub, Nat.reduceEqDiff, Nat.reduceLT, Nat.reduceLeDiff, ↓reduceIte, Tg.isFull, Int.reduceToNat]
end Go.Vm.Wr
