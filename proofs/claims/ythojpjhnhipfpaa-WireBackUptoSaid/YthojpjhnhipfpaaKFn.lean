/- A part of the proof of WireBackUptoSaid: YthojpjhnhipfpaaFn. -/
import Derived.Test.YthojpjhnhipfpaaKFm
/- Messages made of numbers: the statement on bytes. -/
set_option linter.unusedVariables false
set_option linter.unusedSimpArgs false
set_option maxHeartbeats 1000000
namespace Go.Vm.Wr
theorem texts_ok (x : Nat) (h : x < 10) : (texts.getD x []).length ≤ 5 := by
  have : x = 0 ∨ x = 1 ∨ x = 2 ∨ x = 3 ∨ x = 4 ∨ x = 5 ∨ x = 6 ∨ x = 7 ∨ x = 8 ∨ x = 9 := by omega
  rcases this with rfl | rfl | rfl | rfl | rfl | rfl | rfl | rfl | rfl | rfl <;> simp [texts]
set_option maxRecDepth 20000 in
theorem Sp_ex (l : List UInt8) (a : Nat) (hl : l.length ≤ 1000) (ha : a ≤ l.length) (m : Msg) (w : Wf m) (ht : m.tg = .any) : ∃ (m' : Msg) (a' : Nat), Wf m' ∧ m'.tg = .any ∧ a ≤ a' ∧ a' ≤ l.length ∧ runW false prog 24 [.ptr 0 0, .agg (mC m)] [cs l a] = some (.agg (mC m'), [cs l a'], [0]) := by
  obtain ⟨k, ho, e, s, t, b, tg, bz⟩ := m
  obtain ⟨w1, w2, w3⟩ := w
  simp only at ht w1 w2 w3
  subst ht
  have hp := Pick_eq l a [-1, 0, 1, 1099511627777] (by simp) (by simp) (by omega) (by omega)
  rw [show [(-1 : Int), 0, 1, 1099511627777].length = 4 from rfl] at hp
  have p1 := cN_le l a 4
  have p2 := cN_len l a 4 ha
  generalize cN l a 4 = a1 at hp p1 p2
  generalize [(-1 : Int), 0, 1, 1099511627777].getD (cI l a 4) 0 = n at hp
  simp only [List.map_cons, List.map_nil, cs] at hp
  have hi := Int_eq l a1 6 (by omega) (by omega) (by omega)
  rw [show ((6 : Nat) : Int) = 6 from rfl] at hi
  have q1 := cN_le l a1 6
  have q2 := cN_len l a1 6 p2
  generalize cN l a1 6 = a2 at hi q1 q2
  generalize cI l a1 6 = x at hi
  simp only [cs] at hi
  have i9 := Int_eq l a2 9 (by omega) (by omega) (by omega)
  rw [show ((9 : Nat) : Int) = 9 from rfl] at i9
  have r1 := cN_le l a2 9
  have r2 := cN_len l a2 9 q2
  generalize cN l a2 9 = a3 at i9 r1 r2
  generalize cI l a2 9 = y at i9
  simp only [cs] at i9
  have tx := Text_eq l a2 (by omega) (by omega)
  have tl := texts_ok (cI l a2 10) (cI_lt l a2 10 (by omega))
  have s1 := cN_le l a2 10
  have s2 := cN_len l a2 10 q2
  generalize cN l a2 10 = a4 at tx s1 s2
  generalize texts.getD (cI l a2 10) [] = z at tx tl
  simp only [cs] at tx
  obtain ⟨bs, a5, b1, b2, b3, hb⟩ := Bytes_ex l a2 2 hl q2 (by omega)
  rw [show ((2 : Nat) : Int) = 2 from rfl] at hb
  simp only [cs] at hb
  by_cases x0 : x = 0
  · have e0 : ((x : Int) = 0) = True := eq_true (by omega)
    refine ⟨⟨y, ho, e, s, t, b, .any, bz⟩, a3, ⟨w1, w2, w3⟩, rfl, by omega, r2, ?_⟩
    refine run_of rfl ?_
    simp -dsimp (disch := first | rfl | omega) only [mC, cs, r24_0, r24_1, r24_2, r24_3, r24_4, r24_14, callW_fn pgPk, callW_fn pgI, callW_fn pgI, hp, hi, i9, e0, ↓vmP, vm0, vm1, vm2, vm3, vm4, vm5, vm6, vm7, vm8, vm9, vm10, vm11, vm12, vm13, vm14, vm15, vmC, vmN, Nat.reduceAdd, Nat.reduceMul, Nat.reduceSub, Nat.reduceEqDiff, Nat.reduceLT, Nat.reduceLeDiff, ↓reduceIte, Tg.isFull, Int.reduceToNat]
    try rfl
  have e0 : ((x : Int) = 0) = False := eq_false (by omega)
  by_cases x1 : x = 1
  · have e1 : ((x : Int) = 1) = True := eq_true (by omega)
    refine ⟨⟨k, z, e, s, t, b, .any, bz⟩, a4, ⟨by show z.length ≤ _; omega, w2, w3⟩, rfl, by omega, s2, ?_⟩
    refine run_of rfl ?_
    simp -dsimp (disch := first | rfl | omega) only [mC, cs, r24_0, r24_1, r24_2, r24_3, r24_5, r24_6, r24_14, callW_fn pgPk, callW_fn pgI, callW_fn pgText, hp, hi, tx, e0, e1, ↓vmP, vm0, vm1, vm2, vm3, vm4, vm5, vm6, vm7, vm8, vm9, vm10, vm11, vm12, vm13, vm14, vm15, vmC, vmN, Nat.reduceAdd, Nat.reduceMul, Nat.reduceSub, Nat.reduceEqDiff, Nat.reduceLT, Nat.reduceLeDiff, ↓reduceIte, Tg.isFull, Int.reduceToNat]
    try rfl
  have e1 : ((x : Int) = 1) = False := eq_false (by omega)
  by_cases x2 : x = 2
  · have e2 : ((x : Int) = 2) = True := eq_true (by omega)
    refine ⟨⟨k, ho, n, s, t, b, .any, bz⟩, a2, ⟨w1, w2, w3⟩, rfl, by omega, q2, ?_⟩
    refine run_of rfl ?_
    simp -dsimp (disch := first | rfl | omega) only [mC, cs, r24_0, r24_1, r24_2, r24_3, r24_5, r24_7, r24_8, r24_14, callW_fn pgPk, callW_fn pgI, callW_fn pgI, hp, hi, hi, e0, e1, e2, ↓vmP, vm0, vm1, vm2, vm3, vm4, vm5, vm6, vm7, vm8, vm9, vm10, vm11, vm12, vm13, vm14, vm15, vmC, vmN, Nat.reduceAdd, Nat.reduceMul, Nat.reduceSub, Nat.reduceEqDiff, Nat.reduceLT, Nat.reduceLeDiff, ↓reduceIte, Tg.isFull, Int.reduceToNat]
    try rfl
  have e2 : ((x : Int) = 2) = False := eq_false (by omega)
  by_cases x3 : x = 3
  · have e3 : ((x : Int) = 3) = True := eq_true (by omega)
    refine ⟨⟨k, ho, e, n, t, b, .any, bz⟩, a2, ⟨w1, w2, w3⟩, rfl, by omega, q2, ?_⟩
    refine run_of rfl ?_
    simp -dsimp (disch := first | rfl | omega) only [mC, cs, r24_0, r24_1, r24_2, r24_3, r24_5, r24_7, r24_9, r24_10, r24_14, callW_fn pgPk, callW_fn pgI, callW_fn pgI, hp, hi, hi, e0, e1, e2, e3, ↓vmP, vm0, vm1, vm2, vm3, vm4, vm5, vm6, vm7, vm8, vm9, vm10, vm11, vm12, vm13, vm14, vm15, vmC, vmN, Nat.reduceAdd, Nat.reduceMul, Nat.reduceSub, Nat.reduceEqDiff, Nat.reduceLT, Nat.reduceLeDiff, ↓reduceIte, Tg.isFull, Int.reduceToNat]
    try rfl
  have e3 : ((x : Int) = 3) = False := eq_false (by omega)
  by_cases x4 : x = 4
  · have e4 : ((x : Int) = 4) = True := eq_true (by omega)
    refine ⟨⟨k, ho, e, s, n, b, .any, bz⟩, a2, ⟨w1, w2, w3⟩, rfl, by omega, q2, ?_⟩
    refine run_of rfl ?_
    simp -dsimp (disch := first | rfl | omega) only [mC, cs, r24_0, r24_1, r24_2, r24_3, r24_5, r24_7, r24_9, r24_11, r24_12, r24_14, callW_fn pgPk, callW_fn pgI, callW_fn pgI, hp, hi, hi, e0, e1, e2, e3, e4, ↓vmP, vm0, vm1, vm2, vm3, vm4, vm5, vm6, vm7, vm8, vm9, vm10, vm11, vm12, vm13, vm14, vm15, vmC, vmN, Nat.reduceAdd, Nat.reduceMul, Nat.reduceSub, Nat.reduceEqDiff, Nat.reduceLT, Nat.reduceLeDiff, ↓reduceIte, Tg.isFull, Int.reduceToNat]
    try rfl
  have e4 : ((x : Int) = 4) = False := eq_false (by omega)
  refine ⟨⟨k, ho, e, s, t, bs, .any, 1⟩, a5, ⟨w1, by show bs.length ≤ _; omega, rfl⟩, rfl, by omega, b3, ?_⟩
  refine run_of rfl ?_
  simp -dsimp (disch := first | rfl | omega) only [mC, cs, r24_0, r24_1, r24_2, r24_3, r24_5, r24_7, r24_9, r24_11, r24_13, r24_14, callW_fn pgPk, callW_fn pgI, callW_fn pgBy, hp, hi, hb, e0, e1, e2, e3, e4, ↓vmP, vm0, vm1, vm2, vm3, vm4, vm5, vm6, vm7, vm8, vm9, vm10, vm11, vm12, vm13, vm14, vm15, vmC, vmN, Nat.reduceAdd, Nat.reduceMul, Nat.reduceSub, Nat.reduceEqDiff, Nat.reduceLT, Nat.reduceLeDiff, ↓reduceIte, Tg.isFull, Int.reduceToNat]
  try rfl
end Go.Vm.Wr
