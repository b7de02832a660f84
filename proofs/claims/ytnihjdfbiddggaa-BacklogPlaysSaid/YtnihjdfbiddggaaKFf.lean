/- A part of the proof of BacklogPlaysSaid: YtnihjdfbiddggaaFf. -/
import Derived.Test.YtnihjdfbiddggaaKFe
/- Backlogs: new ones, settings, reasons of refusals. -/
set_option linter.unusedVariables false
set_option linter.unusedSimpArgs false
set_option maxHeartbeats 1000000
namespace Go.Vm.Bk
def zBk : Bk := ⟨0, 0, 0, 0, 0, [], [], 0, 0, 0, 0, 0, 0, 0, 0, false, []⟩
def conf (b : Bk) (l r f : Int) : Bk := { b with limit := l, rate := r, fail := f }
theorem zk_of (b : Bk) : Zk b 1 4 2 := ⟨rfl, rfl, rfl⟩
theorem zk_z (l r f : Int) : Zk (conf zBk l r f) 0 0 0 := ⟨rfl, rfl, rfl⟩
theorem sm_z (l r f : Int) : Sm (conf zBk l r f) := ⟨by simp [conf, zBk], by simp [conf, zBk], by simp [conf, zBk], by simp [conf, zBk], by simp [conf, zBk], by simp [conf, zBk], by simp [conf, zBk], by simp [conf, zBk], by simp [conf, zBk], by simp [conf, zBk]⟩
theorem pgOwnB : prog 40 = some c40 := rfl
theorem pgCopy : prog 35 = some c35 := rfl
theorem pgSet : prog 39 = some c39 := rfl
theorem pgRSet : prog 34 = some c34 := rfl
set_option maxRecDepth 20000 in
theorem Conf_eq (b : Bk) (z1 z2 z3 : Nat) (hz : Zk b z1 z2 z3) (hs : Sm b) (l r f : Int) : runW false prog 16 [.agg (bA b z1 z2 z3), .d (.int .i64 l), .d (.int .i64 r), .d (.int .i64 f)] [] =
    some (if setOk l r f then (.tup [.agg (bA (conf b l r f) 1 4 2), .d (.int .i64 0)]) else (.tup [.agg (bA zBk 0 0 0), .d (.int .i64 200)]), [], []) := by
  refine run_of rfl ?_
  have h1 := ownB_eq b z1 z2 z3 hz hs
  have h2 := set_eq l r f
  simp only [bA, bC, bH] at h1
  cases hv : setOk l r f with
  | true =>
    rw [hv] at h2
    simp -dsimp (disch := first | rfl | omega) only [bA, bC, bH, conf, r16_0, r16_1, r16_3, r16_4, r16_5, callW_fn pgOwnB, callW_fn pgSet, h1, h2, ↓vmP, vm0, vm1, vm2, vm3, vm4, vm5, vm6, vm7, vm8, vm9, vm10, vm11, vm12, vm13, vm14, vm15, vmC, vmN, Nat.reduceAdd, Nat.reduceMul, Nat.reduceSub, Nat.reduceEqDiff, Nat.reduceLT, Nat.reduceLeDiff, ↓reduceIte, Tg.isFull, Int.reduceToNat]
  | false =>
    rw [hv] at h2
    simp -dsimp (disch := first | rfl | omega) only [bA, bC, zBk, i64s_nil, recs_nil, notes_nil, r16_0, r16_1, r16_2, callW_fn pgSet, h2, ↓vmP, vm0, vm1, vm2, vm3, vm4, vm5, vm6, vm7, vm8, vm9, vm10, vm11, vm12, vm13, vm14, vm15, vmC, vmN, Nat.reduceAdd, Nat.reduceMul, Nat.reduceSub, Nat.reduceEqDiff, Nat.reduceLT, Nat.reduceLeDiff, ↓reduceIte, Tg.isFull, Int.reduceToNat]
    try rfl
set_option maxRecDepth 20000 in
theorem RConf_eq (b : Bk) (z1 z2 z3 : Nat) (hz : Zk b z1 z2 z3) (hs : Sm b) (l r f : Int) : runW false prog 17 [.agg (bA b z1 z2 z3), .d (.int .i64 l), .d (.int .i64 r), .d (.int .i64 f)] [] =
    some (if setOk l r f then (.tup [.agg (bA (conf b l r f) 1 4 2), .d (.int .i64 0)]) else (.tup [.agg (bA zBk 0 0 0), .d (.int .i64 200)]), [], []) := by
  refine run_of rfl ?_
  have h1 := Copy_eq b z1 z2 z3 hz hs
  have h2 := rset_eq l r f
  simp only [bA, bC, bH] at h1
  cases hv : setOk l r f with
  | true =>
    rw [hv] at h2
    simp -dsimp (disch := first | rfl | omega) only [bA, bC, bH, conf, r17_0, r17_1, r17_3, r17_4, r17_5, callW_fn pgCopy, callW_fn pgRSet, h1, h2, ↓vmP, vm0, vm1, vm2, vm3, vm4, vm5, vm6, vm7, vm8, vm9, vm10, vm11, vm12, vm13, vm14, vm15, vmC, vmN, Nat.reduceAdd, Nat.reduceMul, Nat.reduceSub, Nat.reduceEqDiff, Nat.reduceLT, Nat.reduceLeDiff, ↓reduceIte, Tg.isFull, Int.reduceToNat]
  | false =>
    rw [hv] at h2
    simp -dsimp (disch := first | rfl | omega) only [bA, bC, zBk, i64s_nil, recs_nil, notes_nil, r17_0, r17_1, r17_2, callW_fn pgRSet, h2, ↓vmP, vm0, vm1, vm2, vm3, vm4, vm5, vm6, vm7, vm8, vm9, vm10, vm11, vm12, vm13, vm14, vm15, vmC, vmN, Nat.reduceAdd, Nat.reduceMul, Nat.reduceSub, Nat.reduceEqDiff, Nat.reduceLT, Nat.reduceLeDiff, ↓reduceIte, Tg.isFull, Int.reduceToNat]
    try rfl
theorem pgConf : prog 16 = some c16 := rfl
def newR (l r f : Int) (z1 z2 z3 : Nat) : A := if setOk l r f then (.tup [.agg (bA (conf zBk l r f) z1 z2 z3), .d (.int .i64 0)]) else (.tup [.agg (bA zBk 0 0 0), .d (.int .i64 200)])
set_option maxRecDepth 20000 in
theorem New_eq (l r f : Int) : runW false prog 15 [.d (.int .i64 l), .d (.int .i64 r), .d (.int .i64 f)] [] = some (newR l r f 1 4 2, [], []) := by
  refine run_of rfl ?_
  have h1 := Conf_eq zBk 0 0 0 ⟨rfl, rfl, rfl⟩ (sm_z 0 0 0) l r f
  simp only [bA, bC, zBk, conf, i64s_nil, recs_nil, notes_nil] at h1
  cases hv : setOk l r f with
  | true =>
    rw [hv, if_pos rfl] at h1
    simp -dsimp (disch := first | rfl | omega) only [newR, hv, bA, bC, zBk, conf, i64s_nil, recs_nil, notes_nil, r15_0, r15_1, callW_fn pgConf, h1, ↓vmP, vm0, vm1, vm2, vm3, vm4, vm5, vm6, vm7, vm8, vm9, vm10, vm11, vm12, vm13, vm14, vm15, vmC, vmN, Nat.reduceAdd, Nat.reduceMul, Nat.reduceSub, Nat.reduceEqDiff, Nat.reduceLT, Nat.reduceLeDiff, ↓reduceIte, Tg.isFull, Int.reduceToNat]
  | false =>
    rw [hv, if_neg (by decide)] at h1
    simp -dsimp (disch := first | rfl | omega) only [newR, hv, bA, bC, zBk, conf, i64s_nil, recs_nil, notes_nil, r15_0, r15_1, callW_fn pgConf, h1, ↓vmP, vm0, vm1, vm2, vm3, vm4, vm5, vm6, vm7, vm8, vm9, vm10, vm11, vm12, vm13, vm14, vm15, vmC, vmN, Nat.reduceAdd, Nat.reduceMul, Nat.reduceSub, Nat.reduceEqDiff, Nat.reduceLT, Nat.reduceLeDiff, ↓reduceIte, Tg.isFull, Int.reduceToNat]
set_option maxRecDepth 20000 in
theorem RNew_eq (l r f : Int) : runW false prog 13 [.d (.int .i64 l), .d (.int .i64 r), .d (.int .i64 f)] [] = some (newR l r f 0 0 0, [], []) := by
  refine run_of rfl ?_
  have h2 := rset_eq l r f
  cases hv : setOk l r f with
  | true =>
    rw [hv] at h2
    simp -dsimp (disch := first | rfl | omega) only [newR, hv, bA, bC, zBk, conf, i64s_nil, recs_nil, notes_nil, r13_0, r13_1, r13_3, callW_fn pgRSet, h2, ↓vmP, vm0, vm1, vm2, vm3, vm4, vm5, vm6, vm7, vm8, vm9, vm10, vm11, vm12, vm13, vm14, vm15, vmC, vmN, Nat.reduceAdd, Nat.reduceMul, Nat.reduceSub, Nat.reduceEqDiff, Nat.reduceLT, Nat.reduceLeDiff, ↓reduceIte, Tg.isFull, Int.reduceToNat]
  | false =>
    rw [hv] at h2
    simp -dsimp (disch := first | rfl | omega) only [newR, hv, bA, bC, zBk, conf, i64s_nil, recs_nil, notes_nil, r13_0, r13_1, r13_2, callW_fn pgRSet, h2, ↓vmP, vm0, vm1, vm2, vm3, vm4, vm5, vm6, vm7, vm8, vm9, vm10, vm11, vm12, vm13, vm14, vm15, vmC, vmN, Nat.reduceAdd, Nat.reduceMul, Nat.reduceSub, Nat.reduceEqDiff, Nat.reduceLT, Nat.reduceLeDiff, ↓reduceIte, Tg.isFull, Int.reduceToNat]
def pend (b : Bk) : Bool := !decide (b.p0 = 0 ∧ b.p1 = 0 ∧ b.p2 = 0 ∧ b.p3 = 0 ∧ b.p4 = 0)
theorem eqs_z (a b c d e : Int) : cellsEq [.int, .int, .int, .int, .int] [.int .i64 a, .int .i64 b, .int .i64 c, .int .i64 d, .int .i64 e] [.int .i64 0, .int .i64 0, .int .i64 0, .int .i64 0, .int .i64 0] = some (decide (a = 0 ∧ b = 0 ∧ c = 0 ∧ d = 0 ∧ e = 0)) := by
  by_cases h1 : a = 0 <;> by_cases h2 : b = 0 <;> by_cases h3 : c = 0 <;> by_cases h4 : d = 0 <;> by_cases h5 : e = 0 <;> simp [cellsEq, h1, h2, h3, h4, h5]
theorem RPend_eq (b : Bk) (z1 z2 z3 : Nat) : runW false prog 36 [.agg (bA b z1 z2 z3)] [] = some (.d (.bool (pend b)), [], []) := by
  refine run_of rfl ?_
  have he := eqs_z b.p0 b.p1 b.p2 b.p3 b.p4
  simp -dsimp (disch := first | rfl | omega) only [bA, bC, pend, r36_0, r36_1, he, vmK, ↓vmP, vm0, vm1, vm2, vm3, vm4, vm5, vm6, vm7, vm8, vm9, vm10, vm11, vm12, vm13, vm14, vm15, vmC, vmN, Nat.reduceAdd, Nat.reduceMul, Nat.reduceSub, Nat.reduceEqDiff, Nat.reduceLT, Nat.reduceLeDiff, ↓reduceIte, Tg.isFull, Int.reduceToNat]
theorem One_eq (v : Bool) : runW false prog 45 [.d (.bool v)] [] = some (.d (.int .i64 (if v then 1 else 0)), [], []) := by
  refine run_of rfl ?_
  cases v
  · simp -dsimp (disch := first | rfl | omega) only [r45_0, r45_1, r45_3, ↓vmP, vm0, vm1, vm2, vm3, vm4, vm5, vm6, vm7, vm8, vm9, vm10, vm11, vm12, vm13, vm14, vm15, vmC, vmN, Nat.reduceAdd, Nat.reduceMul, Nat.reduceSub, Nat.reduceEqDiff, Nat.reduceLT, Nat.reduceLeDiff, ↓reduceIte, Tg.isFull, Int.reduceToNat]
    try rfl
  · simp -dsimp (disch := first | rfl | omega) only [r45_0, r45_1, r45_2, ↓vmP, vm0, vm1, vm2, vm3, vm4, vm5, vm6, vm7, vm8, vm9, vm10, vm11, vm12, vm13, vm14, vm15, vmC, vmN, Nat.reduceAdd, Nat.reduceMul, Nat.reduceSub, Nat.reduceEqDiff, Nat.reduceLT, Nat.reduceLeDiff, ↓reduceIte, Tg.isFull, Int.reduceToNat]
    try rfl
end Go.Vm.Bk
