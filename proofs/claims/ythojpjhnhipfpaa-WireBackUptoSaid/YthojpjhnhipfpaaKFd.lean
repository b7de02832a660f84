/- A part of the proof of WireBackUptoSaid: YthojpjhnhipfpaaFd. -/
import Derived.Test.YthojpjhnhipfpaaKFc
/- The fields of messages; which are valid. -/
set_option linter.unusedVariables false
set_option linter.unusedSimpArgs false
set_option maxHeartbeats 1000000
namespace Go.Vm.Wr
theorem kp_nil (ks : List BK) (k : List D) (v : D) : kput ks k v [] = some [(k, v)] := rfl
theorem kp_cons (q : IntKind) (a b : Int) (u v : D) (r : List (List D × D)) : kput [.int] [.int q a] v (([.int q b], u) :: r) = if a = b then some (([.int q a], v) :: r) else ob (kput [.int] [.int q a] v r) (fun r' => some (([.int q b], u) :: r')) := by
  simp only [kput, cellsEq, if_true]
  by_cases h : a = b
  · simp [h]
  · have : (a == b) = false := by simp [h]
    simp only [this, h, if_false]
    simp only [ob]
    cases kput [.int] [.int q a] v r <;> simp
theorem kf_nil (ks : List BK) (k : List D) : kfind ks k [] = some none := rfl
theorem kf_cons (q : IntKind) (a b : Int) (u : D) (r : List (List D × D)) : kfind [.int] [.int q a] (([.int q b], u) :: r) = if a = b then some (some u) else kfind [.int] [.int q a] r := by
  simp only [kfind, cellsEq, if_true]
  by_cases h : a = b
  · simp [h]
  · have : (a == b) = false := by simp [h]
    simp [this, h]
theorem within_eq (n low : Int) : runW false prog 56 [.d (.int .i64 n), .d (.int .i64 low)] [] = some (.d (.bool (decide (low ≤ n ∧ n ≤ 1099511627776))), [], []) := by
  refine run_of rfl ?_
  by_cases h : low ≤ n
  · have e1 : (low ≤ n) = True := eq_true h
    simp -dsimp (disch := first | rfl | omega) only [r56_0, r56_1, e1, ↓vmP, vm0, vm1, vm2, vm3, vm4, vm5, vm6, vm7, vm8, vm9, vm10, vm11, vm12, vm13, vm14, vm15, vmC, vmN, Nat.reduceAdd, Nat.reduceMul, Nat.reduceSub, Nat.reduceEqDiff, Nat.reduceLT, Nat.reduceLeDiff, ↓reduceIte, Tg.isFull, Int.reduceToNat]
  · have e1 : (low ≤ n) = False := eq_false h
    simp -dsimp (disch := first | rfl | omega) only [r56_0, r56_1, e1, false_and, ↓vmP, vm0, vm1, vm2, vm3, vm4, vm5, vm6, vm7, vm8, vm9, vm10, vm11, vm12, vm13, vm14, vm15, vmC, vmN, Nat.reduceAdd, Nat.reduceMul, Nat.reduceSub, Nat.reduceEqDiff, Nat.reduceLT, Nat.reduceLeDiff, ↓reduceIte, Tg.isFull, Int.reduceToNat]
def fk : List (List D × D) := [([.int .i64 1], .sl .any 1 [[.int .i64 1], [.int .i64 2], [.int .i64 3]]), ([.int .i64 2], .sl .any 1 [[.int .i64 3]]), ([.int .i64 3], .sl .any 1 [[.int .i64 3], [.int .i64 5]]), ([.int .i64 4], .sl .any 1 [[.int .i64 3], [.int .i64 4]]), ([.int .i64 5], .sl .any 1 [[.int .i64 3]]), ([.int .i64 6], .sl .any 0 []), ([.int .i64 7], .sl .any 0 [])]
theorem fields_eq : runW false prog 45 [] [] = some (.map 0, [.map false fk], []) := by
  refine run_of rfl ?_
  simp -dsimp (disch := first | rfl | omega) only [r45_0, r45_1, kp_nil, kp_cons, Int.reduceEq, ↓vmP, vm0, vm1, vm2, vm3, vm4, vm5, vm6, vm7, vm8, vm9, vm10, vm11, vm12, vm13, vm14, vm15, vmC, vmN, Nat.reduceAdd, Nat.reduceMul, Nat.reduceSub, Nat.reduceEqDiff, Nat.reduceLT, Nat.reduceLeDiff, ↓reduceIte, Tg.isFull, Int.reduceToNat]
  rfl
def us (k : Int) : Bool × Bool × Bool × Bool := if k = 1 then (true, true, false, false) else if k = 2 ∨ k = 5 then (false, true, false, false) else if k = 3 then (false, true, false, true) else if k = 4 then (false, true, true, false) else (false, false, false, false)
theorem uses_eq (k : Int) : runW false prog 53 [.d (.int .i64 k)] [] = some (.tup [.d (.bool (us k).1), .d (.bool (us k).2.1), .d (.bool (us k).2.2.1), .d (.bool (us k).2.2.2)], [], []) := by
  refine run_of rfl ?_
  by_cases h1 : k = 1
  · subst h1
    simp -dsimp (disch := first | rfl | omega) only [r53_0, r53_1, r53_2, r53_3, ↓vmP, vm0, vm1, vm2, vm3, vm4, vm5, vm6, vm7, vm8, vm9, vm10, vm11, vm12, vm13, vm14, vm15, vmC, vmN, Nat.reduceAdd, Nat.reduceMul, Nat.reduceSub, Nat.reduceEqDiff, Nat.reduceLT, Nat.reduceLeDiff, ↓reduceIte, Tg.isFull, Int.reduceToNat]
    rfl
  · have e1 := eq_false h1
    by_cases h2 : k = 2
    · subst h2
      simp -dsimp (disch := first | rfl | omega) only [r53_0, r53_1, r53_2, r53_4, r53_6, Int.reduceEq, ↓vmP, vm0, vm1, vm2, vm3, vm4, vm5, vm6, vm7, vm8, vm9, vm10, vm11, vm12, vm13, vm14, vm15, vmC, vmN, Nat.reduceAdd, Nat.reduceMul, Nat.reduceSub, Nat.reduceEqDiff, Nat.reduceLT, Nat.reduceLeDiff, ↓reduceIte, Tg.isFull, Int.reduceToNat]
      rfl
    · have e2 := eq_false h2
      by_cases h5 : k = 5
      · subst h5
        simp -dsimp (disch := first | rfl | omega) only [r53_0, r53_1, r53_2, r53_4, r53_5, r53_6, Int.reduceEq, ↓vmP, vm0, vm1, vm2, vm3, vm4, vm5, vm6, vm7, vm8, vm9, vm10, vm11, vm12, vm13, vm14, vm15, vmC, vmN, Nat.reduceAdd, Nat.reduceMul, Nat.reduceSub, Nat.reduceEqDiff, Nat.reduceLT, Nat.reduceLeDiff, ↓reduceIte, Tg.isFull, Int.reduceToNat]
        rfl
      · have e5 := eq_false h5
        by_cases h3 : k = 3
        · subst h3
          simp -dsimp (disch := first | rfl | omega) only [r53_0, r53_1, r53_2, r53_4, r53_5, r53_7, r53_8, Int.reduceEq, ↓vmP, vm0, vm1, vm2, vm3, vm4, vm5, vm6, vm7, vm8, vm9, vm10, vm11, vm12, vm13, vm14, vm15, vmC, vmN, Nat.reduceAdd, Nat.reduceMul, Nat.reduceSub, Nat.reduceEqDiff, Nat.reduceLT, Nat.reduceLeDiff, ↓reduceIte, Tg.isFull, Int.reduceToNat]
          rfl
        · have e3 := eq_false h3
          by_cases h4 : k = 4
          · subst h4
            simp -dsimp (disch := first | rfl | omega) only [r53_0, r53_1, r53_2, r53_4, r53_5, r53_7, r53_9, r53_10, Int.reduceEq, ↓vmP, vm0, vm1, vm2, vm3, vm4, vm5, vm6, vm7, vm8, vm9, vm10, vm11, vm12, vm13, vm14, vm15, vmC, vmN, Nat.reduceAdd, Nat.reduceMul, Nat.reduceSub, Nat.reduceEqDiff, Nat.reduceLT, Nat.reduceLeDiff, ↓reduceIte, Tg.isFull, Int.reduceToNat]
            rfl
          · have e4 := eq_false h4
            have hu : us k = (false, false, false, false) := by simp [us, h1, h2, h3, h4, h5]
            rw [hu]
            simp -dsimp (disch := first | rfl | omega) only [r53_0, r53_1, r53_2, r53_4, r53_5, r53_7, r53_9, r53_11, e1, e2, e3, e4, e5, ↓vmP, vm0, vm1, vm2, vm3, vm4, vm5, vm6, vm7, vm8, vm9, vm10, vm11, vm12, vm13, vm14, vm15, vmC, vmN, Nat.reduceAdd, Nat.reduceMul, Nat.reduceSub, Nat.reduceEqDiff, Nat.reduceLT, Nat.reduceLeDiff, ↓reduceIte, Tg.isFull, Int.reduceToNat]
end Go.Vm.Wr
