/- A part of the proof of BacklogPlaysSaid: YtnihjdfbiddggaaFa. -/
import Derived.Test.YtnihjdfbiddggaaKCode
import Derived.KernelRfl
/- Backlogs as data; numbers of a list; settings. -/
set_option linter.unusedVariables false
set_option linter.unusedSimpArgs false
set_option maxHeartbeats 1000000
namespace Go.Vm.Bk
def i64s (l : List Int) : List (List D) := l.map fun x => [.int .i64 x]
theorem i64s_at (l : List Int) {i : Nat} (h : i < l.length) : (i64s l)[i]? = some [.int .i64 (l.getD i 0)] := by
  simp [i64s, h, List.getD_eq_getElem?_getD]
theorem i64s_len (l : List Int) : (i64s l).length = l.length := by simp [i64s]
theorem i64s_app (a b : List Int) : i64s a ++ i64s b = i64s (a ++ b) := by simp [i64s]
theorem tmod_nat (a b : Nat) : ((a : Int).tmod (b : Int)) = ((a % b : Nat) : Int) := by
  rw [Int.tmod_eq_emod_of_nonneg (by omega)]; exact (Int.natCast_emod _ _).symm
/-- A source of numbers: the list, how many were taken. -/
def src (l : List Int) (a : Nat) : Chunk := .box [.d (.sl .any 1 (i64s l)), .d (.int .i64 a)]
def sx (l : List Int) (a : Nat) : Int := if a < l.length then l.getD a 0 else 7 * ((a : Int) + 1)
def sN (l : List Int) (a n : Nat) : Nat := (sx l a % (n : Int)).toNat
theorem sN_lt (l : List Int) (a n : Nat) (h : 0 < n) : sN l a n < n := by
  unfold sN
  have h1 := Int.emod_nonneg (sx l a) (show (n : Int) ≠ 0 by omega)
  have h2 := Int.emod_lt_of_pos (sx l a) (show (0 : Int) < n by omega)
  omega
def InI (x : Int) : Prop := -9223372036854775808 ≤ x ∧ x ≤ 9223372036854775807
theorem emod_tmod (x n : Int) : x % n = x.tmod n % n := by
  have h1 := Int.tmod_add_mul_tdiv x n
  have h2 : (x.tmod n + n * x.tdiv n) % n = x.tmod n % n := Int.add_mul_emod_self_left ..
  rw [h1] at h2
  exact h2
theorem tmod_neg {x n : Int} (hn : 0 < n) (h : x.tmod n < 0) : x % n = x.tmod n + n := by
  have h4 := Int.lt_tmod_of_pos x hn
  rw [emod_tmod, ← Int.add_emod_right]
  exact Int.emod_eq_of_lt (by omega) (by omega)
theorem tmod_pos {x n : Int} (hn : 0 < n) (h : ¬ x.tmod n < 0) : x % n = x.tmod n := by
  have h3 := Int.tmod_lt_of_pos x hn
  rw [emod_tmod]
  exact Int.emod_eq_of_lt (by omega) h3
set_option maxRecDepth 20000 in
theorem N_eq (l : List Int) (a n : Nat) (ha : a ≤ 1000000) (hl : l.length ≤ 9223372036854775807) (hn : 0 < n) (hn2 : n ≤ 1000000) (hi : ∀ x ∈ l, InI x) : runW false prog 30 [.ptr 0 0, .d (.int .i64 n)] [src l a] = some (.d (.int .i64 (sN l a n)), [src l (a + 1)], [0]) := by
  refine run_of rfl ?_
  have hil := i64s_len l
  have e1 : ((n : Int) < 1) = False := eq_false (by omega)
  have e2 : ((a : Int) + 1) = ((a + 1 : Nat) : Int) := by omega
  have en : ((n : Int) = 0) = False := eq_false (by omega)
  have e7 : (((a + 1 : Nat) : Int) * 7) = 7 * ((a : Int) + 1) := by omega
  have h1 := Int.emod_nonneg (sx l a) (show (n : Int) ≠ 0 by omega)
  have hsn : (sN l a n : Int) = sx l a % (n : Int) := by unfold sN; omega
  have hm1 := Int.tmod_lt_of_pos (sx l a) (show (0 : Int) < n by omega)
  have hm2 := Int.lt_tmod_of_pos (sx l a) (show (0 : Int) < n by omega)
  by_cases hlt : a < l.length
  · have e3 : (((a + 1 : Nat) : Int) ≤ (l.length : Int)) = True := eq_true (by omega)
    have e4 : (((a + 1 : Nat) : Int) - 1) = (a : Int) := by omega
    have hat := i64s_at l hlt
    have hx : l.getD a 0 = sx l a := by simp [sx, hlt]
    rw [hx] at hat
    generalize sx l a = x at hat hsn hm1 hm2
    by_cases hneg : x.tmod n < 0
    · have e5 : (x.tmod n < 0) = True := eq_true hneg
      have e6 : x.tmod n + n = (sN l a n : Int) := by rw [hsn, tmod_neg (by omega) hneg]
      simp -dsimp (disch := first | rfl | omega) only [src, r30_0, r30_1, r30_3, r30_4, r30_5, e1, e2, e3, i64s_len, e7, ↓vmP, vm0, vm1, vm2, vm3, vm4, vm5, vm6, vm7, vm8, vm9, vm10, vm11, vm12, vm13, vm14, vm15, vmC, vmN, Nat.reduceAdd, Nat.reduceMul, Nat.reduceSub, Nat.reduceEqDiff, Nat.reduceLT, Nat.reduceLeDiff, ↓reduceIte, Tg.isFull, Int.reduceToNat]
      refine regD_of (by kernel_rfl) ?_
      simp -dsimp (disch := first | rfl | omega) only [r30_6, r30_7, e4, hat, en, ↓vmP, vm0, vm1, vm2, vm3, vm4, vm5, vm6, vm7, vm8, vm9, vm10, vm11, vm12, vm13, vm14, vm15, vmC, vmN, Nat.reduceAdd, Nat.reduceMul, Nat.reduceSub, Nat.reduceEqDiff, Nat.reduceLT, Nat.reduceLeDiff, ↓reduceIte, Tg.isFull, Int.reduceToNat]
      refine regD_of (by kernel_rfl) ?_
      simp -dsimp (disch := first | rfl | omega) only [r30_7, r30_8, r30_9, r30_10, en, e5, e6, ↓vmP, vm0, vm1, vm2, vm3, vm4, vm5, vm6, vm7, vm8, vm9, vm10, vm11, vm12, vm13, vm14, vm15, vmC, vmN, Nat.reduceAdd, Nat.reduceMul, Nat.reduceSub, Nat.reduceEqDiff, Nat.reduceLT, Nat.reduceLeDiff, ↓reduceIte, Tg.isFull, Int.reduceToNat]
    · have e5 : (x.tmod n < 0) = False := eq_false hneg
      have e6 : x.tmod n = (sN l a n : Int) := by rw [hsn, tmod_pos (by omega) hneg]
      rw [e6] at e5
      simp -dsimp (disch := first | rfl | omega) only [src, r30_0, r30_1, r30_3, r30_4, r30_5, e1, e2, e3, i64s_len, e7, ↓vmP, vm0, vm1, vm2, vm3, vm4, vm5, vm6, vm7, vm8, vm9, vm10, vm11, vm12, vm13, vm14, vm15, vmC, vmN, Nat.reduceAdd, Nat.reduceMul, Nat.reduceSub, Nat.reduceEqDiff, Nat.reduceLT, Nat.reduceLeDiff, ↓reduceIte, Tg.isFull, Int.reduceToNat]
      refine regD_of (by kernel_rfl) ?_
      simp -dsimp (disch := first | rfl | omega) only [r30_6, r30_7, e4, hat, en, ↓vmP, vm0, vm1, vm2, vm3, vm4, vm5, vm6, vm7, vm8, vm9, vm10, vm11, vm12, vm13, vm14, vm15, vmC, vmN, Nat.reduceAdd, Nat.reduceMul, Nat.reduceSub, Nat.reduceEqDiff, Nat.reduceLT, Nat.reduceLeDiff, ↓reduceIte, Tg.isFull, Int.reduceToNat]
      refine regD_of (by kernel_rfl) ?_
      simp -dsimp (disch := first | rfl | omega) only [r30_7, r30_8, r30_9, r30_10, en, e5, e6, ↓vmP, vm0, vm1, vm2, vm3, vm4, vm5, vm6, vm7, vm8, vm9, vm10, vm11, vm12, vm13, vm14, vm15, vmC, vmN, Nat.reduceAdd, Nat.reduceMul, Nat.reduceSub, Nat.reduceEqDiff, Nat.reduceLT, Nat.reduceLeDiff, ↓reduceIte, Tg.isFull, Int.reduceToNat]
  · have e3 : (((a + 1 : Nat) : Int) ≤ (l.length : Int)) = False := eq_false (by omega)
    have hx : 7 * ((a : Int) + 1) = sx l a := by simp [sx, hlt]
    rw [hx] at e7
    generalize sx l a = x at e7 hsn hm1 hm2
    by_cases hneg : x.tmod n < 0
    · have e5 : (x.tmod n < 0) = True := eq_true hneg
      have e6 : x.tmod n + n = (sN l a n : Int) := by rw [hsn, tmod_neg (by omega) hneg]
      simp -dsimp (disch := first | rfl | omega) only [src, r30_0, r30_1, r30_3, r30_4, r30_5, e1, e2, e3, i64s_len, e7, ↓vmP, vm0, vm1, vm2, vm3, vm4, vm5, vm6, vm7, vm8, vm9, vm10, vm11, vm12, vm13, vm14, vm15, vmC, vmN, Nat.reduceAdd, Nat.reduceMul, Nat.reduceSub, Nat.reduceEqDiff, Nat.reduceLT, Nat.reduceLeDiff, ↓reduceIte, Tg.isFull, Int.reduceToNat]
      refine regD_of (by kernel_rfl) ?_
      simp -dsimp (disch := first | rfl | omega) only [r30_6, r30_7, r30_7, r30_8, r30_9, r30_10, en, e5, e6, ↓vmP, vm0, vm1, vm2, vm3, vm4, vm5, vm6, vm7, vm8, vm9, vm10, vm11, vm12, vm13, vm14, vm15, vmC, vmN, Nat.reduceAdd, Nat.reduceMul, Nat.reduceSub, Nat.reduceEqDiff, Nat.reduceLT, Nat.reduceLeDiff, ↓reduceIte, Tg.isFull, Int.reduceToNat]
    · have e5 : (x.tmod n < 0) = False := eq_false hneg
      have e6 : x.tmod n = (sN l a n : Int) := by rw [hsn, tmod_pos (by omega) hneg]
      rw [e6] at e5
      simp -dsimp (disch := first | rfl | omega) only [src, r30_0, r30_1, r30_3, r30_4, r30_5, e1, e2, e3, i64s_len, e7, ↓vmP, vm0, vm1, vm2, vm3, vm4, vm5, vm6, vm7, vm8, vm9, vm10, vm11, vm12, vm13, vm14, vm15, vmC, vmN, Nat.reduceAdd, Nat.reduceMul, Nat.reduceSub, Nat.reduceEqDiff, Nat.reduceLT, Nat.reduceLeDiff, ↓reduceIte, Tg.isFull, Int.reduceToNat]
      refine regD_of (by kernel_rfl) ?_
      simp -dsimp (disch := first | rfl | omega) only [r30_6, r30_7, r30_7, r30_8, r30_9, r30_10, en, e5, e6, ↓vmP, vm0, vm1, vm2, vm3, vm4, vm5, vm6, vm7, vm8, vm9, vm10, vm11, vm12, vm13, vm14, vm15, vmC, vmN, Nat.reduceAdd, Nat.reduceMul, Nat.reduceSub, Nat.reduceEqDiff, Nat.reduceLT, Nat.reduceLeDiff, ↓reduceIte, Tg.isFull, Int.reduceToNat]
theorem pgN : prog 30 = some c30 := rfl
theorem SNew_eq (l : List Int) : runW false prog 10 [.d (.sl .any 1 (i64s l))] [] = some (.ptr 0 0, [src l 0], []) := by
  refine run_of rfl ?_
  simp -dsimp (disch := first | rfl | omega) only [src, r10_0, r10_1, ↓vmP, vm0, vm1, vm2, vm3, vm4, vm5, vm6, vm7, vm8, vm9, vm10, vm11, vm12, vm13, vm14, vm15, vmC, vmN, Nat.reduceAdd, Nat.reduceMul, Nat.reduceSub, Nat.reduceEqDiff, Nat.reduceLT, Nat.reduceLeDiff, ↓reduceIte, Tg.isFull, Int.reduceToNat]
  try rfl
theorem Range_eq (l : List Int) (a : Nat) (lo hi : Int) (n : Nat) (ha : a ≤ 1000000) (hl : l.length ≤ 9223372036854775807) (hi' : ∀ x ∈ l, InI x) (hn : hi - lo + 1 = n) (hn0 : 0 < n) (hn2 : n ≤ 1000000) (hlo : -1000000 ≤ lo ∧ lo ≤ 1000000) : runW false prog 11 [.ptr 0 0, .d (.int .i64 lo), .d (.int .i64 hi)] [src l a] = some (.d (.int .i64 (lo + sN l a n)), [src l (a + 1)], [0]) := by
  refine run_of rfl ?_
  have h1 := N_eq l a n ha hl hn0 hn2 hi'
  have hx := sN_lt l a n hn0
  generalize sN l a n = x at h1 hx
  simp only [src] at h1
  simp -dsimp (disch := first | rfl | omega) only [src, r11_0, r11_1, callW_fn pgN, h1, hn, ↓vmP, vm0, vm1, vm2, vm3, vm4, vm5, vm6, vm7, vm8, vm9, vm10, vm11, vm12, vm13, vm14, vm15, vmC, vmN, Nat.reduceAdd, Nat.reduceMul, Nat.reduceSub, Nat.reduceEqDiff, Nat.reduceLT, Nat.reduceLeDiff, ↓reduceIte, Tg.isFull, Int.reduceToNat]
theorem Pick_eq (l : List Int) (a : Nat) (xs : List Int) (ha : a ≤ 1000000) (hl : l.length ≤ 9223372036854775807) (hi' : ∀ x ∈ l, InI x) (h0 : 0 < xs.length) (h1 : xs.length ≤ 1000) : runW false prog 12 [.ptr 0 0, .d (.sl .any 1 (i64s xs))] [src l a] = some (.d (.int .i64 (xs.getD (sN l a xs.length) 0)), [src l (a + 1)], [0]) := by
  refine run_of rfl ?_
  have h1 := N_eq l a xs.length ha hl h0 (by omega) hi'
  have hx := sN_lt l a xs.length h0
  have hat := i64s_at xs hx
  generalize sN l a xs.length = x at h1 hx hat
  simp only [src] at h1
  simp -dsimp (disch := first | rfl | omega) only [src, r12_0, r12_1, callW_fn pgN, h1, i64s_len, hat, ↓vmP, vm0, vm1, vm2, vm3, vm4, vm5, vm6, vm7, vm8, vm9, vm10, vm11, vm12, vm13, vm14, vm15, vmC, vmN, Nat.reduceAdd, Nat.reduceMul, Nat.reduceSub, Nat.reduceEqDiff, Nat.reduceLT, Nat.reduceLeDiff, ↓reduceIte, Tg.isFull, Int.reduceToNat]
def setOk (limit rate fail : Int) : Bool := decide (1 ≤ limit ∧ limit ≤ 64 ∧ 0 ≤ rate ∧ rate ≤ 1000 ∧ 1 ≤ fail ∧ fail ≤ 3)
theorem set_eq (limit rate fail : Int) : runW false prog 39 [.d (.int .i64 limit), .d (.int .i64 rate), .d (.int .i64 fail)] [] = some (.d (.bool (setOk limit rate fail)), [], []) := by
  refine run_of rfl ?_
  by_cases q0 : 1 ≤ limit
  · have e0 : (1 ≤ limit) = True := eq_true q0
    by_cases q1 : limit ≤ 64
    · have e1 : (limit ≤ 64) = True := eq_true q1
      by_cases q2 : 0 ≤ rate
      · have e2 : (0 ≤ rate) = True := eq_true q2
        by_cases q3 : rate ≤ 1000
        · have e3 : (rate ≤ 1000) = True := eq_true q3
          by_cases q4 : 1 ≤ fail
          · have e4 : (1 ≤ fail) = True := eq_true q4
            by_cases q5 : fail ≤ 3
            · have e5 : (fail ≤ 3) = True := eq_true q5
              have hs : setOk limit rate fail = true := by simp [setOk, q0, q1, q2, q3, q4, q5]
              rw [hs]
              simp -dsimp (disch := first | rfl | omega) only [r39_0, r39_1, e0, e1, e2, e3, e4, e5, ↓vmP, vm0, vm1, vm2, vm3, vm4, vm5, vm6, vm7, vm8, vm9, vm10, vm11, vm12, vm13, vm14, vm15, vmC, vmN, Nat.reduceAdd, Nat.reduceMul, Nat.reduceSub, Nat.reduceEqDiff, Nat.reduceLT, Nat.reduceLeDiff, ↓reduceIte, Tg.isFull, Int.reduceToNat]
            · have e5 : (fail ≤ 3) = False := eq_false q5
              have hs : setOk limit rate fail = false := by simp [setOk]; omega
              rw [hs]
              simp -dsimp (disch := first | rfl | omega) only [r39_0, r39_1, e0, e1, e2, e3, e4, e5, ↓vmP, vm0, vm1, vm2, vm3, vm4, vm5, vm6, vm7, vm8, vm9, vm10, vm11, vm12, vm13, vm14, vm15, vmC, vmN, Nat.reduceAdd, Nat.reduceMul, Nat.reduceSub, Nat.reduceEqDiff, Nat.reduceLT, Nat.reduceLeDiff, ↓reduceIte, Tg.isFull, Int.reduceToNat]
          · have e4 : (1 ≤ fail) = False := eq_false q4
            have hs : setOk limit rate fail = false := by simp [setOk]; omega
            rw [hs]
            simp -dsimp (disch := first | rfl | omega) only [r39_0, r39_1, e0, e1, e2, e3, e4, ↓vmP, vm0, vm1, vm2, vm3, vm4, vm5, vm6, vm7, vm8, vm9, vm10, vm11, vm12, vm13, vm14, vm15, vmC, vmN, Nat.reduceAdd, Nat.reduceMul, Nat.reduceSub, Nat.reduceEqDiff, Nat.reduceLT, Nat.reduceLeDiff, ↓reduceIte, Tg.isFull, Int.reduceToNat]
        · have e3 : (rate ≤ 1000) = False := eq_false q3
          have hs : setOk limit rate fail = false := by simp [setOk]; omega
          rw [hs]
          simp -dsimp (disch := first | rfl | omega) only [r39_0, r39_1, e0, e1, e2, e3, ↓vmP, vm0, vm1, vm2, vm3, vm4, vm5, vm6, vm7, vm8, vm9, vm10, vm11, vm12, vm13, vm14, vm15, vmC, vmN, Nat.reduceAdd, Nat.reduceMul, Nat.reduceSub, Nat.reduceEqDiff, Nat.reduceLT, Nat.reduceLeDiff, ↓reduceIte, Tg.isFull, Int.reduceToNat]
      · have e2 : (0 ≤ rate) = False := eq_false q2
        have hs : setOk limit rate fail = false := by simp [setOk]; omega
        rw [hs]
        simp -dsimp (disch := first | rfl | omega) only [r39_0, r39_1, e0, e1, e2, ↓vmP, vm0, vm1, vm2, vm3, vm4, vm5, vm6, vm7, vm8, vm9, vm10, vm11, vm12, vm13, vm14, vm15, vmC, vmN, Nat.reduceAdd, Nat.reduceMul, Nat.reduceSub, Nat.reduceEqDiff, Nat.reduceLT, Nat.reduceLeDiff, ↓reduceIte, Tg.isFull, Int.reduceToNat]
    · have e1 : (limit ≤ 64) = False := eq_false q1
      have hs : setOk limit rate fail = false := by simp [setOk]; omega
      rw [hs]
      simp -dsimp (disch := first | rfl | omega) only [r39_0, r39_1, e0, e1, ↓vmP, vm0, vm1, vm2, vm3, vm4, vm5, vm6, vm7, vm8, vm9, vm10, vm11, vm12, vm13, vm14, vm15, vmC, vmN, Nat.reduceAdd, Nat.reduceMul, Nat.reduceSub, Nat.reduceEqDiff, Nat.reduceLT, Nat.reduceLeDiff, ↓reduceIte, Tg.isFull, Int.reduceToNat]
  · have e0 : (1 ≤ limit) = False := eq_false q0
    have hs : setOk limit rate fail = false := by simp [setOk]; omega
    rw [hs]
    simp -dsimp (disch := first | rfl | omega) only [r39_0, r39_1, e0, ↓vmP, vm0, vm1, vm2, vm3, vm4, vm5, vm6, vm7, vm8, vm9, vm10, vm11, vm12, vm13, vm14, vm15, vmC, vmN, Nat.reduceAdd, Nat.reduceMul, Nat.reduceSub, Nat.reduceEqDiff, Nat.reduceLT, Nat.reduceLeDiff, ↓reduceIte, Tg.isFull, Int.reduceToNat]
theorem rset_eq (limit rate fail : Int) : runW false prog 34 [.d (.int .i64 limit), .d (.int .i64 rate), .d (.int .i64 fail)] [] = some (.d (.bool (setOk limit rate fail)), [], []) := by
  refine run_of rfl ?_
  by_cases q0 : 1 ≤ limit
  · have e0 : (1 ≤ limit) = True := eq_true q0
    by_cases q1 : limit ≤ 64
    · have e1 : (limit ≤ 64) = True := eq_true q1
      by_cases q2 : 0 ≤ rate
      · have e2 : (0 ≤ rate) = True := eq_true q2
        by_cases q3 : rate ≤ 1000
        · have e3 : (rate ≤ 1000) = True := eq_true q3
          by_cases q4 : 1 ≤ fail
          · have e4 : (1 ≤ fail) = True := eq_true q4
            by_cases q5 : fail ≤ 3
            · have e5 : (fail ≤ 3) = True := eq_true q5
              have hs : setOk limit rate fail = true := by simp [setOk, q0, q1, q2, q3, q4, q5]
              rw [hs]
              simp -dsimp (disch := first | rfl | omega) only [r34_0, r34_1, e0, e1, e2, e3, e4, e5, ↓vmP, vm0, vm1, vm2, vm3, vm4, vm5, vm6, vm7, vm8, vm9, vm10, vm11, vm12, vm13, vm14, vm15, vmC, vmN, Nat.reduceAdd, Nat.reduceMul, Nat.reduceSub, Nat.reduceEqDiff, Nat.reduceLT, Nat.reduceLeDiff, ↓reduceIte, Tg.isFull, Int.reduceToNat]
            · have e5 : (fail ≤ 3) = False := eq_false q5
              have hs : setOk limit rate fail = false := by simp [setOk]; omega
              rw [hs]
              simp -dsimp (disch := first | rfl | omega) only [r34_0, r34_1, e0, e1, e2, e3, e4, e5, ↓vmP, vm0, vm1, vm2, vm3, vm4, vm5, vm6, vm7, vm8, vm9, vm10, vm11, vm12, vm13, vm14, vm15, vmC, vmN, Nat.reduceAdd, Nat.reduceMul, Nat.reduceSub, Nat.reduceEqDiff, Nat.reduceLT, Nat.reduceLeDiff, ↓reduceIte, Tg.isFull, Int.reduceToNat]
          · have e4 : (1 ≤ fail) = False := eq_false q4
            have hs : setOk limit rate fail = false := by simp [setOk]; omega
            rw [hs]
            simp -dsimp (disch := first | rfl | omega) only [r34_0, r34_1, e0, e1, e2, e3, e4, ↓vmP, vm0, vm1, vm2, vm3, vm4, vm5, vm6, vm7, vm8, vm9, vm10, vm11, vm12, vm13, vm14, vm15, vmC, vmN, Nat.reduceAdd, Nat.reduceMul, Nat.reduceSub, Nat.reduceEqDiff, Nat.reduceLT, Nat.reduceLeDiff, ↓reduceIte, Tg.isFull, Int.reduceToNat]
        · have e3 : (rate ≤ 1000) = False := eq_false q3
          have hs : setOk limit rate fail = false := by simp [setOk]; omega
          rw [hs]
          simp -dsimp (disch := first | rfl | omega) only [r34_0, r34_1, e0, e1, e2, e3, ↓vmP, vm0, vm1, vm2, vm3, vm4, vm5, vm6, vm7, vm8, vm9, vm10, vm11, vm12, vm13, vm14, vm15, vmC, vmN, Nat.reduceAdd, Nat.reduceMul, Nat.reduceSub, Nat.reduceEqDiff, Nat.reduceLT, Nat.reduceLeDiff, ↓reduceIte, Tg.isFull, Int.reduceToNat]
      · have e2 : (0 ≤ rate) = False := eq_false q2
        have hs : setOk limit rate fail = false := by simp [setOk]; omega
        rw [hs]
        simp -dsimp (disch := first | rfl | omega) only [r34_0, r34_1, e0, e1, e2, ↓vmP, vm0, vm1, vm2, vm3, vm4, vm5, vm6, vm7, vm8, vm9, vm10, vm11, vm12, vm13, vm14, vm15, vmC, vmN, Nat.reduceAdd, Nat.reduceMul, Nat.reduceSub, Nat.reduceEqDiff, Nat.reduceLT, Nat.reduceLeDiff, ↓reduceIte, Tg.isFull, Int.reduceToNat]
    · have e1 : (limit ≤ 64) = False := eq_false q1
      have hs : setOk limit rate fail = false := by simp [setOk]; omega
      rw [hs]
      simp -dsimp (disch := first | rfl | omega) only [r34_0, r34_1, e0, e1, ↓vmP, vm0, vm1, vm2, vm3, vm4, vm5, vm6, vm7, vm8, vm9, vm10, vm11, vm12, vm13, vm14, vm15, vmC, vmN, Nat.reduceAdd, Nat.reduceMul, Nat.reduceSub, Nat.reduceEqDiff, Nat.reduceLT, Nat.reduceLeDiff, ↓reduceIte, Tg.isFull, Int.reduceToNat]
  · have e0 : (1 ≤ limit) = False := eq_false q0
    have hs : setOk limit rate fail = false := by simp [setOk]; omega
    rw [hs]
    simp -dsimp (disch := first | rfl | omega) only [r34_0, r34_1, e0, ↓vmP, vm0, vm1, vm2, vm3, vm4, vm5, vm6, vm7, vm8, vm9, vm10, vm11, vm12, vm13, vm14, vm15, vmC, vmN, Nat.reduceAdd, Nat.reduceMul, Nat.reduceSub, Nat.reduceEqDiff, Nat.reduceLT, Nat.reduceLeDiff, ↓reduceIte, Tg.isFull, Int.reduceToNat]
end Go.Vm.Bk
