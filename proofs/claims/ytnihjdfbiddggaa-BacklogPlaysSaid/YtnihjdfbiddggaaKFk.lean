/- A part of the proof of BacklogPlaysSaid: YtnihjdfbiddggaaFk. -/
import Derived.Test.YtnihjdfbiddggaaKFj
/- Backlogs: the reference's offer. -/
set_option linter.unusedVariables false
set_option linter.unusedSimpArgs false
set_option maxHeartbeats 1000000
namespace Go.Vm.Bk
theorem pgRPend : prog 36 = some c36 := rfl
theorem pgRTell : prog 38 = some c38 := rfl
theorem pgLose : prog 37 = some c37 := rfl
theorem oz (v : Bool) : (0 : Int) ≤ (if v then 1 else 0) ∧ (if v then (1 : Int) else 0) ≤ 1 := by split <;> omega
set_option maxRecDepth 20000 in
theorem ROffer_bad (b : Bk) (z1 z2 z3 : Nat) (hz : Zk b z1 z2 z3) (hs : Sm b) (t n : Int) (hb : okOff t n = false) : runW false prog 14 [.agg (bA b z1 z2 z3), .d (.int .i64 t), .d (.int .i64 n)] [] = some (offR (b, 0, false), [], []) := by
  simp only [offR]
  refine run_of rfl ?_
  have h1 := Copy_eq b z1 z2 z3 hz hs
  have hser := hs.s
  simp only [bA, bC, bH] at h1
  by_cases c1 : n < 1
  · have e1 : (n < 1) = True := eq_true c1
    simp -dsimp (disch := first | rfl | omega) only [bA, bC, bH, r14_0, r14_1, r14_2, callW_fn pgCopy, h1, e1, r14_3, ↓vmP, vm0, vm1, vm2, vm3, vm4, vm5, vm6, vm7, vm8, vm9, vm10, vm11, vm12, vm13, vm14, vm15, vmC, vmN, Nat.reduceAdd, Nat.reduceMul, Nat.reduceSub, Nat.reduceEqDiff, Nat.reduceLT, Nat.reduceLeDiff, ↓reduceIte, Tg.isFull, Int.reduceToNat]
  · have e1 : (n < 1) = False := eq_false c1
    by_cases c2 : 64 < n
    · have e2 : (64 < n) = True := eq_true c2
      simp -dsimp (disch := first | rfl | omega) only [bA, bC, bH, r14_0, r14_1, r14_2, callW_fn pgCopy, h1, e1, e2, r14_3, ↓vmP, vm0, vm1, vm2, vm3, vm4, vm5, vm6, vm7, vm8, vm9, vm10, vm11, vm12, vm13, vm14, vm15, vmC, vmN, Nat.reduceAdd, Nat.reduceMul, Nat.reduceSub, Nat.reduceEqDiff, Nat.reduceLT, Nat.reduceLeDiff, ↓reduceIte, Tg.isFull, Int.reduceToNat]
    · have e2 : (64 < n) = False := eq_false c2
      by_cases c3 : t < 0
      · have e3 : (t < 0) = True := eq_true c3
        simp -dsimp (disch := first | rfl | omega) only [bA, bC, bH, r14_0, r14_1, r14_2, callW_fn pgCopy, h1, e1, e2, e3, r14_3, ↓vmP, vm0, vm1, vm2, vm3, vm4, vm5, vm6, vm7, vm8, vm9, vm10, vm11, vm12, vm13, vm14, vm15, vmC, vmN, Nat.reduceAdd, Nat.reduceMul, Nat.reduceSub, Nat.reduceEqDiff, Nat.reduceLT, Nat.reduceLeDiff, ↓reduceIte, Tg.isFull, Int.reduceToNat]
      · have e3 : (t < 0) = False := eq_false c3
        have e4 : (1099511627776 < t) = True := eq_true (by simp only [okOff, late] at hb; by_cases h : 1099511627776 < t; exact h; simp [h, c3] at hb; omega)
        simp -dsimp (disch := first | rfl | omega) only [bA, bC, bH, r14_0, r14_1, r14_2, callW_fn pgCopy, h1, e1, e2, e3, e4, r14_3, ↓vmP, vm0, vm1, vm2, vm3, vm4, vm5, vm6, vm7, vm8, vm9, vm10, vm11, vm12, vm13, vm14, vm15, vmC, vmN, Nat.reduceAdd, Nat.reduceMul, Nat.reduceSub, Nat.reduceEqDiff, Nat.reduceLT, Nat.reduceLeDiff, ↓reduceIte, Tg.isFull, Int.reduceToNat]
set_option maxRecDepth 20000 in
theorem rat_reg (b : Bk) (z1 z2 z3 : Nat) (hz : Zk b z1 z2 z3) (hs : Sm b) (t n v s : Int) (h0 : 0 ≤ t ∧ t ≤ 1099511627776) (N : Nat) (T : List (Nat × A)) (Q : Ex → St → Prop) (hq : Q .normal ⟨gS [(1, .d (.int .i64 t)), (2, .d (.int .i64 n)), (3, .ptr 0 0), (6, .ptr 8 0), (9, .ptr 48 0), (10, .d (.int .i64 v)), (11, .d (.int .i64 s)), (41, .d (.bool (rated b t)))], gH [(48, .box (bC b (.row 40) (.row 41) (.row 42))), (48, .box zB), (42, .row 2 b.nts.isEmpty (notes b.nts)), (41, .row 4 b.queue.isEmpty (recs b.queue)), (40, .row 1 b.op.isEmpty (i64s b.op)), (8, .box zB), (0, .box (bA b z1 z2 z3))], N + 8 * r14_8.length, 0, []⟩) :
    opsW false (callW false prog) N r14_8 0 ⟨gS ((1, .d (.int .i64 t)) :: (2, .d (.int .i64 n)) :: (3, .ptr 0 0) :: (6, .ptr 8 0) :: (9, .ptr 48 0) :: (10, .d (.int .i64 v)) :: (11, .d (.int .i64 s)) :: T), gH [(48, .box (bC b (.row 40) (.row 41) (.row 42))), (48, .box zB), (42, .row 2 b.nts.isEmpty (notes b.nts)), (41, .row 4 b.queue.isEmpty (recs b.queue)), (40, .row 1 b.op.isEmpty (i64s b.op)), (8, .box zB), (0, .box (bA b z1 z2 z3))], N, 0, []⟩ (regK (some [1, 2, 3, 6, 9, 10, 11, 41]) (N + 8 * r14_8.length) Q) := by
  simp only [bA, bC, zB] at hq ⊢
  have ht := tdiv_b h0
  generalize hqq : t.tdiv 1000 = q at ht
  have hw : IntKind.i64.wrap q = q := w_i64 (by omega)
  by_cases c1 : b.rate = 0
  · have e1 : (b.rate = 0) = True := eq_true c1
    have hr : rated b t = false := by simp [rated, c1]
    rw [hr] at hq
    simp -dsimp (disch := first | rfl | omega) only [r14_8, e1, ne_eq, not_true_eq_false, not_false_eq_true, ↓vmP, vm0, vm1, vm2, vm3, vm4, vm5, vm6, vm7, vm8, vm9, vm10, vm11, vm12, vm13, vm14, vm15, vmC, vmN, Nat.reduceAdd, Nat.reduceMul, Nat.reduceSub, Nat.reduceEqDiff, Nat.reduceLT, Nat.reduceLeDiff, ↓reduceIte, Tg.isFull, Int.reduceToNat]
    exact hq
  · have e1 : (b.rate = 0) = False := eq_false c1
    by_cases c2 : q = b.window
    · have e2 : (q = b.window) = True := eq_true c2
      have hr : rated b t = decide (b.rate ≤ b.used) := by simp [rated, c1, c2, hqq]
      rw [hr] at hq
      simp -dsimp (disch := first | rfl | omega) only [r14_8, e1, e2, hqq, hw, ne_eq, not_true_eq_false, not_false_eq_true, ↓vmP, vm0, vm1, vm2, vm3, vm4, vm5, vm6, vm7, vm8, vm9, vm10, vm11, vm12, vm13, vm14, vm15, vmC, vmN, Nat.reduceAdd, Nat.reduceMul, Nat.reduceSub, Nat.reduceEqDiff, Nat.reduceLT, Nat.reduceLeDiff, ↓reduceIte, Tg.isFull, Int.reduceToNat]
      exact hq
    · have e2 : (q = b.window) = False := eq_false c2
      have hr : rated b t = false := by simp [rated, c2, hqq]
      rw [hr] at hq
      simp -dsimp (disch := first | rfl | omega) only [r14_8, e1, e2, hqq, hw, ne_eq, not_true_eq_false, not_false_eq_true, ↓vmP, vm0, vm1, vm2, vm3, vm4, vm5, vm6, vm7, vm8, vm9, vm10, vm11, vm12, vm13, vm14, vm15, vmC, vmN, Nat.reduceAdd, Nat.reduceMul, Nat.reduceSub, Nat.reduceEqDiff, Nat.reduceLT, Nat.reduceLeDiff, ↓reduceIte, Tg.isFull, Int.reduceToNat]
      exact hq
set_option maxRecDepth 20000 in
theorem stl_reg (b : Bk) (z1 z2 z3 : Nat) (hz : Zk b z1 z2 z3) (hs : Sm b) (t n v s : Int) (h0 : 0 ≤ s ∧ s ≤ 2000000) (N : Nat) (T : List (Nat × A)) (Q : Ex → St → Prop) (hq : Q .normal ⟨gS [(1, .d (.int .i64 t)), (2, .d (.int .i64 n)), (6, .ptr 8 0), (9, .ptr 48 0), (10, .d (.int .i64 v)), (11, .d (.int .i64 s)), (87, .d (.bool (stl b s)))], gH [(48, .box (bC b (.row 40) (.row 41) (.row 42))), (48, .box zB), (42, .row 2 b.nts.isEmpty (notes b.nts)), (41, .row 4 b.queue.isEmpty (recs b.queue)), (40, .row 1 b.op.isEmpty (i64s b.op)), (8, .box zB), (0, .box (bA b z1 z2 z3))], N + 8 * r14_14.length, 0, []⟩) :
    opsW false (callW false prog) N r14_14 0 ⟨gS ((1, .d (.int .i64 t)) :: (2, .d (.int .i64 n)) :: (3, .ptr 0 0) :: (6, .ptr 8 0) :: (9, .ptr 48 0) :: (10, .d (.int .i64 v)) :: (11, .d (.int .i64 s)) :: T), gH [(48, .box (bC b (.row 40) (.row 41) (.row 42))), (48, .box zB), (42, .row 2 b.nts.isEmpty (notes b.nts)), (41, .row 4 b.queue.isEmpty (recs b.queue)), (40, .row 1 b.op.isEmpty (i64s b.op)), (8, .box zB), (0, .box (bA b z1 z2 z3))], N, 0, []⟩ (regK (some [1, 2, 6, 9, 10, 11, 87]) (N + 8 * r14_14.length) Q) := by
  simp only [bA, bC, zB] at hq ⊢
  generalize b.op.isEmpty = fe at hq ⊢
  have hil := i64s_len b.op
  have ho := hs.oo
  have hlo := hs.lo
  cases hop : b.op with
  | nil =>
    have hst : stl b s = false := by simp [stl, hop]
    rw [hst, hop, i64s_nil] at hq
    rw [hop] at hil
    have e0 : ((0 : Nat) : Int) = 0 := rfl
    simp -dsimp (disch := first | rfl | omega) only [r14_14, hop, i64s_nil, e0, Int.reduceLT, ↓vmP, vm0, vm1, vm2, vm3, vm4, vm5, vm6, vm7, vm8, vm9, vm10, vm11, vm12, vm13, vm14, vm15, vmC, vmN, Nat.reduceAdd, Nat.reduceMul, Nat.reduceSub, Nat.reduceEqDiff, Nat.reduceLT, Nat.reduceLeDiff, ↓reduceIte, Tg.isFull, Int.reduceToNat]
    exact hq
  | cons x l =>
    have hst : stl b s = decide (64 ≤ s - x) := by simp [stl, hop]
    have hz1 : z1 = 1 := by
      have := hz.o
      rw [hop] at this; simpa [okSz, i64s] using this
    subst hz1
    rw [hst, hop] at hq
    have hx := ho x (by rw [hop]; exact List.mem_cons_self ..)
    have e0 : (0 < ((x :: l).length : Int)) = True := eq_true (by rw [List.length_cons]; omega)
    have hat : (i64s (x :: l))[0]? = some [.int .i64 x] := rfl
    have hl2 : 0 < (x :: l).length := Nat.succ_pos _
    rw [hop] at hil hlo
    generalize hX : i64s (x :: l) = X at hat hil hq
    generalize (x :: l).length = n' at hil e0 hl2 hlo
    subst hil
    simp -dsimp (disch := first | rfl | omega) only [r14_14, hop, hX, e0, hat, ↓vmP, vm0, vm1, vm2, vm3, vm4, vm5, vm6, vm7, vm8, vm9, vm10, vm11, vm12, vm13, vm14, vm15, vmC, vmN, Nat.reduceAdd, Nat.reduceMul, Nat.reduceSub, Nat.reduceEqDiff, Nat.reduceLT, Nat.reduceLeDiff, ↓reduceIte, Tg.isFull, Int.reduceToNat]
    exact hq
theorem lenr8 : r14_8.length = 18 := rfl
theorem lenr14 : r14_14.length = 14 := rfl
theorem notes_cut (l : List (Int × Int)) (x : Int × Int) (h : l.length = 16) : ((notes (l ++ [x])).drop 1).take 16 = notes (l.drop (l.length - 15) ++ [x]) := by
  rw [h, notes, ← List.map_drop, List.drop_append_of_le_length (by omega), List.take_of_length_le (by simp; omega)]
  rfl
set_option maxRecDepth 20000 in
theorem ROffer_0_other (b : Bk) (z1 z2 z3 : Nat) (hz : Zk b z1 z2 z3) (hs : Sm b) (hp : PpOk b) (t n : Int) (hb : okOff t n = true) (hw0 : rated b t = true) (hf : b.fail ≠ 2) : runW false prog 14 [.agg (bA b z1 z2 z3), .d (.int .i64 t), .d (.int .i64 n)] [] = some (offR (loseB b t 0, b.serial + 1, false), [], []) := by
  have hlz := fun f1 f2 f3 => Lose0_other b hs hp f1 f2 f3 t hf
  have g1 : (loseB b t 0).op = b.op := rfl
  have g2 : (loseB b t 0).queue = b.queue := rfl
  have g3 : (loseB b t 0).serial = b.serial + 1 := rfl
  have g4 : (loseB b t 0).nts = b.nts := by simp [loseB, hf]
  simp only [offR]
  generalize loseB b t 0 = b' at hlz g1 g2 g3 g4 ⊢
  simp only [bP, bC] at hlz
  refine run_of rfl ?_
  have h1 := Copy_eq b z1 z2 z3 hz hs
  obtain ⟨hn, ht, hl⟩ := ok_t hb
  have hser := hs.s
  have hres := hs.r
  have hlq := hs.lq
  have hrl := recs_len b.queue
  have hns := nextS_b b hs
  have hpn := RPend_eq b z1 z2 z3
  have hn1 : b.serial + 1 + (if pend b then 1 else 0) = nextS b := rfl
  simp only [bA, bC, bH] at h1 hpn
  have e1 : (n < 1) = False := eq_false (by omega)
  have e2 : (64 < n) = False := eq_false (by omega)
  have e3 : (t < 0) = False := eq_false (by omega)
  have e4 : (1099511627776 < t) = False := eq_false (by omega)
  have e5 : (1073741821 < b.serial) = False := eq_false (by omega)
  rcases Bool.eq_false_or_eq_true (pend b) with hpe | hpe
  · rw [hpe] at hpn hn1
    simp only [if_true, Bool.false_eq_true] at hn1
    generalize nextS b = s at hn1 hns
    simp -dsimp (disch := first | rfl | omega) only [bA, bC, bH, r14_0, r14_1, r14_2, r14_4, r14_5, r14_6, r14_7, callW_fn pgCopy, callW_fn pgRPend, h1, hpn, e1, e2, e3, e4, e5, vmK, hn1, ↓vmP, vm0, vm1, vm2, vm3, vm4, vm5, vm6, vm7, vm8, vm9, vm10, vm11, vm12, vm13, vm14, vm15, vmC, vmN, Nat.reduceAdd, Nat.reduceMul, Nat.reduceSub, Nat.reduceEqDiff, Nat.reduceLT, Nat.reduceLeDiff, ↓reduceIte, Tg.isFull, Int.reduceToNat]
    refine rat_reg b z1 z2 z3 hz hs t n _ s ht _ [] _ ?_
    rw [hw0]
    simp -dsimp (disch := first | rfl | omega) only [lenr8, lenr14, bA, bC, bH, zB, r14_9, r14_10, callW_fn pgLose, hlz, ↓vmP, vm0, vm1, vm2, vm3, vm4, vm5, vm6, vm7, vm8, vm9, vm10, vm11, vm12, vm13, vm14, vm15, vmC, vmN, Nat.reduceAdd, Nat.reduceMul, Nat.reduceSub, Nat.reduceEqDiff, Nat.reduceLT, Nat.reduceLeDiff, ↓reduceIte, Tg.isFull, Int.reduceToNat]
    refine regD_of (by kernel_rfl) ?_
    simp -dsimp (disch := first | rfl | omega) only [bA, bC, bH, r14_10, g1, g2, g3, g4, ↓vmP, vm0, vm1, vm2, vm3, vm4, vm5, vm6, vm7, vm8, vm9, vm10, vm11, vm12, vm13, vm14, vm15, vmC, vmN, Nat.reduceAdd, Nat.reduceMul, Nat.reduceSub, Nat.reduceEqDiff, Nat.reduceLT, Nat.reduceLeDiff, ↓reduceIte, Tg.isFull, Int.reduceToNat]

  · rw [hpe] at hpn hn1
    simp only [if_false, Bool.false_eq_true] at hn1
    generalize nextS b = s at hn1 hns
    simp -dsimp (disch := first | rfl | omega) only [bA, bC, bH, r14_0, r14_1, r14_2, r14_4, r14_5, r14_6, r14_7, callW_fn pgCopy, callW_fn pgRPend, h1, hpn, e1, e2, e3, e4, e5, vmK, hn1, ↓vmP, vm0, vm1, vm2, vm3, vm4, vm5, vm6, vm7, vm8, vm9, vm10, vm11, vm12, vm13, vm14, vm15, vmC, vmN, Nat.reduceAdd, Nat.reduceMul, Nat.reduceSub, Nat.reduceEqDiff, Nat.reduceLT, Nat.reduceLeDiff, ↓reduceIte, Tg.isFull, Int.reduceToNat]
    refine rat_reg b z1 z2 z3 hz hs t n _ s ht _ [] _ ?_
    rw [hw0]
    simp -dsimp (disch := first | rfl | omega) only [lenr8, lenr14, bA, bC, bH, zB, r14_9, r14_10, callW_fn pgLose, hlz, ↓vmP, vm0, vm1, vm2, vm3, vm4, vm5, vm6, vm7, vm8, vm9, vm10, vm11, vm12, vm13, vm14, vm15, vmC, vmN, Nat.reduceAdd, Nat.reduceMul, Nat.reduceSub, Nat.reduceEqDiff, Nat.reduceLT, Nat.reduceLeDiff, ↓reduceIte, Tg.isFull, Int.reduceToNat]
    refine regD_of (by kernel_rfl) ?_
    simp -dsimp (disch := first | rfl | omega) only [bA, bC, bH, r14_10, g1, g2, g3, g4, ↓vmP, vm0, vm1, vm2, vm3, vm4, vm5, vm6, vm7, vm8, vm9, vm10, vm11, vm12, vm13, vm14, vm15, vmC, vmN, Nat.reduceAdd, Nat.reduceMul, Nat.reduceSub, Nat.reduceEqDiff, Nat.reduceLT, Nat.reduceLeDiff, ↓reduceIte, Tg.isFull, Int.reduceToNat]
set_option maxRecDepth 20000 in
theorem ROffer_0_few (b : Bk) (z1 z2 z3 : Nat) (hz : Zk b z1 z2 z3) (hs : Sm b) (hp : PpOk b) (t n : Int) (hb : okOff t n = true) (hw0 : rated b t = true) (hf : b.fail = 2) (hl6 : b.nts.length < 16) : runW false prog 14 [.agg (bA b z1 z2 z3), .d (.int .i64 t), .d (.int .i64 n)] [] = some (offR (loseB b t 0, b.serial + 1, false), [], []) := by
  have hlz := fun f1 f2 f3 => Lose0_few b hs hp f1 f2 f3 t hf hl6
  have g1 : (loseB b t 0).op = b.op := rfl
  have g2 : (loseB b t 0).queue = b.queue := rfl
  have g3 : (loseB b t 0).serial = b.serial + 1 := rfl
  have g4 : True := trivial
  simp only [offR]
  generalize loseB b t 0 = b' at hlz g1 g2 g3 g4 ⊢
  simp only [bP, bC] at hlz
  refine run_of rfl ?_
  have h1 := Copy_eq b z1 z2 z3 hz hs
  obtain ⟨hn, ht, hl⟩ := ok_t hb
  have hser := hs.s
  have hres := hs.r
  have hlq := hs.lq
  have hrl := recs_len b.queue
  have hns := nextS_b b hs
  have hpn := RPend_eq b z1 z2 z3
  have hn1 : b.serial + 1 + (if pend b then 1 else 0) = nextS b := rfl
  simp only [bA, bC, bH] at h1 hpn
  have e1 : (n < 1) = False := eq_false (by omega)
  have e2 : (64 < n) = False := eq_false (by omega)
  have e3 : (t < 0) = False := eq_false (by omega)
  have e4 : (1099511627776 < t) = False := eq_false (by omega)
  have e5 : (1073741821 < b.serial) = False := eq_false (by omega)
  rcases Bool.eq_false_or_eq_true (pend b) with hpe | hpe
  · rw [hpe] at hpn hn1
    simp only [if_true, Bool.false_eq_true] at hn1
    generalize nextS b = s at hn1 hns
    simp -dsimp (disch := first | rfl | omega) only [bA, bC, bH, r14_0, r14_1, r14_2, r14_4, r14_5, r14_6, r14_7, callW_fn pgCopy, callW_fn pgRPend, h1, hpn, e1, e2, e3, e4, e5, vmK, hn1, ↓vmP, vm0, vm1, vm2, vm3, vm4, vm5, vm6, vm7, vm8, vm9, vm10, vm11, vm12, vm13, vm14, vm15, vmC, vmN, Nat.reduceAdd, Nat.reduceMul, Nat.reduceSub, Nat.reduceEqDiff, Nat.reduceLT, Nat.reduceLeDiff, ↓reduceIte, Tg.isFull, Int.reduceToNat]
    refine rat_reg b z1 z2 z3 hz hs t n _ s ht _ [] _ ?_
    rw [hw0]
    simp -dsimp (disch := first | rfl | omega) only [lenr8, lenr14, bA, bC, bH, zB, r14_9, r14_10, callW_fn pgLose, hlz, ↓vmP, vm0, vm1, vm2, vm3, vm4, vm5, vm6, vm7, vm8, vm9, vm10, vm11, vm12, vm13, vm14, vm15, vmC, vmN, Nat.reduceAdd, Nat.reduceMul, Nat.reduceSub, Nat.reduceEqDiff, Nat.reduceLT, Nat.reduceLeDiff, ↓reduceIte, Tg.isFull, Int.reduceToNat]
    refine regD_of (by kernel_rfl) ?_
    simp -dsimp (disch := first | rfl | omega) only [bA, bC, bH, r14_10, g1, g2, g3, g4, ↓vmP, vm0, vm1, vm2, vm3, vm4, vm5, vm6, vm7, vm8, vm9, vm10, vm11, vm12, vm13, vm14, vm15, vmC, vmN, Nat.reduceAdd, Nat.reduceMul, Nat.reduceSub, Nat.reduceEqDiff, Nat.reduceLT, Nat.reduceLeDiff, ↓reduceIte, Tg.isFull, Int.reduceToNat]

  · rw [hpe] at hpn hn1
    simp only [if_false, Bool.false_eq_true] at hn1
    generalize nextS b = s at hn1 hns
    simp -dsimp (disch := first | rfl | omega) only [bA, bC, bH, r14_0, r14_1, r14_2, r14_4, r14_5, r14_6, r14_7, callW_fn pgCopy, callW_fn pgRPend, h1, hpn, e1, e2, e3, e4, e5, vmK, hn1, ↓vmP, vm0, vm1, vm2, vm3, vm4, vm5, vm6, vm7, vm8, vm9, vm10, vm11, vm12, vm13, vm14, vm15, vmC, vmN, Nat.reduceAdd, Nat.reduceMul, Nat.reduceSub, Nat.reduceEqDiff, Nat.reduceLT, Nat.reduceLeDiff, ↓reduceIte, Tg.isFull, Int.reduceToNat]
    refine rat_reg b z1 z2 z3 hz hs t n _ s ht _ [] _ ?_
    rw [hw0]
    simp -dsimp (disch := first | rfl | omega) only [lenr8, lenr14, bA, bC, bH, zB, r14_9, r14_10, callW_fn pgLose, hlz, ↓vmP, vm0, vm1, vm2, vm3, vm4, vm5, vm6, vm7, vm8, vm9, vm10, vm11, vm12, vm13, vm14, vm15, vmC, vmN, Nat.reduceAdd, Nat.reduceMul, Nat.reduceSub, Nat.reduceEqDiff, Nat.reduceLT, Nat.reduceLeDiff, ↓reduceIte, Tg.isFull, Int.reduceToNat]
    refine regD_of (by kernel_rfl) ?_
    simp -dsimp (disch := first | rfl | omega) only [bA, bC, bH, r14_10, g1, g2, g3, g4, ↓vmP, vm0, vm1, vm2, vm3, vm4, vm5, vm6, vm7, vm8, vm9, vm10, vm11, vm12, vm13, vm14, vm15, vmC, vmN, Nat.reduceAdd, Nat.reduceMul, Nat.reduceSub, Nat.reduceEqDiff, Nat.reduceLT, Nat.reduceLeDiff, ↓reduceIte, Tg.isFull, Int.reduceToNat]
set_option maxRecDepth 20000 in
theorem ROffer_0_many (b : Bk) (z1 z2 z3 : Nat) (hz : Zk b z1 z2 z3) (hs : Sm b) (hp : PpOk b) (t n : Int) (hb : okOff t n = true) (hw0 : rated b t = true) (hf : b.fail = 2) (hl6 : b.nts.length = 16) : runW false prog 14 [.agg (bA b z1 z2 z3), .d (.int .i64 t), .d (.int .i64 n)] [] = some (offR (loseB b t 0, b.serial + 1, false), [], []) := by
  have hlz := fun f1 f2 f3 => Lose0_many b hs hp f1 f2 f3 t hf hl6
  have g1 : (loseB b t 0).op = b.op := rfl
  have g2 : (loseB b t 0).queue = b.queue := rfl
  have g3 : (loseB b t 0).serial = b.serial + 1 := rfl
  have g4 : notes (b.nts.drop (b.nts.length - 15) ++ [(t, b.serial + 1)]) = notes (loseB b t 0).nts := by simp only [loseB, hf, if_true]
  have hct := notes_cut b.nts (t, b.serial + 1) hl6
  rw [g4] at hct
  have hcl : (notes (b.nts ++ [(t, b.serial + 1)])).length = 17 := by rw [notes_len, List.length_append, hl6]; rfl
  generalize notes (b.nts ++ [(t, b.serial + 1)]) = NT at hlz hct hcl
  generalize hNR : notes (loseB b t 0).nts = NR at hct g4
  clear g4
  have g4 := hNR
  simp only [offR]
  generalize loseB b t 0 = b' at hlz g1 g2 g3 g4 ⊢
  simp only [bP, bC] at hlz
  refine run_of rfl ?_
  have h1 := Copy_eq b z1 z2 z3 hz hs
  obtain ⟨hn, ht, hl⟩ := ok_t hb
  have hser := hs.s
  have hres := hs.r
  have hlq := hs.lq
  have hrl := recs_len b.queue
  have hns := nextS_b b hs
  have hpn := RPend_eq b z1 z2 z3
  have hn1 : b.serial + 1 + (if pend b then 1 else 0) = nextS b := rfl
  simp only [bA, bC, bH] at h1 hpn
  have e1 : (n < 1) = False := eq_false (by omega)
  have e2 : (64 < n) = False := eq_false (by omega)
  have e3 : (t < 0) = False := eq_false (by omega)
  have e4 : (1099511627776 < t) = False := eq_false (by omega)
  have e5 : (1073741821 < b.serial) = False := eq_false (by omega)
  rcases Bool.eq_false_or_eq_true (pend b) with hpe | hpe
  · rw [hpe] at hpn hn1
    simp only [if_true, Bool.false_eq_true] at hn1
    generalize nextS b = s at hn1 hns
    simp -dsimp (disch := first | rfl | omega) only [bA, bC, bH, r14_0, r14_1, r14_2, r14_4, r14_5, r14_6, r14_7, callW_fn pgCopy, callW_fn pgRPend, h1, hpn, e1, e2, e3, e4, e5, vmK, hn1, ↓vmP, vm0, vm1, vm2, vm3, vm4, vm5, vm6, vm7, vm8, vm9, vm10, vm11, vm12, vm13, vm14, vm15, vmC, vmN, Nat.reduceAdd, Nat.reduceMul, Nat.reduceSub, Nat.reduceEqDiff, Nat.reduceLT, Nat.reduceLeDiff, ↓reduceIte, Tg.isFull, Int.reduceToNat]
    refine rat_reg b z1 z2 z3 hz hs t n _ s ht _ [] _ ?_
    rw [hw0]
    simp -dsimp (disch := first | rfl | omega) only [lenr8, lenr14, bA, bC, bH, zB, r14_9, r14_10, callW_fn pgLose, hlz, ↓vmP, vm0, vm1, vm2, vm3, vm4, vm5, vm6, vm7, vm8, vm9, vm10, vm11, vm12, vm13, vm14, vm15, vmC, vmN, Nat.reduceAdd, Nat.reduceMul, Nat.reduceSub, Nat.reduceEqDiff, Nat.reduceLT, Nat.reduceLeDiff, ↓reduceIte, Tg.isFull, Int.reduceToNat]
    refine regD_of (by kernel_rfl) ?_
    simp -dsimp (disch := first | rfl | omega) only [bA, bC, bH, r14_10, g1, g2, g3, g4, hct, ↓vmP, vm0, vm1, vm2, vm3, vm4, vm5, vm6, vm7, vm8, vm9, vm10, vm11, vm12, vm13, vm14, vm15, vmC, vmN, Nat.reduceAdd, Nat.reduceMul, Nat.reduceSub, Nat.reduceEqDiff, Nat.reduceLT, Nat.reduceLeDiff, ↓reduceIte, Tg.isFull, Int.reduceToNat]

  · rw [hpe] at hpn hn1
    simp only [if_false, Bool.false_eq_true] at hn1
    generalize nextS b = s at hn1 hns
    simp -dsimp (disch := first | rfl | omega) only [bA, bC, bH, r14_0, r14_1, r14_2, r14_4, r14_5, r14_6, r14_7, callW_fn pgCopy, callW_fn pgRPend, h1, hpn, e1, e2, e3, e4, e5, vmK, hn1, ↓vmP, vm0, vm1, vm2, vm3, vm4, vm5, vm6, vm7, vm8, vm9, vm10, vm11, vm12, vm13, vm14, vm15, vmC, vmN, Nat.reduceAdd, Nat.reduceMul, Nat.reduceSub, Nat.reduceEqDiff, Nat.reduceLT, Nat.reduceLeDiff, ↓reduceIte, Tg.isFull, Int.reduceToNat]
    refine rat_reg b z1 z2 z3 hz hs t n _ s ht _ [] _ ?_
    rw [hw0]
    simp -dsimp (disch := first | rfl | omega) only [lenr8, lenr14, bA, bC, bH, zB, r14_9, r14_10, callW_fn pgLose, hlz, ↓vmP, vm0, vm1, vm2, vm3, vm4, vm5, vm6, vm7, vm8, vm9, vm10, vm11, vm12, vm13, vm14, vm15, vmC, vmN, Nat.reduceAdd, Nat.reduceMul, Nat.reduceSub, Nat.reduceEqDiff, Nat.reduceLT, Nat.reduceLeDiff, ↓reduceIte, Tg.isFull, Int.reduceToNat]
    refine regD_of (by kernel_rfl) ?_
    simp -dsimp (disch := first | rfl | omega) only [bA, bC, bH, r14_10, g1, g2, g3, g4, hct, ↓vmP, vm0, vm1, vm2, vm3, vm4, vm5, vm6, vm7, vm8, vm9, vm10, vm11, vm12, vm13, vm14, vm15, vmC, vmN, Nat.reduceAdd, Nat.reduceMul, Nat.reduceSub, Nat.reduceEqDiff, Nat.reduceLT, Nat.reduceLeDiff, ↓reduceIte, Tg.isFull, Int.reduceToNat]
set_option maxRecDepth 20000 in
theorem ROffer_1_other (b : Bk) (z1 z2 z3 : Nat) (hz : Zk b z1 z2 z3) (hs : Sm b) (hp : PpOk b) (t n : Int) (hb : okOff t n = true) (hw0 : rated b t = false) (hw1 : fullB b n = true) (hf : b.fail ≠ 2) : runW false prog 14 [.agg (bA b z1 z2 z3), .d (.int .i64 t), .d (.int .i64 n)] [] = some (offR (loseB b t 1, b.serial + 1, false), [], []) := by
  have hlz := fun f1 f2 f3 => Lose1_other b hs hp f1 f2 f3 t hf
  have g1 : (loseB b t 1).op = b.op := rfl
  have g2 : (loseB b t 1).queue = b.queue := rfl
  have g3 : (loseB b t 1).serial = b.serial + 1 := rfl
  have g4 : (loseB b t 1).nts = b.nts := by simp [loseB, hf]
  simp only [offR]
  generalize loseB b t 1 = b' at hlz g1 g2 g3 g4 ⊢
  simp only [bP, bC] at hlz
  refine run_of rfl ?_
  have h1 := Copy_eq b z1 z2 z3 hz hs
  obtain ⟨hn, ht, hl⟩ := ok_t hb
  have hser := hs.s
  have hres := hs.r
  have hlq := hs.lq
  have hrl := recs_len b.queue
  have hns := nextS_b b hs
  have hpn := RPend_eq b z1 z2 z3
  have hn1 : b.serial + 1 + (if pend b then 1 else 0) = nextS b := rfl
  simp only [bA, bC, bH] at h1 hpn
  have e1 : (n < 1) = False := eq_false (by omega)
  have e2 : (64 < n) = False := eq_false (by omega)
  have e3 : (t < 0) = False := eq_false (by omega)
  have e4 : (1099511627776 < t) = False := eq_false (by omega)
  have e5 : (1073741821 < b.serial) = False := eq_false (by omega)
  rcases Bool.eq_false_or_eq_true (pend b) with hpe | hpe
  · rw [hpe] at hpn hn1
    simp only [if_true, Bool.false_eq_true] at hn1
    have ef : (b.limit < ((b.queue.length : Nat) : Int) + b.reserved + n + 1) = True := by
      have : fullB b n = decide (b.limit < ((b.queue.length : Nat) : Int) + b.reserved + n + (if pend b then 1 else 0)) := rfl
      rw [hw1, hpe] at this
      simpa using this.symm
    generalize nextS b = s at hn1 hns
    simp -dsimp (disch := first | rfl | omega) only [bA, bC, bH, r14_0, r14_1, r14_2, r14_4, r14_5, r14_6, r14_7, callW_fn pgCopy, callW_fn pgRPend, h1, hpn, e1, e2, e3, e4, e5, vmK, hn1, ↓vmP, vm0, vm1, vm2, vm3, vm4, vm5, vm6, vm7, vm8, vm9, vm10, vm11, vm12, vm13, vm14, vm15, vmC, vmN, Nat.reduceAdd, Nat.reduceMul, Nat.reduceSub, Nat.reduceEqDiff, Nat.reduceLT, Nat.reduceLeDiff, ↓reduceIte, Tg.isFull, Int.reduceToNat]
    refine rat_reg b z1 z2 z3 hz hs t n _ s ht _ [] _ ?_
    rw [hw0]
    simp -dsimp (disch := first | rfl | omega) only [lenr8, lenr14, bA, bC, bH, zB, r14_11, ef, hrl, r14_12, r14_13, callW_fn pgLose, hlz, ↓vmP, vm0, vm1, vm2, vm3, vm4, vm5, vm6, vm7, vm8, vm9, vm10, vm11, vm12, vm13, vm14, vm15, vmC, vmN, Nat.reduceAdd, Nat.reduceMul, Nat.reduceSub, Nat.reduceEqDiff, Nat.reduceLT, Nat.reduceLeDiff, ↓reduceIte, Tg.isFull, Int.reduceToNat]
    refine regD_of (by kernel_rfl) ?_
    simp -dsimp (disch := first | rfl | omega) only [bA, bC, bH, r14_13, g1, g2, g3, g4, ↓vmP, vm0, vm1, vm2, vm3, vm4, vm5, vm6, vm7, vm8, vm9, vm10, vm11, vm12, vm13, vm14, vm15, vmC, vmN, Nat.reduceAdd, Nat.reduceMul, Nat.reduceSub, Nat.reduceEqDiff, Nat.reduceLT, Nat.reduceLeDiff, ↓reduceIte, Tg.isFull, Int.reduceToNat]

  · rw [hpe] at hpn hn1
    simp only [if_false, Bool.false_eq_true] at hn1
    have ef : (b.limit < ((b.queue.length : Nat) : Int) + b.reserved + n + 0) = True := by
      have : fullB b n = decide (b.limit < ((b.queue.length : Nat) : Int) + b.reserved + n + (if pend b then 1 else 0)) := rfl
      rw [hw1, hpe] at this
      simpa using this.symm
    generalize nextS b = s at hn1 hns
    simp -dsimp (disch := first | rfl | omega) only [bA, bC, bH, r14_0, r14_1, r14_2, r14_4, r14_5, r14_6, r14_7, callW_fn pgCopy, callW_fn pgRPend, h1, hpn, e1, e2, e3, e4, e5, vmK, hn1, ↓vmP, vm0, vm1, vm2, vm3, vm4, vm5, vm6, vm7, vm8, vm9, vm10, vm11, vm12, vm13, vm14, vm15, vmC, vmN, Nat.reduceAdd, Nat.reduceMul, Nat.reduceSub, Nat.reduceEqDiff, Nat.reduceLT, Nat.reduceLeDiff, ↓reduceIte, Tg.isFull, Int.reduceToNat]
    refine rat_reg b z1 z2 z3 hz hs t n _ s ht _ [] _ ?_
    rw [hw0]
    simp -dsimp (disch := first | rfl | omega) only [lenr8, lenr14, bA, bC, bH, zB, r14_11, ef, hrl, r14_12, r14_13, callW_fn pgLose, hlz, ↓vmP, vm0, vm1, vm2, vm3, vm4, vm5, vm6, vm7, vm8, vm9, vm10, vm11, vm12, vm13, vm14, vm15, vmC, vmN, Nat.reduceAdd, Nat.reduceMul, Nat.reduceSub, Nat.reduceEqDiff, Nat.reduceLT, Nat.reduceLeDiff, ↓reduceIte, Tg.isFull, Int.reduceToNat]
    refine regD_of (by kernel_rfl) ?_
    simp -dsimp (disch := first | rfl | omega) only [bA, bC, bH, r14_13, g1, g2, g3, g4, ↓vmP, vm0, vm1, vm2, vm3, vm4, vm5, vm6, vm7, vm8, vm9, vm10, vm11, vm12, vm13, vm14, vm15, vmC, vmN, Nat.reduceAdd, Nat.reduceMul, Nat.reduceSub, Nat.reduceEqDiff, Nat.reduceLT, Nat.reduceLeDiff, ↓reduceIte, Tg.isFull, Int.reduceToNat]
set_option maxRecDepth 20000 in
theorem ROffer_1_few (b : Bk) (z1 z2 z3 : Nat) (hz : Zk b z1 z2 z3) (hs : Sm b) (hp : PpOk b) (t n : Int) (hb : okOff t n = true) (hw0 : rated b t = false) (hw1 : fullB b n = true) (hf : b.fail = 2) (hl6 : b.nts.length < 16) : runW false prog 14 [.agg (bA b z1 z2 z3), .d (.int .i64 t), .d (.int .i64 n)] [] = some (offR (loseB b t 1, b.serial + 1, false), [], []) := by
  have hlz := fun f1 f2 f3 => Lose1_few b hs hp f1 f2 f3 t hf hl6
  have g1 : (loseB b t 1).op = b.op := rfl
  have g2 : (loseB b t 1).queue = b.queue := rfl
  have g3 : (loseB b t 1).serial = b.serial + 1 := rfl
  have g4 : True := trivial
  simp only [offR]
  generalize loseB b t 1 = b' at hlz g1 g2 g3 g4 ⊢
  simp only [bP, bC] at hlz
  refine run_of rfl ?_
  have h1 := Copy_eq b z1 z2 z3 hz hs
  obtain ⟨hn, ht, hl⟩ := ok_t hb
  have hser := hs.s
  have hres := hs.r
  have hlq := hs.lq
  have hrl := recs_len b.queue
  have hns := nextS_b b hs
  have hpn := RPend_eq b z1 z2 z3
  have hn1 : b.serial + 1 + (if pend b then 1 else 0) = nextS b := rfl
  simp only [bA, bC, bH] at h1 hpn
  have e1 : (n < 1) = False := eq_false (by omega)
  have e2 : (64 < n) = False := eq_false (by omega)
  have e3 : (t < 0) = False := eq_false (by omega)
  have e4 : (1099511627776 < t) = False := eq_false (by omega)
  have e5 : (1073741821 < b.serial) = False := eq_false (by omega)
  rcases Bool.eq_false_or_eq_true (pend b) with hpe | hpe
  · rw [hpe] at hpn hn1
    simp only [if_true, Bool.false_eq_true] at hn1
    have ef : (b.limit < ((b.queue.length : Nat) : Int) + b.reserved + n + 1) = True := by
      have : fullB b n = decide (b.limit < ((b.queue.length : Nat) : Int) + b.reserved + n + (if pend b then 1 else 0)) := rfl
      rw [hw1, hpe] at this
      simpa using this.symm
    generalize nextS b = s at hn1 hns
    simp -dsimp (disch := first | rfl | omega) only [bA, bC, bH, r14_0, r14_1, r14_2, r14_4, r14_5, r14_6, r14_7, callW_fn pgCopy, callW_fn pgRPend, h1, hpn, e1, e2, e3, e4, e5, vmK, hn1, ↓vmP, vm0, vm1, vm2, vm3, vm4, vm5, vm6, vm7, vm8, vm9, vm10, vm11, vm12, vm13, vm14, vm15, vmC, vmN, Nat.reduceAdd, Nat.reduceMul, Nat.reduceSub, Nat.reduceEqDiff, Nat.reduceLT, Nat.reduceLeDiff, ↓reduceIte, Tg.isFull, Int.reduceToNat]
    refine rat_reg b z1 z2 z3 hz hs t n _ s ht _ [] _ ?_
    rw [hw0]
    simp -dsimp (disch := first | rfl | omega) only [lenr8, lenr14, bA, bC, bH, zB, r14_11, ef, hrl, r14_12, r14_13, callW_fn pgLose, hlz, ↓vmP, vm0, vm1, vm2, vm3, vm4, vm5, vm6, vm7, vm8, vm9, vm10, vm11, vm12, vm13, vm14, vm15, vmC, vmN, Nat.reduceAdd, Nat.reduceMul, Nat.reduceSub, Nat.reduceEqDiff, Nat.reduceLT, Nat.reduceLeDiff, ↓reduceIte, Tg.isFull, Int.reduceToNat]
    refine regD_of (by kernel_rfl) ?_
    simp -dsimp (disch := first | rfl | omega) only [bA, bC, bH, r14_13, g1, g2, g3, g4, ↓vmP, vm0, vm1, vm2, vm3, vm4, vm5, vm6, vm7, vm8, vm9, vm10, vm11, vm12, vm13, vm14, vm15, vmC, vmN, Nat.reduceAdd, Nat.reduceMul, Nat.reduceSub, Nat.reduceEqDiff, Nat.reduceLT, Nat.reduceLeDiff, ↓reduceIte, Tg.isFull, Int.reduceToNat]

  · rw [hpe] at hpn hn1
    simp only [if_false, Bool.false_eq_true] at hn1
    have ef : (b.limit < ((b.queue.length : Nat) : Int) + b.reserved + n + 0) = True := by
      have : fullB b n = decide (b.limit < ((b.queue.length : Nat) : Int) + b.reserved + n + (if pend b then 1 else 0)) := rfl
      rw [hw1, hpe] at this
      simpa using this.symm
    generalize nextS b = s at hn1 hns
    simp -dsimp (disch := first | rfl | omega) only [bA, bC, bH, r14_0, r14_1, r14_2, r14_4, r14_5, r14_6, r14_7, callW_fn pgCopy, callW_fn pgRPend, h1, hpn, e1, e2, e3, e4, e5, vmK, hn1, ↓vmP, vm0, vm1, vm2, vm3, vm4, vm5, vm6, vm7, vm8, vm9, vm10, vm11, vm12, vm13, vm14, vm15, vmC, vmN, Nat.reduceAdd, Nat.reduceMul, Nat.reduceSub, Nat.reduceEqDiff, Nat.reduceLT, Nat.reduceLeDiff, ↓reduceIte, Tg.isFull, Int.reduceToNat]
    refine rat_reg b z1 z2 z3 hz hs t n _ s ht _ [] _ ?_
    rw [hw0]
    simp -dsimp (disch := first | rfl | omega) only [lenr8, lenr14, bA, bC, bH, zB, r14_11, ef, hrl, r14_12, r14_13, callW_fn pgLose, hlz, ↓vmP, vm0, vm1, vm2, vm3, vm4, vm5, vm6, vm7, vm8, vm9, vm10, vm11, vm12, vm13, vm14, vm15, vmC, vmN, Nat.reduceAdd, Nat.reduceMul, Nat.reduceSub, Nat.reduceEqDiff, Nat.reduceLT, Nat.reduceLeDiff, ↓reduceIte, Tg.isFull, Int.reduceToNat]
    refine regD_of (by kernel_rfl) ?_
    simp -dsimp (disch := first | rfl | omega) only [bA, bC, bH, r14_13, g1, g2, g3, g4, ↓vmP, vm0, vm1, vm2, vm3, vm4, vm5, vm6, vm7, vm8, vm9, vm10, vm11, vm12, vm13, vm14, vm15, vmC, vmN, Nat.reduceAdd, Nat.reduceMul, Nat.reduceSub, Nat.reduceEqDiff, Nat.reduceLT, Nat.reduceLeDiff, ↓reduceIte, Tg.isFull, Int.reduceToNat]
set_option maxRecDepth 20000 in
theorem ROffer_1_many (b : Bk) (z1 z2 z3 : Nat) (hz : Zk b z1 z2 z3) (hs : Sm b) (hp : PpOk b) (t n : Int) (hb : okOff t n = true) (hw0 : rated b t = false) (hw1 : fullB b n = true) (hf : b.fail = 2) (hl6 : b.nts.length = 16) : runW false prog 14 [.agg (bA b z1 z2 z3), .d (.int .i64 t), .d (.int .i64 n)] [] = some (offR (loseB b t 1, b.serial + 1, false), [], []) := by
  have hlz := fun f1 f2 f3 => Lose1_many b hs hp f1 f2 f3 t hf hl6
  have g1 : (loseB b t 1).op = b.op := rfl
  have g2 : (loseB b t 1).queue = b.queue := rfl
  have g3 : (loseB b t 1).serial = b.serial + 1 := rfl
  have g4 : notes (b.nts.drop (b.nts.length - 15) ++ [(t, b.serial + 1)]) = notes (loseB b t 1).nts := by simp only [loseB, hf, if_true]
  have hct := notes_cut b.nts (t, b.serial + 1) hl6
  rw [g4] at hct
  have hcl : (notes (b.nts ++ [(t, b.serial + 1)])).length = 17 := by rw [notes_len, List.length_append, hl6]; rfl
  generalize notes (b.nts ++ [(t, b.serial + 1)]) = NT at hlz hct hcl
  generalize hNR : notes (loseB b t 1).nts = NR at hct g4
  clear g4
  have g4 := hNR
  simp only [offR]
  generalize loseB b t 1 = b' at hlz g1 g2 g3 g4 ⊢
  simp only [bP, bC] at hlz
  refine run_of rfl ?_
  have h1 := Copy_eq b z1 z2 z3 hz hs
  obtain ⟨hn, ht, hl⟩ := ok_t hb
  have hser := hs.s
  have hres := hs.r
  have hlq := hs.lq
  have hrl := recs_len b.queue
  have hns := nextS_b b hs
  have hpn := RPend_eq b z1 z2 z3
  have hn1 : b.serial + 1 + (if pend b then 1 else 0) = nextS b := rfl
  simp only [bA, bC, bH] at h1 hpn
  have e1 : (n < 1) = False := eq_false (by omega)
  have e2 : (64 < n) = False := eq_false (by omega)
  have e3 : (t < 0) = False := eq_false (by omega)
  have e4 : (1099511627776 < t) = False := eq_false (by omega)
  have e5 : (1073741821 < b.serial) = False := eq_false (by omega)
  rcases Bool.eq_false_or_eq_true (pend b) with hpe | hpe
  · rw [hpe] at hpn hn1
    simp only [if_true, Bool.false_eq_true] at hn1
    have ef : (b.limit < ((b.queue.length : Nat) : Int) + b.reserved + n + 1) = True := by
      have : fullB b n = decide (b.limit < ((b.queue.length : Nat) : Int) + b.reserved + n + (if pend b then 1 else 0)) := rfl
      rw [hw1, hpe] at this
      simpa using this.symm
    generalize nextS b = s at hn1 hns
    simp -dsimp (disch := first | rfl | omega) only [bA, bC, bH, r14_0, r14_1, r14_2, r14_4, r14_5, r14_6, r14_7, callW_fn pgCopy, callW_fn pgRPend, h1, hpn, e1, e2, e3, e4, e5, vmK, hn1, ↓vmP, vm0, vm1, vm2, vm3, vm4, vm5, vm6, vm7, vm8, vm9, vm10, vm11, vm12, vm13, vm14, vm15, vmC, vmN, Nat.reduceAdd, Nat.reduceMul, Nat.reduceSub, Nat.reduceEqDiff, Nat.reduceLT, Nat.reduceLeDiff, ↓reduceIte, Tg.isFull, Int.reduceToNat]
    refine rat_reg b z1 z2 z3 hz hs t n _ s ht _ [] _ ?_
    rw [hw0]
    simp -dsimp (disch := first | rfl | omega) only [lenr8, lenr14, bA, bC, bH, zB, r14_11, ef, hrl, r14_12, r14_13, callW_fn pgLose, hlz, ↓vmP, vm0, vm1, vm2, vm3, vm4, vm5, vm6, vm7, vm8, vm9, vm10, vm11, vm12, vm13, vm14, vm15, vmC, vmN, Nat.reduceAdd, Nat.reduceMul, Nat.reduceSub, Nat.reduceEqDiff, Nat.reduceLT, Nat.reduceLeDiff, ↓reduceIte, Tg.isFull, Int.reduceToNat]
    refine regD_of (by kernel_rfl) ?_
    simp -dsimp (disch := first | rfl | omega) only [bA, bC, bH, r14_13, g1, g2, g3, g4, hct, ↓vmP, vm0, vm1, vm2, vm3, vm4, vm5, vm6, vm7, vm8, vm9, vm10, vm11, vm12, vm13, vm14, vm15, vmC, vmN, Nat.reduceAdd, Nat.reduceMul, Nat.reduceSub, Nat.reduceEqDiff, Nat.reduceLT, Nat.reduceLeDiff, ↓reduceIte, Tg.isFull, Int.reduceToNat]

  · rw [hpe] at hpn hn1
    simp only [if_false, Bool.false_eq_true] at hn1
    have ef : (b.limit < ((b.queue.length : Nat) : Int) + b.reserved + n + 0) = True := by
      have : fullB b n = decide (b.limit < ((b.queue.length : Nat) : Int) + b.reserved + n + (if pend b then 1 else 0)) := rfl
      rw [hw1, hpe] at this
      simpa using this.symm
    generalize nextS b = s at hn1 hns
    simp -dsimp (disch := first | rfl | omega) only [bA, bC, bH, r14_0, r14_1, r14_2, r14_4, r14_5, r14_6, r14_7, callW_fn pgCopy, callW_fn pgRPend, h1, hpn, e1, e2, e3, e4, e5, vmK, hn1, ↓vmP, vm0, vm1, vm2, vm3, vm4, vm5, vm6, vm7, vm8, vm9, vm10, vm11, vm12, vm13, vm14, vm15, vmC, vmN, Nat.reduceAdd, Nat.reduceMul, Nat.reduceSub, Nat.reduceEqDiff, Nat.reduceLT, Nat.reduceLeDiff, ↓reduceIte, Tg.isFull, Int.reduceToNat]
    refine rat_reg b z1 z2 z3 hz hs t n _ s ht _ [] _ ?_
    rw [hw0]
    simp -dsimp (disch := first | rfl | omega) only [lenr8, lenr14, bA, bC, bH, zB, r14_11, ef, hrl, r14_12, r14_13, callW_fn pgLose, hlz, ↓vmP, vm0, vm1, vm2, vm3, vm4, vm5, vm6, vm7, vm8, vm9, vm10, vm11, vm12, vm13, vm14, vm15, vmC, vmN, Nat.reduceAdd, Nat.reduceMul, Nat.reduceSub, Nat.reduceEqDiff, Nat.reduceLT, Nat.reduceLeDiff, ↓reduceIte, Tg.isFull, Int.reduceToNat]
    refine regD_of (by kernel_rfl) ?_
    simp -dsimp (disch := first | rfl | omega) only [bA, bC, bH, r14_13, g1, g2, g3, g4, hct, ↓vmP, vm0, vm1, vm2, vm3, vm4, vm5, vm6, vm7, vm8, vm9, vm10, vm11, vm12, vm13, vm14, vm15, vmC, vmN, Nat.reduceAdd, Nat.reduceMul, Nat.reduceSub, Nat.reduceEqDiff, Nat.reduceLT, Nat.reduceLeDiff, ↓reduceIte, Tg.isFull, Int.reduceToNat]
set_option maxRecDepth 20000 in
theorem ROffer_2_other (b : Bk) (z1 z2 z3 : Nat) (hz : Zk b z1 z2 z3) (hs : Sm b) (hp : PpOk b) (t n : Int) (hb : okOff t n = true) (hw0 : rated b t = false) (hw1 : fullB b n = false) (hw2 : stl b (nextS b) = true) (hf : b.fail ≠ 2) : runW false prog 14 [.agg (bA b z1 z2 z3), .d (.int .i64 t), .d (.int .i64 n)] [] = some (offR (loseB b t 2, b.serial + 1, false), [], []) := by
  have hlz := fun f1 f2 f3 => Lose2_other b hs hp f1 f2 f3 t hf
  have g1 : (loseB b t 2).op = b.op := rfl
  have g2 : (loseB b t 2).queue = b.queue := rfl
  have g3 : (loseB b t 2).serial = b.serial + 1 := rfl
  have g4 : (loseB b t 2).nts = b.nts := by simp [loseB, hf]
  simp only [offR]
  generalize loseB b t 2 = b' at hlz g1 g2 g3 g4 ⊢
  simp only [bP, bC] at hlz
  refine run_of rfl ?_
  have h1 := Copy_eq b z1 z2 z3 hz hs
  obtain ⟨hn, ht, hl⟩ := ok_t hb
  have hser := hs.s
  have hres := hs.r
  have hlq := hs.lq
  have hrl := recs_len b.queue
  have hns := nextS_b b hs
  have hpn := RPend_eq b z1 z2 z3
  have hn1 : b.serial + 1 + (if pend b then 1 else 0) = nextS b := rfl
  simp only [bA, bC, bH] at h1 hpn
  have e1 : (n < 1) = False := eq_false (by omega)
  have e2 : (64 < n) = False := eq_false (by omega)
  have e3 : (t < 0) = False := eq_false (by omega)
  have e4 : (1099511627776 < t) = False := eq_false (by omega)
  have e5 : (1073741821 < b.serial) = False := eq_false (by omega)
  rcases Bool.eq_false_or_eq_true (pend b) with hpe | hpe
  · rw [hpe] at hpn hn1
    simp only [if_true, Bool.false_eq_true] at hn1
    have ef : (b.limit < ((b.queue.length : Nat) : Int) + b.reserved + n + 1) = False := by
      have : fullB b n = decide (b.limit < ((b.queue.length : Nat) : Int) + b.reserved + n + (if pend b then 1 else 0)) := rfl
      rw [hw1, hpe] at this
      simpa using this.symm
    generalize nextS b = s at hn1 hns hw2
    simp -dsimp (disch := first | rfl | omega) only [bA, bC, bH, r14_0, r14_1, r14_2, r14_4, r14_5, r14_6, r14_7, callW_fn pgCopy, callW_fn pgRPend, h1, hpn, e1, e2, e3, e4, e5, vmK, hn1, ↓vmP, vm0, vm1, vm2, vm3, vm4, vm5, vm6, vm7, vm8, vm9, vm10, vm11, vm12, vm13, vm14, vm15, vmC, vmN, Nat.reduceAdd, Nat.reduceMul, Nat.reduceSub, Nat.reduceEqDiff, Nat.reduceLT, Nat.reduceLeDiff, ↓reduceIte, Tg.isFull, Int.reduceToNat]
    refine rat_reg b z1 z2 z3 hz hs t n _ s ht _ [] _ ?_
    rw [hw0]
    simp -dsimp (disch := first | rfl | omega) only [lenr8, lenr14, bA, bC, bH, zB, r14_11, ef, hrl, ↓vmP, vm0, vm1, vm2, vm3, vm4, vm5, vm6, vm7, vm8, vm9, vm10, vm11, vm12, vm13, vm14, vm15, vmC, vmN, Nat.reduceAdd, Nat.reduceMul, Nat.reduceSub, Nat.reduceEqDiff, Nat.reduceLT, Nat.reduceLeDiff, ↓reduceIte, Tg.isFull, Int.reduceToNat]
    refine stl_reg b z1 z2 z3 hz hs t n _ s hns _ _ _ ?_
    rw [hw2]
    simp -dsimp (disch := first | rfl | omega) only [lenr8, lenr14, bA, bC, bH, zB, r14_15, r14_16, callW_fn pgLose, hlz, ↓vmP, vm0, vm1, vm2, vm3, vm4, vm5, vm6, vm7, vm8, vm9, vm10, vm11, vm12, vm13, vm14, vm15, vmC, vmN, Nat.reduceAdd, Nat.reduceMul, Nat.reduceSub, Nat.reduceEqDiff, Nat.reduceLT, Nat.reduceLeDiff, ↓reduceIte, Tg.isFull, Int.reduceToNat]
    refine regD_of (by kernel_rfl) ?_
    simp -dsimp (disch := first | rfl | omega) only [bA, bC, bH, r14_16, g1, g2, g3, g4, ↓vmP, vm0, vm1, vm2, vm3, vm4, vm5, vm6, vm7, vm8, vm9, vm10, vm11, vm12, vm13, vm14, vm15, vmC, vmN, Nat.reduceAdd, Nat.reduceMul, Nat.reduceSub, Nat.reduceEqDiff, Nat.reduceLT, Nat.reduceLeDiff, ↓reduceIte, Tg.isFull, Int.reduceToNat]

  · rw [hpe] at hpn hn1
    simp only [if_false, Bool.false_eq_true] at hn1
    have ef : (b.limit < ((b.queue.length : Nat) : Int) + b.reserved + n + 0) = False := by
      have : fullB b n = decide (b.limit < ((b.queue.length : Nat) : Int) + b.reserved + n + (if pend b then 1 else 0)) := rfl
      rw [hw1, hpe] at this
      simpa using this.symm
    generalize nextS b = s at hn1 hns hw2
    simp -dsimp (disch := first | rfl | omega) only [bA, bC, bH, r14_0, r14_1, r14_2, r14_4, r14_5, r14_6, r14_7, callW_fn pgCopy, callW_fn pgRPend, h1, hpn, e1, e2, e3, e4, e5, vmK, hn1, ↓vmP, vm0, vm1, vm2, vm3, vm4, vm5, vm6, vm7, vm8, vm9, vm10, vm11, vm12, vm13, vm14, vm15, vmC, vmN, Nat.reduceAdd, Nat.reduceMul, Nat.reduceSub, Nat.reduceEqDiff, Nat.reduceLT, Nat.reduceLeDiff, ↓reduceIte, Tg.isFull, Int.reduceToNat]
    refine rat_reg b z1 z2 z3 hz hs t n _ s ht _ [] _ ?_
    rw [hw0]
    simp -dsimp (disch := first | rfl | omega) only [lenr8, lenr14, bA, bC, bH, zB, r14_11, ef, hrl, ↓vmP, vm0, vm1, vm2, vm3, vm4, vm5, vm6, vm7, vm8, vm9, vm10, vm11, vm12, vm13, vm14, vm15, vmC, vmN, Nat.reduceAdd, Nat.reduceMul, Nat.reduceSub, Nat.reduceEqDiff, Nat.reduceLT, Nat.reduceLeDiff, ↓reduceIte, Tg.isFull, Int.reduceToNat]
    refine stl_reg b z1 z2 z3 hz hs t n _ s hns _ _ _ ?_
    rw [hw2]
    simp -dsimp (disch := first | rfl | omega) only [lenr8, lenr14, bA, bC, bH, zB, r14_15, r14_16, callW_fn pgLose, hlz, ↓vmP, vm0, vm1, vm2, vm3, vm4, vm5, vm6, vm7, vm8, vm9, vm10, vm11, vm12, vm13, vm14, vm15, vmC, vmN, Nat.reduceAdd, Nat.reduceMul, Nat.reduceSub, Nat.reduceEqDiff, Nat.reduceLT, Nat.reduceLeDiff, ↓reduceIte, Tg.isFull, Int.reduceToNat]
    refine regD_of (by kernel_rfl) ?_
    simp -dsimp (disch := first | rfl | omega) only [bA, bC, bH, r14_16, g1, g2, g3, g4, ↓vmP, vm0, vm1, vm2, vm3, vm4, vm5, vm6, vm7, vm8, vm9, vm10, vm11, vm12, vm13, vm14, vm15, vmC, vmN, Nat.reduceAdd, Nat.reduceMul, Nat.reduceSub, Nat.reduceEqDiff, Nat.reduceLT, Nat.reduceLeDiff, ↓reduceIte, Tg.isFull, Int.reduceToNat]
set_option maxRecDepth 20000 in
theorem ROffer_2_few (b : Bk) (z1 z2 z3 : Nat) (hz : Zk b z1 z2 z3) (hs : Sm b) (hp : PpOk b) (t n : Int) (hb : okOff t n = true) (hw0 : rated b t = false) (hw1 : fullB b n = false) (hw2 : stl b (nextS b) = true) (hf : b.fail = 2) (hl6 : b.nts.length < 16) : runW false prog 14 [.agg (bA b z1 z2 z3), .d (.int .i64 t), .d (.int .i64 n)] [] = some (offR (loseB b t 2, b.serial + 1, false), [], []) := by
  have hlz := fun f1 f2 f3 => Lose2_few b hs hp f1 f2 f3 t hf hl6
  have g1 : (loseB b t 2).op = b.op := rfl
  have g2 : (loseB b t 2).queue = b.queue := rfl
  have g3 : (loseB b t 2).serial = b.serial + 1 := rfl
  have g4 : True := trivial
  simp only [offR]
  generalize loseB b t 2 = b' at hlz g1 g2 g3 g4 ⊢
  simp only [bP, bC] at hlz
  refine run_of rfl ?_
  have h1 := Copy_eq b z1 z2 z3 hz hs
  obtain ⟨hn, ht, hl⟩ := ok_t hb
  have hser := hs.s
  have hres := hs.r
  have hlq := hs.lq
  have hrl := recs_len b.queue
  have hns := nextS_b b hs
  have hpn := RPend_eq b z1 z2 z3
  have hn1 : b.serial + 1 + (if pend b then 1 else 0) = nextS b := rfl
  simp only [bA, bC, bH] at h1 hpn
  have e1 : (n < 1) = False := eq_false (by omega)
  have e2 : (64 < n) = False := eq_false (by omega)
  have e3 : (t < 0) = False := eq_false (by omega)
  have e4 : (1099511627776 < t) = False := eq_false (by omega)
  have e5 : (1073741821 < b.serial) = False := eq_false (by omega)
  rcases Bool.eq_false_or_eq_true (pend b) with hpe | hpe
  · rw [hpe] at hpn hn1
    simp only [if_true, Bool.false_eq_true] at hn1
    have ef : (b.limit < ((b.queue.length : Nat) : Int) + b.reserved + n + 1) = False := by
      have : fullB b n = decide (b.limit < ((b.queue.length : Nat) : Int) + b.reserved + n + (if pend b then 1 else 0)) := rfl
      rw [hw1, hpe] at this
      simpa using this.symm
    generalize nextS b = s at hn1 hns hw2
    simp -dsimp (disch := first | rfl | omega) only [bA, bC, bH, r14_0, r14_1, r14_2, r14_4, r14_5, r14_6, r14_7, callW_fn pgCopy, callW_fn pgRPend, h1, hpn, e1, e2, e3, e4, e5, vmK, hn1, ↓vmP, vm0, vm1, vm2, vm3, vm4, vm5, vm6, vm7, vm8, vm9, vm10, vm11, vm12, vm13, vm14, vm15, vmC, vmN, Nat.reduceAdd, Nat.reduceMul, Nat.reduceSub, Nat.reduceEqDiff, Nat.reduceLT, Nat.reduceLeDiff, ↓reduceIte, Tg.isFull, Int.reduceToNat]
    refine rat_reg b z1 z2 z3 hz hs t n _ s ht _ [] _ ?_
    rw [hw0]
    simp -dsimp (disch := first | rfl | omega) only [lenr8, lenr14, bA, bC, bH, zB, r14_11, ef, hrl, ↓vmP, vm0, vm1, vm2, vm3, vm4, vm5, vm6, vm7, vm8, vm9, vm10, vm11, vm12, vm13, vm14, vm15, vmC, vmN, Nat.reduceAdd, Nat.reduceMul, Nat.reduceSub, Nat.reduceEqDiff, Nat.reduceLT, Nat.reduceLeDiff, ↓reduceIte, Tg.isFull, Int.reduceToNat]
    refine stl_reg b z1 z2 z3 hz hs t n _ s hns _ _ _ ?_
    rw [hw2]
    simp -dsimp (disch := first | rfl | omega) only [lenr8, lenr14, bA, bC, bH, zB, r14_15, r14_16, callW_fn pgLose, hlz, ↓vmP, vm0, vm1, vm2, vm3, vm4, vm5, vm6, vm7, vm8, vm9, vm10, vm11, vm12, vm13, vm14, vm15, vmC, vmN, Nat.reduceAdd, Nat.reduceMul, Nat.reduceSub, Nat.reduceEqDiff, Nat.reduceLT, Nat.reduceLeDiff, ↓reduceIte, Tg.isFull, Int.reduceToNat]
    refine regD_of (by kernel_rfl) ?_
    simp -dsimp (disch := first | rfl | omega) only [bA, bC, bH, r14_16, g1, g2, g3, g4, ↓vmP, vm0, vm1, vm2, vm3, vm4, vm5, vm6, vm7, vm8, vm9, vm10, vm11, vm12, vm13, vm14, vm15, vmC, vmN, Nat.reduceAdd, Nat.reduceMul, Nat.reduceSub, Nat.reduceEqDiff, Nat.reduceLT, Nat.reduceLeDiff, ↓reduceIte, Tg.isFull, Int.reduceToNat]

  · rw [hpe] at hpn hn1
    simp only [if_false, Bool.false_eq_true] at hn1
    have ef : (b.limit < ((b.queue.length : Nat) : Int) + b.reserved + n + 0) = False := by
      have : fullB b n = decide (b.limit < ((b.queue.length : Nat) : Int) + b.reserved + n + (if pend b then 1 else 0)) := rfl
      rw [hw1, hpe] at this
      simpa using this.symm
    generalize nextS b = s at hn1 hns hw2
    simp -dsimp (disch := first | rfl | omega) only [bA, bC, bH, r14_0, r14_1, r14_2, r14_4, r14_5, r14_6, r14_7, callW_fn pgCopy, callW_fn pgRPend, h1, hpn, e1, e2, e3, e4, e5, vmK, hn1, ↓vmP, vm0, vm1, vm2, vm3, vm4, vm5, vm6, vm7, vm8, vm9, vm10, vm11, vm12, vm13, vm14, vm15, vmC, vmN, Nat.reduceAdd, Nat.reduceMul, Nat.reduceSub, Nat.reduceEqDiff, Nat.reduceLT, Nat.reduceLeDiff, ↓reduceIte, Tg.isFull, Int.reduceToNat]
    refine rat_reg b z1 z2 z3 hz hs t n _ s ht _ [] _ ?_
    rw [hw0]
    simp -dsimp (disch := first | rfl | omega) only [lenr8, lenr14, bA, bC, bH, zB, r14_11, ef, hrl, ↓vmP, vm0, vm1, vm2, vm3, vm4, vm5, vm6, vm7, vm8, vm9, vm10, vm11, vm12, vm13, vm14, vm15, vmC, vmN, Nat.reduceAdd, Nat.reduceMul, Nat.reduceSub, Nat.reduceEqDiff, Nat.reduceLT, Nat.reduceLeDiff, ↓reduceIte, Tg.isFull, Int.reduceToNat]
    refine stl_reg b z1 z2 z3 hz hs t n _ s hns _ _ _ ?_
    rw [hw2]
    simp -dsimp (disch := first | rfl | omega) only [lenr8, lenr14, bA, bC, bH, zB, r14_15, r14_16, callW_fn pgLose, hlz, ↓vmP, vm0, vm1, vm2, vm3, vm4, vm5, vm6, vm7, vm8, vm9, vm10, vm11, vm12, vm13, vm14, vm15, vmC, vmN, Nat.reduceAdd, Nat.reduceMul, Nat.reduceSub, Nat.reduceEqDiff, Nat.reduceLT, Nat.reduceLeDiff, ↓reduceIte, Tg.isFull, Int.reduceToNat]
    refine regD_of (by kernel_rfl) ?_
    simp -dsimp (disch := first | rfl | omega) only [bA, bC, bH, r14_16, g1, g2, g3, g4, ↓vmP, vm0, vm1, vm2, vm3, vm4, vm5, vm6, vm7, vm8, vm9, vm10, vm11, vm12, vm13, vm14, vm15, vmC, vmN, Nat.reduceAdd, Nat.reduceMul, Nat.reduceSub, Nat.reduceEqDiff, Nat.reduceLT, Nat.reduceLeDiff, ↓reduceIte, Tg.isFull, Int.reduceToNat]
set_option maxRecDepth 20000 in
theorem ROffer_2_many (b : Bk) (z1 z2 z3 : Nat) (hz : Zk b z1 z2 z3) (hs : Sm b) (hp : PpOk b) (t n : Int) (hb : okOff t n = true) (hw0 : rated b t = false) (hw1 : fullB b n = false) (hw2 : stl b (nextS b) = true) (hf : b.fail = 2) (hl6 : b.nts.length = 16) : runW false prog 14 [.agg (bA b z1 z2 z3), .d (.int .i64 t), .d (.int .i64 n)] [] = some (offR (loseB b t 2, b.serial + 1, false), [], []) := by
  have hlz := fun f1 f2 f3 => Lose2_many b hs hp f1 f2 f3 t hf hl6
  have g1 : (loseB b t 2).op = b.op := rfl
  have g2 : (loseB b t 2).queue = b.queue := rfl
  have g3 : (loseB b t 2).serial = b.serial + 1 := rfl
  have g4 : notes (b.nts.drop (b.nts.length - 15) ++ [(t, b.serial + 1)]) = notes (loseB b t 2).nts := by simp only [loseB, hf, if_true]
  have hct := notes_cut b.nts (t, b.serial + 1) hl6
  rw [g4] at hct
  have hcl : (notes (b.nts ++ [(t, b.serial + 1)])).length = 17 := by rw [notes_len, List.length_append, hl6]; rfl
  generalize notes (b.nts ++ [(t, b.serial + 1)]) = NT at hlz hct hcl
  generalize hNR : notes (loseB b t 2).nts = NR at hct g4
  clear g4
  have g4 := hNR
  simp only [offR]
  generalize loseB b t 2 = b' at hlz g1 g2 g3 g4 ⊢
  simp only [bP, bC] at hlz
  refine run_of rfl ?_
  have h1 := Copy_eq b z1 z2 z3 hz hs
  obtain ⟨hn, ht, hl⟩ := ok_t hb
  have hser := hs.s
  have hres := hs.r
  have hlq := hs.lq
  have hrl := recs_len b.queue
  have hns := nextS_b b hs
  have hpn := RPend_eq b z1 z2 z3
  have hn1 : b.serial + 1 + (if pend b then 1 else 0) = nextS b := rfl
  simp only [bA, bC, bH] at h1 hpn
  have e1 : (n < 1) = False := eq_false (by omega)
  have e2 : (64 < n) = False := eq_false (by omega)
  have e3 : (t < 0) = False := eq_false (by omega)
  have e4 : (1099511627776 < t) = False := eq_false (by omega)
  have e5 : (1073741821 < b.serial) = False := eq_false (by omega)
  rcases Bool.eq_false_or_eq_true (pend b) with hpe | hpe
  · rw [hpe] at hpn hn1
    simp only [if_true, Bool.false_eq_true] at hn1
    have ef : (b.limit < ((b.queue.length : Nat) : Int) + b.reserved + n + 1) = False := by
      have : fullB b n = decide (b.limit < ((b.queue.length : Nat) : Int) + b.reserved + n + (if pend b then 1 else 0)) := rfl
      rw [hw1, hpe] at this
      simpa using this.symm
    generalize nextS b = s at hn1 hns hw2
    simp -dsimp (disch := first | rfl | omega) only [bA, bC, bH, r14_0, r14_1, r14_2, r14_4, r14_5, r14_6, r14_7, callW_fn pgCopy, callW_fn pgRPend, h1, hpn, e1, e2, e3, e4, e5, vmK, hn1, ↓vmP, vm0, vm1, vm2, vm3, vm4, vm5, vm6, vm7, vm8, vm9, vm10, vm11, vm12, vm13, vm14, vm15, vmC, vmN, Nat.reduceAdd, Nat.reduceMul, Nat.reduceSub, Nat.reduceEqDiff, Nat.reduceLT, Nat.reduceLeDiff, ↓reduceIte, Tg.isFull, Int.reduceToNat]
    refine rat_reg b z1 z2 z3 hz hs t n _ s ht _ [] _ ?_
    rw [hw0]
    simp -dsimp (disch := first | rfl | omega) only [lenr8, lenr14, bA, bC, bH, zB, r14_11, ef, hrl, ↓vmP, vm0, vm1, vm2, vm3, vm4, vm5, vm6, vm7, vm8, vm9, vm10, vm11, vm12, vm13, vm14, vm15, vmC, vmN, Nat.reduceAdd, Nat.reduceMul, Nat.reduceSub, Nat.reduceEqDiff, Nat.reduceLT, Nat.reduceLeDiff, ↓reduceIte, Tg.isFull, Int.reduceToNat]
    refine stl_reg b z1 z2 z3 hz hs t n _ s hns _ _ _ ?_
    rw [hw2]
    simp -dsimp (disch := first | rfl | omega) only [lenr8, lenr14, bA, bC, bH, zB, r14_15, r14_16, callW_fn pgLose, hlz, ↓vmP, vm0, vm1, vm2, vm3, vm4, vm5, vm6, vm7, vm8, vm9, vm10, vm11, vm12, vm13, vm14, vm15, vmC, vmN, Nat.reduceAdd, Nat.reduceMul, Nat.reduceSub, Nat.reduceEqDiff, Nat.reduceLT, Nat.reduceLeDiff, ↓reduceIte, Tg.isFull, Int.reduceToNat]
    refine regD_of (by kernel_rfl) ?_
    simp -dsimp (disch := first | rfl | omega) only [bA, bC, bH, r14_16, g1, g2, g3, g4, hct, ↓vmP, vm0, vm1, vm2, vm3, vm4, vm5, vm6, vm7, vm8, vm9, vm10, vm11, vm12, vm13, vm14, vm15, vmC, vmN, Nat.reduceAdd, Nat.reduceMul, Nat.reduceSub, Nat.reduceEqDiff, Nat.reduceLT, Nat.reduceLeDiff, ↓reduceIte, Tg.isFull, Int.reduceToNat]

  · rw [hpe] at hpn hn1
    simp only [if_false, Bool.false_eq_true] at hn1
    have ef : (b.limit < ((b.queue.length : Nat) : Int) + b.reserved + n + 0) = False := by
      have : fullB b n = decide (b.limit < ((b.queue.length : Nat) : Int) + b.reserved + n + (if pend b then 1 else 0)) := rfl
      rw [hw1, hpe] at this
      simpa using this.symm
    generalize nextS b = s at hn1 hns hw2
    simp -dsimp (disch := first | rfl | omega) only [bA, bC, bH, r14_0, r14_1, r14_2, r14_4, r14_5, r14_6, r14_7, callW_fn pgCopy, callW_fn pgRPend, h1, hpn, e1, e2, e3, e4, e5, vmK, hn1, ↓vmP, vm0, vm1, vm2, vm3, vm4, vm5, vm6, vm7, vm8, vm9, vm10, vm11, vm12, vm13, vm14, vm15, vmC, vmN, Nat.reduceAdd, Nat.reduceMul, Nat.reduceSub, Nat.reduceEqDiff, Nat.reduceLT, Nat.reduceLeDiff, ↓reduceIte, Tg.isFull, Int.reduceToNat]
    refine rat_reg b z1 z2 z3 hz hs t n _ s ht _ [] _ ?_
    rw [hw0]
    simp -dsimp (disch := first | rfl | omega) only [lenr8, lenr14, bA, bC, bH, zB, r14_11, ef, hrl, ↓vmP, vm0, vm1, vm2, vm3, vm4, vm5, vm6, vm7, vm8, vm9, vm10, vm11, vm12, vm13, vm14, vm15, vmC, vmN, Nat.reduceAdd, Nat.reduceMul, Nat.reduceSub, Nat.reduceEqDiff, Nat.reduceLT, Nat.reduceLeDiff, ↓reduceIte, Tg.isFull, Int.reduceToNat]
    refine stl_reg b z1 z2 z3 hz hs t n _ s hns _ _ _ ?_
    rw [hw2]
    simp -dsimp (disch := first | rfl | omega) only [lenr8, lenr14, bA, bC, bH, zB, r14_15, r14_16, callW_fn pgLose, hlz, ↓vmP, vm0, vm1, vm2, vm3, vm4, vm5, vm6, vm7, vm8, vm9, vm10, vm11, vm12, vm13, vm14, vm15, vmC, vmN, Nat.reduceAdd, Nat.reduceMul, Nat.reduceSub, Nat.reduceEqDiff, Nat.reduceLT, Nat.reduceLeDiff, ↓reduceIte, Tg.isFull, Int.reduceToNat]
    refine regD_of (by kernel_rfl) ?_
    simp -dsimp (disch := first | rfl | omega) only [bA, bC, bH, r14_16, g1, g2, g3, g4, hct, ↓vmP, vm0, vm1, vm2, vm3, vm4, vm5, vm6, vm7, vm8, vm9, vm10, vm11, vm12, vm13, vm14, vm15, vmC, vmN, Nat.reduceAdd, Nat.reduceMul, Nat.reduceSub, Nat.reduceEqDiff, Nat.reduceLT, Nat.reduceLeDiff, ↓reduceIte, Tg.isFull, Int.reduceToNat]
end Go.Vm.Bk
