/- A part of the proof of BacklogPlaysSaid: YtnihjdfbiddggaaFg. -/
import Derived.Test.YtnihjdfbiddggaaKFf
/- Backlogs: why an event is refused. -/
set_option linter.unusedVariables false
set_option linter.unusedSimpArgs false
set_option maxHeartbeats 1000000
namespace Go.Vm.Bk
/-- A backlog in memory: its cells, and its three rows. -/
def bP (b : Bk) (f1 f2 f3 : Bool) : List Chunk := [.box (bC b (.row 1) (.row 2) (.row 3)), .row 1 f1 (i64s b.op), .row 4 f2 (recs b.queue), .row 2 f3 (notes b.nts)]
theorem Pend_eq (b : Bk) (f1 f2 f3 : Bool) : runW false prog 46 [.ptr 0 0] (bP b f1 f2 f3) = some (.d (.bool (pend b)), bP b f1 f2 f3, []) := by
  refine run_of rfl ?_
  have he := eqs_z b.p0 b.p1 b.p2 b.p3 b.p4
  simp -dsimp (disch := first | rfl | omega) only [bP, bC, pend, r46_0, r46_1, he, ↓vmP, vm0, vm1, vm2, vm3, vm4, vm5, vm6, vm7, vm8, vm9, vm10, vm11, vm12, vm13, vm14, vm15, vmC, vmN, Nat.reduceAdd, Nat.reduceMul, Nat.reduceSub, Nat.reduceEqDiff, Nat.reduceLT, Nat.reduceLeDiff, ↓reduceIte, Tg.isFull, Int.reduceToNat]
theorem pgPend : prog 46 = some c46 := rfl
theorem pgOne : prog 45 = some c45 := rfl
def late (t : Int) : Bool := decide (t < 0 ∨ 1099511627776 < t)
theorem Ends_eq (b : Bk) (hs : Sm b) (f1 f2 f3 : Bool) (t : Int) : runW false prog 44 [.agg (bC b (.row 0) (.row 1) (.row 2)), .d (.int .i64 t)] [.row 1 f1 (i64s b.op), .row 4 f2 (recs b.queue), .row 2 f3 (notes b.nts)] = some (.d (.bool (late t)), [.row 1 f1 (i64s b.op), .row 4 f2 (recs b.queue), .row 2 f3 (notes b.nts)], []) := by
  refine run_of rfl ?_
  have h1 := hs.s
  have e3 : (1073741821 < b.serial) = False := eq_false (by omega)
  by_cases c1 : t < 0
  · have e1 : (t < 0) = True := eq_true c1
    have hl : late t = true := by simp [late, c1]
    rw [hl]
    simp -dsimp (disch := first | rfl | omega) only [bC, r44_0, r44_1, e1, vmK, ↓vmP, vm0, vm1, vm2, vm3, vm4, vm5, vm6, vm7, vm8, vm9, vm10, vm11, vm12, vm13, vm14, vm15, vmC, vmN, Nat.reduceAdd, Nat.reduceMul, Nat.reduceSub, Nat.reduceEqDiff, Nat.reduceLT, Nat.reduceLeDiff, ↓reduceIte, Tg.isFull, Int.reduceToNat]
  · have e1 : (t < 0) = False := eq_false c1
    by_cases c2 : 1099511627776 < t
    · have e2 : (1099511627776 < t) = True := eq_true c2
      have hl : late t = true := by simp [late, c2]
      rw [hl]
      simp -dsimp (disch := first | rfl | omega) only [bC, r44_0, r44_1, e1, e2, vmK, ↓vmP, vm0, vm1, vm2, vm3, vm4, vm5, vm6, vm7, vm8, vm9, vm10, vm11, vm12, vm13, vm14, vm15, vmC, vmN, Nat.reduceAdd, Nat.reduceMul, Nat.reduceSub, Nat.reduceEqDiff, Nat.reduceLT, Nat.reduceLeDiff, ↓reduceIte, Tg.isFull, Int.reduceToNat]
    · have e2 : (1099511627776 < t) = False := eq_false c2
      have hl : late t = false := by simp [late]; omega
      rw [hl]
      simp -dsimp (disch := first | rfl | omega) only [bC, r44_0, r44_1, e1, e2, e3, vmK, ↓vmP, vm0, vm1, vm2, vm3, vm4, vm5, vm6, vm7, vm8, vm9, vm10, vm11, vm12, vm13, vm14, vm15, vmC, vmN, Nat.reduceAdd, Nat.reduceMul, Nat.reduceSub, Nat.reduceEqDiff, Nat.reduceLT, Nat.reduceLeDiff, ↓reduceIte, Tg.isFull, Int.reduceToNat]
theorem pgEnds : prog 44 = some c44 := rfl
def stl (b : Bk) (s : Int) : Bool := match b.op with
  | [] => false
  | x :: _ => decide (64 ≤ s - x)
theorem Stalls_eq (b : Bk) (hs : Sm b) (f1 f2 f3 : Bool) (s : Int) (h0 : 0 ≤ s ∧ s ≤ 2000000) : runW false prog 57 [.ptr 0 0, .d (.int .i64 s)] (bP b f1 f2 f3) = some (.d (.bool (stl b s)), bP b f1 f2 f3, []) := by
  refine run_of rfl ?_
  have hil := i64s_len b.op
  have ho := hs.oo
  have hlo := hs.lo
  cases hop : b.op with
  | nil =>
    have hst : stl b s = false := by simp [stl, hop]
    rw [hst]
    rw [hop] at hil
    have e0 : ((0 : Nat) : Int) = 0 := rfl
    simp -dsimp (disch := first | rfl | omega) only [bP, bC, hop, i64s_nil, r57_0, r57_1, e0, Int.reduceLT, ↓vmP, vm0, vm1, vm2, vm3, vm4, vm5, vm6, vm7, vm8, vm9, vm10, vm11, vm12, vm13, vm14, vm15, vmC, vmN, Nat.reduceAdd, Nat.reduceMul, Nat.reduceSub, Nat.reduceEqDiff, Nat.reduceLT, Nat.reduceLeDiff, ↓reduceIte, Tg.isFull, Int.reduceToNat]
  | cons x l =>
    have hst : stl b s = decide (64 ≤ s - x) := by simp [stl, hop]
    rw [hst]
    have hx := ho x (by rw [hop]; exact List.mem_cons_self ..)
    have e0 : (0 < ((x :: l).length : Int)) = True := eq_true (by rw [List.length_cons]; omega)
    have hat : (i64s (x :: l))[0]? = some [.int .i64 x] := rfl
    have hl2 : 0 < (x :: l).length := Nat.succ_pos _
    rw [hop] at hil hlo
    generalize hX : i64s (x :: l) = X at hat hil
    generalize (x :: l).length = n at hil e0 hl2 hlo
    subst hil
    simp -dsimp (disch := first | rfl | omega) only [bP, bC, hop, hX, r57_0, r57_1, e0, hat, ↓vmP, vm0, vm1, vm2, vm3, vm4, vm5, vm6, vm7, vm8, vm9, vm10, vm11, vm12, vm13, vm14, vm15, vmC, vmN, Nat.reduceAdd, Nat.reduceMul, Nat.reduceSub, Nat.reduceEqDiff, Nat.reduceLT, Nat.reduceLeDiff, ↓reduceIte, Tg.isFull, Int.reduceToNat]
theorem pgStalls : prog 57 = some c57 := rfl
def rated (b : Bk) (t : Int) : Bool := decide (b.rate ≠ 0 ∧ t.tdiv 1000 = b.window ∧ b.rate ≤ b.used)
def fullB (b : Bk) (n : Int) : Bool := decide (b.limit < b.queue.length + b.reserved + n + (if pend b then 1 else 0))
theorem W1_eq (b : Bk) (f1 f2 f3 : Bool) (t n s : Int) (h0 : 0 ≤ t ∧ t ≤ 1099511627776) : runW false prog 64 [.ptr 0 0, .d (.int .i64 t), .d (.int .i64 n), .d (.int .i64 s)] (bP b f1 f2 f3) = some (.d (.bool (rated b t)), bP b f1 f2 f3, []) := by
  refine run_of rfl ?_
  have ht := Int.tdiv_nonneg h0.1 (show (0 : Int) ≤ 1000 by omega)
  have ht2 : t.tdiv 1000 ≤ t := Int.tdiv_le_self _ h0.1
  generalize hq : t.tdiv 1000 = q at ht ht2
  have hw : IntKind.i64.wrap q = q := w_i64 (by omega)
  by_cases c1 : b.rate = 0
  · have e1 : (b.rate = 0) = True := eq_true c1
    have hr : rated b t = false := by simp [rated, c1]
    rw [hr]
    simp -dsimp (disch := first | rfl | omega) only [bP, bC, r64_0, r64_1, e1, ne_eq, not_true_eq_false, ↓vmP, vm0, vm1, vm2, vm3, vm4, vm5, vm6, vm7, vm8, vm9, vm10, vm11, vm12, vm13, vm14, vm15, vmC, vmN, Nat.reduceAdd, Nat.reduceMul, Nat.reduceSub, Nat.reduceEqDiff, Nat.reduceLT, Nat.reduceLeDiff, ↓reduceIte, Tg.isFull, Int.reduceToNat]
    refine regD_of (by kernel_rfl) ?_
    simp -dsimp (disch := first | rfl | omega) only [bP, bC, ↓vmP, vm0, vm1, vm2, vm3, vm4, vm5, vm6, vm7, vm8, vm9, vm10, vm11, vm12, vm13, vm14, vm15, vmC, vmN, Nat.reduceAdd, Nat.reduceMul, Nat.reduceSub, Nat.reduceEqDiff, Nat.reduceLT, Nat.reduceLeDiff, ↓reduceIte, Tg.isFull, Int.reduceToNat]
  · have e1 : (b.rate = 0) = False := eq_false c1
    by_cases c2 : q = b.window
    · have e2 : (q = b.window) = True := eq_true c2
      by_cases c3 : b.rate ≤ b.used
      · have e3 : (b.rate ≤ b.used) = True := eq_true c3
        have hr : rated b t = true := by simp [rated, c1, c2, c3, hq]
        rw [hr]
        simp -dsimp (disch := first | rfl | omega) only [bP, bC, r64_0, r64_1, e1, e2, e3, hq, hw, ne_eq, not_false_eq_true, Int.reduceEq, ↓vmP, vm0, vm1, vm2, vm3, vm4, vm5, vm6, vm7, vm8, vm9, vm10, vm11, vm12, vm13, vm14, vm15, vmC, vmN, Nat.reduceAdd, Nat.reduceMul, Nat.reduceSub, Nat.reduceEqDiff, Nat.reduceLT, Nat.reduceLeDiff, ↓reduceIte, Tg.isFull, Int.reduceToNat]
        refine regD_of (by kernel_rfl) ?_
        simp -dsimp (disch := first | rfl | omega) only [bP, bC, ↓vmP, vm0, vm1, vm2, vm3, vm4, vm5, vm6, vm7, vm8, vm9, vm10, vm11, vm12, vm13, vm14, vm15, vmC, vmN, Nat.reduceAdd, Nat.reduceMul, Nat.reduceSub, Nat.reduceEqDiff, Nat.reduceLT, Nat.reduceLeDiff, ↓reduceIte, Tg.isFull, Int.reduceToNat]
      · have e3 : (b.rate ≤ b.used) = False := eq_false c3
        have hr : rated b t = false := by simp [rated, c3]
        rw [hr]
        simp -dsimp (disch := first | rfl | omega) only [bP, bC, r64_0, r64_1, e1, e2, e3, hq, hw, ne_eq, not_false_eq_true, Int.reduceEq, ↓vmP, vm0, vm1, vm2, vm3, vm4, vm5, vm6, vm7, vm8, vm9, vm10, vm11, vm12, vm13, vm14, vm15, vmC, vmN, Nat.reduceAdd, Nat.reduceMul, Nat.reduceSub, Nat.reduceEqDiff, Nat.reduceLT, Nat.reduceLeDiff, ↓reduceIte, Tg.isFull, Int.reduceToNat]
        refine regD_of (by kernel_rfl) ?_
        simp -dsimp (disch := first | rfl | omega) only [bP, bC, ↓vmP, vm0, vm1, vm2, vm3, vm4, vm5, vm6, vm7, vm8, vm9, vm10, vm11, vm12, vm13, vm14, vm15, vmC, vmN, Nat.reduceAdd, Nat.reduceMul, Nat.reduceSub, Nat.reduceEqDiff, Nat.reduceLT, Nat.reduceLeDiff, ↓reduceIte, Tg.isFull, Int.reduceToNat]
    · have e2 : (q = b.window) = False := eq_false c2
      have hr : rated b t = false := by simp [rated, c2, hq]
      rw [hr]
      simp -dsimp (disch := first | rfl | omega) only [bP, bC, r64_0, r64_1, e1, e2, hq, hw, ne_eq, not_false_eq_true, Int.reduceEq, ↓vmP, vm0, vm1, vm2, vm3, vm4, vm5, vm6, vm7, vm8, vm9, vm10, vm11, vm12, vm13, vm14, vm15, vmC, vmN, Nat.reduceAdd, Nat.reduceMul, Nat.reduceSub, Nat.reduceEqDiff, Nat.reduceLT, Nat.reduceLeDiff, ↓reduceIte, Tg.isFull, Int.reduceToNat]
      refine regD_of (by kernel_rfl) ?_
      simp -dsimp (disch := first | rfl | omega) only [bP, bC, ↓vmP, vm0, vm1, vm2, vm3, vm4, vm5, vm6, vm7, vm8, vm9, vm10, vm11, vm12, vm13, vm14, vm15, vmC, vmN, Nat.reduceAdd, Nat.reduceMul, Nat.reduceSub, Nat.reduceEqDiff, Nat.reduceLT, Nat.reduceLeDiff, ↓reduceIte, Tg.isFull, Int.reduceToNat]
theorem W2_eq (b : Bk) (hs : Sm b) (f1 f2 f3 : Bool) (t n s : Int) (h0 : 0 ≤ n ∧ n ≤ 1000) : runW false prog 65 [.ptr 0 0, .d (.int .i64 t), .d (.int .i64 n), .d (.int .i64 s)] (bP b f1 f2 f3) = some (.d (.bool (fullB b n)), bP b f1 f2 f3, []) := by
  refine run_of rfl ?_
  have hr := hs.r
  have hq := hs.lq
  have hrl := recs_len b.queue
  have h1 := Pend_eq b f1 f2 f3
  have h2 := One_eq (pend b)
  have ho : (0 : Int) ≤ (if pend b then 1 else 0) ∧ (if pend b then (1 : Int) else 0) ≤ 1 := by split <;> omega
  have hf : fullB b n = decide (b.limit < b.queue.length + b.reserved + n + (if pend b then 1 else 0)) := rfl
  rw [hf]
  generalize (if pend b then (1 : Int) else 0) = v at h2 ho
  simp only [bP, bC] at h1
  simp -dsimp (disch := first | rfl | omega) only [bP, bC, r65_0, r65_1, callW_fn pgPend, callW_fn pgOne, h1, h2, hrl, ↓vmP, vm0, vm1, vm2, vm3, vm4, vm5, vm6, vm7, vm8, vm9, vm10, vm11, vm12, vm13, vm14, vm15, vmC, vmN, Nat.reduceAdd, Nat.reduceMul, Nat.reduceSub, Nat.reduceEqDiff, Nat.reduceLT, Nat.reduceLeDiff, ↓reduceIte, Tg.isFull, Int.reduceToNat]
  refine regD_of (by kernel_rfl) ?_
  simp -dsimp (disch := first | rfl | omega) only [bP, bC, ↓vmP, vm0, vm1, vm2, vm3, vm4, vm5, vm6, vm7, vm8, vm9, vm10, vm11, vm12, vm13, vm14, vm15, vmC, vmN, Nat.reduceAdd, Nat.reduceMul, Nat.reduceSub, Nat.reduceEqDiff, Nat.reduceLT, Nat.reduceLeDiff, ↓reduceIte, Tg.isFull, Int.reduceToNat]
theorem W3_eq (b : Bk) (hs : Sm b) (f1 f2 f3 : Bool) (t n s : Int) (h0 : 0 ≤ s ∧ s ≤ 2000000) : runW false prog 66 [.ptr 0 0, .d (.int .i64 t), .d (.int .i64 n), .d (.int .i64 s)] (bP b f1 f2 f3) = some (.d (.bool (stl b s)), bP b f1 f2 f3, []) := by
  refine run_of rfl ?_
  have h1 := Stalls_eq b hs f1 f2 f3 s h0
  simp only [bP, bC] at h1
  simp -dsimp (disch := first | rfl | omega) only [bP, bC, r66_0, r66_1, callW_fn pgStalls, h1, ↓vmP, vm0, vm1, vm2, vm3, vm4, vm5, vm6, vm7, vm8, vm9, vm10, vm11, vm12, vm13, vm14, vm15, vmC, vmN, Nat.reduceAdd, Nat.reduceMul, Nat.reduceSub, Nat.reduceEqDiff, Nat.reduceLT, Nat.reduceLeDiff, ↓reduceIte, Tg.isFull, Int.reduceToNat]
theorem pgW1 : prog 64 = some c64 := rfl
theorem pgW2 : prog 65 = some c65 := rfl
theorem pgW3 : prog 66 = some c66 := rfl
theorem reasons_eq : runW false prog 47 [] [] = some (.agg [.fn 64 [], .fn 65 [], .fn 66 []], [], []) := by
  refine run_of rfl ?_
  simp -dsimp (disch := first | rfl | omega) only [r47_0, r47_1, vmK, ↓vmP, vm0, vm1, vm2, vm3, vm4, vm5, vm6, vm7, vm8, vm9, vm10, vm11, vm12, vm13, vm14, vm15, vmC, vmN, Nat.reduceAdd, Nat.reduceMul, Nat.reduceSub, Nat.reduceEqDiff, Nat.reduceLT, Nat.reduceLeDiff, ↓reduceIte, Tg.isFull, Int.reduceToNat]
theorem pgReasons : prog 47 = some c47 := rfl
/-- The backlog and three numbers, as the closure holds them. -/
def bQ (b : Bk) (f1 f2 f3 : Bool) (t n s : Int) : List Chunk := bP b f1 f2 f3 ++ [.box [.d (.int .i64 t)], .box [.d (.int .i64 n)], .box [.d (.int .i64 s)]]
theorem V1_eq (b : Bk) (hs : Sm b) (f1 f2 f3 : Bool) (t n s : Int) (h0 : 0 ≤ t ∧ t ≤ 1099511627776) : runW false prog 49 [.fn 64 [], .ptr 0 0, .ptr 4 0, .ptr 5 0, .ptr 6 0] (bQ b f1 f2 f3 t n s) = some (.d (.bool (rated b t)), bQ b f1 f2 f3 t n s, []) := by
  refine run_of rfl ?_
  have h1 := W1_eq b f1 f2 f3 t n s h0
  simp only [bP, bC] at h1
  simp -dsimp (disch := first | rfl | omega) only [bQ, bP, bC, r49_0, r49_1, callW_fn pgW1, h1, ↓vmP, vm0, vm1, vm2, vm3, vm4, vm5, vm6, vm7, vm8, vm9, vm10, vm11, vm12, vm13, vm14, vm15, vmC, vmN, Nat.reduceAdd, Nat.reduceMul, Nat.reduceSub, Nat.reduceEqDiff, Nat.reduceLT, Nat.reduceLeDiff, ↓reduceIte, Tg.isFull, Int.reduceToNat]
theorem V2_eq (b : Bk) (hs : Sm b) (f1 f2 f3 : Bool) (t n s : Int) (h0 : 0 ≤ n ∧ n ≤ 1000) : runW false prog 49 [.fn 65 [], .ptr 0 0, .ptr 4 0, .ptr 5 0, .ptr 6 0] (bQ b f1 f2 f3 t n s) = some (.d (.bool (fullB b n)), bQ b f1 f2 f3 t n s, []) := by
  refine run_of rfl ?_
  have h1 := W2_eq b hs f1 f2 f3 t n s h0
  simp only [bP, bC] at h1
  simp -dsimp (disch := first | rfl | omega) only [bQ, bP, bC, r49_0, r49_1, callW_fn pgW2, h1, ↓vmP, vm0, vm1, vm2, vm3, vm4, vm5, vm6, vm7, vm8, vm9, vm10, vm11, vm12, vm13, vm14, vm15, vmC, vmN, Nat.reduceAdd, Nat.reduceMul, Nat.reduceSub, Nat.reduceEqDiff, Nat.reduceLT, Nat.reduceLeDiff, ↓reduceIte, Tg.isFull, Int.reduceToNat]
theorem V3_eq (b : Bk) (hs : Sm b) (f1 f2 f3 : Bool) (t n s : Int) (h0 : 0 ≤ s ∧ s ≤ 2000000) : runW false prog 49 [.fn 66 [], .ptr 0 0, .ptr 4 0, .ptr 5 0, .ptr 6 0] (bQ b f1 f2 f3 t n s) = some (.d (.bool (stl b s)), bQ b f1 f2 f3 t n s, []) := by
  refine run_of rfl ?_
  have h1 := W3_eq b hs f1 f2 f3 t n s h0
  simp only [bP, bC] at h1
  simp -dsimp (disch := first | rfl | omega) only [bQ, bP, bC, r49_0, r49_1, callW_fn pgW3, h1, ↓vmP, vm0, vm1, vm2, vm3, vm4, vm5, vm6, vm7, vm8, vm9, vm10, vm11, vm12, vm13, vm14, vm15, vmC, vmN, Nat.reduceAdd, Nat.reduceMul, Nat.reduceSub, Nat.reduceEqDiff, Nat.reduceLT, Nat.reduceLeDiff, ↓reduceIte, Tg.isFull, Int.reduceToNat]
theorem pgV : prog 49 = some c49 := rfl
def why (b : Bk) (t n s : Int) : Int := if rated b t then 0 else if fullB b n then 1 else if stl b s then 2 else -1
def bF (b : Bk) (f1 f2 f3 : Bool) (t n s : Int) : List Chunk := [.box [.fn 64 [], .fn 65 [], .fn 66 []], .box (bC b (.row 2) (.row 3) (.row 4)), .row 1 f1 (i64s b.op), .row 4 f2 (recs b.queue), .row 2 f3 (notes b.nts), .box [.d (.int .i64 t)], .box [.d (.int .i64 n)], .box [.d (.int .i64 s)]]
set_option maxRecDepth 20000 in
theorem Idx_eq (b : Bk) (hs : Sm b) (f1 f2 f3 : Bool) (t n s : Int) (h1 : 0 ≤ t ∧ t ≤ 1099511627776) (h2 : 0 ≤ n ∧ n ≤ 1000) (h3 : 0 ≤ s ∧ s ≤ 2000000) : runW false prog 48 [.bs 0 0 3 1, .fn 49 [.ptr 1 0, .ptr 5 0, .ptr 6 0, .ptr 7 0]] (bF b f1 f2 f3 t n s) = some (.d (.int .i64 (why b t n s)), bF b f1 f2 f3 t n s, []) := by
  refine run_of rfl ?_
  have v1 := V1_eq b hs f1 f2 f3 t n s h1
  have v2 := V2_eq b hs f1 f2 f3 t n s h2
  have v3 := V3_eq b hs f1 f2 f3 t n s h3
  simp only [bQ, bP, bC, List.cons_append, List.nil_append] at v1 v2 v3
  have hw : why b t n s = if rated b t then 0 else if fullB b n then 1 else if stl b s then 2 else -1 := rfl
  rw [hw]
  have i3 : ((3 : Nat) : Int) = 3 := rfl
  generalize rated b t = w1 at v1
  generalize fullB b n = w2 at v2
  generalize stl b s = w3 at v3
  simp -dsimp (disch := first | rfl | omega) only [bF, bC, r48_0, r48_1, ↓vmP, vm0, vm1, vm2, vm3, vm4, vm5, vm6, vm7, vm8, vm9, vm10, vm11, vm12, vm13, vm14, vm15, vmC, vmN, Nat.reduceAdd, Nat.reduceMul, Nat.reduceSub, Nat.reduceEqDiff, Nat.reduceLT, Nat.reduceLeDiff, ↓reduceIte, Tg.isFull, Int.reduceToNat]
  cases w1
  · cases w2
    · cases w3
      · refine wp_loop1 ?_
        generalize hJ : (fun s' => wpW false prog (.loop [(0, none), (1, none), (7, none), (8, none)] l48_7) s' _) = J
        unfold l48_7
        simp -dsimp (disch := first | rfl | omega) only [bF, bC, r48_2, r48_3, r48_4, r48_5, r48_6, callW_fn pgV, i3, v1, Int.reduceLT, Int.reduceAdd, Int.toNat_one, ↓vmP, vm0, vm1, vm2, vm3, vm4, vm5, vm6, vm7, vm8, vm9, vm10, vm11, vm12, vm13, vm14, vm15, vmC, vmN, Nat.reduceAdd, Nat.reduceMul, Nat.reduceSub, Nat.reduceEqDiff, Nat.reduceLT, Nat.reduceLeDiff, ↓reduceIte, Tg.isFull, Int.reduceToNat]
        try rw [← hJ]
        refine wp_loop1 ?_
        generalize hJ : (fun s' => wpW false prog (.loop [(0, none), (1, none), (7, none), (8, none)] l48_7) s' _) = J
        unfold l48_7
        simp -dsimp (disch := first | rfl | omega) only [bF, bC, r48_2, r48_3, r48_4, r48_5, r48_6, callW_fn pgV, i3, v2, Int.reduceLT, Int.reduceAdd, Int.toNat_one, ↓vmP, vm0, vm1, vm2, vm3, vm4, vm5, vm6, vm7, vm8, vm9, vm10, vm11, vm12, vm13, vm14, vm15, vmC, vmN, Nat.reduceAdd, Nat.reduceMul, Nat.reduceSub, Nat.reduceEqDiff, Nat.reduceLT, Nat.reduceLeDiff, ↓reduceIte, Tg.isFull, Int.reduceToNat]
        try rw [← hJ]
        refine wp_loop1 ?_
        generalize hJ : (fun s' => wpW false prog (.loop [(0, none), (1, none), (7, none), (8, none)] l48_7) s' _) = J
        unfold l48_7
        simp -dsimp (disch := first | rfl | omega) only [bF, bC, r48_2, r48_3, r48_4, r48_5, r48_6, callW_fn pgV, i3, v3, Int.reduceLT, Int.reduceAdd, Int.toNat_one, ↓vmP, vm0, vm1, vm2, vm3, vm4, vm5, vm6, vm7, vm8, vm9, vm10, vm11, vm12, vm13, vm14, vm15, vmC, vmN, Nat.reduceAdd, Nat.reduceMul, Nat.reduceSub, Nat.reduceEqDiff, Nat.reduceLT, Nat.reduceLeDiff, ↓reduceIte, Tg.isFull, Int.reduceToNat]
        try rw [← hJ]
        refine wp_loop1 ?_
        generalize hJ : (fun s' => wpW false prog (.loop [(0, none), (1, none), (7, none), (8, none)] l48_7) s' _) = J
        unfold l48_7
        simp -dsimp (disch := first | rfl | omega) only [bF, bC, r48_2, r48_3, r48_4, r48_5, r48_6, r48_8, i3, Int.reduceLT, ↓vmP, vm0, vm1, vm2, vm3, vm4, vm5, vm6, vm7, vm8, vm9, vm10, vm11, vm12, vm13, vm14, vm15, vmC, vmN, Nat.reduceAdd, Nat.reduceMul, Nat.reduceSub, Nat.reduceEqDiff, Nat.reduceLT, Nat.reduceLeDiff, ↓reduceIte, Tg.isFull, Int.reduceToNat]
      · refine wp_loop1 ?_
        generalize hJ : (fun s' => wpW false prog (.loop [(0, none), (1, none), (7, none), (8, none)] l48_7) s' _) = J
        unfold l48_7
        simp -dsimp (disch := first | rfl | omega) only [bF, bC, r48_2, r48_3, r48_4, r48_5, r48_6, callW_fn pgV, i3, v1, Int.reduceLT, Int.reduceAdd, Int.toNat_one, ↓vmP, vm0, vm1, vm2, vm3, vm4, vm5, vm6, vm7, vm8, vm9, vm10, vm11, vm12, vm13, vm14, vm15, vmC, vmN, Nat.reduceAdd, Nat.reduceMul, Nat.reduceSub, Nat.reduceEqDiff, Nat.reduceLT, Nat.reduceLeDiff, ↓reduceIte, Tg.isFull, Int.reduceToNat]
        try rw [← hJ]
        refine wp_loop1 ?_
        generalize hJ : (fun s' => wpW false prog (.loop [(0, none), (1, none), (7, none), (8, none)] l48_7) s' _) = J
        unfold l48_7
        simp -dsimp (disch := first | rfl | omega) only [bF, bC, r48_2, r48_3, r48_4, r48_5, r48_6, callW_fn pgV, i3, v2, Int.reduceLT, Int.reduceAdd, Int.toNat_one, ↓vmP, vm0, vm1, vm2, vm3, vm4, vm5, vm6, vm7, vm8, vm9, vm10, vm11, vm12, vm13, vm14, vm15, vmC, vmN, Nat.reduceAdd, Nat.reduceMul, Nat.reduceSub, Nat.reduceEqDiff, Nat.reduceLT, Nat.reduceLeDiff, ↓reduceIte, Tg.isFull, Int.reduceToNat]
        try rw [← hJ]
        refine wp_loop1 ?_
        generalize hJ : (fun s' => wpW false prog (.loop [(0, none), (1, none), (7, none), (8, none)] l48_7) s' _) = J
        unfold l48_7
        simp -dsimp (disch := first | rfl | omega) only [bF, bC, r48_2, r48_3, r48_4, r48_5, r48_6, callW_fn pgV, i3, v3, Int.reduceLT, Int.reduceAdd, Int.toNat_one, ↓vmP, vm0, vm1, vm2, vm3, vm4, vm5, vm6, vm7, vm8, vm9, vm10, vm11, vm12, vm13, vm14, vm15, vmC, vmN, Nat.reduceAdd, Nat.reduceMul, Nat.reduceSub, Nat.reduceEqDiff, Nat.reduceLT, Nat.reduceLeDiff, ↓reduceIte, Tg.isFull, Int.reduceToNat]
        try rw [← hJ]
    · refine wp_loop1 ?_
      generalize hJ : (fun s' => wpW false prog (.loop [(0, none), (1, none), (7, none), (8, none)] l48_7) s' _) = J
      unfold l48_7
      simp -dsimp (disch := first | rfl | omega) only [bF, bC, r48_2, r48_3, r48_4, r48_5, r48_6, callW_fn pgV, i3, v1, Int.reduceLT, Int.reduceAdd, Int.toNat_one, ↓vmP, vm0, vm1, vm2, vm3, vm4, vm5, vm6, vm7, vm8, vm9, vm10, vm11, vm12, vm13, vm14, vm15, vmC, vmN, Nat.reduceAdd, Nat.reduceMul, Nat.reduceSub, Nat.reduceEqDiff, Nat.reduceLT, Nat.reduceLeDiff, ↓reduceIte, Tg.isFull, Int.reduceToNat]
      try rw [← hJ]
      refine wp_loop1 ?_
      generalize hJ : (fun s' => wpW false prog (.loop [(0, none), (1, none), (7, none), (8, none)] l48_7) s' _) = J
      unfold l48_7
      simp -dsimp (disch := first | rfl | omega) only [bF, bC, r48_2, r48_3, r48_4, r48_5, r48_6, callW_fn pgV, i3, v2, Int.reduceLT, Int.reduceAdd, Int.toNat_one, ↓vmP, vm0, vm1, vm2, vm3, vm4, vm5, vm6, vm7, vm8, vm9, vm10, vm11, vm12, vm13, vm14, vm15, vmC, vmN, Nat.reduceAdd, Nat.reduceMul, Nat.reduceSub, Nat.reduceEqDiff, Nat.reduceLT, Nat.reduceLeDiff, ↓reduceIte, Tg.isFull, Int.reduceToNat]
      try rw [← hJ]
  · refine wp_loop1 ?_
    generalize hJ : (fun s' => wpW false prog (.loop [(0, none), (1, none), (7, none), (8, none)] l48_7) s' _) = J
    unfold l48_7
    simp -dsimp (disch := first | rfl | omega) only [bF, bC, r48_2, r48_3, r48_4, r48_5, r48_6, callW_fn pgV, i3, v1, Int.reduceLT, Int.reduceAdd, Int.toNat_one, ↓vmP, vm0, vm1, vm2, vm3, vm4, vm5, vm6, vm7, vm8, vm9, vm10, vm11, vm12, vm13, vm14, vm15, vmC, vmN, Nat.reduceAdd, Nat.reduceMul, Nat.reduceSub, Nat.reduceEqDiff, Nat.reduceLT, Nat.reduceLeDiff, ↓reduceIte, Tg.isFull, Int.reduceToNat]
    try rw [← hJ]
theorem pgIdx : prog 48 = some c48 := rfl
end Go.Vm.Bk
