/- A part of the proof of BacklogPlaysSaid: YtnihjdfbiddggaaFu. -/
import Derived.Test.YtnihjdfbiddggaaKFt
/- Backlogs: records taken, by the reference. -/
set_option linter.unusedVariables false
set_option linter.unusedSimpArgs false
set_option maxHeartbeats 1000000
namespace Go.Vm.Bk
theorem Take_eq (b : Bk) (z1 z2 z3 : Nat) (hz : Zk b z1 z2 z3) (hs : Sm b) (t n : Int) : runW false prog 26 [.agg (bA b z1 z2 z3), .d (.int .i64 t), .d (.int .i64 n)] [] = some (takR (takeB b t n) 4 4, [], []) := by
  by_cases h0 : takeM b.queue n = 0
  · exact Take_z b z1 z2 z3 hz hs t n h0
  · exact Take_s b z1 z2 z3 hz hs t n h0
theorem pgTake : prog 26 = some c26 := rfl
theorem RPendr_eq (b : Bk) (f1 f2 f3 : Bool) : runW false prog 36 [.agg (bC b (.row 0) (.row 1) (.row 2))] [.row 1 f1 (i64s b.op), .row 4 f2 (recs b.queue), .row 2 f3 (notes b.nts)] = some (.d (.bool (pend b)), [.row 1 f1 (i64s b.op), .row 4 f2 (recs b.queue), .row 2 f3 (notes b.nts)], []) := by
  refine run_of rfl ?_
  have he := eqs_z b.p0 b.p1 b.p2 b.p3 b.p4
  simp -dsimp (disch := first | rfl | omega) only [bA, bC, pend, r36_0, r36_1, he, vmK, ↓vmP, vm0, vm1, vm2, vm3, vm4, vm5, vm6, vm7, vm8, vm9, vm10, vm11, vm12, vm13, vm14, vm15, vmC, vmN, Nat.reduceAdd, Nat.reduceMul, Nat.reduceSub, Nat.reduceEqDiff, Nat.reduceLT, Nat.reduceLeDiff, ↓reduceIte, Tg.isFull, Int.reduceToNat]
theorem RPendn_eq (b : Bk) (f1 f3 : Bool) : runW false prog 36 [.agg (bC b (.row 0) (.d (.sl .nil 0 [])) (.row 1))] [.row 1 f1 (i64s b.op), .row 2 f3 (notes b.nts)] = some (.d (.bool (pend b)), [.row 1 f1 (i64s b.op), .row 2 f3 (notes b.nts)], []) := by
  refine run_of rfl ?_
  have he := eqs_z b.p0 b.p1 b.p2 b.p3 b.p4
  simp -dsimp (disch := first | rfl | omega) only [bA, bC, pend, r36_0, r36_1, he, vmK, ↓vmP, vm0, vm1, vm2, vm3, vm4, vm5, vm6, vm7, vm8, vm9, vm10, vm11, vm12, vm13, vm14, vm15, vmC, vmN, Nat.reduceAdd, Nat.reduceMul, Nat.reduceSub, Nat.reduceEqDiff, Nat.reduceLT, Nat.reduceLeDiff, ↓reduceIte, Tg.isFull, Int.reduceToNat]
set_option maxRecDepth 20000 in
theorem rtk_e (b b0 : Bk) (hs : Sm b) (z1 z2 z3 : Nat) (t : Int) (f1 f2 f3 : Bool) (m : Nat) (h0 : b.queue = []) (N : Nat) (Q : Ex → St → Prop)
    (hq : Q .normal ⟨gS [(1, .d (.int .i64 t)), (6, .ptr 8 0), (8, .ptr 40 0), (9, .sub 33 0 m false), (71, .d (.bool (okTake b t)))], gH [(40, .box (bC b (.row 32) (.d (.sl .nil 0 [])) (.row 34))), (40, .box (bC b0 (.row 32) (.row 33) (.row 34))), (40, .box zB), (34, .row 2 f3 (notes b.nts)), (33, .row 4 f2 (recs b0.queue)), (32, .row 1 f1 (i64s b.op)), (8, .box zB), (0, .box (bA b0 z1 z2 z3))], N, 0, []⟩) :
    opsD false (callW false prog) 216 r61_5 0 ⟨gS [(1, .d (.int .i64 t)), (6, .ptr 8 0), (8, .ptr 40 0), (9, .sub 33 0 m false)], gH [(40, .box (bC b (.row 32) (.d (.sl .nil 0 [])) (.row 34))), (40, .box (bC b0 (.row 32) (.row 33) (.row 34))), (40, .box zB), (34, .row 2 f3 (notes b.nts)), (33, .row 4 f2 (recs b0.queue)), (32, .row 1 f1 (i64s b.op)), (8, .box zB), (0, .box (bA b0 z1 z2 z3))], 216, 0, []⟩ [] (regD (some [1, 6, 8, 9, 71]) N Q) := by
  have hser := hs.s
  have hres := hs.r
  have hlq := hs.lq
  have hrl := recs_len b.queue
  have hil := i64s_len b.op
  have hlo := hs.lo
  have hoo := hs.oo
  have hpe := RPendn_eq b f1 f3
  have e9 : (b.serial ≤ 1073741821) = True := eq_true (by omega)
  have hl0 : (b.queue.length : Int) = ((0 : Nat) : Int) := by rw [h0]; rfl
  have hok : okTake b t = (pend b && decide ((b.queue.length : Int) + b.reserved < b.limit) && !late t && !stl b (b.serial + 1)) := rfl
  rw [hok] at hq
  clear hok
  simp only [bC] at hpe
  simp only [bA, bC, zB] at hq ⊢
  cases h1 : pend b with
  | false =>
    rw [h1] at hpe hq
    simp only [Bool.false_and] at hq
    simp -dsimp (disch := first | rfl | omega) only [r61_5, callW_fn pgRPend, hpe, vmK, ↓vmP, vm0, vm1, vm2, vm3, vm4, vm5, vm6, vm7, vm8, vm9, vm10, vm11, vm12, vm13, vm14, vm15, vmC, vmN, Nat.reduceAdd, Nat.reduceMul, Nat.reduceSub, Nat.reduceEqDiff, Nat.reduceLT, Nat.reduceLeDiff, ↓reduceIte, Tg.isFull, Int.reduceToNat]
    refine regD_of (by kernel_rfl) ?_
    simp -dsimp (disch := first | rfl | omega) only [bA, ↓vmP, vm0, vm1, vm2, vm3, vm4, vm5, vm6, vm7, vm8, vm9, vm10, vm11, vm12, vm13, vm14, vm15, vmC, vmN, Nat.reduceAdd, Nat.reduceMul, Nat.reduceSub, Nat.reduceEqDiff, Nat.reduceLT, Nat.reduceLeDiff, ↓reduceIte, Tg.isFull, Int.reduceToNat]
    exact hq
  | true =>
    rw [h1] at hpe hq
    by_cases h2 : (b.queue.length : Int) + b.reserved < b.limit
    · rw [decide_eq_true h2] at hq
      rw [hl0] at h2
      have e2 := eq_true h2
      by_cases h3 : 0 ≤ t
      · have e3 : (0 ≤ t) = True := eq_true h3
        by_cases h4 : t ≤ 1099511627776
        · have e4 : (t ≤ 1099511627776) = True := eq_true h4
          have hl : late t = false := by simp only [late, decide_eq_false_iff_not]; omega
          rw [hl] at hq
          cases hop : b.op with
          | nil =>
            have hst : stl b (b.serial + 1) = false := by simp [stl, hop]
            rw [hst] at hq
            simp only [Bool.not_false, Bool.and_self] at hq
            rw [hop] at hil hq
            rw [i64s_nil] at hil hq
            rw [hop, i64s_nil] at hpe
            have e5 : ((0 : Nat) : Int) = 0 := rfl
            try rw [e5] at e2
            simp -dsimp (disch := first | rfl | omega) only [r61_5, callW_fn pgRPend, hpe, hop, i64s_nil, hrl, e2, e3, e4, e5, e9, vmK, ↓vmP, vm0, vm1, vm2, vm3, vm4, vm5, vm6, vm7, vm8, vm9, vm10, vm11, vm12, vm13, vm14, vm15, vmC, vmN, Nat.reduceAdd, Nat.reduceMul, Nat.reduceSub, Nat.reduceEqDiff, Nat.reduceLT, Nat.reduceLeDiff, ↓reduceIte, Tg.isFull, Int.reduceToNat]
            refine regD_of (by kernel_rfl) ?_
            simp -dsimp (disch := first | rfl | omega) only [bA, ↓vmP, vm0, vm1, vm2, vm3, vm4, vm5, vm6, vm7, vm8, vm9, vm10, vm11, vm12, vm13, vm14, vm15, vmC, vmN, Nat.reduceAdd, Nat.reduceMul, Nat.reduceSub, Nat.reduceEqDiff, Nat.reduceLT, Nat.reduceLeDiff, ↓reduceIte, Tg.isFull, Int.reduceToNat]
            exact hq
          | cons x l =>
            have hx := hoo x (by rw [hop]; exact List.mem_cons_self ..)
            have hst : stl b (b.serial + 1) = decide (64 ≤ b.serial + 1 - x) := by simp [stl, hop]
            have hsd : (!decide (64 ≤ b.serial + 1 - x)) = decide (b.serial + 1 - x < 64) := by
              by_cases h : 64 ≤ b.serial + 1 - x
              · rw [decide_eq_true h, decide_eq_false (by omega)]; rfl
              · rw [decide_eq_false h, decide_eq_true (by omega)]; rfl
            rw [hst, hsd] at hq
            simp only [Bool.not_false, Bool.and_true, Bool.true_and] at hq
            have e5 : (((x :: l).length : Int) = 0) = False := eq_false (by rw [List.length_cons]; omega)
            have hat : (i64s (x :: l))[0]? = some [.int .i64 x] := rfl
            have hl2 : 0 < (x :: l).length := Nat.succ_pos _
            rw [hop] at hil hlo hq
            rw [hop] at hpe
            generalize i64s (x :: l) = X at hat hil hq hpe
            generalize (x :: l).length = n' at hil e5 hl2 hlo
            subst hil
            simp -dsimp (disch := first | rfl | omega) only [r61_5, callW_fn pgRPend, hpe, hop, hrl, e2, e3, e4, e5, e9, hat, vmK, ↓vmP, vm0, vm1, vm2, vm3, vm4, vm5, vm6, vm7, vm8, vm9, vm10, vm11, vm12, vm13, vm14, vm15, vmC, vmN, Nat.reduceAdd, Nat.reduceMul, Nat.reduceSub, Nat.reduceEqDiff, Nat.reduceLT, Nat.reduceLeDiff, ↓reduceIte, Tg.isFull, Int.reduceToNat]
            refine regD_of (by kernel_rfl) ?_
            simp -dsimp (disch := first | rfl | omega) only [bA, ↓vmP, vm0, vm1, vm2, vm3, vm4, vm5, vm6, vm7, vm8, vm9, vm10, vm11, vm12, vm13, vm14, vm15, vmC, vmN, Nat.reduceAdd, Nat.reduceMul, Nat.reduceSub, Nat.reduceEqDiff, Nat.reduceLT, Nat.reduceLeDiff, ↓reduceIte, Tg.isFull, Int.reduceToNat]
            exact hq
        · have e4 : (t ≤ 1099511627776) = False := eq_false h4
          have hl : late t = true := by simp only [late, decide_eq_true_eq]; omega
          rw [hl] at hq
          simp only [Bool.not_true, Bool.and_false, Bool.false_and] at hq
          simp -dsimp (disch := first | rfl | omega) only [r61_5, callW_fn pgRPend, hpe, hrl, e2, e3, e4, e9, vmK, ↓vmP, vm0, vm1, vm2, vm3, vm4, vm5, vm6, vm7, vm8, vm9, vm10, vm11, vm12, vm13, vm14, vm15, vmC, vmN, Nat.reduceAdd, Nat.reduceMul, Nat.reduceSub, Nat.reduceEqDiff, Nat.reduceLT, Nat.reduceLeDiff, ↓reduceIte, Tg.isFull, Int.reduceToNat]
          refine regD_of (by kernel_rfl) ?_
          simp -dsimp (disch := first | rfl | omega) only [bA, ↓vmP, vm0, vm1, vm2, vm3, vm4, vm5, vm6, vm7, vm8, vm9, vm10, vm11, vm12, vm13, vm14, vm15, vmC, vmN, Nat.reduceAdd, Nat.reduceMul, Nat.reduceSub, Nat.reduceEqDiff, Nat.reduceLT, Nat.reduceLeDiff, ↓reduceIte, Tg.isFull, Int.reduceToNat]
          exact hq
      · have e3 : (0 ≤ t) = False := eq_false h3
        have hl : late t = true := by simp only [late, decide_eq_true_eq]; omega
        rw [hl] at hq
        simp only [Bool.not_true, Bool.and_false, Bool.false_and] at hq
        simp -dsimp (disch := first | rfl | omega) only [r61_5, callW_fn pgRPend, hpe, hrl, e2, e3, e9, vmK, ↓vmP, vm0, vm1, vm2, vm3, vm4, vm5, vm6, vm7, vm8, vm9, vm10, vm11, vm12, vm13, vm14, vm15, vmC, vmN, Nat.reduceAdd, Nat.reduceMul, Nat.reduceSub, Nat.reduceEqDiff, Nat.reduceLT, Nat.reduceLeDiff, ↓reduceIte, Tg.isFull, Int.reduceToNat]
        refine regD_of (by kernel_rfl) ?_
        simp -dsimp (disch := first | rfl | omega) only [bA, ↓vmP, vm0, vm1, vm2, vm3, vm4, vm5, vm6, vm7, vm8, vm9, vm10, vm11, vm12, vm13, vm14, vm15, vmC, vmN, Nat.reduceAdd, Nat.reduceMul, Nat.reduceSub, Nat.reduceEqDiff, Nat.reduceLT, Nat.reduceLeDiff, ↓reduceIte, Tg.isFull, Int.reduceToNat]
        exact hq
    · rw [decide_eq_false h2] at hq
      rw [hl0] at h2
      have e2 := eq_false h2
      simp only [Bool.and_false, Bool.false_and] at hq
      simp -dsimp (disch := first | rfl | omega) only [r61_5, callW_fn pgRPend, hpe, hrl, e2, vmK, ↓vmP, vm0, vm1, vm2, vm3, vm4, vm5, vm6, vm7, vm8, vm9, vm10, vm11, vm12, vm13, vm14, vm15, vmC, vmN, Nat.reduceAdd, Nat.reduceMul, Nat.reduceSub, Nat.reduceEqDiff, Nat.reduceLT, Nat.reduceLeDiff, ↓reduceIte, Tg.isFull, Int.reduceToNat]
      refine regD_of (by kernel_rfl) ?_
      simp -dsimp (disch := first | rfl | omega) only [bA, ↓vmP, vm0, vm1, vm2, vm3, vm4, vm5, vm6, vm7, vm8, vm9, vm10, vm11, vm12, vm13, vm14, vm15, vmC, vmN, Nat.reduceAdd, Nat.reduceMul, Nat.reduceSub, Nat.reduceEqDiff, Nat.reduceLT, Nat.reduceLeDiff, ↓reduceIte, Tg.isFull, Int.reduceToNat]
      exact hq
set_option maxRecDepth 20000 in
theorem rtk_n (b b0 : Bk) (hs : Sm b) (z1 z2 z3 : Nat) (t : Int) (f1 f2 f3 : Bool) (m : Nat) (N : Nat) (Q : Ex → St → Prop)
    (hq : Q .normal ⟨gS [(1, .d (.int .i64 t)), (6, .ptr 8 0), (8, .ptr 40 0), (9, .sub 33 0 m false), (71, .d (.bool (okTake b t)))], gH [(40, .box (bC b (.row 32) (.row 192) (.row 34))), (192, .row 4 false (recs b.queue)), (40, .box (bC b0 (.row 32) (.row 33) (.row 34))), (40, .box zB), (34, .row 2 f3 (notes b.nts)), (33, .row 4 f2 (recs b0.queue)), (32, .row 1 f1 (i64s b.op)), (8, .box zB), (0, .box (bA b0 z1 z2 z3))], N, 0, []⟩) :
    opsD false (callW false prog) 216 r61_5 0 ⟨gS [(1, .d (.int .i64 t)), (6, .ptr 8 0), (8, .ptr 40 0), (9, .sub 33 0 m false)], gH [(40, .box (bC b (.row 32) (.row 192) (.row 34))), (192, .row 4 false (recs b.queue)), (40, .box (bC b0 (.row 32) (.row 33) (.row 34))), (40, .box zB), (34, .row 2 f3 (notes b.nts)), (33, .row 4 f2 (recs b0.queue)), (32, .row 1 f1 (i64s b.op)), (8, .box zB), (0, .box (bA b0 z1 z2 z3))], 216, 0, []⟩ [] (regD (some [1, 6, 8, 9, 71]) N Q) := by
  have hser := hs.s
  have hres := hs.r
  have hlq := hs.lq
  have hrl := recs_len b.queue
  have hil := i64s_len b.op
  have hlo := hs.lo
  have hoo := hs.oo
  have hpe := RPendr_eq b f1 false f3
  have e9 : (b.serial ≤ 1073741821) = True := eq_true (by omega)
  have hok : okTake b t = (pend b && decide ((b.queue.length : Int) + b.reserved < b.limit) && !late t && !stl b (b.serial + 1)) := rfl
  rw [hok] at hq
  clear hok
  simp only [bC] at hpe
  simp only [bA, bC, zB] at hq ⊢
  cases h1 : pend b with
  | false =>
    rw [h1] at hpe hq
    simp only [Bool.false_and] at hq
    simp -dsimp (disch := first | rfl | omega) only [r61_5, callW_fn pgRPend, hpe, vmK, ↓vmP, vm0, vm1, vm2, vm3, vm4, vm5, vm6, vm7, vm8, vm9, vm10, vm11, vm12, vm13, vm14, vm15, vmC, vmN, Nat.reduceAdd, Nat.reduceMul, Nat.reduceSub, Nat.reduceEqDiff, Nat.reduceLT, Nat.reduceLeDiff, ↓reduceIte, Tg.isFull, Int.reduceToNat]
    refine regD_of (by kernel_rfl) ?_
    simp -dsimp (disch := first | rfl | omega) only [bA, ↓vmP, vm0, vm1, vm2, vm3, vm4, vm5, vm6, vm7, vm8, vm9, vm10, vm11, vm12, vm13, vm14, vm15, vmC, vmN, Nat.reduceAdd, Nat.reduceMul, Nat.reduceSub, Nat.reduceEqDiff, Nat.reduceLT, Nat.reduceLeDiff, ↓reduceIte, Tg.isFull, Int.reduceToNat]
    exact hq
  | true =>
    rw [h1] at hpe hq
    by_cases h2 : (b.queue.length : Int) + b.reserved < b.limit
    · rw [decide_eq_true h2] at hq
      skip
      have e2 := eq_true h2
      by_cases h3 : 0 ≤ t
      · have e3 : (0 ≤ t) = True := eq_true h3
        by_cases h4 : t ≤ 1099511627776
        · have e4 : (t ≤ 1099511627776) = True := eq_true h4
          have hl : late t = false := by simp only [late, decide_eq_false_iff_not]; omega
          rw [hl] at hq
          cases hop : b.op with
          | nil =>
            have hst : stl b (b.serial + 1) = false := by simp [stl, hop]
            rw [hst] at hq
            simp only [Bool.not_false, Bool.and_self] at hq
            rw [hop] at hil hq
            rw [i64s_nil] at hil hq
            rw [hop, i64s_nil] at hpe
            have e5 : ((0 : Nat) : Int) = 0 := rfl
            try rw [e5] at e2
            simp -dsimp (disch := first | rfl | omega) only [r61_5, callW_fn pgRPend, hpe, hop, i64s_nil, hrl, e2, e3, e4, e5, e9, vmK, ↓vmP, vm0, vm1, vm2, vm3, vm4, vm5, vm6, vm7, vm8, vm9, vm10, vm11, vm12, vm13, vm14, vm15, vmC, vmN, Nat.reduceAdd, Nat.reduceMul, Nat.reduceSub, Nat.reduceEqDiff, Nat.reduceLT, Nat.reduceLeDiff, ↓reduceIte, Tg.isFull, Int.reduceToNat]
            refine regD_of (by kernel_rfl) ?_
            simp -dsimp (disch := first | rfl | omega) only [bA, ↓vmP, vm0, vm1, vm2, vm3, vm4, vm5, vm6, vm7, vm8, vm9, vm10, vm11, vm12, vm13, vm14, vm15, vmC, vmN, Nat.reduceAdd, Nat.reduceMul, Nat.reduceSub, Nat.reduceEqDiff, Nat.reduceLT, Nat.reduceLeDiff, ↓reduceIte, Tg.isFull, Int.reduceToNat]
            exact hq
          | cons x l =>
            have hx := hoo x (by rw [hop]; exact List.mem_cons_self ..)
            have hst : stl b (b.serial + 1) = decide (64 ≤ b.serial + 1 - x) := by simp [stl, hop]
            have hsd : (!decide (64 ≤ b.serial + 1 - x)) = decide (b.serial + 1 - x < 64) := by
              by_cases h : 64 ≤ b.serial + 1 - x
              · rw [decide_eq_true h, decide_eq_false (by omega)]; rfl
              · rw [decide_eq_false h, decide_eq_true (by omega)]; rfl
            rw [hst, hsd] at hq
            simp only [Bool.not_false, Bool.and_true, Bool.true_and] at hq
            have e5 : (((x :: l).length : Int) = 0) = False := eq_false (by rw [List.length_cons]; omega)
            have hat : (i64s (x :: l))[0]? = some [.int .i64 x] := rfl
            have hl2 : 0 < (x :: l).length := Nat.succ_pos _
            rw [hop] at hil hlo hq
            rw [hop] at hpe
            generalize i64s (x :: l) = X at hat hil hq hpe
            generalize (x :: l).length = n' at hil e5 hl2 hlo
            subst hil
            simp -dsimp (disch := first | rfl | omega) only [r61_5, callW_fn pgRPend, hpe, hop, hrl, e2, e3, e4, e5, e9, hat, vmK, ↓vmP, vm0, vm1, vm2, vm3, vm4, vm5, vm6, vm7, vm8, vm9, vm10, vm11, vm12, vm13, vm14, vm15, vmC, vmN, Nat.reduceAdd, Nat.reduceMul, Nat.reduceSub, Nat.reduceEqDiff, Nat.reduceLT, Nat.reduceLeDiff, ↓reduceIte, Tg.isFull, Int.reduceToNat]
            refine regD_of (by kernel_rfl) ?_
            simp -dsimp (disch := first | rfl | omega) only [bA, ↓vmP, vm0, vm1, vm2, vm3, vm4, vm5, vm6, vm7, vm8, vm9, vm10, vm11, vm12, vm13, vm14, vm15, vmC, vmN, Nat.reduceAdd, Nat.reduceMul, Nat.reduceSub, Nat.reduceEqDiff, Nat.reduceLT, Nat.reduceLeDiff, ↓reduceIte, Tg.isFull, Int.reduceToNat]
            exact hq
        · have e4 : (t ≤ 1099511627776) = False := eq_false h4
          have hl : late t = true := by simp only [late, decide_eq_true_eq]; omega
          rw [hl] at hq
          simp only [Bool.not_true, Bool.and_false, Bool.false_and] at hq
          simp -dsimp (disch := first | rfl | omega) only [r61_5, callW_fn pgRPend, hpe, hrl, e2, e3, e4, e9, vmK, ↓vmP, vm0, vm1, vm2, vm3, vm4, vm5, vm6, vm7, vm8, vm9, vm10, vm11, vm12, vm13, vm14, vm15, vmC, vmN, Nat.reduceAdd, Nat.reduceMul, Nat.reduceSub, Nat.reduceEqDiff, Nat.reduceLT, Nat.reduceLeDiff, ↓reduceIte, Tg.isFull, Int.reduceToNat]
          refine regD_of (by kernel_rfl) ?_
          simp -dsimp (disch := first | rfl | omega) only [bA, ↓vmP, vm0, vm1, vm2, vm3, vm4, vm5, vm6, vm7, vm8, vm9, vm10, vm11, vm12, vm13, vm14, vm15, vmC, vmN, Nat.reduceAdd, Nat.reduceMul, Nat.reduceSub, Nat.reduceEqDiff, Nat.reduceLT, Nat.reduceLeDiff, ↓reduceIte, Tg.isFull, Int.reduceToNat]
          exact hq
      · have e3 : (0 ≤ t) = False := eq_false h3
        have hl : late t = true := by simp only [late, decide_eq_true_eq]; omega
        rw [hl] at hq
        simp only [Bool.not_true, Bool.and_false, Bool.false_and] at hq
        simp -dsimp (disch := first | rfl | omega) only [r61_5, callW_fn pgRPend, hpe, hrl, e2, e3, e9, vmK, ↓vmP, vm0, vm1, vm2, vm3, vm4, vm5, vm6, vm7, vm8, vm9, vm10, vm11, vm12, vm13, vm14, vm15, vmC, vmN, Nat.reduceAdd, Nat.reduceMul, Nat.reduceSub, Nat.reduceEqDiff, Nat.reduceLT, Nat.reduceLeDiff, ↓reduceIte, Tg.isFull, Int.reduceToNat]
        refine regD_of (by kernel_rfl) ?_
        simp -dsimp (disch := first | rfl | omega) only [bA, ↓vmP, vm0, vm1, vm2, vm3, vm4, vm5, vm6, vm7, vm8, vm9, vm10, vm11, vm12, vm13, vm14, vm15, vmC, vmN, Nat.reduceAdd, Nat.reduceMul, Nat.reduceSub, Nat.reduceEqDiff, Nat.reduceLT, Nat.reduceLeDiff, ↓reduceIte, Tg.isFull, Int.reduceToNat]
        exact hq
    · rw [decide_eq_false h2] at hq
      skip
      have e2 := eq_false h2
      simp only [Bool.and_false, Bool.false_and] at hq
      simp -dsimp (disch := first | rfl | omega) only [r61_5, callW_fn pgRPend, hpe, hrl, e2, vmK, ↓vmP, vm0, vm1, vm2, vm3, vm4, vm5, vm6, vm7, vm8, vm9, vm10, vm11, vm12, vm13, vm14, vm15, vmC, vmN, Nat.reduceAdd, Nat.reduceMul, Nat.reduceSub, Nat.reduceEqDiff, Nat.reduceLT, Nat.reduceLeDiff, ↓reduceIte, Tg.isFull, Int.reduceToNat]
      refine regD_of (by kernel_rfl) ?_
      simp -dsimp (disch := first | rfl | omega) only [bA, ↓vmP, vm0, vm1, vm2, vm3, vm4, vm5, vm6, vm7, vm8, vm9, vm10, vm11, vm12, vm13, vm14, vm15, vmC, vmN, Nat.reduceAdd, Nat.reduceMul, Nat.reduceSub, Nat.reduceEqDiff, Nat.reduceLT, Nat.reduceLeDiff, ↓reduceIte, Tg.isFull, Int.reduceToNat]
      exact hq
set_option maxRecDepth 20000 in
theorem RTelln_eq (b : Bk) (hs : Sm b) (h0 : b.queue = []) (f1 f3 : Bool) (t : Int) : runW false prog 38 [.ptr 0 0, .d (.int .i64 t)] [.box (bC b (.row 1) (.d (.sl .nil 0 [])) (.row 2)), .row 1 f1 (i64s b.op), .row 2 f3 (notes b.nts)] =
    some (.tup [], [.box (bC (tellB b t) (.row 1) (.row 3) (.row 2)), .row 1 f1 (i64s b.op), .row 2 f3 (notes b.nts), .row 4 false (recs (tellB b t).queue)], [0]) := by
  refine run_of rfl ?_
  have h1 := RLoss_eq b.p0 b.p1 b.p2 b.p3 b.p4 t
  have hser := hs.s
  have h2 := RStamp_eq [lossR b.p0 b.p1 b.p2 b.p3 b.p4 t 0] (by simp) (fun r hr => by simp at hr; subst hr; simp [lossR, lossP]) 4 rfl (b.serial + 1)
  rw [List.map_cons, List.map_nil, lossR_stp] at h2
  have h3 := recs_one (lossR b.p0 b.p1 b.p2 b.p3 b.p4 t 0)
  have h4 : recs [lossR b.p0 b.p1 b.p2 b.p3 b.p4 t (b.serial + 1)] = recs (tellB b t).queue := by show _ = recs (b.queue ++ _); rw [h0]; rfl
  have h5 : (recs [lossR b.p0 b.p1 b.p2 b.p3 b.p4 t (b.serial + 1)]).isEmpty = false := rfl
  have h6 : (recs [lossR b.p0 b.p1 b.p2 b.p3 b.p4 t (b.serial + 1)]).length = 1 := rfl
  rw [h4] at h2 h5 h6
  simp only [recA] at h1
  generalize lossR b.p0 b.p1 b.p2 b.p3 b.p4 t 0 = r0 at h1 h2 h3
  generalize recs [r0] = X0 at h2 h3
  generalize recs (tellB b t).queue = X1 at h2 h5 h6 ⊢
  simp -dsimp (disch := first | rfl | omega) only [bC, tellB, r38_0, r38_1, callW_fn pgRLoss, callW_fn pgStamp, h1, h2, h3, h5, h6, ↓vmP, vm0, vm1, vm2, vm3, vm4, vm5, vm6, vm7, vm8, vm9, vm10, vm11, vm12, vm13, vm14, vm15, vmC, vmN, Nat.reduceAdd, Nat.reduceMul, Nat.reduceSub, Nat.reduceEqDiff, Nat.reduceLT, Nat.reduceLeDiff, ↓reduceIte, Tg.isFull, Int.reduceToNat]
  refine regD_of (by kernel_rfl) ?_
  simp -dsimp (disch := first | rfl | omega) only [bC, tellB, r38_2, ↓vmP, vm0, vm1, vm2, vm3, vm4, vm5, vm6, vm7, vm8, vm9, vm10, vm11, vm12, vm13, vm14, vm15, vmC, vmN, Nat.reduceAdd, Nat.reduceMul, Nat.reduceSub, Nat.reduceEqDiff, Nat.reduceLT, Nat.reduceLeDiff, ↓reduceIte, Tg.isFull, Int.reduceToNat]
theorem ru0 : r61_0.length = 3 := rfl
theorem ru1 : r61_1.length = 4 := rfl
theorem ru2 : r61_2.length = 7 := rfl
theorem ru3 : r61_3.length = 6 := rfl
theorem ru4 : r61_4.length = 7 := rfl
theorem ru5 : r61_5.length = 43 := rfl
def tkz (l : List Rec) : Nat := if l.isEmpty then 0 else 4
set_option maxRecDepth 20000 in
theorem RTake_e (b : Bk) (z1 z2 z3 : Nat) (hz : Zk b z1 z2 z3) (hs : Sm b) (t n : Int) (h0 : b.queue.drop (takeM b.queue n) = []) : runW false prog 61 [.agg (bA b z1 z2 z3), .d (.int .i64 t), .d (.int .i64 n)] [] = some (takR (takeB b t n) (tkz (takeB b t n).1.queue) 4, [], []) := by
  have h1 := Copy_eq b z1 z2 z3 hz hs
  have hrl := recs_len b.queue
  have hm := takeM_if b.queue n
  have hle := takeM_le b.queue n
  have hd0 : ((recs b.queue).drop (takeM b.queue n)).take (b.queue.length - takeM b.queue n) = [] := by rw [recs_drop, h0]; simp [recs]
  simp only [bP, bA, bC, bH] at h1
  have hsc : Sm (cutB b n) := ⟨hs.s, hs.r, hs.p, hs.u, hs.l, hs.lo, by have := hs.lq; show (b.queue.drop _).length ≤ _; rw [List.length_drop]; omega, hs.ln, fun r hr => hs.lp r (List.mem_of_mem_drop hr), hs.oo⟩
  have hcq : (cutB b n).queue = [] := h0
  have hcr : recs (cutB b n).queue = [] := by rw [hcq]; rfl
  have htk : takeB b t n = (if okTake (cutB b n) t then tellB (cutB b n) t else cutB b n, b.queue.take (takeM b.queue n)) := rfl
  have hrt := recs_take b.queue (takeM b.queue n)
  rw [htk]
  have ht := RTelln_eq (cutB b n) hsc hcq b.op.isEmpty b.nts.isEmpty t
  have hh := fun N Q => rtk_e (cutB b n) b hsc z1 z2 z3 t b.op.isEmpty b.queue.isEmpty b.nts.isEmpty (takeM b.queue n) hcq N Q
  have g1 : (tellB (cutB b n) t).op = (cutB b n).op := rfl
  have g2 : (tellB (cutB b n) t).nts = (cutB b n).nts := rfl
  have g3 : (tellB (cutB b n) t).queue.isEmpty = false := by simp [tellB]
  simp only [bC] at ht
  cases hok : okTake (cutB b n) t with
  | false =>
    rw [hok] at hh
    simp only [takR, tkz, hcq, List.isEmpty_nil, Bool.false_eq_true, if_false, if_true, recs_nil]
    refine run_of rfl ?_
    simp -dsimp (disch := first | rfl | omega) only [bA, bC, bH, r61_0, r61_1, r61_2, r61_3, r61_4, callW_fn pgCopy, h1, hrl, hm, hd0, ↓vmP, vm0, vm1, vm2, vm3, vm4, vm5, vm6, vm7, vm8, vm9, vm10, vm11, vm12, vm13, vm14, vm15, vmC, vmN, Nat.reduceAdd, Nat.reduceMul, Nat.reduceSub, Nat.reduceEqDiff, Nat.reduceLT, Nat.reduceLeDiff, ↓reduceIte, Tg.isFull, Int.reduceToNat]
    refine hh _ _ ?_
    simp -dsimp (disch := first | rfl | omega) only [bA, bC, zB, ru0, ru1, ru2, ru3, ru4, ru5, r61_6, r61_7, hrt, hcr, ↓vmP, vm0, vm1, vm2, vm3, vm4, vm5, vm6, vm7, vm8, vm9, vm10, vm11, vm12, vm13, vm14, vm15, vmC, vmN, Nat.reduceAdd, Nat.reduceMul, Nat.reduceSub, Nat.reduceEqDiff, Nat.reduceLT, Nat.reduceLeDiff, ↓reduceIte, Tg.isFull, Int.reduceToNat]
    try rfl
  | true =>
    rw [hok] at hh
    simp only [takR, tkz, g3, Bool.false_eq_true, if_false, if_true]
    refine run_of rfl ?_
    simp -dsimp (disch := first | rfl | omega) only [bA, bC, bH, r61_0, r61_1, r61_2, r61_3, r61_4, callW_fn pgCopy, h1, hrl, hm, hd0, ↓vmP, vm0, vm1, vm2, vm3, vm4, vm5, vm6, vm7, vm8, vm9, vm10, vm11, vm12, vm13, vm14, vm15, vmC, vmN, Nat.reduceAdd, Nat.reduceMul, Nat.reduceSub, Nat.reduceEqDiff, Nat.reduceLT, Nat.reduceLeDiff, ↓reduceIte, Tg.isFull, Int.reduceToNat]
    refine hh _ _ ?_
    simp -dsimp (disch := first | rfl | omega) only [bA, bC, zB, ru0, ru1, ru2, ru3, ru4, ru5, r61_6, r61_7, callW_fn pgRTell, ht, hrt, g1, g2, ↓vmP, vm0, vm1, vm2, vm3, vm4, vm5, vm6, vm7, vm8, vm9, vm10, vm11, vm12, vm13, vm14, vm15, vmC, vmN, Nat.reduceAdd, Nat.reduceMul, Nat.reduceSub, Nat.reduceEqDiff, Nat.reduceLT, Nat.reduceLeDiff, ↓reduceIte, Tg.isFull, Int.reduceToNat]
    try rfl
set_option maxRecDepth 20000 in
theorem RTake_n (b : Bk) (z1 z2 z3 : Nat) (hz : Zk b z1 z2 z3) (hs : Sm b) (t n : Int) (h0 : b.queue.drop (takeM b.queue n) ≠ []) : runW false prog 61 [.agg (bA b z1 z2 z3), .d (.int .i64 t), .d (.int .i64 n)] [] = some (takR (takeB b t n) (tkz (takeB b t n).1.queue) 4, [], []) := by
  have h1 := Copy_eq b z1 z2 z3 hz hs
  have hrl := recs_len b.queue
  have hm := takeM_if b.queue n
  have hle := takeM_le b.queue n
  have hd0 : ((recs b.queue).drop (takeM b.queue n)).take (b.queue.length - takeM b.queue n) = recs (cutB b n).queue := by rw [recs_drop, List.take_of_length_le (by rw [recs_len, List.length_drop]; omega)]; rfl
  have hie : (recs (cutB b n).queue).isEmpty = false := by
    cases h : recs (cutB b n).queue with
    | nil => exact absurd (List.map_eq_nil_iff.1 h) h0
    | cons x l => rfl
  have hdl : (recs (cutB b n).queue).length ≤ b.queue.length := by rw [recs_len]; show (b.queue.drop _).length ≤ _; rw [List.length_drop]; omega
  have hlq := hs.lq
  simp only [bP, bA, bC, bH] at h1
  have hsc : Sm (cutB b n) := ⟨hs.s, hs.r, hs.p, hs.u, hs.l, hs.lo, by have := hs.lq; show (b.queue.drop _).length ≤ _; rw [List.length_drop]; omega, hs.ln, fun r hr => hs.lp r (List.mem_of_mem_drop hr), hs.oo⟩
  have hce : (cutB b n).queue.isEmpty = false := by
    cases h : (cutB b n).queue with
    | nil => exact absurd h h0
    | cons x l => rfl
  have htk : takeB b t n = (if okTake (cutB b n) t then tellB (cutB b n) t else cutB b n, b.queue.take (takeM b.queue n)) := rfl
  have hrt := recs_take b.queue (takeM b.queue n)
  rw [htk]
  have ht := RTell_eq (cutB b n) hsc b.op.isEmpty false b.nts.isEmpty t
  have hh := fun N Q => rtk_n (cutB b n) b hsc z1 z2 z3 t b.op.isEmpty b.queue.isEmpty b.nts.isEmpty (takeM b.queue n) N Q
  have g1 : (tellB (cutB b n) t).op = (cutB b n).op := rfl
  have g2 : (tellB (cutB b n) t).nts = (cutB b n).nts := rfl
  have g3 : (tellB (cutB b n) t).queue.isEmpty = false := by simp [tellB]
  simp only [bP, bC] at ht
  cases hok : okTake (cutB b n) t with
  | false =>
    rw [hok] at hh
    simp only [takR, tkz, hce, Bool.false_eq_true, if_false, if_true]
    refine run_of rfl ?_
    simp -dsimp (disch := first | rfl | omega) only [bA, bC, bH, r61_0, r61_1, r61_2, r61_3, r61_4, callW_fn pgCopy, h1, hrl, hm, hd0, hie, ↓vmP, vm0, vm1, vm2, vm3, vm4, vm5, vm6, vm7, vm8, vm9, vm10, vm11, vm12, vm13, vm14, vm15, vmC, vmN, Nat.reduceAdd, Nat.reduceMul, Nat.reduceSub, Nat.reduceEqDiff, Nat.reduceLT, Nat.reduceLeDiff, ↓reduceIte, Tg.isFull, Int.reduceToNat]
    refine hh _ _ ?_
    simp -dsimp (disch := first | rfl | omega) only [bA, bC, zB, ru0, ru1, ru2, ru3, ru4, ru5, r61_6, r61_7, hrt, ↓vmP, vm0, vm1, vm2, vm3, vm4, vm5, vm6, vm7, vm8, vm9, vm10, vm11, vm12, vm13, vm14, vm15, vmC, vmN, Nat.reduceAdd, Nat.reduceMul, Nat.reduceSub, Nat.reduceEqDiff, Nat.reduceLT, Nat.reduceLeDiff, ↓reduceIte, Tg.isFull, Int.reduceToNat]
    try rfl
  | true =>
    rw [hok] at hh
    simp only [takR, tkz, g3, Bool.false_eq_true, if_false, if_true]
    refine run_of rfl ?_
    simp -dsimp (disch := first | rfl | omega) only [bA, bC, bH, r61_0, r61_1, r61_2, r61_3, r61_4, callW_fn pgCopy, h1, hrl, hm, hd0, hie, ↓vmP, vm0, vm1, vm2, vm3, vm4, vm5, vm6, vm7, vm8, vm9, vm10, vm11, vm12, vm13, vm14, vm15, vmC, vmN, Nat.reduceAdd, Nat.reduceMul, Nat.reduceSub, Nat.reduceEqDiff, Nat.reduceLT, Nat.reduceLeDiff, ↓reduceIte, Tg.isFull, Int.reduceToNat]
    refine hh _ _ ?_
    simp -dsimp (disch := first | rfl | omega) only [bA, bC, zB, ru0, ru1, ru2, ru3, ru4, ru5, r61_6, r61_7, callW_fn pgRTell, ht, hrt, g1, g2, ↓vmP, vm0, vm1, vm2, vm3, vm4, vm5, vm6, vm7, vm8, vm9, vm10, vm11, vm12, vm13, vm14, vm15, vmC, vmN, Nat.reduceAdd, Nat.reduceMul, Nat.reduceSub, Nat.reduceEqDiff, Nat.reduceLT, Nat.reduceLeDiff, ↓reduceIte, Tg.isFull, Int.reduceToNat]
    try rfl
theorem RTake_eq (b : Bk) (z1 z2 z3 : Nat) (hz : Zk b z1 z2 z3) (hs : Sm b) (t n : Int) : runW false prog 61 [.agg (bA b z1 z2 z3), .d (.int .i64 t), .d (.int .i64 n)] [] = some (takR (takeB b t n) (tkz (takeB b t n).1.queue) 4, [], []) := by
  by_cases h0 : b.queue.drop (takeM b.queue n) = []
  · exact RTake_e b z1 z2 z3 hz hs t n h0
  · exact RTake_n b z1 z2 z3 hz hs t n h0
theorem pgRTake : prog 61 = some c61 := rfl
end Go.Vm.Bk
