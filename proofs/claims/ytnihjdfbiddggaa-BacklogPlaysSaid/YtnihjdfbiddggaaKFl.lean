/- A part of the proof of BacklogPlaysSaid: YtnihjdfbiddggaaFl. -/
import Derived.Test.YtnihjdfbiddggaaKFk
/- Backlogs: the reference's offer: events that were taken. -/
set_option linter.unusedVariables false
set_option linter.unusedSimpArgs false
set_option maxHeartbeats 1000000
namespace Go.Vm.Bk
set_option maxRecDepth 20000 in
theorem ROffer_acc (b : Bk) (z1 z2 z3 : Nat) (hz : Zk b z1 z2 z3) (hs : Sm b) (t n : Int) (hb : okOff t n = true) (hw0 : rated b t = false) (hw1 : fullB b n = false) (hw2 : stl b (nextS b) = false) : runW false prog 14 [.agg (bA b z1 z2 z3), .d (.int .i64 t), .d (.int .i64 n)] [] = some (offR (accB (told b t) t n (nextS b), nextS b, true), [], []) := by
  rcases Bool.eq_false_or_eq_true (pend b) with hpe | hpe
  · simp only [offR, accB, told, tellB, hpe, if_true, if_false, Bool.false_eq_true]
    refine run_of rfl ?_
    have h1 := Copy_eq b z1 z2 z3 hz hs
    obtain ⟨hn, ht, hl⟩ := ok_t hb
    have hser := hs.s
    have hres := hs.r
    have hlq := hs.lq
    have hrl := recs_len b.queue
    have hns := nextS_b b hs
    have hpn := RPend_eq b z1 z2 z3
    have hn1 : b.serial + 1 + (if pend b then 1 else 0) = nextS b := rfl
    simp only [bA, bC, bH] at h1 hpn
    have e1 : (n < 1) = False := eq_false (by omega)
    have e2 : (64 < n) = False := eq_false (by omega)
    have e3 : (t < 0) = False := eq_false (by omega)
    have e4 : (1099511627776 < t) = False := eq_false (by omega)
    have e5 : (1073741821 < b.serial) = False := eq_false (by omega)
    rw [hpe] at hpn hn1
    simp only [if_true, Bool.false_eq_true] at hn1
    have ef : (b.limit < ((b.queue.length : Nat) : Int) + b.reserved + n + 1) = False := by
      have : fullB b n = decide (b.limit < ((b.queue.length : Nat) : Int) + b.reserved + n + (if pend b then 1 else 0)) := rfl
      rw [hw1, hpe] at this
      simpa using this.symm
    have hq := tdiv_b ht
    have hus := hs.u
    have hil := i64s_len b.op
    have hlo := hs.lo
    have hap := i64s_app b.op [nextS b]
    have hone : i64s [nextS b] = [[.int .i64 (nextS b)]] := rfl
    rw [hone] at hap
    have hte := fun f1 f2 f3 => RTell_eq b hs f1 f2 f3 t
    simp only [bP, bC] at hte
    generalize nextS b = s at hn1 hns hw2 hap ⊢
    generalize hOP : i64s (b.op ++ [s]) = OP at hap
    generalize hqq : t.tdiv 1000 = q at hq ⊢
    have hwr : IntKind.i64.wrap q = q := w_i64 (by omega)
    simp -dsimp (disch := first | rfl | omega) only [bA, bC, bH, r14_0, r14_1, r14_2, r14_4, r14_5, r14_6, r14_7, callW_fn pgCopy, callW_fn pgRPend, h1, hpn, e1, e2, e3, e4, e5, vmK, hn1, ↓vmP, vm0, vm1, vm2, vm3, vm4, vm5, vm6, vm7, vm8, vm9, vm10, vm11, vm12, vm13, vm14, vm15, vmC, vmN, Nat.reduceAdd, Nat.reduceMul, Nat.reduceSub, Nat.reduceEqDiff, Nat.reduceLT, Nat.reduceLeDiff, ↓reduceIte, Tg.isFull, Int.reduceToNat]
    refine rat_reg b z1 z2 z3 hz hs t n _ s ht _ [] _ ?_
    rw [hw0]
    simp -dsimp (disch := first | rfl | omega) only [lenr8, lenr14, bA, bC, bH, zB, r14_11, ef, hrl, ↓vmP, vm0, vm1, vm2, vm3, vm4, vm5, vm6, vm7, vm8, vm9, vm10, vm11, vm12, vm13, vm14, vm15, vmC, vmN, Nat.reduceAdd, Nat.reduceMul, Nat.reduceSub, Nat.reduceEqDiff, Nat.reduceLT, Nat.reduceLeDiff, ↓reduceIte, Tg.isFull, Int.reduceToNat]
    refine stl_reg b z1 z2 z3 hz hs t n _ s hns _ _ _ ?_
    rw [hw2]
    by_cases hwin : q = b.window
    · have e6 : (q = b.window) = True := eq_true hwin
      simp -dsimp (disch := first | rfl | omega) only [lenr8, lenr14, bA, bC, bH, zB, r14_17, r14_18, r14_19, r14_20, r14_21, r14_22, r14_23, r14_24, r14_25, callW_fn pgRTell, hte, tellB, hqq, hwr, e6, hap, ne_eq, not_true_eq_false, not_false_eq_true, if_true, if_false, Int.reduceEq, hOP, hwin, ↓vmP, vm0, vm1, vm2, vm3, vm4, vm5, vm6, vm7, vm8, vm9, vm10, vm11, vm12, vm13, vm14, vm15, vmC, vmN, Nat.reduceAdd, Nat.reduceMul, Nat.reduceSub, Nat.reduceEqDiff, Nat.reduceLT, Nat.reduceLeDiff, ↓reduceIte, Tg.isFull, Int.reduceToNat]
    · have e6 : (q = b.window) = False := eq_false hwin
      simp -dsimp (disch := first | rfl | omega) only [lenr8, lenr14, bA, bC, bH, zB, r14_17, r14_18, r14_19, r14_20, r14_21, r14_22, r14_23, r14_24, r14_25, callW_fn pgRTell, hte, tellB, hqq, hwr, e6, hap, ne_eq, not_true_eq_false, not_false_eq_true, if_true, if_false, Int.reduceEq, hOP, ↓vmP, vm0, vm1, vm2, vm3, vm4, vm5, vm6, vm7, vm8, vm9, vm10, vm11, vm12, vm13, vm14, vm15, vmC, vmN, Nat.reduceAdd, Nat.reduceMul, Nat.reduceSub, Nat.reduceEqDiff, Nat.reduceLT, Nat.reduceLeDiff, ↓reduceIte, Tg.isFull, Int.reduceToNat]
  · simp only [offR, accB, told, tellB, hpe, if_true, if_false, Bool.false_eq_true]
    refine run_of rfl ?_
    have h1 := Copy_eq b z1 z2 z3 hz hs
    obtain ⟨hn, ht, hl⟩ := ok_t hb
    have hser := hs.s
    have hres := hs.r
    have hlq := hs.lq
    have hrl := recs_len b.queue
    have hns := nextS_b b hs
    have hpn := RPend_eq b z1 z2 z3
    have hn1 : b.serial + 1 + (if pend b then 1 else 0) = nextS b := rfl
    simp only [bA, bC, bH] at h1 hpn
    have e1 : (n < 1) = False := eq_false (by omega)
    have e2 : (64 < n) = False := eq_false (by omega)
    have e3 : (t < 0) = False := eq_false (by omega)
    have e4 : (1099511627776 < t) = False := eq_false (by omega)
    have e5 : (1073741821 < b.serial) = False := eq_false (by omega)
    rw [hpe] at hpn hn1
    simp only [if_false, Bool.false_eq_true] at hn1
    have ef : (b.limit < ((b.queue.length : Nat) : Int) + b.reserved + n + 0) = False := by
      have : fullB b n = decide (b.limit < ((b.queue.length : Nat) : Int) + b.reserved + n + (if pend b then 1 else 0)) := rfl
      rw [hw1, hpe] at this
      simpa using this.symm
    have hq := tdiv_b ht
    have hus := hs.u
    have hil := i64s_len b.op
    have hlo := hs.lo
    have hap := i64s_app b.op [nextS b]
    have hone : i64s [nextS b] = [[.int .i64 (nextS b)]] := rfl
    rw [hone] at hap
    have hte := fun f1 f2 f3 => RTell_eq b hs f1 f2 f3 t
    simp only [bP, bC] at hte
    generalize nextS b = s at hn1 hns hw2 hap ⊢
    generalize hOP : i64s (b.op ++ [s]) = OP at hap
    generalize hqq : t.tdiv 1000 = q at hq ⊢
    have hwr : IntKind.i64.wrap q = q := w_i64 (by omega)
    simp -dsimp (disch := first | rfl | omega) only [bA, bC, bH, r14_0, r14_1, r14_2, r14_4, r14_5, r14_6, r14_7, callW_fn pgCopy, callW_fn pgRPend, h1, hpn, e1, e2, e3, e4, e5, vmK, hn1, ↓vmP, vm0, vm1, vm2, vm3, vm4, vm5, vm6, vm7, vm8, vm9, vm10, vm11, vm12, vm13, vm14, vm15, vmC, vmN, Nat.reduceAdd, Nat.reduceMul, Nat.reduceSub, Nat.reduceEqDiff, Nat.reduceLT, Nat.reduceLeDiff, ↓reduceIte, Tg.isFull, Int.reduceToNat]
    refine rat_reg b z1 z2 z3 hz hs t n _ s ht _ [] _ ?_
    rw [hw0]
    simp -dsimp (disch := first | rfl | omega) only [lenr8, lenr14, bA, bC, bH, zB, r14_11, ef, hrl, ↓vmP, vm0, vm1, vm2, vm3, vm4, vm5, vm6, vm7, vm8, vm9, vm10, vm11, vm12, vm13, vm14, vm15, vmC, vmN, Nat.reduceAdd, Nat.reduceMul, Nat.reduceSub, Nat.reduceEqDiff, Nat.reduceLT, Nat.reduceLeDiff, ↓reduceIte, Tg.isFull, Int.reduceToNat]
    refine stl_reg b z1 z2 z3 hz hs t n _ s hns _ _ _ ?_
    rw [hw2]
    by_cases hwin : q = b.window
    · have e6 : (q = b.window) = True := eq_true hwin
      simp -dsimp (disch := first | rfl | omega) only [lenr8, lenr14, bA, bC, bH, zB, r14_17, r14_18, r14_19, r14_20, r14_21, r14_22, r14_23, r14_24, r14_25, callW_fn pgRTell, hte, tellB, hqq, hwr, e6, hap, ne_eq, not_true_eq_false, not_false_eq_true, if_true, if_false, Int.reduceEq, hOP, hwin, ↓vmP, vm0, vm1, vm2, vm3, vm4, vm5, vm6, vm7, vm8, vm9, vm10, vm11, vm12, vm13, vm14, vm15, vmC, vmN, Nat.reduceAdd, Nat.reduceMul, Nat.reduceSub, Nat.reduceEqDiff, Nat.reduceLT, Nat.reduceLeDiff, ↓reduceIte, Tg.isFull, Int.reduceToNat]
    · have e6 : (q = b.window) = False := eq_false hwin
      simp -dsimp (disch := first | rfl | omega) only [lenr8, lenr14, bA, bC, bH, zB, r14_17, r14_18, r14_19, r14_20, r14_21, r14_22, r14_23, r14_24, r14_25, callW_fn pgRTell, hte, tellB, hqq, hwr, e6, hap, ne_eq, not_true_eq_false, not_false_eq_true, if_true, if_false, Int.reduceEq, hOP, ↓vmP, vm0, vm1, vm2, vm3, vm4, vm5, vm6, vm7, vm8, vm9, vm10, vm11, vm12, vm13, vm14, vm15, vmC, vmN, Nat.reduceAdd, Nat.reduceMul, Nat.reduceSub, Nat.reduceEqDiff, Nat.reduceLT, Nat.reduceLeDiff, ↓reduceIte, Tg.isFull, Int.reduceToNat]
theorem ROffer_eq (b : Bk) (z1 z2 z3 : Nat) (hz : Zk b z1 z2 z3) (hs : Sm b) (hp : PpOk b) (h16 : b.nts.length ≤ 16) (t n : Int) : runW false prog 14 [.agg (bA b z1 z2 z3), .d (.int .i64 t), .d (.int .i64 n)] [] = some (offR (offerB b t n), [], []) := by
  cases hb : okOff t n with
  | false => rw [ROffer_bad b z1 z2 z3 hz hs t n hb]; simp only [offerB, hb, Bool.false_eq_true, if_false]
  | true =>
    cases h0 : rated b t with
    | true =>
      have hw : why b t n (nextS b) = 0 := by simp [why, h0]
      simp only [offerB, hb, hw, if_true, Int.le_refl]
      by_cases hf : b.fail = 2
      · rcases Nat.lt_or_ge b.nts.length 16 with hl | hl
        · exact ROffer_0_few b z1 z2 z3 hz hs hp t n hb h0 hf hl
        · exact ROffer_0_many b z1 z2 z3 hz hs hp t n hb h0 hf (by omega)
      · exact ROffer_0_other b z1 z2 z3 hz hs hp t n hb h0 hf
    | false =>
      cases h1 : fullB b n with
      | true =>
        have hw : why b t n (nextS b) = 1 := by simp [why, h0, h1]
        simp only [offerB, hb, hw, if_true, show (0 : Int) ≤ 1 from by decide]
        by_cases hf : b.fail = 2
        · rcases Nat.lt_or_ge b.nts.length 16 with hl | hl
          · exact ROffer_1_few b z1 z2 z3 hz hs hp t n hb h0 h1 hf hl
          · exact ROffer_1_many b z1 z2 z3 hz hs hp t n hb h0 h1 hf (by omega)
        · exact ROffer_1_other b z1 z2 z3 hz hs hp t n hb h0 h1 hf
      | false =>
        cases h2 : stl b (nextS b) with
        | true =>
          have hw : why b t n (nextS b) = 2 := by simp [why, h0, h1, h2]
          simp only [offerB, hb, hw, if_true, show (0 : Int) ≤ 2 from by decide]
          by_cases hf : b.fail = 2
          · rcases Nat.lt_or_ge b.nts.length 16 with hl | hl
            · exact ROffer_2_few b z1 z2 z3 hz hs hp t n hb h0 h1 h2 hf hl
            · exact ROffer_2_many b z1 z2 z3 hz hs hp t n hb h0 h1 h2 hf (by omega)
          · exact ROffer_2_other b z1 z2 z3 hz hs hp t n hb h0 h1 h2 hf
        | false =>
          have hw : ¬ 0 ≤ why b t n (nextS b) := by simp [why, h0, h1, h2]
          simp only [offerB, hb, hw, if_true, if_false]
          exact ROffer_acc b z1 z2 z3 hz hs t n hb h0 h1 h2
end Go.Vm.Bk
