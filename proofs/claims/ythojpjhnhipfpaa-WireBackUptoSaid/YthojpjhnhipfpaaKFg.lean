/- A part of the proof of WireBackUptoSaid: YthojpjhnhipfpaaFg. -/
import Derived.Test.YthojpjhnhipfpaaKFf
/- Which messages are valid, by the reference. -/
set_option linter.unusedVariables false
set_option linter.unusedSimpArgs false
set_option maxHeartbeats 4000000
namespace Go.Vm.Wr
theorem pgUses : prog 53 = some c53 := rfl
theorem pgRN : prog 57 = some c57 := rfl
theorem vld_1 (host : List UInt8) (epoch seq to : Int) (body : List UInt8) (tg : Tg) (bz : Nat) : vld ⟨1, host, epoch, seq, to, body, tg, bz⟩ = (hname host && decide (1 ≤ epoch ∧ epoch ≤ 1099511627776) && decide (1 ≤ seq ∧ seq ≤ 1099511627776) && decide (to = 0) && decide (body.length = 0)) := by
  by_cases q0 : hname host = true <;> by_cases q1 : 1 ≤ epoch ∧ epoch ≤ 1099511627776 <;> by_cases q2 : 1 ≤ seq ∧ seq ≤ 1099511627776 <;> simp [vld, lst, least, chk, fitF, inR, clr, clean, q0, q1, q2]
set_option maxRecDepth 20000 in
theorem RV_1 (host : List UInt8) (epoch seq to : Int) (body : List UInt8) (tg : Tg) (bz : Nat) (hh : host.length ≤ 9223372036854775807) : runW false prog 27 [.agg (mC ⟨1, host, epoch, seq, to, body, tg, bz⟩)] [] = some (.d (.bool (vld ⟨1, host, epoch, seq, to, body, tg, bz⟩)), [], []) := by
  refine run_of rfl ?_
  rw [vld_1]
  have hu := uses_eq 1
  rw [show us 1 = (true, true, false, false) from rfl] at hu
  simp only at hu
  have hn := RN_eq host hh
  by_cases hH : hname host = true
  · rw [hH] at hn
    by_cases he1 : 1 ≤ epoch
    · have fe1 : ((epoch : Int) < 1) = False := eq_false (by omega)
      by_cases he2 : epoch ≤ 1099511627776
      · have fe2 : (1099511627776 < (epoch : Int)) = False := eq_false (by omega)
        by_cases hs1 : 1 ≤ seq
        · have fs1 : ((seq : Int) < 1) = False := eq_false (by omega)
          by_cases hs2 : seq ≤ 1099511627776
          · have fs2 : (1099511627776 < (seq : Int)) = False := eq_false (by omega)
            by_cases ht0 : to = 0
            · have ft0 : ((to : Int) = 0) = True := eq_true (by omega)
              by_cases hb0 : body.length = 0
              · have fb0 : ((body.length : Int) = 0) = True := eq_true (by omega)
                have hv : (hname host && decide (1 ≤ epoch ∧ epoch ≤ 1099511627776) && decide (1 ≤ seq ∧ seq ≤ 1099511627776) && decide (to = 0) && decide (body.length = 0)) = true := by simp [hH, he1, he2, hs1, hs2, ht0, hb0]
                rw [hv]
                simp -dsimp (disch := first | rfl | omega) only [mC, r27_0, r27_1, r27_2, r27_3, r27_4, r27_5, r27_6, r27_7, r27_8, r27_9, r27_10, r27_11, r27_12, r27_13, callW_fn pgUses, callW_fn pgRN, hu, Int.reduceEq, Int.reduceLT, Int.reduceLE, hn, ne_eq, not_true_eq_false, not_false_eq_true, fe1, fe2, fs1, fs2, ft0, fb0, ↓vmP, vm0, vm1, vm2, vm3, vm4, vm5, vm6, vm7, vm8, vm9, vm10, vm11, vm12, vm13, vm14, vm15, vmC, vmN, Nat.reduceAdd, Nat.reduceMul, Nat.reduceSub, Nat.reduceEqDiff, Nat.reduceLT, Nat.reduceLeDiff, ↓reduceIte, Tg.isFull, Int.reduceToNat]
              · have fb0 : ((body.length : Int) = 0) = False := eq_false (by omega)
                have hv : (hname host && decide (1 ≤ epoch ∧ epoch ≤ 1099511627776) && decide (1 ≤ seq ∧ seq ≤ 1099511627776) && decide (to = 0) && decide (body.length = 0)) = false := by simp [hH, he1, he2, hs1, hs2, ht0, hb0]
                rw [hv]
                simp -dsimp (disch := first | rfl | omega) only [mC, r27_0, r27_1, r27_2, r27_3, r27_4, r27_5, r27_6, r27_7, r27_8, r27_9, r27_10, r27_11, r27_12, r27_13, callW_fn pgUses, callW_fn pgRN, hu, Int.reduceEq, Int.reduceLT, Int.reduceLE, hn, ne_eq, not_true_eq_false, not_false_eq_true, fe1, fe2, fs1, fs2, ft0, fb0, ↓vmP, vm0, vm1, vm2, vm3, vm4, vm5, vm6, vm7, vm8, vm9, vm10, vm11, vm12, vm13, vm14, vm15, vmC, vmN, Nat.reduceAdd, Nat.reduceMul, Nat.reduceSub, Nat.reduceEqDiff, Nat.reduceLT, Nat.reduceLeDiff, ↓reduceIte, Tg.isFull, Int.reduceToNat]
            · have ft0 : ((to : Int) = 0) = False := eq_false (by omega)
              have hv : (hname host && decide (1 ≤ epoch ∧ epoch ≤ 1099511627776) && decide (1 ≤ seq ∧ seq ≤ 1099511627776) && decide (to = 0) && decide (body.length = 0)) = false := by simp [hH, he1, he2, hs1, hs2, ht0]
              rw [hv]
              simp -dsimp (disch := first | rfl | omega) only [mC, r27_0, r27_1, r27_2, r27_3, r27_4, r27_5, r27_6, r27_7, r27_8, r27_9, r27_10, r27_11, r27_12, r27_13, callW_fn pgUses, callW_fn pgRN, hu, Int.reduceEq, Int.reduceLT, Int.reduceLE, hn, ne_eq, not_true_eq_false, not_false_eq_true, fe1, fe2, fs1, fs2, ft0, ↓vmP, vm0, vm1, vm2, vm3, vm4, vm5, vm6, vm7, vm8, vm9, vm10, vm11, vm12, vm13, vm14, vm15, vmC, vmN, Nat.reduceAdd, Nat.reduceMul, Nat.reduceSub, Nat.reduceEqDiff, Nat.reduceLT, Nat.reduceLeDiff, ↓reduceIte, Tg.isFull, Int.reduceToNat]
          · have fs2 : (1099511627776 < (seq : Int)) = True := eq_true (by omega)
            have hv : (hname host && decide (1 ≤ epoch ∧ epoch ≤ 1099511627776) && decide (1 ≤ seq ∧ seq ≤ 1099511627776) && decide (to = 0) && decide (body.length = 0)) = false := by simp [hH, he1, he2, hs1, hs2]
            rw [hv]
            simp -dsimp (disch := first | rfl | omega) only [mC, r27_0, r27_1, r27_2, r27_3, r27_4, r27_5, r27_6, r27_7, r27_8, r27_9, r27_10, r27_11, r27_12, r27_13, callW_fn pgUses, callW_fn pgRN, hu, Int.reduceEq, Int.reduceLT, Int.reduceLE, hn, ne_eq, not_true_eq_false, not_false_eq_true, fe1, fe2, fs1, fs2, ↓vmP, vm0, vm1, vm2, vm3, vm4, vm5, vm6, vm7, vm8, vm9, vm10, vm11, vm12, vm13, vm14, vm15, vmC, vmN, Nat.reduceAdd, Nat.reduceMul, Nat.reduceSub, Nat.reduceEqDiff, Nat.reduceLT, Nat.reduceLeDiff, ↓reduceIte, Tg.isFull, Int.reduceToNat]
        · have fs1 : ((seq : Int) < 1) = True := eq_true (by omega)
          have hv : (hname host && decide (1 ≤ epoch ∧ epoch ≤ 1099511627776) && decide (1 ≤ seq ∧ seq ≤ 1099511627776) && decide (to = 0) && decide (body.length = 0)) = false := by simp [hH, he1, he2, hs1]
          rw [hv]
          simp -dsimp (disch := first | rfl | omega) only [mC, r27_0, r27_1, r27_2, r27_3, r27_4, r27_5, r27_6, r27_7, r27_8, r27_9, r27_10, r27_11, r27_12, r27_13, callW_fn pgUses, callW_fn pgRN, hu, Int.reduceEq, Int.reduceLT, Int.reduceLE, hn, ne_eq, not_true_eq_false, not_false_eq_true, fe1, fe2, fs1, ↓vmP, vm0, vm1, vm2, vm3, vm4, vm5, vm6, vm7, vm8, vm9, vm10, vm11, vm12, vm13, vm14, vm15, vmC, vmN, Nat.reduceAdd, Nat.reduceMul, Nat.reduceSub, Nat.reduceEqDiff, Nat.reduceLT, Nat.reduceLeDiff, ↓reduceIte, Tg.isFull, Int.reduceToNat]
      · have fe2 : (1099511627776 < (epoch : Int)) = True := eq_true (by omega)
        have hv : (hname host && decide (1 ≤ epoch ∧ epoch ≤ 1099511627776) && decide (1 ≤ seq ∧ seq ≤ 1099511627776) && decide (to = 0) && decide (body.length = 0)) = false := by simp [hH, he1, he2]
        rw [hv]
        simp -dsimp (disch := first | rfl | omega) only [mC, r27_0, r27_1, r27_2, r27_3, r27_4, r27_5, r27_6, r27_7, r27_8, r27_9, r27_10, r27_11, r27_12, r27_13, callW_fn pgUses, callW_fn pgRN, hu, Int.reduceEq, Int.reduceLT, Int.reduceLE, hn, ne_eq, not_true_eq_false, not_false_eq_true, fe1, fe2, ↓vmP, vm0, vm1, vm2, vm3, vm4, vm5, vm6, vm7, vm8, vm9, vm10, vm11, vm12, vm13, vm14, vm15, vmC, vmN, Nat.reduceAdd, Nat.reduceMul, Nat.reduceSub, Nat.reduceEqDiff, Nat.reduceLT, Nat.reduceLeDiff, ↓reduceIte, Tg.isFull, Int.reduceToNat]
    · have fe1 : ((epoch : Int) < 1) = True := eq_true (by omega)
      have hv : (hname host && decide (1 ≤ epoch ∧ epoch ≤ 1099511627776) && decide (1 ≤ seq ∧ seq ≤ 1099511627776) && decide (to = 0) && decide (body.length = 0)) = false := by simp [hH, he1]
      rw [hv]
      simp -dsimp (disch := first | rfl | omega) only [mC, r27_0, r27_1, r27_2, r27_3, r27_4, r27_5, r27_6, r27_7, r27_8, r27_9, r27_10, r27_11, r27_12, r27_13, callW_fn pgUses, callW_fn pgRN, hu, Int.reduceEq, Int.reduceLT, Int.reduceLE, hn, ne_eq, not_true_eq_false, not_false_eq_true, fe1, ↓vmP, vm0, vm1, vm2, vm3, vm4, vm5, vm6, vm7, vm8, vm9, vm10, vm11, vm12, vm13, vm14, vm15, vmC, vmN, Nat.reduceAdd, Nat.reduceMul, Nat.reduceSub, Nat.reduceEqDiff, Nat.reduceLT, Nat.reduceLeDiff, ↓reduceIte, Tg.isFull, Int.reduceToNat]
  · have hH2 : hname host = false := by simpa using hH
    rw [hH2] at hn
    have hv : (hname host && decide (1 ≤ epoch ∧ epoch ≤ 1099511627776) && decide (1 ≤ seq ∧ seq ≤ 1099511627776) && decide (to = 0) && decide (body.length = 0)) = false := by simp [hH2]
    rw [hv]
    simp -dsimp (disch := first | rfl | omega) only [mC, r27_0, r27_1, r27_2, r27_3, r27_4, r27_5, r27_6, r27_7, r27_8, r27_9, r27_10, r27_11, r27_12, r27_13, callW_fn pgUses, callW_fn pgRN, hu, Int.reduceEq, Int.reduceLT, Int.reduceLE, hn, ne_eq, not_true_eq_false, not_false_eq_true, ↓vmP, vm0, vm1, vm2, vm3, vm4, vm5, vm6, vm7, vm8, vm9, vm10, vm11, vm12, vm13, vm14, vm15, vmC, vmN, Nat.reduceAdd, Nat.reduceMul, Nat.reduceSub, Nat.reduceEqDiff, Nat.reduceLT, Nat.reduceLeDiff, ↓reduceIte, Tg.isFull, Int.reduceToNat]
theorem vld_2 (host : List UInt8) (epoch seq to : Int) (body : List UInt8) (tg : Tg) (bz : Nat) : vld ⟨2, host, epoch, seq, to, body, tg, bz⟩ = (decide (host = []) && decide (epoch = 0) && decide (0 ≤ seq ∧ seq ≤ 1099511627776) && decide (to = 0) && decide (body.length = 0)) := by
  by_cases q0 : 0 ≤ seq ∧ seq ≤ 1099511627776 <;> simp [vld, lst, least, chk, fitF, inR, clr, clean, q0]
set_option maxRecDepth 20000 in
theorem RV_2 (host : List UInt8) (epoch seq to : Int) (body : List UInt8) (tg : Tg) (bz : Nat) (hh : host.length ≤ 9223372036854775807) : runW false prog 27 [.agg (mC ⟨2, host, epoch, seq, to, body, tg, bz⟩)] [] = some (.d (.bool (vld ⟨2, host, epoch, seq, to, body, tg, bz⟩)), [], []) := by
  refine run_of rfl ?_
  rw [vld_2]
  have hu := uses_eq 2
  rw [show us 2 = (false, true, false, false) from rfl] at hu
  simp only at hu
  have hn := RN_eq host hh
  by_cases hS : host = []
  · have fS := (str_nil host).trans (eq_true hS)
    by_cases he0 : epoch = 0
    · have fe0 : ((epoch : Int) = 0) = True := eq_true (by omega)
      by_cases hs1 : 0 ≤ seq
      · have fs1 : ((seq : Int) < 0) = False := eq_false (by omega)
        by_cases hs2 : seq ≤ 1099511627776
        · have fs2 : (1099511627776 < (seq : Int)) = False := eq_false (by omega)
          by_cases ht0 : to = 0
          · have ft0 : ((to : Int) = 0) = True := eq_true (by omega)
            by_cases hb0 : body.length = 0
            · have fb0 : ((body.length : Int) = 0) = True := eq_true (by omega)
              have hv : (decide (host = []) && decide (epoch = 0) && decide (0 ≤ seq ∧ seq ≤ 1099511627776) && decide (to = 0) && decide (body.length = 0)) = true := by simp [hS, he0, hs1, hs2, ht0, hb0]
              rw [hv]
              simp -dsimp (disch := first | rfl | omega) only [mC, r27_0, r27_1, r27_2, r27_3, r27_4, r27_5, r27_6, r27_7, r27_8, r27_9, r27_10, r27_11, r27_12, r27_13, callW_fn pgUses, callW_fn pgRN, hu, Int.reduceEq, Int.reduceLT, Int.reduceLE, hn, ne_eq, not_true_eq_false, not_false_eq_true, fS, fe0, fs1, fs2, ft0, fb0, ↓vmP, vm0, vm1, vm2, vm3, vm4, vm5, vm6, vm7, vm8, vm9, vm10, vm11, vm12, vm13, vm14, vm15, vmC, vmN, Nat.reduceAdd, Nat.reduceMul, Nat.reduceSub, Nat.reduceEqDiff, Nat.reduceLT, Nat.reduceLeDiff, ↓reduceIte, Tg.isFull, Int.reduceToNat]
            · have fb0 : ((body.length : Int) = 0) = False := eq_false (by omega)
              have hv : (decide (host = []) && decide (epoch = 0) && decide (0 ≤ seq ∧ seq ≤ 1099511627776) && decide (to = 0) && decide (body.length = 0)) = false := by simp [hS, he0, hs1, hs2, ht0, hb0]
              rw [hv]
              simp -dsimp (disch := first | rfl | omega) only [mC, r27_0, r27_1, r27_2, r27_3, r27_4, r27_5, r27_6, r27_7, r27_8, r27_9, r27_10, r27_11, r27_12, r27_13, callW_fn pgUses, callW_fn pgRN, hu, Int.reduceEq, Int.reduceLT, Int.reduceLE, hn, ne_eq, not_true_eq_false, not_false_eq_true, fS, fe0, fs1, fs2, ft0, fb0, ↓vmP, vm0, vm1, vm2, vm3, vm4, vm5, vm6, vm7, vm8, vm9, vm10, vm11, vm12, vm13, vm14, vm15, vmC, vmN, Nat.reduceAdd, Nat.reduceMul, Nat.reduceSub, Nat.reduceEqDiff, Nat.reduceLT, Nat.reduceLeDiff, ↓reduceIte, Tg.isFull, Int.reduceToNat]
          · have ft0 : ((to : Int) = 0) = False := eq_false (by omega)
            have hv : (decide (host = []) && decide (epoch = 0) && decide (0 ≤ seq ∧ seq ≤ 1099511627776) && decide (to = 0) && decide (body.length = 0)) = false := by simp [hS, he0, hs1, hs2, ht0]
            rw [hv]
            simp -dsimp (disch := first | rfl | omega) only [mC, r27_0, r27_1, r27_2, r27_3, r27_4, r27_5, r27_6, r27_7, r27_8, r27_9, r27_10, r27_11, r27_12, r27_13, callW_fn pgUses, callW_fn pgRN, hu, Int.reduceEq, Int.reduceLT, Int.reduceLE, hn, ne_eq, not_true_eq_false, not_false_eq_true, fS, fe0, fs1, fs2, ft0, ↓vmP, vm0, vm1, vm2, vm3, vm4, vm5, vm6, vm7, vm8, vm9, vm10, vm11, vm12, vm13, vm14, vm15, vmC, vmN, Nat.reduceAdd, Nat.reduceMul, Nat.reduceSub, Nat.reduceEqDiff, Nat.reduceLT, Nat.reduceLeDiff, ↓reduceIte, Tg.isFull, Int.reduceToNat]
        · have fs2 : (1099511627776 < (seq : Int)) = True := eq_true (by omega)
          have hv : (decide (host = []) && decide (epoch = 0) && decide (0 ≤ seq ∧ seq ≤ 1099511627776) && decide (to = 0) && decide (body.length = 0)) = false := by simp [hS, he0, hs1, hs2]
          rw [hv]
          simp -dsimp (disch := first | rfl | omega) only [mC, r27_0, r27_1, r27_2, r27_3, r27_4, r27_5, r27_6, r27_7, r27_8, r27_9, r27_10, r27_11, r27_12, r27_13, callW_fn pgUses, callW_fn pgRN, hu, Int.reduceEq, Int.reduceLT, Int.reduceLE, hn, ne_eq, not_true_eq_false, not_false_eq_true, fS, fe0, fs1, fs2, ↓vmP, vm0, vm1, vm2, vm3, vm4, vm5, vm6, vm7, vm8, vm9, vm10, vm11, vm12, vm13, vm14, vm15, vmC, vmN, Nat.reduceAdd, Nat.reduceMul, Nat.reduceSub, Nat.reduceEqDiff, Nat.reduceLT, Nat.reduceLeDiff, ↓reduceIte, Tg.isFull, Int.reduceToNat]
      · have fs1 : ((seq : Int) < 0) = True := eq_true (by omega)
        have hv : (decide (host = []) && decide (epoch = 0) && decide (0 ≤ seq ∧ seq ≤ 1099511627776) && decide (to = 0) && decide (body.length = 0)) = false := by simp [hS, he0, hs1]
        rw [hv]
        simp -dsimp (disch := first | rfl | omega) only [mC, r27_0, r27_1, r27_2, r27_3, r27_4, r27_5, r27_6, r27_7, r27_8, r27_9, r27_10, r27_11, r27_12, r27_13, callW_fn pgUses, callW_fn pgRN, hu, Int.reduceEq, Int.reduceLT, Int.reduceLE, hn, ne_eq, not_true_eq_false, not_false_eq_true, fS, fe0, fs1, ↓vmP, vm0, vm1, vm2, vm3, vm4, vm5, vm6, vm7, vm8, vm9, vm10, vm11, vm12, vm13, vm14, vm15, vmC, vmN, Nat.reduceAdd, Nat.reduceMul, Nat.reduceSub, Nat.reduceEqDiff, Nat.reduceLT, Nat.reduceLeDiff, ↓reduceIte, Tg.isFull, Int.reduceToNat]
    · have fe0 : ((epoch : Int) = 0) = False := eq_false (by omega)
      have hv : (decide (host = []) && decide (epoch = 0) && decide (0 ≤ seq ∧ seq ≤ 1099511627776) && decide (to = 0) && decide (body.length = 0)) = false := by simp [hS, he0]
      rw [hv]
      simp -dsimp (disch := first | rfl | omega) only [mC, r27_0, r27_1, r27_2, r27_3, r27_4, r27_5, r27_6, r27_7, r27_8, r27_9, r27_10, r27_11, r27_12, r27_13, callW_fn pgUses, callW_fn pgRN, hu, Int.reduceEq, Int.reduceLT, Int.reduceLE, hn, ne_eq, not_true_eq_false, not_false_eq_true, fS, fe0, ↓vmP, vm0, vm1, vm2, vm3, vm4, vm5, vm6, vm7, vm8, vm9, vm10, vm11, vm12, vm13, vm14, vm15, vmC, vmN, Nat.reduceAdd, Nat.reduceMul, Nat.reduceSub, Nat.reduceEqDiff, Nat.reduceLT, Nat.reduceLeDiff, ↓reduceIte, Tg.isFull, Int.reduceToNat]
  · have fS := (str_nil host).trans (eq_false hS)
    have hv : (decide (host = []) && decide (epoch = 0) && decide (0 ≤ seq ∧ seq ≤ 1099511627776) && decide (to = 0) && decide (body.length = 0)) = false := by simp [hS]
    rw [hv]
    simp -dsimp (disch := first | rfl | omega) only [mC, r27_0, r27_1, r27_2, r27_3, r27_4, r27_5, r27_6, r27_7, r27_8, r27_9, r27_10, r27_11, r27_12, r27_13, callW_fn pgUses, callW_fn pgRN, hu, Int.reduceEq, Int.reduceLT, Int.reduceLE, hn, ne_eq, not_true_eq_false, not_false_eq_true, fS, ↓vmP, vm0, vm1, vm2, vm3, vm4, vm5, vm6, vm7, vm8, vm9, vm10, vm11, vm12, vm13, vm14, vm15, vmC, vmN, Nat.reduceAdd, Nat.reduceMul, Nat.reduceSub, Nat.reduceEqDiff, Nat.reduceLT, Nat.reduceLeDiff, ↓reduceIte, Tg.isFull, Int.reduceToNat]
theorem vld_3 (host : List UInt8) (epoch seq to : Int) (body : List UInt8) (tg : Tg) (bz : Nat) : vld ⟨3, host, epoch, seq, to, body, tg, bz⟩ = (decide (host = []) && decide (epoch = 0) && decide (1 ≤ seq ∧ seq ≤ 1099511627776) && decide (to = 0) && (decide (0 < body.length) && decide (body.length ≤ 16320))) := by
  by_cases q0 : 1 ≤ seq ∧ seq ≤ 1099511627776 <;> by_cases q1 : 0 < body.length <;> by_cases q2 : body.length ≤ 16320 <;> simp [vld, lst, least, chk, fitF, inR, clr, clean, q0, q1, q2]
set_option maxRecDepth 20000 in
theorem RV_3 (host : List UInt8) (epoch seq to : Int) (body : List UInt8) (tg : Tg) (bz : Nat) (hh : host.length ≤ 9223372036854775807) : runW false prog 27 [.agg (mC ⟨3, host, epoch, seq, to, body, tg, bz⟩)] [] = some (.d (.bool (vld ⟨3, host, epoch, seq, to, body, tg, bz⟩)), [], []) := by
  refine run_of rfl ?_
  rw [vld_3]
  have hu := uses_eq 3
  rw [show us 3 = (false, true, false, true) from rfl] at hu
  simp only at hu
  have hn := RN_eq host hh
  by_cases hS : host = []
  · have fS := (str_nil host).trans (eq_true hS)
    by_cases he0 : epoch = 0
    · have fe0 : ((epoch : Int) = 0) = True := eq_true (by omega)
      by_cases hs1 : 1 ≤ seq
      · have fs1 : ((seq : Int) < 1) = False := eq_false (by omega)
        by_cases hs2 : seq ≤ 1099511627776
        · have fs2 : (1099511627776 < (seq : Int)) = False := eq_false (by omega)
          by_cases ht0 : to = 0
          · have ft0 : ((to : Int) = 0) = True := eq_true (by omega)
            by_cases hb1 : 0 < body.length
            · have fb1 : (1 ≤ (body.length : Int)) = True := eq_true (by omega)
              by_cases hb2 : body.length ≤ 16320
              · have fb2 : ((body.length : Int) ≤ 16320) = True := eq_true (by omega)
                have hv : (decide (host = []) && decide (epoch = 0) && decide (1 ≤ seq ∧ seq ≤ 1099511627776) && decide (to = 0) && (decide (0 < body.length) && decide (body.length ≤ 16320))) = true := by simp [hS, he0, hs1, hs2, ht0, hb1, hb2]
                rw [hv]
                simp -dsimp (disch := first | rfl | omega) only [mC, r27_0, r27_1, r27_2, r27_3, r27_4, r27_5, r27_6, r27_7, r27_8, r27_9, r27_10, r27_11, r27_12, r27_13, callW_fn pgUses, callW_fn pgRN, hu, Int.reduceEq, Int.reduceLT, Int.reduceLE, hn, ne_eq, not_true_eq_false, not_false_eq_true, fS, fe0, fs1, fs2, ft0, fb1, fb2, ↓vmP, vm0, vm1, vm2, vm3, vm4, vm5, vm6, vm7, vm8, vm9, vm10, vm11, vm12, vm13, vm14, vm15, vmC, vmN, Nat.reduceAdd, Nat.reduceMul, Nat.reduceSub, Nat.reduceEqDiff, Nat.reduceLT, Nat.reduceLeDiff, ↓reduceIte, Tg.isFull, Int.reduceToNat]
              · have fb2 : ((body.length : Int) ≤ 16320) = False := eq_false (by omega)
                have hv : (decide (host = []) && decide (epoch = 0) && decide (1 ≤ seq ∧ seq ≤ 1099511627776) && decide (to = 0) && (decide (0 < body.length) && decide (body.length ≤ 16320))) = false := by simp [hS, he0, hs1, hs2, ht0, hb1, hb2]
                rw [hv]
                simp -dsimp (disch := first | rfl | omega) only [mC, r27_0, r27_1, r27_2, r27_3, r27_4, r27_5, r27_6, r27_7, r27_8, r27_9, r27_10, r27_11, r27_12, r27_13, callW_fn pgUses, callW_fn pgRN, hu, Int.reduceEq, Int.reduceLT, Int.reduceLE, hn, ne_eq, not_true_eq_false, not_false_eq_true, fS, fe0, fs1, fs2, ft0, fb1, fb2, ↓vmP, vm0, vm1, vm2, vm3, vm4, vm5, vm6, vm7, vm8, vm9, vm10, vm11, vm12, vm13, vm14, vm15, vmC, vmN, Nat.reduceAdd, Nat.reduceMul, Nat.reduceSub, Nat.reduceEqDiff, Nat.reduceLT, Nat.reduceLeDiff, ↓reduceIte, Tg.isFull, Int.reduceToNat]
            · have fb1 : (1 ≤ (body.length : Int)) = False := eq_false (by omega)
              have hv : (decide (host = []) && decide (epoch = 0) && decide (1 ≤ seq ∧ seq ≤ 1099511627776) && decide (to = 0) && (decide (0 < body.length) && decide (body.length ≤ 16320))) = false := by simp [hS, he0, hs1, hs2, ht0, hb1]
              rw [hv]
              simp -dsimp (disch := first | rfl | omega) only [mC, r27_0, r27_1, r27_2, r27_3, r27_4, r27_5, r27_6, r27_7, r27_8, r27_9, r27_10, r27_11, r27_12, r27_13, callW_fn pgUses, callW_fn pgRN, hu, Int.reduceEq, Int.reduceLT, Int.reduceLE, hn, ne_eq, not_true_eq_false, not_false_eq_true, fS, fe0, fs1, fs2, ft0, fb1, ↓vmP, vm0, vm1, vm2, vm3, vm4, vm5, vm6, vm7, vm8, vm9, vm10, vm11, vm12, vm13, vm14, vm15, vmC, vmN, Nat.reduceAdd, Nat.reduceMul, Nat.reduceSub, Nat.reduceEqDiff, Nat.reduceLT, Nat.reduceLeDiff, ↓reduceIte, Tg.isFull, Int.reduceToNat]
          · have ft0 : ((to : Int) = 0) = False := eq_false (by omega)
            have hv : (decide (host = []) && decide (epoch = 0) && decide (1 ≤ seq ∧ seq ≤ 1099511627776) && decide (to = 0) && (decide (0 < body.length) && decide (body.length ≤ 16320))) = false := by simp [hS, he0, hs1, hs2, ht0]
            rw [hv]
            simp -dsimp (disch := first | rfl | omega) only [mC, r27_0, r27_1, r27_2, r27_3, r27_4, r27_5, r27_6, r27_7, r27_8, r27_9, r27_10, r27_11, r27_12, r27_13, callW_fn pgUses, callW_fn pgRN, hu, Int.reduceEq, Int.reduceLT, Int.reduceLE, hn, ne_eq, not_true_eq_false, not_false_eq_true, fS, fe0, fs1, fs2, ft0, ↓vmP, vm0, vm1, vm2, vm3, vm4, vm5, vm6, vm7, vm8, vm9, vm10, vm11, vm12, vm13, vm14, vm15, vmC, vmN, Nat.reduceAdd, Nat.reduceMul, Nat.reduceSub, Nat.reduceEqDiff, Nat.reduceLT, Nat.reduceLeDiff, ↓reduceIte, Tg.isFull, Int.reduceToNat]
        · have fs2 : (1099511627776 < (seq : Int)) = True := eq_true (by omega)
          have hv : (decide (host = []) && decide (epoch = 0) && decide (1 ≤ seq ∧ seq ≤ 1099511627776) && decide (to = 0) && (decide (0 < body.length) && decide (body.length ≤ 16320))) = false := by simp [hS, he0, hs1, hs2]
          rw [hv]
          simp -dsimp (disch := first | rfl | omega) only [mC, r27_0, r27_1, r27_2, r27_3, r27_4, r27_5, r27_6, r27_7, r27_8, r27_9, r27_10, r27_11, r27_12, r27_13, callW_fn pgUses, callW_fn pgRN, hu, Int.reduceEq, Int.reduceLT, Int.reduceLE, hn, ne_eq, not_true_eq_false, not_false_eq_true, fS, fe0, fs1, fs2, ↓vmP, vm0, vm1, vm2, vm3, vm4, vm5, vm6, vm7, vm8, vm9, vm10, vm11, vm12, vm13, vm14, vm15, vmC, vmN, Nat.reduceAdd, Nat.reduceMul, Nat.reduceSub, Nat.reduceEqDiff, Nat.reduceLT, Nat.reduceLeDiff, ↓reduceIte, Tg.isFull, Int.reduceToNat]
      · have fs1 : ((seq : Int) < 1) = True := eq_true (by omega)
        have hv : (decide (host = []) && decide (epoch = 0) && decide (1 ≤ seq ∧ seq ≤ 1099511627776) && decide (to = 0) && (decide (0 < body.length) && decide (body.length ≤ 16320))) = false := by simp [hS, he0, hs1]
        rw [hv]
        simp -dsimp (disch := first | rfl | omega) only [mC, r27_0, r27_1, r27_2, r27_3, r27_4, r27_5, r27_6, r27_7, r27_8, r27_9, r27_10, r27_11, r27_12, r27_13, callW_fn pgUses, callW_fn pgRN, hu, Int.reduceEq, Int.reduceLT, Int.reduceLE, hn, ne_eq, not_true_eq_false, not_false_eq_true, fS, fe0, fs1, ↓vmP, vm0, vm1, vm2, vm3, vm4, vm5, vm6, vm7, vm8, vm9, vm10, vm11, vm12, vm13, vm14, vm15, vmC, vmN, Nat.reduceAdd, Nat.reduceMul, Nat.reduceSub, Nat.reduceEqDiff, Nat.reduceLT, Nat.reduceLeDiff, ↓reduceIte, Tg.isFull, Int.reduceToNat]
    · have fe0 : ((epoch : Int) = 0) = False := eq_false (by omega)
      have hv : (decide (host = []) && decide (epoch = 0) && decide (1 ≤ seq ∧ seq ≤ 1099511627776) && decide (to = 0) && (decide (0 < body.length) && decide (body.length ≤ 16320))) = false := by simp [hS, he0]
      rw [hv]
      simp -dsimp (disch := first | rfl | omega) only [mC, r27_0, r27_1, r27_2, r27_3, r27_4, r27_5, r27_6, r27_7, r27_8, r27_9, r27_10, r27_11, r27_12, r27_13, callW_fn pgUses, callW_fn pgRN, hu, Int.reduceEq, Int.reduceLT, Int.reduceLE, hn, ne_eq, not_true_eq_false, not_false_eq_true, fS, fe0, ↓vmP, vm0, vm1, vm2, vm3, vm4, vm5, vm6, vm7, vm8, vm9, vm10, vm11, vm12, vm13, vm14, vm15, vmC, vmN, Nat.reduceAdd, Nat.reduceMul, Nat.reduceSub, Nat.reduceEqDiff, Nat.reduceLT, Nat.reduceLeDiff, ↓reduceIte, Tg.isFull, Int.reduceToNat]
  · have fS := (str_nil host).trans (eq_false hS)
    have hv : (decide (host = []) && decide (epoch = 0) && decide (1 ≤ seq ∧ seq ≤ 1099511627776) && decide (to = 0) && (decide (0 < body.length) && decide (body.length ≤ 16320))) = false := by simp [hS]
    rw [hv]
    simp -dsimp (disch := first | rfl | omega) only [mC, r27_0, r27_1, r27_2, r27_3, r27_4, r27_5, r27_6, r27_7, r27_8, r27_9, r27_10, r27_11, r27_12, r27_13, callW_fn pgUses, callW_fn pgRN, hu, Int.reduceEq, Int.reduceLT, Int.reduceLE, hn, ne_eq, not_true_eq_false, not_false_eq_true, fS, ↓vmP, vm0, vm1, vm2, vm3, vm4, vm5, vm6, vm7, vm8, vm9, vm10, vm11, vm12, vm13, vm14, vm15, vmC, vmN, Nat.reduceAdd, Nat.reduceMul, Nat.reduceSub, Nat.reduceEqDiff, Nat.reduceLT, Nat.reduceLeDiff, ↓reduceIte, Tg.isFull, Int.reduceToNat]
theorem vld_4 (host : List UInt8) (epoch seq to : Int) (body : List UInt8) (tg : Tg) (bz : Nat) : vld ⟨4, host, epoch, seq, to, body, tg, bz⟩ = (decide (host = []) && decide (epoch = 0) && decide (1 ≤ seq ∧ seq ≤ 1099511627776) && decide (seq ≤ to ∧ to ≤ 1099511627776) && decide (body.length = 0)) := by
  by_cases q0 : 1 ≤ seq ∧ seq ≤ 1099511627776 <;> by_cases q1 : seq ≤ to ∧ to ≤ 1099511627776 <;> simp [vld, lst, least, chk, fitF, inR, clr, clean, q0, q1]
set_option maxRecDepth 20000 in
theorem RV_4 (host : List UInt8) (epoch seq to : Int) (body : List UInt8) (tg : Tg) (bz : Nat) (hh : host.length ≤ 9223372036854775807) : runW false prog 27 [.agg (mC ⟨4, host, epoch, seq, to, body, tg, bz⟩)] [] = some (.d (.bool (vld ⟨4, host, epoch, seq, to, body, tg, bz⟩)), [], []) := by
  refine run_of rfl ?_
  rw [vld_4]
  have hu := uses_eq 4
  rw [show us 4 = (false, true, true, false) from rfl] at hu
  simp only at hu
  have hn := RN_eq host hh
  by_cases hS : host = []
  · have fS := (str_nil host).trans (eq_true hS)
    by_cases he0 : epoch = 0
    · have fe0 : ((epoch : Int) = 0) = True := eq_true (by omega)
      by_cases hs1 : 1 ≤ seq
      · have fs1 : ((seq : Int) < 1) = False := eq_false (by omega)
        by_cases hs2 : seq ≤ 1099511627776
        · have fs2 : (1099511627776 < (seq : Int)) = False := eq_false (by omega)
          by_cases ht1 : seq ≤ to
          · have ft1 : ((to : Int) < seq) = False := eq_false (by omega)
            by_cases ht2 : to ≤ 1099511627776
            · have ft2 : (1099511627776 < (to : Int)) = False := eq_false (by omega)
              by_cases hb0 : body.length = 0
              · have fb0 : ((body.length : Int) = 0) = True := eq_true (by omega)
                have hv : (decide (host = []) && decide (epoch = 0) && decide (1 ≤ seq ∧ seq ≤ 1099511627776) && decide (seq ≤ to ∧ to ≤ 1099511627776) && decide (body.length = 0)) = true := by simp [hS, he0, hs1, hs2, ht1, ht2, hb0]
                rw [hv]
                simp -dsimp (disch := first | rfl | omega) only [mC, r27_0, r27_1, r27_2, r27_3, r27_4, r27_5, r27_6, r27_7, r27_8, r27_9, r27_10, r27_11, r27_12, r27_13, callW_fn pgUses, callW_fn pgRN, hu, Int.reduceEq, Int.reduceLT, Int.reduceLE, hn, ne_eq, not_true_eq_false, not_false_eq_true, fS, fe0, fs1, fs2, ft1, ft2, fb0, ↓vmP, vm0, vm1, vm2, vm3, vm4, vm5, vm6, vm7, vm8, vm9, vm10, vm11, vm12, vm13, vm14, vm15, vmC, vmN, Nat.reduceAdd, Nat.reduceMul, Nat.reduceSub, Nat.reduceEqDiff, Nat.reduceLT, Nat.reduceLeDiff, ↓reduceIte, Tg.isFull, Int.reduceToNat]
              · have fb0 : ((body.length : Int) = 0) = False := eq_false (by omega)
                have hv : (decide (host = []) && decide (epoch = 0) && decide (1 ≤ seq ∧ seq ≤ 1099511627776) && decide (seq ≤ to ∧ to ≤ 1099511627776) && decide (body.length = 0)) = false := by simp [hS, he0, hs1, hs2, ht1, ht2, hb0]
                rw [hv]
                simp -dsimp (disch := first | rfl | omega) only [mC, r27_0, r27_1, r27_2, r27_3, r27_4, r27_5, r27_6, r27_7, r27_8, r27_9, r27_10, r27_11, r27_12, r27_13, callW_fn pgUses, callW_fn pgRN, hu, Int.reduceEq, Int.reduceLT, Int.reduceLE, hn, ne_eq, not_true_eq_false, not_false_eq_true, fS, fe0, fs1, fs2, ft1, ft2, fb0, ↓vmP, vm0, vm1, vm2, vm3, vm4, vm5, vm6, vm7, vm8, vm9, vm10, vm11, vm12, vm13, vm14, vm15, vmC, vmN, Nat.reduceAdd, Nat.reduceMul, Nat.reduceSub, Nat.reduceEqDiff, Nat.reduceLT, Nat.reduceLeDiff, ↓reduceIte, Tg.isFull, Int.reduceToNat]
            · have ft2 : (1099511627776 < (to : Int)) = True := eq_true (by omega)
              have hv : (decide (host = []) && decide (epoch = 0) && decide (1 ≤ seq ∧ seq ≤ 1099511627776) && decide (seq ≤ to ∧ to ≤ 1099511627776) && decide (body.length = 0)) = false := by simp [hS, he0, hs1, hs2, ht1, ht2]
              rw [hv]
              simp -dsimp (disch := first | rfl | omega) only [mC, r27_0, r27_1, r27_2, r27_3, r27_4, r27_5, r27_6, r27_7, r27_8, r27_9, r27_10, r27_11, r27_12, r27_13, callW_fn pgUses, callW_fn pgRN, hu, Int.reduceEq, Int.reduceLT, Int.reduceLE, hn, ne_eq, not_true_eq_false, not_false_eq_true, fS, fe0, fs1, fs2, ft1, ft2, ↓vmP, vm0, vm1, vm2, vm3, vm4, vm5, vm6, vm7, vm8, vm9, vm10, vm11, vm12, vm13, vm14, vm15, vmC, vmN, Nat.reduceAdd, Nat.reduceMul, Nat.reduceSub, Nat.reduceEqDiff, Nat.reduceLT, Nat.reduceLeDiff, ↓reduceIte, Tg.isFull, Int.reduceToNat]
          · have ft1 : ((to : Int) < seq) = True := eq_true (by omega)
            have hv : (decide (host = []) && decide (epoch = 0) && decide (1 ≤ seq ∧ seq ≤ 1099511627776) && decide (seq ≤ to ∧ to ≤ 1099511627776) && decide (body.length = 0)) = false := by simp [hS, he0, hs1, hs2, ht1]
            rw [hv]
            simp -dsimp (disch := first | rfl | omega) only [mC, r27_0, r27_1, r27_2, r27_3, r27_4, r27_5, r27_6, r27_7, r27_8, r27_9, r27_10, r27_11, r27_12, r27_13, callW_fn pgUses, callW_fn pgRN, hu, Int.reduceEq, Int.reduceLT, Int.reduceLE, hn, ne_eq, not_true_eq_false, not_false_eq_true, fS, fe0, fs1, fs2, ft1, ↓vmP, vm0, vm1, vm2, vm3, vm4, vm5, vm6, vm7, vm8, vm9, vm10, vm11, vm12, vm13, vm14, vm15, vmC, vmN, Nat.reduceAdd, Nat.reduceMul, Nat.reduceSub, Nat.reduceEqDiff, Nat.reduceLT, Nat.reduceLeDiff, ↓reduceIte, Tg.isFull, Int.reduceToNat]
        · have fs2 : (1099511627776 < (seq : Int)) = True := eq_true (by omega)
          have hv : (decide (host = []) && decide (epoch = 0) && decide (1 ≤ seq ∧ seq ≤ 1099511627776) && decide (seq ≤ to ∧ to ≤ 1099511627776) && decide (body.length = 0)) = false := by simp [hS, he0, hs1, hs2]
          rw [hv]
          simp -dsimp (disch := first | rfl | omega) only [mC, r27_0, r27_1, r27_2, r27_3, r27_4, r27_5, r27_6, r27_7, r27_8, r27_9, r27_10, r27_11, r27_12, r27_13, callW_fn pgUses, callW_fn pgRN, hu, Int.reduceEq, Int.reduceLT, Int.reduceLE, hn, ne_eq, not_true_eq_false, not_false_eq_true, fS, fe0, fs1, fs2, ↓vmP, vm0, vm1, vm2, vm3, vm4, vm5, vm6, vm7, vm8, vm9, vm10, vm11, vm12, vm13, vm14, vm15, vmC, vmN, Nat.reduceAdd, Nat.reduceMul, Nat.reduceSub, Nat.reduceEqDiff, Nat.reduceLT, Nat.reduceLeDiff, ↓reduceIte, Tg.isFull, Int.reduceToNat]
      · have fs1 : ((seq : Int) < 1) = True := eq_true (by omega)
        have hv : (decide (host = []) && decide (epoch = 0) && decide (1 ≤ seq ∧ seq ≤ 1099511627776) && decide (seq ≤ to ∧ to ≤ 1099511627776) && decide (body.length = 0)) = false := by simp [hS, he0, hs1]
        rw [hv]
        simp -dsimp (disch := first | rfl | omega) only [mC, r27_0, r27_1, r27_2, r27_3, r27_4, r27_5, r27_6, r27_7, r27_8, r27_9, r27_10, r27_11, r27_12, r27_13, callW_fn pgUses, callW_fn pgRN, hu, Int.reduceEq, Int.reduceLT, Int.reduceLE, hn, ne_eq, not_true_eq_false, not_false_eq_true, fS, fe0, fs1, ↓vmP, vm0, vm1, vm2, vm3, vm4, vm5, vm6, vm7, vm8, vm9, vm10, vm11, vm12, vm13, vm14, vm15, vmC, vmN, Nat.reduceAdd, Nat.reduceMul, Nat.reduceSub, Nat.reduceEqDiff, Nat.reduceLT, Nat.reduceLeDiff, ↓reduceIte, Tg.isFull, Int.reduceToNat]
    · have fe0 : ((epoch : Int) = 0) = False := eq_false (by omega)
      have hv : (decide (host = []) && decide (epoch = 0) && decide (1 ≤ seq ∧ seq ≤ 1099511627776) && decide (seq ≤ to ∧ to ≤ 1099511627776) && decide (body.length = 0)) = false := by simp [hS, he0]
      rw [hv]
      simp -dsimp (disch := first | rfl | omega) only [mC, r27_0, r27_1, r27_2, r27_3, r27_4, r27_5, r27_6, r27_7, r27_8, r27_9, r27_10, r27_11, r27_12, r27_13, callW_fn pgUses, callW_fn pgRN, hu, Int.reduceEq, Int.reduceLT, Int.reduceLE, hn, ne_eq, not_true_eq_false, not_false_eq_true, fS, fe0, ↓vmP, vm0, vm1, vm2, vm3, vm4, vm5, vm6, vm7, vm8, vm9, vm10, vm11, vm12, vm13, vm14, vm15, vmC, vmN, Nat.reduceAdd, Nat.reduceMul, Nat.reduceSub, Nat.reduceEqDiff, Nat.reduceLT, Nat.reduceLeDiff, ↓reduceIte, Tg.isFull, Int.reduceToNat]
  · have fS := (str_nil host).trans (eq_false hS)
    have hv : (decide (host = []) && decide (epoch = 0) && decide (1 ≤ seq ∧ seq ≤ 1099511627776) && decide (seq ≤ to ∧ to ≤ 1099511627776) && decide (body.length = 0)) = false := by simp [hS]
    rw [hv]
    simp -dsimp (disch := first | rfl | omega) only [mC, r27_0, r27_1, r27_2, r27_3, r27_4, r27_5, r27_6, r27_7, r27_8, r27_9, r27_10, r27_11, r27_12, r27_13, callW_fn pgUses, callW_fn pgRN, hu, Int.reduceEq, Int.reduceLT, Int.reduceLE, hn, ne_eq, not_true_eq_false, not_false_eq_true, fS, ↓vmP, vm0, vm1, vm2, vm3, vm4, vm5, vm6, vm7, vm8, vm9, vm10, vm11, vm12, vm13, vm14, vm15, vmC, vmN, Nat.reduceAdd, Nat.reduceMul, Nat.reduceSub, Nat.reduceEqDiff, Nat.reduceLT, Nat.reduceLeDiff, ↓reduceIte, Tg.isFull, Int.reduceToNat]
theorem vld_5 (host : List UInt8) (epoch seq to : Int) (body : List UInt8) (tg : Tg) (bz : Nat) : vld ⟨5, host, epoch, seq, to, body, tg, bz⟩ = (decide (host = []) && decide (epoch = 0) && decide (0 ≤ seq ∧ seq ≤ 1099511627776) && decide (to = 0) && decide (body.length = 0)) := by
  by_cases q0 : 0 ≤ seq ∧ seq ≤ 1099511627776 <;> simp [vld, lst, least, chk, fitF, inR, clr, clean, q0]
set_option maxRecDepth 20000 in
theorem RV_5 (host : List UInt8) (epoch seq to : Int) (body : List UInt8) (tg : Tg) (bz : Nat) (hh : host.length ≤ 9223372036854775807) : runW false prog 27 [.agg (mC ⟨5, host, epoch, seq, to, body, tg, bz⟩)] [] = some (.d (.bool (vld ⟨5, host, epoch, seq, to, body, tg, bz⟩)), [], []) := by
  refine run_of rfl ?_
  rw [vld_5]
  have hu := uses_eq 5
  rw [show us 5 = (false, true, false, false) from rfl] at hu
  simp only at hu
  have hn := RN_eq host hh
  by_cases hS : host = []
  · have fS := (str_nil host).trans (eq_true hS)
    by_cases he0 : epoch = 0
    · have fe0 : ((epoch : Int) = 0) = True := eq_true (by omega)
      by_cases hs1 : 0 ≤ seq
      · have fs1 : ((seq : Int) < 0) = False := eq_false (by omega)
        by_cases hs2 : seq ≤ 1099511627776
        · have fs2 : (1099511627776 < (seq : Int)) = False := eq_false (by omega)
          by_cases ht0 : to = 0
          · have ft0 : ((to : Int) = 0) = True := eq_true (by omega)
            by_cases hb0 : body.length = 0
            · have fb0 : ((body.length : Int) = 0) = True := eq_true (by omega)
              have hv : (decide (host = []) && decide (epoch = 0) && decide (0 ≤ seq ∧ seq ≤ 1099511627776) && decide (to = 0) && decide (body.length = 0)) = true := by simp [hS, he0, hs1, hs2, ht0, hb0]
              rw [hv]
              simp -dsimp (disch := first | rfl | omega) only [mC, r27_0, r27_1, r27_2, r27_3, r27_4, r27_5, r27_6, r27_7, r27_8, r27_9, r27_10, r27_11, r27_12, r27_13, callW_fn pgUses, callW_fn pgRN, hu, Int.reduceEq, Int.reduceLT, Int.reduceLE, hn, ne_eq, not_true_eq_false, not_false_eq_true, fS, fe0, fs1, fs2, ft0, fb0, ↓vmP, vm0, vm1, vm2, vm3, vm4, vm5, vm6, vm7, vm8, vm9, vm10, vm11, vm12, vm13, vm14, vm15, vmC, vmN, Nat.reduceAdd, Nat.reduceMul, Nat.reduceSub, Nat.reduceEqDiff, Nat.reduceLT, Nat.reduceLeDiff, ↓reduceIte, Tg.isFull, Int.reduceToNat]
            · have fb0 : ((body.length : Int) = 0) = False := eq_false (by omega)
              have hv : (decide (host = []) && decide (epoch = 0) && decide (0 ≤ seq ∧ seq ≤ 1099511627776) && decide (to = 0) && decide (body.length = 0)) = false := by simp [hS, he0, hs1, hs2, ht0, hb0]
              rw [hv]
              simp -dsimp (disch := first | rfl | omega) only [mC, r27_0, r27_1, r27_2, r27_3, r27_4, r27_5, r27_6, r27_7, r27_8, r27_9, r27_10, r27_11, r27_12, r27_13, callW_fn pgUses, callW_fn pgRN, hu, Int.reduceEq, Int.reduceLT, Int.reduceLE, hn, ne_eq, not_true_eq_false, not_false_eq_true, fS, fe0, fs1, fs2, ft0, fb0, ↓vmP, vm0, vm1, vm2, vm3, vm4, vm5, vm6, vm7, vm8, vm9, vm10, vm11, vm12, vm13, vm14, vm15, vmC, vmN, Nat.reduceAdd, Nat.reduceMul, Nat.reduceSub, Nat.reduceEqDiff, Nat.reduceLT, Nat.reduceLeDiff, ↓reduceIte, Tg.isFull, Int.reduceToNat]
          · have ft0 : ((to : Int) = 0) = False := eq_false (by omega)
            have hv : (decide (host = []) && decide (epoch = 0) && decide (0 ≤ seq ∧ seq ≤ 1099511627776) && decide (to = 0) && decide (body.length = 0)) = false := by simp [hS, he0, hs1, hs2, ht0]
            rw [hv]
            simp -dsimp (disch := first | rfl | omega) only [mC, r27_0, r27_1, r27_2, r27_3, r27_4, r27_5, r27_6, r27_7, r27_8, r27_9, r27_10, r27_11, r27_12, r27_13, callW_fn pgUses, callW_fn pgRN, hu, Int.reduceEq, Int.reduceLT, Int.reduceLE, hn, ne_eq, not_true_eq_false, not_false_eq_true, fS, fe0, fs1, fs2, ft0, ↓vmP, vm0, vm1, vm2, vm3, vm4, vm5, vm6, vm7, vm8, vm9, vm10, vm11, vm12, vm13, vm14, vm15, vmC, vmN, Nat.reduceAdd, Nat.reduceMul, Nat.reduceSub, Nat.reduceEqDiff, Nat.reduceLT, Nat.reduceLeDiff, ↓reduceIte, Tg.isFull, Int.reduceToNat]
        · have fs2 : (1099511627776 < (seq : Int)) = True := eq_true (by omega)
          have hv : (decide (host = []) && decide (epoch = 0) && decide (0 ≤ seq ∧ seq ≤ 1099511627776) && decide (to = 0) && decide (body.length = 0)) = false := by simp [hS, he0, hs1, hs2]
          rw [hv]
          simp -dsimp (disch := first | rfl | omega) only [mC, r27_0, r27_1, r27_2, r27_3, r27_4, r27_5, r27_6, r27_7, r27_8, r27_9, r27_10, r27_11, r27_12, r27_13, callW_fn pgUses, callW_fn pgRN, hu, Int.reduceEq, Int.reduceLT, Int.reduceLE, hn, ne_eq, not_true_eq_false, not_false_eq_true, fS, fe0, fs1, fs2, ↓vmP, vm0, vm1, vm2, vm3, vm4, vm5, vm6, vm7, vm8, vm9, vm10, vm11, vm12, vm13, vm14, vm15, vmC, vmN, Nat.reduceAdd, Nat.reduceMul, Nat.reduceSub, Nat.reduceEqDiff, Nat.reduceLT, Nat.reduceLeDiff, ↓reduceIte, Tg.isFull, Int.reduceToNat]
      · have fs1 : ((seq : Int) < 0) = True := eq_true (by omega)
        have hv : (decide (host = []) && decide (epoch = 0) && decide (0 ≤ seq ∧ seq ≤ 1099511627776) && decide (to = 0) && decide (body.length = 0)) = false := by simp [hS, he0, hs1]
        rw [hv]
        simp -dsimp (disch := first | rfl | omega) only [mC, r27_0, r27_1, r27_2, r27_3, r27_4, r27_5, r27_6, r27_7, r27_8, r27_9, r27_10, r27_11, r27_12, r27_13, callW_fn pgUses, callW_fn pgRN, hu, Int.reduceEq, Int.reduceLT, Int.reduceLE, hn, ne_eq, not_true_eq_false, not_false_eq_true, fS, fe0, fs1, ↓vmP, vm0, vm1, vm2, vm3, vm4, vm5, vm6, vm7, vm8, vm9, vm10, vm11, vm12, vm13, vm14, vm15, vmC, vmN, Nat.reduceAdd, Nat.reduceMul, Nat.reduceSub, Nat.reduceEqDiff, Nat.reduceLT, Nat.reduceLeDiff, ↓reduceIte, Tg.isFull, Int.reduceToNat]
    · have fe0 : ((epoch : Int) = 0) = False := eq_false (by omega)
      have hv : (decide (host = []) && decide (epoch = 0) && decide (0 ≤ seq ∧ seq ≤ 1099511627776) && decide (to = 0) && decide (body.length = 0)) = false := by simp [hS, he0]
      rw [hv]
      simp -dsimp (disch := first | rfl | omega) only [mC, r27_0, r27_1, r27_2, r27_3, r27_4, r27_5, r27_6, r27_7, r27_8, r27_9, r27_10, r27_11, r27_12, r27_13, callW_fn pgUses, callW_fn pgRN, hu, Int.reduceEq, Int.reduceLT, Int.reduceLE, hn, ne_eq, not_true_eq_false, not_false_eq_true, fS, fe0, ↓vmP, vm0, vm1, vm2, vm3, vm4, vm5, vm6, vm7, vm8, vm9, vm10, vm11, vm12, vm13, vm14, vm15, vmC, vmN, Nat.reduceAdd, Nat.reduceMul, Nat.reduceSub, Nat.reduceEqDiff, Nat.reduceLT, Nat.reduceLeDiff, ↓reduceIte, Tg.isFull, Int.reduceToNat]
  · have fS := (str_nil host).trans (eq_false hS)
    have hv : (decide (host = []) && decide (epoch = 0) && decide (0 ≤ seq ∧ seq ≤ 1099511627776) && decide (to = 0) && decide (body.length = 0)) = false := by simp [hS]
    rw [hv]
    simp -dsimp (disch := first | rfl | omega) only [mC, r27_0, r27_1, r27_2, r27_3, r27_4, r27_5, r27_6, r27_7, r27_8, r27_9, r27_10, r27_11, r27_12, r27_13, callW_fn pgUses, callW_fn pgRN, hu, Int.reduceEq, Int.reduceLT, Int.reduceLE, hn, ne_eq, not_true_eq_false, not_false_eq_true, fS, ↓vmP, vm0, vm1, vm2, vm3, vm4, vm5, vm6, vm7, vm8, vm9, vm10, vm11, vm12, vm13, vm14, vm15, vmC, vmN, Nat.reduceAdd, Nat.reduceMul, Nat.reduceSub, Nat.reduceEqDiff, Nat.reduceLT, Nat.reduceLeDiff, ↓reduceIte, Tg.isFull, Int.reduceToNat]
theorem vld_6 (host : List UInt8) (epoch seq to : Int) (body : List UInt8) (tg : Tg) (bz : Nat) : vld ⟨6, host, epoch, seq, to, body, tg, bz⟩ = (decide (host = []) && decide (epoch = 0) && decide (seq = 0) && decide (to = 0) && decide (body.length = 0)) := by
  simp [vld, lst, least, chk, fitF, inR, clr, clean]
set_option maxRecDepth 20000 in
theorem RV_6 (host : List UInt8) (epoch seq to : Int) (body : List UInt8) (tg : Tg) (bz : Nat) (hh : host.length ≤ 9223372036854775807) : runW false prog 27 [.agg (mC ⟨6, host, epoch, seq, to, body, tg, bz⟩)] [] = some (.d (.bool (vld ⟨6, host, epoch, seq, to, body, tg, bz⟩)), [], []) := by
  refine run_of rfl ?_
  rw [vld_6]
  have hu := uses_eq 6
  rw [show us 6 = (false, false, false, false) from rfl] at hu
  simp only at hu
  have hn := RN_eq host hh
  by_cases hS : host = []
  · have fS := (str_nil host).trans (eq_true hS)
    by_cases he0 : epoch = 0
    · have fe0 : ((epoch : Int) = 0) = True := eq_true (by omega)
      by_cases hs0 : seq = 0
      · have fs0 : ((seq : Int) = 0) = True := eq_true (by omega)
        by_cases ht0 : to = 0
        · have ft0 : ((to : Int) = 0) = True := eq_true (by omega)
          by_cases hb0 : body.length = 0
          · have fb0 : ((body.length : Int) = 0) = True := eq_true (by omega)
            have hv : (decide (host = []) && decide (epoch = 0) && decide (seq = 0) && decide (to = 0) && decide (body.length = 0)) = true := by simp [hS, he0, hs0, ht0, hb0]
            rw [hv]
            simp -dsimp (disch := first | rfl | omega) only [mC, r27_0, r27_1, r27_2, r27_3, r27_4, r27_5, r27_6, r27_7, r27_8, r27_9, r27_10, r27_11, r27_12, r27_13, callW_fn pgUses, callW_fn pgRN, hu, Int.reduceEq, Int.reduceLT, Int.reduceLE, hn, ne_eq, not_true_eq_false, not_false_eq_true, fS, fe0, fs0, ft0, fb0, ↓vmP, vm0, vm1, vm2, vm3, vm4, vm5, vm6, vm7, vm8, vm9, vm10, vm11, vm12, vm13, vm14, vm15, vmC, vmN, Nat.reduceAdd, Nat.reduceMul, Nat.reduceSub, Nat.reduceEqDiff, Nat.reduceLT, Nat.reduceLeDiff, ↓reduceIte, Tg.isFull, Int.reduceToNat]
          · have fb0 : ((body.length : Int) = 0) = False := eq_false (by omega)
            have hv : (decide (host = []) && decide (epoch = 0) && decide (seq = 0) && decide (to = 0) && decide (body.length = 0)) = false := by simp [hS, he0, hs0, ht0, hb0]
            rw [hv]
            simp -dsimp (disch := first | rfl | omega) only [mC, r27_0, r27_1, r27_2, r27_3, r27_4, r27_5, r27_6, r27_7, r27_8, r27_9, r27_10, r27_11, r27_12, r27_13, callW_fn pgUses, callW_fn pgRN, hu, Int.reduceEq, Int.reduceLT, Int.reduceLE, hn, ne_eq, not_true_eq_false, not_false_eq_true, fS, fe0, fs0, ft0, fb0, ↓vmP, vm0, vm1, vm2, vm3, vm4, vm5, vm6, vm7, vm8, vm9, vm10, vm11, vm12, vm13, vm14, vm15, vmC, vmN, Nat.reduceAdd, Nat.reduceMul, Nat.reduceSub, Nat.reduceEqDiff, Nat.reduceLT, Nat.reduceLeDiff, ↓reduceIte, Tg.isFull, Int.reduceToNat]
        · have ft0 : ((to : Int) = 0) = False := eq_false (by omega)
          have hv : (decide (host = []) && decide (epoch = 0) && decide (seq = 0) && decide (to = 0) && decide (body.length = 0)) = false := by simp [hS, he0, hs0, ht0]
          rw [hv]
          simp -dsimp (disch := first | rfl | omega) only [mC, r27_0, r27_1, r27_2, r27_3, r27_4, r27_5, r27_6, r27_7, r27_8, r27_9, r27_10, r27_11, r27_12, r27_13, callW_fn pgUses, callW_fn pgRN, hu, Int.reduceEq, Int.reduceLT, Int.reduceLE, hn, ne_eq, not_true_eq_false, not_false_eq_true, fS, fe0, fs0, ft0, ↓vmP, vm0, vm1, vm2, vm3, vm4, vm5, vm6, vm7, vm8, vm9, vm10, vm11, vm12, vm13, vm14, vm15, vmC, vmN, Nat.reduceAdd, Nat.reduceMul, Nat.reduceSub, Nat.reduceEqDiff, Nat.reduceLT, Nat.reduceLeDiff, ↓reduceIte, Tg.isFull, Int.reduceToNat]
      · have fs0 : ((seq : Int) = 0) = False := eq_false (by omega)
        have hv : (decide (host = []) && decide (epoch = 0) && decide (seq = 0) && decide (to = 0) && decide (body.length = 0)) = false := by simp [hS, he0, hs0]
        rw [hv]
        simp -dsimp (disch := first | rfl | omega) only [mC, r27_0, r27_1, r27_2, r27_3, r27_4, r27_5, r27_6, r27_7, r27_8, r27_9, r27_10, r27_11, r27_12, r27_13, callW_fn pgUses, callW_fn pgRN, hu, Int.reduceEq, Int.reduceLT, Int.reduceLE, hn, ne_eq, not_true_eq_false, not_false_eq_true, fS, fe0, fs0, ↓vmP, vm0, vm1, vm2, vm3, vm4, vm5, vm6, vm7, vm8, vm9, vm10, vm11, vm12, vm13, vm14, vm15, vmC, vmN, Nat.reduceAdd, Nat.reduceMul, Nat.reduceSub, Nat.reduceEqDiff, Nat.reduceLT, Nat.reduceLeDiff, ↓reduceIte, Tg.isFull, Int.reduceToNat]
    · have fe0 : ((epoch : Int) = 0) = False := eq_false (by omega)
      have hv : (decide (host = []) && decide (epoch = 0) && decide (seq = 0) && decide (to = 0) && decide (body.length = 0)) = false := by simp [hS, he0]
      rw [hv]
      simp -dsimp (disch := first | rfl | omega) only [mC, r27_0, r27_1, r27_2, r27_3, r27_4, r27_5, r27_6, r27_7, r27_8, r27_9, r27_10, r27_11, r27_12, r27_13, callW_fn pgUses, callW_fn pgRN, hu, Int.reduceEq, Int.reduceLT, Int.reduceLE, hn, ne_eq, not_true_eq_false, not_false_eq_true, fS, fe0, ↓vmP, vm0, vm1, vm2, vm3, vm4, vm5, vm6, vm7, vm8, vm9, vm10, vm11, vm12, vm13, vm14, vm15, vmC, vmN, Nat.reduceAdd, Nat.reduceMul, Nat.reduceSub, Nat.reduceEqDiff, Nat.reduceLT, Nat.reduceLeDiff, ↓reduceIte, Tg.isFull, Int.reduceToNat]
  · have fS := (str_nil host).trans (eq_false hS)
    have hv : (decide (host = []) && decide (epoch = 0) && decide (seq = 0) && decide (to = 0) && decide (body.length = 0)) = false := by simp [hS]
    rw [hv]
    simp -dsimp (disch := first | rfl | omega) only [mC, r27_0, r27_1, r27_2, r27_3, r27_4, r27_5, r27_6, r27_7, r27_8, r27_9, r27_10, r27_11, r27_12, r27_13, callW_fn pgUses, callW_fn pgRN, hu, Int.reduceEq, Int.reduceLT, Int.reduceLE, hn, ne_eq, not_true_eq_false, not_false_eq_true, fS, ↓vmP, vm0, vm1, vm2, vm3, vm4, vm5, vm6, vm7, vm8, vm9, vm10, vm11, vm12, vm13, vm14, vm15, vmC, vmN, Nat.reduceAdd, Nat.reduceMul, Nat.reduceSub, Nat.reduceEqDiff, Nat.reduceLT, Nat.reduceLeDiff, ↓reduceIte, Tg.isFull, Int.reduceToNat]
theorem vld_7 (host : List UInt8) (epoch seq to : Int) (body : List UInt8) (tg : Tg) (bz : Nat) : vld ⟨7, host, epoch, seq, to, body, tg, bz⟩ = (decide (host = []) && decide (epoch = 0) && decide (seq = 0) && decide (to = 0) && decide (body.length = 0)) := by
  simp [vld, lst, least, chk, fitF, inR, clr, clean]
set_option maxRecDepth 20000 in
theorem RV_7 (host : List UInt8) (epoch seq to : Int) (body : List UInt8) (tg : Tg) (bz : Nat) (hh : host.length ≤ 9223372036854775807) : runW false prog 27 [.agg (mC ⟨7, host, epoch, seq, to, body, tg, bz⟩)] [] = some (.d (.bool (vld ⟨7, host, epoch, seq, to, body, tg, bz⟩)), [], []) := by
  refine run_of rfl ?_
  rw [vld_7]
  have hu := uses_eq 7
  rw [show us 7 = (false, false, false, false) from rfl] at hu
  simp only at hu
  have hn := RN_eq host hh
  by_cases hS : host = []
  · have fS := (str_nil host).trans (eq_true hS)
    by_cases he0 : epoch = 0
    · have fe0 : ((epoch : Int) = 0) = True := eq_true (by omega)
      by_cases hs0 : seq = 0
      · have fs0 : ((seq : Int) = 0) = True := eq_true (by omega)
        by_cases ht0 : to = 0
        · have ft0 : ((to : Int) = 0) = True := eq_true (by omega)
          by_cases hb0 : body.length = 0
          · have fb0 : ((body.length : Int) = 0) = True := eq_true (by omega)
            have hv : (decide (host = []) && decide (epoch = 0) && decide (seq = 0) && decide (to = 0) && decide (body.length = 0)) = true := by simp [hS, he0, hs0, ht0, hb0]
            rw [hv]
            simp -dsimp (disch := first | rfl | omega) only [mC, r27_0, r27_1, r27_2, r27_3, r27_4, r27_5, r27_6, r27_7, r27_8, r27_9, r27_10, r27_11, r27_12, r27_13, callW_fn pgUses, callW_fn pgRN, hu, Int.reduceEq, Int.reduceLT, Int.reduceLE, hn, ne_eq, not_true_eq_false, not_false_eq_true, fS, fe0, fs0, ft0, fb0, ↓vmP, vm0, vm1, vm2, vm3, vm4, vm5, vm6, vm7, vm8, vm9, vm10, vm11, vm12, vm13, vm14, vm15, vmC, vmN, Nat.reduceAdd, Nat.reduceMul, Nat.reduceSub, Nat.reduceEqDiff, Nat.reduceLT, Nat.reduceLeDiff, ↓reduceIte, Tg.isFull, Int.reduceToNat]
          · have fb0 : ((body.length : Int) = 0) = False := eq_false (by omega)
            have hv : (decide (host = []) && decide (epoch = 0) && decide (seq = 0) && decide (to = 0) && decide (body.length = 0)) = false := by simp [hS, he0, hs0, ht0, hb0]
            rw [hv]
            simp -dsimp (disch := first | rfl | omega) only [mC, r27_0, r27_1, r27_2, r27_3, r27_4, r27_5, r27_6, r27_7, r27_8, r27_9, r27_10, r27_11, r27_12, r27_13, callW_fn pgUses, callW_fn pgRN, hu, Int.reduceEq, Int.reduceLT, Int.reduceLE, hn, ne_eq, not_true_eq_false, not_false_eq_true, fS, fe0, fs0, ft0, fb0, ↓vmP, vm0, vm1, vm2, vm3, vm4, vm5, vm6, vm7, vm8, vm9, vm10, vm11, vm12, vm13, vm14, vm15, vmC, vmN, Nat.reduceAdd, Nat.reduceMul, Nat.reduceSub, Nat.reduceEqDiff, Nat.reduceLT, Nat.reduceLeDiff, ↓reduceIte, Tg.isFull, Int.reduceToNat]
        · have ft0 : ((to : Int) = 0) = False := eq_false (by omega)
          have hv : (decide (host = []) && decide (epoch = 0) && decide (seq = 0) && decide (to = 0) && decide (body.length = 0)) = false := by simp [hS, he0, hs0, ht0]
          rw [hv]
          simp -dsimp (disch := first | rfl | omega) only [mC, r27_0, r27_1, r27_2, r27_3, r27_4, r27_5, r27_6, r27_7, r27_8, r27_9, r27_10, r27_11, r27_12, r27_13, callW_fn pgUses, callW_fn pgRN, hu, Int.reduceEq, Int.reduceLT, Int.reduceLE, hn, ne_eq, not_true_eq_false, not_false_eq_true, fS, fe0, fs0, ft0, ↓vmP, vm0, vm1, vm2, vm3, vm4, vm5, vm6, vm7, vm8, vm9, vm10, vm11, vm12, vm13, vm14, vm15, vmC, vmN, Nat.reduceAdd, Nat.reduceMul, Nat.reduceSub, Nat.reduceEqDiff, Nat.reduceLT, Nat.reduceLeDiff, ↓reduceIte, Tg.isFull, Int.reduceToNat]
      · have fs0 : ((seq : Int) = 0) = False := eq_false (by omega)
        have hv : (decide (host = []) && decide (epoch = 0) && decide (seq = 0) && decide (to = 0) && decide (body.length = 0)) = false := by simp [hS, he0, hs0]
        rw [hv]
        simp -dsimp (disch := first | rfl | omega) only [mC, r27_0, r27_1, r27_2, r27_3, r27_4, r27_5, r27_6, r27_7, r27_8, r27_9, r27_10, r27_11, r27_12, r27_13, callW_fn pgUses, callW_fn pgRN, hu, Int.reduceEq, Int.reduceLT, Int.reduceLE, hn, ne_eq, not_true_eq_false, not_false_eq_true, fS, fe0, fs0, ↓vmP, vm0, vm1, vm2, vm3, vm4, vm5, vm6, vm7, vm8, vm9, vm10, vm11, vm12, vm13, vm14, vm15, vmC, vmN, Nat.reduceAdd, Nat.reduceMul, Nat.reduceSub, Nat.reduceEqDiff, Nat.reduceLT, Nat.reduceLeDiff, ↓reduceIte, Tg.isFull, Int.reduceToNat]
    · have fe0 : ((epoch : Int) = 0) = False := eq_false (by omega)
      have hv : (decide (host = []) && decide (epoch = 0) && decide (seq = 0) && decide (to = 0) && decide (body.length = 0)) = false := by simp [hS, he0]
      rw [hv]
      simp -dsimp (disch := first | rfl | omega) only [mC, r27_0, r27_1, r27_2, r27_3, r27_4, r27_5, r27_6, r27_7, r27_8, r27_9, r27_10, r27_11, r27_12, r27_13, callW_fn pgUses, callW_fn pgRN, hu, Int.reduceEq, Int.reduceLT, Int.reduceLE, hn, ne_eq, not_true_eq_false, not_false_eq_true, fS, fe0, ↓vmP, vm0, vm1, vm2, vm3, vm4, vm5, vm6, vm7, vm8, vm9, vm10, vm11, vm12, vm13, vm14, vm15, vmC, vmN, Nat.reduceAdd, Nat.reduceMul, Nat.reduceSub, Nat.reduceEqDiff, Nat.reduceLT, Nat.reduceLeDiff, ↓reduceIte, Tg.isFull, Int.reduceToNat]
  · have fS := (str_nil host).trans (eq_false hS)
    have hv : (decide (host = []) && decide (epoch = 0) && decide (seq = 0) && decide (to = 0) && decide (body.length = 0)) = false := by simp [hS]
    rw [hv]
    simp -dsimp (disch := first | rfl | omega) only [mC, r27_0, r27_1, r27_2, r27_3, r27_4, r27_5, r27_6, r27_7, r27_8, r27_9, r27_10, r27_11, r27_12, r27_13, callW_fn pgUses, callW_fn pgRN, hu, Int.reduceEq, Int.reduceLT, Int.reduceLE, hn, ne_eq, not_true_eq_false, not_false_eq_true, fS, ↓vmP, vm0, vm1, vm2, vm3, vm4, vm5, vm6, vm7, vm8, vm9, vm10, vm11, vm12, vm13, vm14, vm15, vmC, vmN, Nat.reduceAdd, Nat.reduceMul, Nat.reduceSub, Nat.reduceEqDiff, Nat.reduceLT, Nat.reduceLeDiff, ↓reduceIte, Tg.isFull, Int.reduceToNat]
theorem RValid_eq (m : Msg) (hh : m.host.length ≤ 9223372036854775807) : runW false prog 27 [.agg (mC m)] [] = some (.d (.bool (vld m)), [], []) := by
  obtain ⟨k, host, epoch, seq, to, body, tg, bz⟩ := m
  by_cases h1 : k = 1
  · subst h1; exact RV_1 host epoch seq to body tg bz hh
  by_cases h2 : k = 2
  · subst h2; exact RV_2 host epoch seq to body tg bz hh
  by_cases h3 : k = 3
  · subst h3; exact RV_3 host epoch seq to body tg bz hh
  by_cases h4 : k = 4
  · subst h4; exact RV_4 host epoch seq to body tg bz hh
  by_cases h5 : k = 5
  · subst h5; exact RV_5 host epoch seq to body tg bz hh
  by_cases h6 : k = 6
  · subst h6; exact RV_6 host epoch seq to body tg bz hh
  by_cases h7 : k = 7
  · subst h7; exact RV_7 host epoch seq to body tg bz hh
  have hv : vld ⟨k, host, epoch, seq, to, body, tg, bz⟩ = false := by simp [vld, lst, h1, h2, h3, h4, h5, h6, h7]
  rw [hv]
  refine run_of rfl ?_
  by_cases hk : k < 1
  · have e1 : ((k : Int) < 1) = True := eq_true hk
    simp -dsimp (disch := first | rfl | omega) only [mC, r27_0, r27_1, r27_2, e1, ↓vmP, vm0, vm1, vm2, vm3, vm4, vm5, vm6, vm7, vm8, vm9, vm10, vm11, vm12, vm13, vm14, vm15, vmC, vmN, Nat.reduceAdd, Nat.reduceMul, Nat.reduceSub, Nat.reduceEqDiff, Nat.reduceLT, Nat.reduceLeDiff, ↓reduceIte, Tg.isFull, Int.reduceToNat]
  · have e1 : ((k : Int) < 1) = False := eq_false hk
    have e2 : (7 < (k : Int)) = True := eq_true (by omega)
    simp -dsimp (disch := first | rfl | omega) only [mC, r27_0, r27_1, r27_2, e1, e2, ↓vmP, vm0, vm1, vm2, vm3, vm4, vm5, vm6, vm7, vm8, vm9, vm10, vm11, vm12, vm13, vm14, vm15, vmC, vmN, Nat.reduceAdd, Nat.reduceMul, Nat.reduceSub, Nat.reduceEqDiff, Nat.reduceLT, Nat.reduceLeDiff, ↓reduceIte, Tg.isFull, Int.reduceToNat]
end Go.Vm.Wr
