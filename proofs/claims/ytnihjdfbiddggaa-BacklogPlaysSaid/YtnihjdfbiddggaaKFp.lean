/- A part of the proof of BacklogPlaysSaid: YtnihjdfbiddggaaFp. -/
import Derived.Test.YtnihjdfbiddggaaKFo
/- Backlogs: records put. -/
set_option linter.unusedVariables false
set_option linter.unusedSimpArgs false
set_option maxHeartbeats 1000000
namespace Go.Vm.Bk
def putB (b : Bk) (r : Rec) (last : Bool) : Bk := { b with queue := b.queue ++ [r], reserved := b.reserved - 1, op := if last then delI b.op r.serial else b.op }
theorem pgDel : prog 53 = some c53 := rfl
theorem pgRecO : prog 52 = some c52 := rfl
set_option maxRecDepth 20000 in
theorem Put_eq (b : Bk) (z1 z2 z3 : Nat) (hz : Zk b z1 z2 z3) (hs : Sm b) (r : Rec) (hr : r.pairs.length ≤ 100000) (last : Bool) : runW false prog 25 [.agg (bA b z1 z2 z3), .agg (recA r), .d (.bool last)] [] = some (.agg (bA (putB b r last) 1 4 2), [], []) := by
  have h1 := ownB_eq b z1 z2 z3 hz hs
  have h2 := Rec_eq r (by omega)
  have hres := hs.r
  have hlq := hs.lq
  have hrl := recs_len b.queue
  have h3 := recs_one r
  have h4 := recs_app b.queue [r]
  have h5 : (recs [r]).length = 1 := rfl
  have hil := i64s_len b.op
  have hlo := hs.lo
  simp only [bA, bC, bH] at h1
  cases last with
  | false =>
    simp only [putB, Bool.false_eq_true, if_false]
    simp only [recA] at h2
    refine run_of rfl ?_
    generalize recs [r] = X1 at h3 h4 h5
    generalize hQ : recs (b.queue ++ [r]) = QQ at h4
    simp -dsimp (disch := first | rfl | omega) only [bA, bC, bH, recA, r25_0, r25_1, r25_2, callW_fn pgOwnB, callW_fn pgRecO, h1, h2, h3, h4, h5, hrl, ↓vmP, vm0, vm1, vm2, vm3, vm4, vm5, vm6, vm7, vm8, vm9, vm10, vm11, vm12, vm13, vm14, vm15, vmC, vmN, Nat.reduceAdd, Nat.reduceMul, Nat.reduceSub, Nat.reduceEqDiff, Nat.reduceLT, Nat.reduceLeDiff, ↓reduceIte, Tg.isFull, Int.reduceToNat]
    refine regD_of (by kernel_rfl) ?_
    simp -dsimp (disch := first | rfl | omega) only [bA, bC, bH, recA, r25_3, r25_4, r25_5, r25_6, hQ, ↓vmP, vm0, vm1, vm2, vm3, vm4, vm5, vm6, vm7, vm8, vm9, vm10, vm11, vm12, vm13, vm14, vm15, vmC, vmN, Nat.reduceAdd, Nat.reduceMul, Nat.reduceSub, Nat.reduceEqDiff, Nat.reduceLT, Nat.reduceLeDiff, ↓reduceIte, Tg.isFull, Int.reduceToNat]
  | true =>
    simp only [putB, if_true]
    rcases Del_eq b.op (by omega) r b.op.isEmpty with ⟨hn, hd⟩ | ⟨R, ⟨C, hC, hCl, rfl⟩, hd⟩
    · rw [ixI_no _ _ _ hn]
      simp only [recA] at h2 hd
      refine run_of rfl ?_
      generalize recs [r] = X1 at h3 h4 h5
      generalize hQ : recs (b.queue ++ [r]) = QQ at h4
      simp -dsimp (disch := first | rfl | omega) only [bA, bC, bH, recA, r25_0, r25_1, r25_2, callW_fn pgOwnB, callW_fn pgRecO, h1, h2, h3, h4, h5, hrl, ↓vmP, vm0, vm1, vm2, vm3, vm4, vm5, vm6, vm7, vm8, vm9, vm10, vm11, vm12, vm13, vm14, vm15, vmC, vmN, Nat.reduceAdd, Nat.reduceMul, Nat.reduceSub, Nat.reduceEqDiff, Nat.reduceLT, Nat.reduceLeDiff, ↓reduceIte, Tg.isFull, Int.reduceToNat]
      refine regD_of (by kernel_rfl) ?_
      simp -dsimp (disch := first | rfl | omega) only [bA, bC, bH, recA, r25_3, r25_4, r25_5, r25_6, callW_fn pgDel, hd, hQ, vmK, ↓vmP, vm0, vm1, vm2, vm3, vm4, vm5, vm6, vm7, vm8, vm9, vm10, vm11, vm12, vm13, vm14, vm15, vmC, vmN, Nat.reduceAdd, Nat.reduceMul, Nat.reduceSub, Nat.reduceEqDiff, Nat.reduceLT, Nat.reduceLeDiff, ↓reduceIte, Tg.isFull, Int.reduceToNat]
    · simp only [recA] at h2 hd
      refine run_of rfl ?_
      generalize recs [r] = X1 at h3 h4 h5
      generalize hQ : recs (b.queue ++ [r]) = QQ at h4
      generalize hO : i64s (delI b.op r.serial) = OO at hC
      generalize hN : (delI b.op r.serial).length = i at hd hC hCl
      have hC2 : (C.drop 0).take (i - 0) = OO := hC
      simp -dsimp (disch := first | rfl | omega) only [bA, bC, bH, recA, r25_0, r25_1, r25_2, callW_fn pgOwnB, callW_fn pgRecO, h1, h2, h3, h4, h5, hrl, ↓vmP, vm0, vm1, vm2, vm3, vm4, vm5, vm6, vm7, vm8, vm9, vm10, vm11, vm12, vm13, vm14, vm15, vmC, vmN, Nat.reduceAdd, Nat.reduceMul, Nat.reduceSub, Nat.reduceEqDiff, Nat.reduceLT, Nat.reduceLeDiff, ↓reduceIte, Tg.isFull, Int.reduceToNat]
      refine regD_of (by kernel_rfl) ?_
      simp -dsimp (disch := first | rfl | omega) only [bA, bC, bH, recA, r25_3, r25_4, r25_5, r25_6, callW_fn pgDel, hd, hQ, hO, hC2, hC, vmK, ↓vmP, vm0, vm1, vm2, vm3, vm4, vm5, vm6, vm7, vm8, vm9, vm10, vm11, vm12, vm13, vm14, vm15, vmC, vmN, Nat.reduceAdd, Nat.reduceMul, Nat.reduceSub, Nat.reduceEqDiff, Nat.reduceLT, Nat.reduceLeDiff, ↓reduceIte, Tg.isFull, Int.reduceToNat]
theorem pgPut : prog 25 = some c25 := rfl
end Go.Vm.Bk
