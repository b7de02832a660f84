/- A part of the proof of BacklogPlaysSaid: YtnihjdfbiddggaaFh. -/
import Derived.Test.YtnihjdfbiddggaaKFg
/- Backlogs: losses, told and counted. -/
set_option linter.unusedVariables false
set_option linter.unusedSimpArgs false
set_option maxHeartbeats 1000000
namespace Go.Vm.Bk
def tellB (b : Bk) (t : Int) : Bk := { b with serial := b.serial + 1, queue := b.queue ++ [lossR b.p0 b.p1 b.p2 b.p3 b.p4 t (b.serial + 1)], p0 := 0, p1 := 0, p2 := 0, p3 := 0, p4 := 0 }
theorem pgLoss : prog 68 = some c68 := rfl
theorem pgRLoss : prog 29 = some c29 := rfl
theorem pgEStamp : prog 67 = some c67 := rfl
theorem lossR_stp (p0 p1 p2 p3 p4 t s : Int) : stp s (lossR p0 p1 p2 p3 p4 t 0) = lossR p0 p1 p2 p3 p4 t s := rfl
theorem recs_one (r : Rec) : [[D.int .i64 r.ty, .int .i64 r.time, .int .i64 r.serial, .sl .any (pz r.pairs) (psD r.pairs)]] = recs [r] := rfl
set_option maxRecDepth 20000 in
theorem Tell_eq (b : Bk) (hs : Sm b) (f1 f2 f3 : Bool) (t : Int) : runW false prog 51 [.ptr 0 0, .d (.int .i64 t)] (bP b f1 f2 f3) =
    some (.tup [], [.box (bC (tellB b t) (.row 1) (.row 4) (.row 3)), .row 1 f1 (i64s b.op), .dead, .row 2 f3 (notes b.nts), .row 4 false (recs (tellB b t).queue)], [0, 2]) := by
  refine run_of rfl ?_
  have h1 := Loss_eq b.p0 b.p1 b.p2 b.p3 b.p4 t
  have hser := hs.s
  have hlq := hs.lq
  have hrl := recs_len b.queue
  have h2 := Stamp_eq [lossR b.p0 b.p1 b.p2 b.p3 b.p4 t 0] (by simp) (fun r hr => by simp at hr; subst hr; simp [lossR, lossP]) 4 rfl (b.serial + 1)
  rw [List.map_cons, List.map_nil, lossR_stp] at h2
  have h3 := recs_one (lossR b.p0 b.p1 b.p2 b.p3 b.p4 t 0)
  have h4 : recs b.queue ++ recs [lossR b.p0 b.p1 b.p2 b.p3 b.p4 t (b.serial + 1)] = recs (tellB b t).queue := by rw [recs_app]; rfl
  have h5 : (recs [lossR b.p0 b.p1 b.p2 b.p3 b.p4 t (b.serial + 1)]).length = 1 := rfl
  simp only [recA] at h1
  generalize lossR b.p0 b.p1 b.p2 b.p3 b.p4 t 0 = r0 at h1 h2 h3
  generalize recs [r0] = X0 at h2 h3
  generalize recs [lossR b.p0 b.p1 b.p2 b.p3 b.p4 t (b.serial + 1)] = X1 at h2 h4 h5
  generalize (tellB b t).queue = Q at h4 ⊢
  simp -dsimp (disch := first | rfl | omega) only [bP, bC, tellB, r51_0, r51_1, callW_fn pgLoss, callW_fn pgEStamp, h1, h2, h3, h4, h5, hrl, ↓vmP, vm0, vm1, vm2, vm3, vm4, vm5, vm6, vm7, vm8, vm9, vm10, vm11, vm12, vm13, vm14, vm15, vmC, vmN, Nat.reduceAdd, Nat.reduceMul, Nat.reduceSub, Nat.reduceEqDiff, Nat.reduceLT, Nat.reduceLeDiff, ↓reduceIte, Tg.isFull, Int.reduceToNat]
  refine regD_of (by kernel_rfl) ?_
  simp -dsimp (disch := first | rfl | omega) only [bP, bC, tellB, r51_2, ↓vmP, vm0, vm1, vm2, vm3, vm4, vm5, vm6, vm7, vm8, vm9, vm10, vm11, vm12, vm13, vm14, vm15, vmC, vmN, Nat.reduceAdd, Nat.reduceMul, Nat.reduceSub, Nat.reduceEqDiff, Nat.reduceLT, Nat.reduceLeDiff, ↓reduceIte, Tg.isFull, Int.reduceToNat]
set_option maxRecDepth 20000 in
theorem RTell_eq (b : Bk) (hs : Sm b) (f1 f2 f3 : Bool) (t : Int) : runW false prog 38 [.ptr 0 0, .d (.int .i64 t)] (bP b f1 f2 f3) =
    some (.tup [], [.box (bC (tellB b t) (.row 1) (.row 4) (.row 3)), .row 1 f1 (i64s b.op), .dead, .row 2 f3 (notes b.nts), .row 4 false (recs (tellB b t).queue)], [0, 2]) := by
  refine run_of rfl ?_
  have h1 := RLoss_eq b.p0 b.p1 b.p2 b.p3 b.p4 t
  have hser := hs.s
  have hlq := hs.lq
  have hrl := recs_len b.queue
  have h2 := RStamp_eq [lossR b.p0 b.p1 b.p2 b.p3 b.p4 t 0] (by simp) (fun r hr => by simp at hr; subst hr; simp [lossR, lossP]) 4 rfl (b.serial + 1)
  rw [List.map_cons, List.map_nil, lossR_stp] at h2
  have h3 := recs_one (lossR b.p0 b.p1 b.p2 b.p3 b.p4 t 0)
  have h4 : recs b.queue ++ recs [lossR b.p0 b.p1 b.p2 b.p3 b.p4 t (b.serial + 1)] = recs (tellB b t).queue := by rw [recs_app]; rfl
  have h5 : (recs [lossR b.p0 b.p1 b.p2 b.p3 b.p4 t (b.serial + 1)]).length = 1 := rfl
  simp only [recA] at h1
  generalize lossR b.p0 b.p1 b.p2 b.p3 b.p4 t 0 = r0 at h1 h2 h3
  generalize recs [r0] = X0 at h2 h3
  generalize recs [lossR b.p0 b.p1 b.p2 b.p3 b.p4 t (b.serial + 1)] = X1 at h2 h4 h5
  generalize (tellB b t).queue = Q at h4 ⊢
  simp -dsimp (disch := first | rfl | omega) only [bP, bC, tellB, r38_0, r38_1, callW_fn pgRLoss, callW_fn pgStamp, h1, h2, h3, h4, h5, hrl, ↓vmP, vm0, vm1, vm2, vm3, vm4, vm5, vm6, vm7, vm8, vm9, vm10, vm11, vm12, vm13, vm14, vm15, vmC, vmN, Nat.reduceAdd, Nat.reduceMul, Nat.reduceSub, Nat.reduceEqDiff, Nat.reduceLT, Nat.reduceLeDiff, ↓reduceIte, Tg.isFull, Int.reduceToNat]
  refine regD_of (by kernel_rfl) ?_
  simp -dsimp (disch := first | rfl | omega) only [bP, bC, tellB, r38_2, ↓vmP, vm0, vm1, vm2, vm3, vm4, vm5, vm6, vm7, vm8, vm9, vm10, vm11, vm12, vm13, vm14, vm15, vmC, vmN, Nat.reduceAdd, Nat.reduceMul, Nat.reduceSub, Nat.reduceEqDiff, Nat.reduceLT, Nat.reduceLeDiff, ↓reduceIte, Tg.isFull, Int.reduceToNat]
/-- A loss counted; the notices kept. -/
def loseB (b : Bk) (t reason : Int) : Bk := { b with serial := b.serial + 1, p0 := (if pend b then b.p0 else b.serial + 1), p1 := b.serial + 1, p2 := b.p2 + (if reason = 0 then 1 else 0), p3 := b.p3 + (if reason = 1 then 1 else 0), p4 := b.p4 + (if reason = 2 then 1 else 0), lost := b.lost + 1, nts := (if b.fail = 2 then b.nts.drop (b.nts.length - 15) ++ [(t, b.serial + 1)] else b.nts), halted := (if b.fail = 3 then true else b.halted) }
/-- What is known of the losses that were not told. -/
def PpOk (b : Bk) : Prop := b.p0 = 0 ↔ pend b = false
set_option maxRecDepth 20000 in
theorem Lose0_other (b : Bk) (hs : Sm b) (hp : PpOk b) (f1 f2 f3 : Bool) (t : Int) (hf : b.fail ≠ 2) : runW false prog 37 [.ptr 0 0, .d (.int .i64 t), .ptr 0 9] (bP b f1 f2 f3) = some (.tup [], bP (loseB b t 0) f1 f2 f3, [0]) := by
  refine run_of rfl ?_
  have hser := hs.s
  have hp2 := hs.p
  have hlo := hs.l
  have hnl := notes_len b.nts
  have hln := hs.ln
  have e2 : (b.fail = 2) = False := eq_false hf
  by_cases h0 : b.p0 = 0
  · have e0 : (b.p0 = 0) = True := eq_true h0
    have hpe : pend b = false := hp.1 h0
    by_cases h3 : b.fail = 3
    · have e3 : (b.fail = 3) = True := eq_true h3
      simp -dsimp (disch := first | rfl | omega) only [bP, bC, loseB, r37_0, r37_1, r37_3, r37_4, r37_5, r37_6, r37_10, r37_2, r37_11, e0, e2, e3, hpe, Bool.false_eq_true, if_false, if_true, Int.reduceEq, Int.add_zero, ↓vmP, vm0, vm1, vm2, vm3, vm4, vm5, vm6, vm7, vm8, vm9, vm10, vm11, vm12, vm13, vm14, vm15, vmC, vmN, Nat.reduceAdd, Nat.reduceMul, Nat.reduceSub, Nat.reduceEqDiff, Nat.reduceLT, Nat.reduceLeDiff, ↓reduceIte, Tg.isFull, Int.reduceToNat]
    · have e3 : (b.fail = 3) = False := eq_false h3
      simp -dsimp (disch := first | rfl | omega) only [bP, bC, loseB, r37_0, r37_1, r37_3, r37_4, r37_5, r37_6, r37_10, r37_2, r37_11, e0, e2, e3, hpe, Bool.false_eq_true, if_false, if_true, Int.reduceEq, Int.add_zero, ↓vmP, vm0, vm1, vm2, vm3, vm4, vm5, vm6, vm7, vm8, vm9, vm10, vm11, vm12, vm13, vm14, vm15, vmC, vmN, Nat.reduceAdd, Nat.reduceMul, Nat.reduceSub, Nat.reduceEqDiff, Nat.reduceLT, Nat.reduceLeDiff, ↓reduceIte, Tg.isFull, Int.reduceToNat]
  · have e0 : (b.p0 = 0) = False := eq_false h0
    have hpe : pend b = true := by
      cases h : pend b with
      | true => rfl
      | false => exact absurd (hp.2 h) h0
    by_cases h3 : b.fail = 3
    · have e3 : (b.fail = 3) = True := eq_true h3
      simp -dsimp (disch := first | rfl | omega) only [bP, bC, loseB, r37_0, r37_1, r37_3, r37_4, r37_5, r37_6, r37_10, r37_11, e0, e2, e3, hpe, Bool.false_eq_true, if_false, if_true, Int.reduceEq, Int.add_zero, ↓vmP, vm0, vm1, vm2, vm3, vm4, vm5, vm6, vm7, vm8, vm9, vm10, vm11, vm12, vm13, vm14, vm15, vmC, vmN, Nat.reduceAdd, Nat.reduceMul, Nat.reduceSub, Nat.reduceEqDiff, Nat.reduceLT, Nat.reduceLeDiff, ↓reduceIte, Tg.isFull, Int.reduceToNat]
    · have e3 : (b.fail = 3) = False := eq_false h3
      simp -dsimp (disch := first | rfl | omega) only [bP, bC, loseB, r37_0, r37_1, r37_3, r37_4, r37_5, r37_6, r37_10, r37_11, e0, e2, e3, hpe, Bool.false_eq_true, if_false, if_true, Int.reduceEq, Int.add_zero, ↓vmP, vm0, vm1, vm2, vm3, vm4, vm5, vm6, vm7, vm8, vm9, vm10, vm11, vm12, vm13, vm14, vm15, vmC, vmN, Nat.reduceAdd, Nat.reduceMul, Nat.reduceSub, Nat.reduceEqDiff, Nat.reduceLT, Nat.reduceLeDiff, ↓reduceIte, Tg.isFull, Int.reduceToNat]
set_option maxRecDepth 20000 in
theorem Lose0_few (b : Bk) (hs : Sm b) (hp : PpOk b) (f1 f2 f3 : Bool) (t : Int) (hf : b.fail = 2) (hl : b.nts.length < 16) : runW false prog 37 [.ptr 0 0, .d (.int .i64 t), .ptr 0 9] (bP b f1 f2 f3) = some (.tup [], [.box (bC (loseB b t 0) (.row 1) (.row 2) (.row 4)), .row 1 f1 (i64s b.op), .row 4 f2 (recs b.queue), .dead, .row 2 false (notes (loseB b t 0).nts)], [0, 3]) := by
  refine run_of rfl ?_
  have hser := hs.s
  have hp2 := hs.p
  have hlo := hs.l
  have hnl := notes_len b.nts
  have hln := hs.ln
  have e2 : (b.fail = 2) = True := eq_true hf
  have e3 : (b.fail = 3) = False := eq_false (by omega)
  have hap : notes b.nts ++ [[.int .i64 t, .int .i64 (b.serial + 1)]] = notes (b.nts ++ [(t, b.serial + 1)]) := by rw [← notes_app]; rfl
  have hal := notes_len (b.nts ++ [(t, b.serial + 1)])
  rw [List.length_append, List.length_cons, List.length_nil] at hal
  have ex : (16 < ((b.nts.length + 1 : Nat) : Int)) = False := eq_false (by omega)
  have hnt : (loseB b t 0).nts = b.nts ++ [(t, b.serial + 1)] := by simp only [loseB, hf, if_true]; rw [show b.nts.length - 15 = 0 by omega]; rfl
  generalize (loseB b t 0).nts = NN at hnt ⊢
  rw [hnt]
  generalize notes (b.nts ++ [(t, b.serial + 1)]) = X at hap hal ⊢
  by_cases h0 : b.p0 = 0
  · have e0 : (b.p0 = 0) = True := eq_true h0
    have hpe : pend b = false := hp.1 h0
    simp -dsimp (disch := first | rfl | omega) only [bP, bC, loseB, r37_0, r37_1, r37_3, r37_4, r37_5, r37_6, r37_10, r37_2, r37_7, r37_8, r37_9, e0, e2, e3, hf, hpe, hap, Bool.false_eq_true, if_false, if_true, Int.reduceEq, Int.add_zero, ↓vmP, vm0, vm1, vm2, vm3, vm4, vm5, vm6, vm7, vm8, vm9, vm10, vm11, vm12, vm13, vm14, vm15, vmC, vmN, Nat.reduceAdd, Nat.reduceMul, Nat.reduceSub, Nat.reduceEqDiff, Nat.reduceLT, Nat.reduceLeDiff, ↓reduceIte, Tg.isFull, Int.reduceToNat]
    refine regD_of (by kernel_rfl) ?_
    simp -dsimp (disch := first | rfl | omega) only [bP, bC, loseB, r37_0, r37_1, r37_3, r37_4, r37_5, r37_6, r37_10, r37_7, r37_8, r37_9, e0, e2, e3, ex, hf, hpe, hap, hal, hln, Bool.false_eq_true, if_false, if_true, Int.reduceEq, Int.add_zero, ↓vmP, vm0, vm1, vm2, vm3, vm4, vm5, vm6, vm7, vm8, vm9, vm10, vm11, vm12, vm13, vm14, vm15, vmC, vmN, Nat.reduceAdd, Nat.reduceMul, Nat.reduceSub, Nat.reduceEqDiff, Nat.reduceLT, Nat.reduceLeDiff, ↓reduceIte, Tg.isFull, Int.reduceToNat]
  · have e0 : (b.p0 = 0) = False := eq_false h0
    have hpe : pend b = true := by
      cases h : pend b with
      | true => rfl
      | false => exact absurd (hp.2 h) h0
    simp -dsimp (disch := first | rfl | omega) only [bP, bC, loseB, r37_0, r37_1, r37_3, r37_4, r37_5, r37_6, r37_10, r37_7, r37_8, r37_9, e0, e2, e3, hf, hpe, hap, Bool.false_eq_true, if_false, if_true, Int.reduceEq, Int.add_zero, ↓vmP, vm0, vm1, vm2, vm3, vm4, vm5, vm6, vm7, vm8, vm9, vm10, vm11, vm12, vm13, vm14, vm15, vmC, vmN, Nat.reduceAdd, Nat.reduceMul, Nat.reduceSub, Nat.reduceEqDiff, Nat.reduceLT, Nat.reduceLeDiff, ↓reduceIte, Tg.isFull, Int.reduceToNat]
    refine regD_of (by kernel_rfl) ?_
    simp -dsimp (disch := first | rfl | omega) only [bP, bC, loseB, r37_0, r37_1, r37_3, r37_4, r37_5, r37_6, r37_10, r37_7, r37_8, r37_9, e0, e2, e3, ex, hf, hpe, hap, hal, hln, Bool.false_eq_true, if_false, if_true, Int.reduceEq, Int.add_zero, ↓vmP, vm0, vm1, vm2, vm3, vm4, vm5, vm6, vm7, vm8, vm9, vm10, vm11, vm12, vm13, vm14, vm15, vmC, vmN, Nat.reduceAdd, Nat.reduceMul, Nat.reduceSub, Nat.reduceEqDiff, Nat.reduceLT, Nat.reduceLeDiff, ↓reduceIte, Tg.isFull, Int.reduceToNat]
set_option maxRecDepth 20000 in
theorem Lose0_many (b : Bk) (hs : Sm b) (hp : PpOk b) (f1 f2 f3 : Bool) (t : Int) (hf : b.fail = 2) (hl : b.nts.length = 16) : runW false prog 37 [.ptr 0 0, .d (.int .i64 t), .ptr 0 9] (bP b f1 f2 f3) = some (.tup [], [.box (bC (loseB b t 0) (.row 1) (.row 2) (.sub 4 1 17 true)), .row 1 f1 (i64s b.op), .row 4 f2 (recs b.queue), .dead, .row 2 false (notes (b.nts ++ [(t, b.serial + 1)]))], [0, 3]) := by
  refine run_of rfl ?_
  have hser := hs.s
  have hp2 := hs.p
  have hlo := hs.l
  have hnl := notes_len b.nts
  have hln := hs.ln
  have e2 : (b.fail = 2) = True := eq_true hf
  have e3 : (b.fail = 3) = False := eq_false (by omega)
  have hap : notes b.nts ++ [[.int .i64 t, .int .i64 (b.serial + 1)]] = notes (b.nts ++ [(t, b.serial + 1)]) := by rw [← notes_app]; rfl
  have hal := notes_len (b.nts ++ [(t, b.serial + 1)])
  rw [List.length_append, List.length_cons, List.length_nil] at hal
  have ex : (16 < ((17 : Nat) : Int)) = True := eq_true (by omega)
  have hnt : True := trivial
  generalize notes (b.nts ++ [(t, b.serial + 1)]) = X at hap hal ⊢
  by_cases h0 : b.p0 = 0
  · have e0 : (b.p0 = 0) = True := eq_true h0
    have hpe : pend b = false := hp.1 h0
    simp -dsimp (disch := first | rfl | omega) only [bP, bC, loseB, r37_0, r37_1, r37_3, r37_4, r37_5, r37_6, r37_10, r37_2, r37_7, r37_8, r37_9, e0, e2, e3, hf, hpe, hap, Bool.false_eq_true, if_false, if_true, Int.reduceEq, Int.add_zero, ↓vmP, vm0, vm1, vm2, vm3, vm4, vm5, vm6, vm7, vm8, vm9, vm10, vm11, vm12, vm13, vm14, vm15, vmC, vmN, Nat.reduceAdd, Nat.reduceMul, Nat.reduceSub, Nat.reduceEqDiff, Nat.reduceLT, Nat.reduceLeDiff, ↓reduceIte, Tg.isFull, Int.reduceToNat]
    refine regD_of (by kernel_rfl) ?_
    simp -dsimp (disch := first | rfl | omega) only [bP, bC, loseB, r37_0, r37_1, r37_3, r37_4, r37_5, r37_6, r37_10, r37_7, r37_8, r37_9, e0, e2, e3, ex, hf, hpe, hap, hal, hl, Bool.false_eq_true, if_false, if_true, Int.reduceEq, Int.add_zero, ↓vmP, vm0, vm1, vm2, vm3, vm4, vm5, vm6, vm7, vm8, vm9, vm10, vm11, vm12, vm13, vm14, vm15, vmC, vmN, Nat.reduceAdd, Nat.reduceMul, Nat.reduceSub, Nat.reduceEqDiff, Nat.reduceLT, Nat.reduceLeDiff, ↓reduceIte, Tg.isFull, Int.reduceToNat]
  · have e0 : (b.p0 = 0) = False := eq_false h0
    have hpe : pend b = true := by
      cases h : pend b with
      | true => rfl
      | false => exact absurd (hp.2 h) h0
    simp -dsimp (disch := first | rfl | omega) only [bP, bC, loseB, r37_0, r37_1, r37_3, r37_4, r37_5, r37_6, r37_10, r37_7, r37_8, r37_9, e0, e2, e3, hf, hpe, hap, Bool.false_eq_true, if_false, if_true, Int.reduceEq, Int.add_zero, ↓vmP, vm0, vm1, vm2, vm3, vm4, vm5, vm6, vm7, vm8, vm9, vm10, vm11, vm12, vm13, vm14, vm15, vmC, vmN, Nat.reduceAdd, Nat.reduceMul, Nat.reduceSub, Nat.reduceEqDiff, Nat.reduceLT, Nat.reduceLeDiff, ↓reduceIte, Tg.isFull, Int.reduceToNat]
    refine regD_of (by kernel_rfl) ?_
    simp -dsimp (disch := first | rfl | omega) only [bP, bC, loseB, r37_0, r37_1, r37_3, r37_4, r37_5, r37_6, r37_10, r37_7, r37_8, r37_9, e0, e2, e3, ex, hf, hpe, hap, hal, hl, Bool.false_eq_true, if_false, if_true, Int.reduceEq, Int.add_zero, ↓vmP, vm0, vm1, vm2, vm3, vm4, vm5, vm6, vm7, vm8, vm9, vm10, vm11, vm12, vm13, vm14, vm15, vmC, vmN, Nat.reduceAdd, Nat.reduceMul, Nat.reduceSub, Nat.reduceEqDiff, Nat.reduceLT, Nat.reduceLeDiff, ↓reduceIte, Tg.isFull, Int.reduceToNat]
set_option maxRecDepth 20000 in
theorem Lose1_other (b : Bk) (hs : Sm b) (hp : PpOk b) (f1 f2 f3 : Bool) (t : Int) (hf : b.fail ≠ 2) : runW false prog 37 [.ptr 0 0, .d (.int .i64 t), .ptr 0 10] (bP b f1 f2 f3) = some (.tup [], bP (loseB b t 1) f1 f2 f3, [0]) := by
  refine run_of rfl ?_
  have hser := hs.s
  have hp2 := hs.p
  have hlo := hs.l
  have hnl := notes_len b.nts
  have hln := hs.ln
  have e2 : (b.fail = 2) = False := eq_false hf
  by_cases h0 : b.p0 = 0
  · have e0 : (b.p0 = 0) = True := eq_true h0
    have hpe : pend b = false := hp.1 h0
    by_cases h3 : b.fail = 3
    · have e3 : (b.fail = 3) = True := eq_true h3
      simp -dsimp (disch := first | rfl | omega) only [bP, bC, loseB, r37_0, r37_1, r37_3, r37_4, r37_5, r37_6, r37_10, r37_2, r37_11, e0, e2, e3, hpe, Bool.false_eq_true, if_false, if_true, Int.reduceEq, Int.add_zero, ↓vmP, vm0, vm1, vm2, vm3, vm4, vm5, vm6, vm7, vm8, vm9, vm10, vm11, vm12, vm13, vm14, vm15, vmC, vmN, Nat.reduceAdd, Nat.reduceMul, Nat.reduceSub, Nat.reduceEqDiff, Nat.reduceLT, Nat.reduceLeDiff, ↓reduceIte, Tg.isFull, Int.reduceToNat]
    · have e3 : (b.fail = 3) = False := eq_false h3
      simp -dsimp (disch := first | rfl | omega) only [bP, bC, loseB, r37_0, r37_1, r37_3, r37_4, r37_5, r37_6, r37_10, r37_2, r37_11, e0, e2, e3, hpe, Bool.false_eq_true, if_false, if_true, Int.reduceEq, Int.add_zero, ↓vmP, vm0, vm1, vm2, vm3, vm4, vm5, vm6, vm7, vm8, vm9, vm10, vm11, vm12, vm13, vm14, vm15, vmC, vmN, Nat.reduceAdd, Nat.reduceMul, Nat.reduceSub, Nat.reduceEqDiff, Nat.reduceLT, Nat.reduceLeDiff, ↓reduceIte, Tg.isFull, Int.reduceToNat]
  · have e0 : (b.p0 = 0) = False := eq_false h0
    have hpe : pend b = true := by
      cases h : pend b with
      | true => rfl
      | false => exact absurd (hp.2 h) h0
    by_cases h3 : b.fail = 3
    · have e3 : (b.fail = 3) = True := eq_true h3
      simp -dsimp (disch := first | rfl | omega) only [bP, bC, loseB, r37_0, r37_1, r37_3, r37_4, r37_5, r37_6, r37_10, r37_11, e0, e2, e3, hpe, Bool.false_eq_true, if_false, if_true, Int.reduceEq, Int.add_zero, ↓vmP, vm0, vm1, vm2, vm3, vm4, vm5, vm6, vm7, vm8, vm9, vm10, vm11, vm12, vm13, vm14, vm15, vmC, vmN, Nat.reduceAdd, Nat.reduceMul, Nat.reduceSub, Nat.reduceEqDiff, Nat.reduceLT, Nat.reduceLeDiff, ↓reduceIte, Tg.isFull, Int.reduceToNat]
    · have e3 : (b.fail = 3) = False := eq_false h3
      simp -dsimp (disch := first | rfl | omega) only [bP, bC, loseB, r37_0, r37_1, r37_3, r37_4, r37_5, r37_6, r37_10, r37_11, e0, e2, e3, hpe, Bool.false_eq_true, if_false, if_true, Int.reduceEq, Int.add_zero, ↓vmP, vm0, vm1, vm2, vm3, vm4, vm5, vm6, vm7, vm8, vm9, vm10, vm11, vm12, vm13, vm14, vm15, vmC, vmN, Nat.reduceAdd, Nat.reduceMul, Nat.reduceSub, Nat.reduceEqDiff, Nat.reduceLT, Nat.reduceLeDiff, ↓reduceIte, Tg.isFull, Int.reduceToNat]
set_option maxRecDepth 20000 in
theorem Lose1_few (b : Bk) (hs : Sm b) (hp : PpOk b) (f1 f2 f3 : Bool) (t : Int) (hf : b.fail = 2) (hl : b.nts.length < 16) : runW false prog 37 [.ptr 0 0, .d (.int .i64 t), .ptr 0 10] (bP b f1 f2 f3) = some (.tup [], [.box (bC (loseB b t 1) (.row 1) (.row 2) (.row 4)), .row 1 f1 (i64s b.op), .row 4 f2 (recs b.queue), .dead, .row 2 false (notes (loseB b t 1).nts)], [0, 3]) := by
  refine run_of rfl ?_
  have hser := hs.s
  have hp2 := hs.p
  have hlo := hs.l
  have hnl := notes_len b.nts
  have hln := hs.ln
  have e2 : (b.fail = 2) = True := eq_true hf
  have e3 : (b.fail = 3) = False := eq_false (by omega)
  have hap : notes b.nts ++ [[.int .i64 t, .int .i64 (b.serial + 1)]] = notes (b.nts ++ [(t, b.serial + 1)]) := by rw [← notes_app]; rfl
  have hal := notes_len (b.nts ++ [(t, b.serial + 1)])
  rw [List.length_append, List.length_cons, List.length_nil] at hal
  have ex : (16 < ((b.nts.length + 1 : Nat) : Int)) = False := eq_false (by omega)
  have hnt : (loseB b t 1).nts = b.nts ++ [(t, b.serial + 1)] := by simp only [loseB, hf, if_true]; rw [show b.nts.length - 15 = 0 by omega]; rfl
  generalize (loseB b t 1).nts = NN at hnt ⊢
  rw [hnt]
  generalize notes (b.nts ++ [(t, b.serial + 1)]) = X at hap hal ⊢
  by_cases h0 : b.p0 = 0
  · have e0 : (b.p0 = 0) = True := eq_true h0
    have hpe : pend b = false := hp.1 h0
    simp -dsimp (disch := first | rfl | omega) only [bP, bC, loseB, r37_0, r37_1, r37_3, r37_4, r37_5, r37_6, r37_10, r37_2, r37_7, r37_8, r37_9, e0, e2, e3, hf, hpe, hap, Bool.false_eq_true, if_false, if_true, Int.reduceEq, Int.add_zero, ↓vmP, vm0, vm1, vm2, vm3, vm4, vm5, vm6, vm7, vm8, vm9, vm10, vm11, vm12, vm13, vm14, vm15, vmC, vmN, Nat.reduceAdd, Nat.reduceMul, Nat.reduceSub, Nat.reduceEqDiff, Nat.reduceLT, Nat.reduceLeDiff, ↓reduceIte, Tg.isFull, Int.reduceToNat]
    refine regD_of (by kernel_rfl) ?_
    simp -dsimp (disch := first | rfl | omega) only [bP, bC, loseB, r37_0, r37_1, r37_3, r37_4, r37_5, r37_6, r37_10, r37_7, r37_8, r37_9, e0, e2, e3, ex, hf, hpe, hap, hal, hln, Bool.false_eq_true, if_false, if_true, Int.reduceEq, Int.add_zero, ↓vmP, vm0, vm1, vm2, vm3, vm4, vm5, vm6, vm7, vm8, vm9, vm10, vm11, vm12, vm13, vm14, vm15, vmC, vmN, Nat.reduceAdd, Nat.reduceMul, Nat.reduceSub, Nat.reduceEqDiff, Nat.reduceLT, Nat.reduceLeDiff, ↓reduceIte, Tg.isFull, Int.reduceToNat]
  · have e0 : (b.p0 = 0) = False := eq_false h0
    have hpe : pend b = true := by
      cases h : pend b with
      | true => rfl
      | false => exact absurd (hp.2 h) h0
    simp -dsimp (disch := first | rfl | omega) only [bP, bC, loseB, r37_0, r37_1, r37_3, r37_4, r37_5, r37_6, r37_10, r37_7, r37_8, r37_9, e0, e2, e3, hf, hpe, hap, Bool.false_eq_true, if_false, if_true, Int.reduceEq, Int.add_zero, ↓vmP, vm0, vm1, vm2, vm3, vm4, vm5, vm6, vm7, vm8, vm9, vm10, vm11, vm12, vm13, vm14, vm15, vmC, vmN, Nat.reduceAdd, Nat.reduceMul, Nat.reduceSub, Nat.reduceEqDiff, Nat.reduceLT, Nat.reduceLeDiff, ↓reduceIte, Tg.isFull, Int.reduceToNat]
    refine regD_of (by kernel_rfl) ?_
    simp -dsimp (disch := first | rfl | omega) only [bP, bC, loseB, r37_0, r37_1, r37_3, r37_4, r37_5, r37_6, r37_10, r37_7, r37_8, r37_9, e0, e2, e3, ex, hf, hpe, hap, hal, hln, Bool.false_eq_true, if_false, if_true, Int.reduceEq, Int.add_zero, ↓vmP, vm0, vm1, vm2, vm3, vm4, vm5, vm6, vm7, vm8, vm9, vm10, vm11, vm12, vm13, vm14, vm15, vmC, vmN, Nat.reduceAdd, Nat.reduceMul, Nat.reduceSub, Nat.reduceEqDiff, Nat.reduceLT, Nat.reduceLeDiff, ↓reduceIte, Tg.isFull, Int.reduceToNat]
set_option maxRecDepth 20000 in
theorem Lose1_many (b : Bk) (hs : Sm b) (hp : PpOk b) (f1 f2 f3 : Bool) (t : Int) (hf : b.fail = 2) (hl : b.nts.length = 16) : runW false prog 37 [.ptr 0 0, .d (.int .i64 t), .ptr 0 10] (bP b f1 f2 f3) = some (.tup [], [.box (bC (loseB b t 1) (.row 1) (.row 2) (.sub 4 1 17 true)), .row 1 f1 (i64s b.op), .row 4 f2 (recs b.queue), .dead, .row 2 false (notes (b.nts ++ [(t, b.serial + 1)]))], [0, 3]) := by
  refine run_of rfl ?_
  have hser := hs.s
  have hp2 := hs.p
  have hlo := hs.l
  have hnl := notes_len b.nts
  have hln := hs.ln
  have e2 : (b.fail = 2) = True := eq_true hf
  have e3 : (b.fail = 3) = False := eq_false (by omega)
  have hap : notes b.nts ++ [[.int .i64 t, .int .i64 (b.serial + 1)]] = notes (b.nts ++ [(t, b.serial + 1)]) := by rw [← notes_app]; rfl
  have hal := notes_len (b.nts ++ [(t, b.serial + 1)])
  rw [List.length_append, List.length_cons, List.length_nil] at hal
  have ex : (16 < ((17 : Nat) : Int)) = True := eq_true (by omega)
  have hnt : True := trivial
  generalize notes (b.nts ++ [(t, b.serial + 1)]) = X at hap hal ⊢
  by_cases h0 : b.p0 = 0
  · have e0 : (b.p0 = 0) = True := eq_true h0
    have hpe : pend b = false := hp.1 h0
    simp -dsimp (disch := first | rfl | omega) only [bP, bC, loseB, r37_0, r37_1, r37_3, r37_4, r37_5, r37_6, r37_10, r37_2, r37_7, r37_8, r37_9, e0, e2, e3, hf, hpe, hap, Bool.false_eq_true, if_false, if_true, Int.reduceEq, Int.add_zero, ↓vmP, vm0, vm1, vm2, vm3, vm4, vm5, vm6, vm7, vm8, vm9, vm10, vm11, vm12, vm13, vm14, vm15, vmC, vmN, Nat.reduceAdd, Nat.reduceMul, Nat.reduceSub, Nat.reduceEqDiff, Nat.reduceLT, Nat.reduceLeDiff, ↓reduceIte, Tg.isFull, Int.reduceToNat]
    refine regD_of (by kernel_rfl) ?_
    simp -dsimp (disch := first | rfl | omega) only [bP, bC, loseB, r37_0, r37_1, r37_3, r37_4, r37_5, r37_6, r37_10, r37_7, r37_8, r37_9, e0, e2, e3, ex, hf, hpe, hap, hal, hl, Bool.false_eq_true, if_false, if_true, Int.reduceEq, Int.add_zero, ↓vmP, vm0, vm1, vm2, vm3, vm4, vm5, vm6, vm7, vm8, vm9, vm10, vm11, vm12, vm13, vm14, vm15, vmC, vmN, Nat.reduceAdd, Nat.reduceMul, Nat.reduceSub, Nat.reduceEqDiff, Nat.reduceLT, Nat.reduceLeDiff, ↓reduceIte, Tg.isFull, Int.reduceToNat]
  · have e0 : (b.p0 = 0) = False := eq_false h0
    have hpe : pend b = true := by
      cases h : pend b with
      | true => rfl
      | false => exact absurd (hp.2 h) h0
    simp -dsimp (disch := first | rfl | omega) only [bP, bC, loseB, r37_0, r37_1, r37_3, r37_4, r37_5, r37_6, r37_10, r37_7, r37_8, r37_9, e0, e2, e3, hf, hpe, hap, Bool.false_eq_true, if_false, if_true, Int.reduceEq, Int.add_zero, ↓vmP, vm0, vm1, vm2, vm3, vm4, vm5, vm6, vm7, vm8, vm9, vm10, vm11, vm12, vm13, vm14, vm15, vmC, vmN, Nat.reduceAdd, Nat.reduceMul, Nat.reduceSub, Nat.reduceEqDiff, Nat.reduceLT, Nat.reduceLeDiff, ↓reduceIte, Tg.isFull, Int.reduceToNat]
    refine regD_of (by kernel_rfl) ?_
    simp -dsimp (disch := first | rfl | omega) only [bP, bC, loseB, r37_0, r37_1, r37_3, r37_4, r37_5, r37_6, r37_10, r37_7, r37_8, r37_9, e0, e2, e3, ex, hf, hpe, hap, hal, hl, Bool.false_eq_true, if_false, if_true, Int.reduceEq, Int.add_zero, ↓vmP, vm0, vm1, vm2, vm3, vm4, vm5, vm6, vm7, vm8, vm9, vm10, vm11, vm12, vm13, vm14, vm15, vmC, vmN, Nat.reduceAdd, Nat.reduceMul, Nat.reduceSub, Nat.reduceEqDiff, Nat.reduceLT, Nat.reduceLeDiff, ↓reduceIte, Tg.isFull, Int.reduceToNat]
set_option maxRecDepth 20000 in
theorem Lose2_other (b : Bk) (hs : Sm b) (hp : PpOk b) (f1 f2 f3 : Bool) (t : Int) (hf : b.fail ≠ 2) : runW false prog 37 [.ptr 0 0, .d (.int .i64 t), .ptr 0 11] (bP b f1 f2 f3) = some (.tup [], bP (loseB b t 2) f1 f2 f3, [0]) := by
  refine run_of rfl ?_
  have hser := hs.s
  have hp2 := hs.p
  have hlo := hs.l
  have hnl := notes_len b.nts
  have hln := hs.ln
  have e2 : (b.fail = 2) = False := eq_false hf
  by_cases h0 : b.p0 = 0
  · have e0 : (b.p0 = 0) = True := eq_true h0
    have hpe : pend b = false := hp.1 h0
    by_cases h3 : b.fail = 3
    · have e3 : (b.fail = 3) = True := eq_true h3
      simp -dsimp (disch := first | rfl | omega) only [bP, bC, loseB, r37_0, r37_1, r37_3, r37_4, r37_5, r37_6, r37_10, r37_2, r37_11, e0, e2, e3, hpe, Bool.false_eq_true, if_false, if_true, Int.reduceEq, Int.add_zero, ↓vmP, vm0, vm1, vm2, vm3, vm4, vm5, vm6, vm7, vm8, vm9, vm10, vm11, vm12, vm13, vm14, vm15, vmC, vmN, Nat.reduceAdd, Nat.reduceMul, Nat.reduceSub, Nat.reduceEqDiff, Nat.reduceLT, Nat.reduceLeDiff, ↓reduceIte, Tg.isFull, Int.reduceToNat]
    · have e3 : (b.fail = 3) = False := eq_false h3
      simp -dsimp (disch := first | rfl | omega) only [bP, bC, loseB, r37_0, r37_1, r37_3, r37_4, r37_5, r37_6, r37_10, r37_2, r37_11, e0, e2, e3, hpe, Bool.false_eq_true, if_false, if_true, Int.reduceEq, Int.add_zero, ↓vmP, vm0, vm1, vm2, vm3, vm4, vm5, vm6, vm7, vm8, vm9, vm10, vm11, vm12, vm13, vm14, vm15, vmC, vmN, Nat.reduceAdd, Nat.reduceMul, Nat.reduceSub, Nat.reduceEqDiff, Nat.reduceLT, Nat.reduceLeDiff, ↓reduceIte, Tg.isFull, Int.reduceToNat]
  · have e0 : (b.p0 = 0) = False := eq_false h0
    have hpe : pend b = true := by
      cases h : pend b with
      | true => rfl
      | false => exact absurd (hp.2 h) h0
    by_cases h3 : b.fail = 3
    · have e3 : (b.fail = 3) = True := eq_true h3
      simp -dsimp (disch := first | rfl | omega) only [bP, bC, loseB, r37_0, r37_1, r37_3, r37_4, r37_5, r37_6, r37_10, r37_11, e0, e2, e3, hpe, Bool.false_eq_true, if_false, if_true, Int.reduceEq, Int.add_zero, ↓vmP, vm0, vm1, vm2, vm3, vm4, vm5, vm6, vm7, vm8, vm9, vm10, vm11, vm12, vm13, vm14, vm15, vmC, vmN, Nat.reduceAdd, Nat.reduceMul, Nat.reduceSub, Nat.reduceEqDiff, Nat.reduceLT, Nat.reduceLeDiff, ↓reduceIte, Tg.isFull, Int.reduceToNat]
    · have e3 : (b.fail = 3) = False := eq_false h3
      simp -dsimp (disch := first | rfl | omega) only [bP, bC, loseB, r37_0, r37_1, r37_3, r37_4, r37_5, r37_6, r37_10, r37_11, e0, e2, e3, hpe, Bool.false_eq_true, if_false, if_true, Int.reduceEq, Int.add_zero, ↓vmP, vm0, vm1, vm2, vm3, vm4, vm5, vm6, vm7, vm8, vm9, vm10, vm11, vm12, vm13, vm14, vm15, vmC, vmN, Nat.reduceAdd, Nat.reduceMul, Nat.reduceSub, Nat.reduceEqDiff, Nat.reduceLT, Nat.reduceLeDiff, ↓reduceIte, Tg.isFull, Int.reduceToNat]
set_option maxRecDepth 20000 in
theorem Lose2_few (b : Bk) (hs : Sm b) (hp : PpOk b) (f1 f2 f3 : Bool) (t : Int) (hf : b.fail = 2) (hl : b.nts.length < 16) : runW false prog 37 [.ptr 0 0, .d (.int .i64 t), .ptr 0 11] (bP b f1 f2 f3) = some (.tup [], [.box (bC (loseB b t 2) (.row 1) (.row 2) (.row 4)), .row 1 f1 (i64s b.op), .row 4 f2 (recs b.queue), .dead, .row 2 false (notes (loseB b t 2).nts)], [0, 3]) := by
  refine run_of rfl ?_
  have hser := hs.s
  have hp2 := hs.p
  have hlo := hs.l
  have hnl := notes_len b.nts
  have hln := hs.ln
  have e2 : (b.fail = 2) = True := eq_true hf
  have e3 : (b.fail = 3) = False := eq_false (by omega)
  have hap : notes b.nts ++ [[.int .i64 t, .int .i64 (b.serial + 1)]] = notes (b.nts ++ [(t, b.serial + 1)]) := by rw [← notes_app]; rfl
  have hal := notes_len (b.nts ++ [(t, b.serial + 1)])
  rw [List.length_append, List.length_cons, List.length_nil] at hal
  have ex : (16 < ((b.nts.length + 1 : Nat) : Int)) = False := eq_false (by omega)
  have hnt : (loseB b t 2).nts = b.nts ++ [(t, b.serial + 1)] := by simp only [loseB, hf, if_true]; rw [show b.nts.length - 15 = 0 by omega]; rfl
  generalize (loseB b t 2).nts = NN at hnt ⊢
  rw [hnt]
  generalize notes (b.nts ++ [(t, b.serial + 1)]) = X at hap hal ⊢
  by_cases h0 : b.p0 = 0
  · have e0 : (b.p0 = 0) = True := eq_true h0
    have hpe : pend b = false := hp.1 h0
    simp -dsimp (disch := first | rfl | omega) only [bP, bC, loseB, r37_0, r37_1, r37_3, r37_4, r37_5, r37_6, r37_10, r37_2, r37_7, r37_8, r37_9, e0, e2, e3, hf, hpe, hap, Bool.false_eq_true, if_false, if_true, Int.reduceEq, Int.add_zero, ↓vmP, vm0, vm1, vm2, vm3, vm4, vm5, vm6, vm7, vm8, vm9, vm10, vm11, vm12, vm13, vm14, vm15, vmC, vmN, Nat.reduceAdd, Nat.reduceMul, Nat.reduceSub, Nat.reduceEqDiff, Nat.reduceLT, Nat.reduceLeDiff, ↓reduceIte, Tg.isFull, Int.reduceToNat]
    refine regD_of (by kernel_rfl) ?_
    simp -dsimp (disch := first | rfl | omega) only [bP, bC, loseB, r37_0, r37_1, r37_3, r37_4, r37_5, r37_6, r37_10, r37_7, r37_8, r37_9, e0, e2, e3, ex, hf, hpe, hap, hal, hln, Bool.false_eq_true, if_false, if_true, Int.reduceEq, Int.add_zero, ↓vmP, vm0, vm1, vm2, vm3, vm4, vm5, vm6, vm7, vm8, vm9, vm10, vm11, vm12, vm13, vm14, vm15, vmC, vmN, Nat.reduceAdd, Nat.reduceMul, Nat.reduceSub, Nat.reduceEqDiff, Nat.reduceLT, Nat.reduceLeDiff, ↓reduceIte, Tg.isFull, Int.reduceToNat]
  · have e0 : (b.p0 = 0) = False := eq_false h0
    have hpe : pend b = true := by
      cases h : pend b with
      | true => rfl
      | false => exact absurd (hp.2 h) h0
    simp -dsimp (disch := first | rfl | omega) only [bP, bC, loseB, r37_0, r37_1, r37_3, r37_4, r37_5, r37_6, r37_10, r37_7, r37_8, r37_9, e0, e2, e3, hf, hpe, hap, Bool.false_eq_true, if_false, if_true, Int.reduceEq, Int.add_zero, ↓vmP, vm0, vm1, vm2, vm3, vm4, vm5, vm6, vm7, vm8, vm9, vm10, vm11, vm12, vm13, vm14, vm15, vmC, vmN, Nat.reduceAdd, Nat.reduceMul, Nat.reduceSub, Nat.reduceEqDiff, Nat.reduceLT, Nat.reduceLeDiff, ↓reduceIte, Tg.isFull, Int.reduceToNat]
    refine regD_of (by kernel_rfl) ?_
    simp -dsimp (disch := first | rfl | omega) only [bP, bC, loseB, r37_0, r37_1, r37_3, r37_4, r37_5, r37_6, r37_10, r37_7, r37_8, r37_9, e0, e2, e3, ex, hf, hpe, hap, hal, hln, Bool.false_eq_true, if_false, if_true, Int.reduceEq, Int.add_zero, ↓vmP, vm0, vm1, vm2, vm3, vm4, vm5, vm6, vm7, vm8, vm9, vm10, vm11, vm12, vm13, vm14, vm15, vmC, vmN, Nat.reduceAdd, Nat.reduceMul, Nat.reduceSub, Nat.reduceEqDiff, Nat.reduceLT, Nat.reduceLeDiff, ↓reduceIte, Tg.isFull, Int.reduceToNat]
set_option maxRecDepth 20000 in
theorem Lose2_many (b : Bk) (hs : Sm b) (hp : PpOk b) (f1 f2 f3 : Bool) (t : Int) (hf : b.fail = 2) (hl : b.nts.length = 16) : runW false prog 37 [.ptr 0 0, .d (.int .i64 t), .ptr 0 11] (bP b f1 f2 f3) = some (.tup [], [.box (bC (loseB b t 2) (.row 1) (.row 2) (.sub 4 1 17 true)), .row 1 f1 (i64s b.op), .row 4 f2 (recs b.queue), .dead, .row 2 false (notes (b.nts ++ [(t, b.serial + 1)]))], [0, 3]) := by
  refine run_of rfl ?_
  have hser := hs.s
  have hp2 := hs.p
  have hlo := hs.l
  have hnl := notes_len b.nts
  have hln := hs.ln
  have e2 : (b.fail = 2) = True := eq_true hf
  have e3 : (b.fail = 3) = False := eq_false (by omega)
  have hap : notes b.nts ++ [[.int .i64 t, .int .i64 (b.serial + 1)]] = notes (b.nts ++ [(t, b.serial + 1)]) := by rw [← notes_app]; rfl
  have hal := notes_len (b.nts ++ [(t, b.serial + 1)])
  rw [List.length_append, List.length_cons, List.length_nil] at hal
  have ex : (16 < ((17 : Nat) : Int)) = True := eq_true (by omega)
  have hnt : True := trivial
  generalize notes (b.nts ++ [(t, b.serial + 1)]) = X at hap hal ⊢
  by_cases h0 : b.p0 = 0
  · have e0 : (b.p0 = 0) = True := eq_true h0
    have hpe : pend b = false := hp.1 h0
    simp -dsimp (disch := first | rfl | omega) only [bP, bC, loseB, r37_0, r37_1, r37_3, r37_4, r37_5, r37_6, r37_10, r37_2, r37_7, r37_8, r37_9, e0, e2, e3, hf, hpe, hap, Bool.false_eq_true, if_false, if_true, Int.reduceEq, Int.add_zero, ↓vmP, vm0, vm1, vm2, vm3, vm4, vm5, vm6, vm7, vm8, vm9, vm10, vm11, vm12, vm13, vm14, vm15, vmC, vmN, Nat.reduceAdd, Nat.reduceMul, Nat.reduceSub, Nat.reduceEqDiff, Nat.reduceLT, Nat.reduceLeDiff, ↓reduceIte, Tg.isFull, Int.reduceToNat]
    refine regD_of (by kernel_rfl) ?_
    simp -dsimp (disch := first | rfl | omega) only [bP, bC, loseB, r37_0, r37_1, r37_3, r37_4, r37_5, r37_6, r37_10, r37_7, r37_8, r37_9, e0, e2, e3, ex, hf, hpe, hap, hal, hl, Bool.false_eq_true, if_false, if_true, Int.reduceEq, Int.add_zero, ↓vmP, vm0, vm1, vm2, vm3, vm4, vm5, vm6, vm7, vm8, vm9, vm10, vm11, vm12, vm13, vm14, vm15, vmC, vmN, Nat.reduceAdd, Nat.reduceMul, Nat.reduceSub, Nat.reduceEqDiff, Nat.reduceLT, Nat.reduceLeDiff, ↓reduceIte, Tg.isFull, Int.reduceToNat]
  · have e0 : (b.p0 = 0) = False := eq_false h0
    have hpe : pend b = true := by
      cases h : pend b with
      | true => rfl
      | false => exact absurd (hp.2 h) h0
    simp -dsimp (disch := first | rfl | omega) only [bP, bC, loseB, r37_0, r37_1, r37_3, r37_4, r37_5, r37_6, r37_10, r37_7, r37_8, r37_9, e0, e2, e3, hf, hpe, hap, Bool.false_eq_true, if_false, if_true, Int.reduceEq, Int.add_zero, ↓vmP, vm0, vm1, vm2, vm3, vm4, vm5, vm6, vm7, vm8, vm9, vm10, vm11, vm12, vm13, vm14, vm15, vmC, vmN, Nat.reduceAdd, Nat.reduceMul, Nat.reduceSub, Nat.reduceEqDiff, Nat.reduceLT, Nat.reduceLeDiff, ↓reduceIte, Tg.isFull, Int.reduceToNat]
    refine regD_of (by kernel_rfl) ?_
    simp -dsimp (disch := first | rfl | omega) only [bP, bC, loseB, r37_0, r37_1, r37_3, r37_4, r37_5, r37_6, r37_10, r37_7, r37_8, r37_9, e0, e2, e3, ex, hf, hpe, hap, hal, hl, Bool.false_eq_true, if_false, if_true, Int.reduceEq, Int.add_zero, ↓vmP, vm0, vm1, vm2, vm3, vm4, vm5, vm6, vm7, vm8, vm9, vm10, vm11, vm12, vm13, vm14, vm15, vmC, vmN, Nat.reduceAdd, Nat.reduceMul, Nat.reduceSub, Nat.reduceEqDiff, Nat.reduceLT, Nat.reduceLeDiff, ↓reduceIte, Tg.isFull, Int.reduceToNat]
end Go.Vm.Bk
