/- A part of the proof of BacklogPlaysSaid: YtnihjdfbiddggaaFt. -/
import Derived.Test.YtnihjdfbiddggaaKFs
/- Backlogs: records taken. -/
set_option linter.unusedVariables false
set_option linter.unusedSimpArgs false
set_option maxHeartbeats 1000000
namespace Go.Vm.Bk
def takeM (q : List Rec) (n : Int) : Nat := (max 0 (min n q.length)).toNat
def okTake (b : Bk) (t : Int) : Bool := pend b && decide ((b.queue.length : Int) + b.reserved < b.limit) && !late t && !stl b (b.serial + 1)
def cutB (b : Bk) (n : Int) : Bk := { b with queue := b.queue.drop (takeM b.queue n) }
def takeB (b : Bk) (t n : Int) : Bk × List Rec := (if okTake (cutB b n) t then tellB (cutB b n) t else cutB b n, b.queue.take (takeM b.queue n))
def takR (r : Bk × List Rec) (z2 y : Nat) : A := .tup [.agg (bA r.1 1 z2 2), .d (.sl .any y (recs r.2))]
theorem pgRecs' : prog 55 = some c55 := rfl
theorem pgDelR : prog 56 = some c56 := rfl
theorem takeM_le (q : List Rec) (n : Int) : takeM q n ≤ q.length := by unfold takeM; omega
theorem tl0 : r26_0.length = 3 := rfl
theorem tl1 : r26_1.length = 3 := rfl
theorem tl2 : r26_2.length = 7 := rfl
theorem tl3 : r26_3.length = 6 := rfl
theorem tl4 : r26_4.length = 6 := rfl
theorem tl5 : r26_5.length = 25 := rfl
theorem takeM_if (q : List Rec) (n : Int) : (if (if (q.length : Int) < n then (q.length : Int) else n) > 0 then (if (q.length : Int) < n then (q.length : Int) else n) else 0) = ((takeM q n : Nat) : Int) := by
  unfold takeM
  split <;> split <;> omega
set_option maxRecDepth 20000 in
theorem tk_z (b b0 : Bk) (hs : Sm b) (z1 z2 z3 : Nat) (t : Int) (f1 f2 f3 : Bool) (O : Chunk) (N : Nat) (Q : Ex → St → Prop)
    (hq : Q .normal ⟨gS [(1, .d (.int .i64 t)), (3, .ptr 0 0), (6, .ptr 8 0), (8, .row 136), (51, .d (.bool (okTake b t)))], gH [(0, .box (bC b (.row 32) (.row 33) (.row 34))), (136, O), (0, .box (bC b0 (.row 32) (.row 33) (.row 34))), (34, .row 2 f3 (notes b.nts)), (33, .row 4 f2 (recs b.queue)), (32, .row 1 f1 (i64s b.op)), (8, .box zB), (0, .box (bA b0 z1 z2 z3))], N, 0, []⟩) :
    opsW false (callW false prog) 200 r26_5 0 ⟨gS [(1, .d (.int .i64 t)), (3, .ptr 0 0), (6, .ptr 8 0), (8, .row 136)], gH [(0, .box (bC b (.row 32) (.row 33) (.row 34))), (136, O), (0, .box (bC b0 (.row 32) (.row 33) (.row 34))), (34, .row 2 f3 (notes b.nts)), (33, .row 4 f2 (recs b.queue)), (32, .row 1 f1 (i64s b.op)), (8, .box zB), (0, .box (bA b0 z1 z2 z3))], 200, 0, []⟩ (regK (some [1, 3, 6, 8, 51]) N Q) := by
  have hser := hs.s
  have hres := hs.r
  have hlq := hs.lq
  have hrl := recs_len b.queue
  have hpe := Pend_eq b f1 f2 f3
  have hen := Ends_eq b hs f1 f2 f3 t
  have hst := Stalls_eq b hs f1 f2 f3 (b.serial + 1) (by omega)
  have hok : okTake b t = (pend b && decide ((b.queue.length : Int) + b.reserved < b.limit) && !late t && !stl b (b.serial + 1)) := rfl
  rw [hok] at hq
  clear hok
  simp only [bP, bC] at hpe hen hst
  simp only [bA, bC, zB] at hq ⊢
  cases h1 : pend b with
  | false =>
    rw [h1] at hpe hq
    simp only [Bool.false_and] at hq
    simp -dsimp (disch := first | rfl | omega) only [r26_5, callW_fn pgPend, hpe, ↓vmP, vm0, vm1, vm2, vm3, vm4, vm5, vm6, vm7, vm8, vm9, vm10, vm11, vm12, vm13, vm14, vm15, vmC, vmN, Nat.reduceAdd, Nat.reduceMul, Nat.reduceSub, Nat.reduceEqDiff, Nat.reduceLT, Nat.reduceLeDiff, ↓reduceIte, Tg.isFull, Int.reduceToNat]
    exact hq
  | true =>
    rw [h1] at hpe hq
    by_cases h2 : (b.queue.length : Int) + b.reserved < b.limit
    · have e2 : ((b.queue.length : Int) + b.reserved < b.limit) = True := eq_true h2
      rw [decide_eq_true h2] at hq
      cases h3 : late t with
      | true =>
        rw [h3] at hen hq
        simp only [Bool.and_false, Bool.false_and, Bool.not_true, Bool.true_and] at hq
        simp -dsimp (disch := first | rfl | omega) only [r26_5, callW_fn pgPend, callW_fn pgEnds, hpe, hen, hrl, e2, vmK, ↓vmP, vm0, vm1, vm2, vm3, vm4, vm5, vm6, vm7, vm8, vm9, vm10, vm11, vm12, vm13, vm14, vm15, vmC, vmN, Nat.reduceAdd, Nat.reduceMul, Nat.reduceSub, Nat.reduceEqDiff, Nat.reduceLT, Nat.reduceLeDiff, ↓reduceIte, Tg.isFull, Int.reduceToNat]
        exact hq
      | false =>
        rw [h3] at hen hq
        cases h4 : stl b (b.serial + 1) with
        | true =>
          rw [h4] at hst hq
          simp only [Bool.and_false, Bool.not_true, Bool.not_false, Bool.true_and] at hq
          simp -dsimp (disch := first | rfl | omega) only [r26_5, callW_fn pgPend, callW_fn pgEnds, callW_fn pgStalls, hpe, hen, hst, hrl, e2, vmK, ↓vmP, vm0, vm1, vm2, vm3, vm4, vm5, vm6, vm7, vm8, vm9, vm10, vm11, vm12, vm13, vm14, vm15, vmC, vmN, Nat.reduceAdd, Nat.reduceMul, Nat.reduceSub, Nat.reduceEqDiff, Nat.reduceLT, Nat.reduceLeDiff, ↓reduceIte, Tg.isFull, Int.reduceToNat]
          exact hq
        | false =>
          rw [h4] at hst hq
          simp only [Bool.and_self, Bool.not_false] at hq
          simp -dsimp (disch := first | rfl | omega) only [r26_5, callW_fn pgPend, callW_fn pgEnds, callW_fn pgStalls, hpe, hen, hst, hrl, e2, vmK, ↓vmP, vm0, vm1, vm2, vm3, vm4, vm5, vm6, vm7, vm8, vm9, vm10, vm11, vm12, vm13, vm14, vm15, vmC, vmN, Nat.reduceAdd, Nat.reduceMul, Nat.reduceSub, Nat.reduceEqDiff, Nat.reduceLT, Nat.reduceLeDiff, ↓reduceIte, Tg.isFull, Int.reduceToNat]
          exact hq
    · have e2 : ((b.queue.length : Int) + b.reserved < b.limit) = False := eq_false h2
      rw [decide_eq_false h2] at hq
      simp only [Bool.and_false, Bool.false_and] at hq
      simp -dsimp (disch := first | rfl | omega) only [r26_5, callW_fn pgPend, hpe, hrl, e2, ↓vmP, vm0, vm1, vm2, vm3, vm4, vm5, vm6, vm7, vm8, vm9, vm10, vm11, vm12, vm13, vm14, vm15, vmC, vmN, Nat.reduceAdd, Nat.reduceMul, Nat.reduceSub, Nat.reduceEqDiff, Nat.reduceLT, Nat.reduceLeDiff, ↓reduceIte, Tg.isFull, Int.reduceToNat]
      exact hq
set_option maxRecDepth 20000 in
theorem tk_s (b b0 : Bk) (hs : Sm b) (z1 z2 z3 : Nat) (t : Int) (f1 f2 f3 : Bool) (O : Chunk) (X : List (List D)) (QQ : Chunk) (hxl : b.queue.length ≤ X.length) (N : Nat) (Q : Ex → St → Prop)
    (hq : Q .normal ⟨gS [(1, .d (.int .i64 t)), (3, .ptr 0 0), (6, .ptr 8 0), (8, .row 136), (51, .d (.bool (okTake b t)))], gH [(0, .box (bC b (.row 32) (.sub 33 0 b.queue.length true) (.row 34))), (33, .row 4 f2 X), (136, O), (0, .box (bC b0 (.row 32) (.row 33) (.row 34))), (34, .row 2 f3 (notes b.nts)), (33, QQ), (32, .row 1 f1 (i64s b.op)), (8, .box zB), (0, .box (bA b0 z1 z2 z3))], N, 0, []⟩) :
    opsW false (callW false prog) 200 r26_5 0 ⟨gS [(1, .d (.int .i64 t)), (3, .ptr 0 0), (6, .ptr 8 0), (8, .row 136)], gH [(0, .box (bC b (.row 32) (.sub 33 0 b.queue.length true) (.row 34))), (33, .row 4 f2 X), (136, O), (0, .box (bC b0 (.row 32) (.row 33) (.row 34))), (34, .row 2 f3 (notes b.nts)), (33, QQ), (32, .row 1 f1 (i64s b.op)), (8, .box zB), (0, .box (bA b0 z1 z2 z3))], 200, 0, []⟩ (regK (some [1, 3, 6, 8, 51]) N Q) := by
  have hser := hs.s
  have hres := hs.r
  have hlq := hs.lq
  have hrl := recs_len b.queue
  have hpe := sPend_eq b f1 f2 f3 b.queue.length X
  have hen := sEnds_eq b hs f1 f2 f3 b.queue.length X t
  have hst := sStalls_eq b hs f1 f2 f3 b.queue.length X (b.serial + 1) (by omega)
  have hok : okTake b t = (pend b && decide ((b.queue.length : Int) + b.reserved < b.limit) && !late t && !stl b (b.serial + 1)) := rfl
  rw [hok] at hq
  clear hok
  simp only [bS, bC] at hpe hen hst
  simp only [bA, bC, zB] at hq ⊢
  cases h1 : pend b with
  | false =>
    rw [h1] at hpe hq
    simp only [Bool.false_and] at hq
    simp -dsimp (disch := first | rfl | omega) only [r26_5, callW_fn pgPend, hpe, ↓vmP, vm0, vm1, vm2, vm3, vm4, vm5, vm6, vm7, vm8, vm9, vm10, vm11, vm12, vm13, vm14, vm15, vmC, vmN, Nat.reduceAdd, Nat.reduceMul, Nat.reduceSub, Nat.reduceEqDiff, Nat.reduceLT, Nat.reduceLeDiff, ↓reduceIte, Tg.isFull, Int.reduceToNat]
    exact hq
  | true =>
    rw [h1] at hpe hq
    by_cases h2 : (b.queue.length : Int) + b.reserved < b.limit
    · have e2 : ((b.queue.length : Int) + b.reserved < b.limit) = True := eq_true h2
      rw [decide_eq_true h2] at hq
      cases h3 : late t with
      | true =>
        rw [h3] at hen hq
        simp only [Bool.and_false, Bool.false_and, Bool.not_true, Bool.true_and] at hq
        simp -dsimp (disch := first | rfl | omega) only [r26_5, callW_fn pgPend, callW_fn pgEnds, hpe, hen, hrl, e2, vmK, ↓vmP, vm0, vm1, vm2, vm3, vm4, vm5, vm6, vm7, vm8, vm9, vm10, vm11, vm12, vm13, vm14, vm15, vmC, vmN, Nat.reduceAdd, Nat.reduceMul, Nat.reduceSub, Nat.reduceEqDiff, Nat.reduceLT, Nat.reduceLeDiff, ↓reduceIte, Tg.isFull, Int.reduceToNat]
        exact hq
      | false =>
        rw [h3] at hen hq
        cases h4 : stl b (b.serial + 1) with
        | true =>
          rw [h4] at hst hq
          simp only [Bool.and_false, Bool.not_true, Bool.not_false, Bool.true_and] at hq
          simp -dsimp (disch := first | rfl | omega) only [r26_5, callW_fn pgPend, callW_fn pgEnds, callW_fn pgStalls, hpe, hen, hst, hrl, e2, vmK, ↓vmP, vm0, vm1, vm2, vm3, vm4, vm5, vm6, vm7, vm8, vm9, vm10, vm11, vm12, vm13, vm14, vm15, vmC, vmN, Nat.reduceAdd, Nat.reduceMul, Nat.reduceSub, Nat.reduceEqDiff, Nat.reduceLT, Nat.reduceLeDiff, ↓reduceIte, Tg.isFull, Int.reduceToNat]
          exact hq
        | false =>
          rw [h4] at hst hq
          simp only [Bool.and_self, Bool.not_false] at hq
          simp -dsimp (disch := first | rfl | omega) only [r26_5, callW_fn pgPend, callW_fn pgEnds, callW_fn pgStalls, hpe, hen, hst, hrl, e2, vmK, ↓vmP, vm0, vm1, vm2, vm3, vm4, vm5, vm6, vm7, vm8, vm9, vm10, vm11, vm12, vm13, vm14, vm15, vmC, vmN, Nat.reduceAdd, Nat.reduceMul, Nat.reduceSub, Nat.reduceEqDiff, Nat.reduceLT, Nat.reduceLeDiff, ↓reduceIte, Tg.isFull, Int.reduceToNat]
          exact hq
    · have e2 : ((b.queue.length : Int) + b.reserved < b.limit) = False := eq_false h2
      rw [decide_eq_false h2] at hq
      simp only [Bool.and_false, Bool.false_and] at hq
      simp -dsimp (disch := first | rfl | omega) only [r26_5, callW_fn pgPend, hpe, hrl, e2, ↓vmP, vm0, vm1, vm2, vm3, vm4, vm5, vm6, vm7, vm8, vm9, vm10, vm11, vm12, vm13, vm14, vm15, vmC, vmN, Nat.reduceAdd, Nat.reduceMul, Nat.reduceSub, Nat.reduceEqDiff, Nat.reduceLT, Nat.reduceLeDiff, ↓reduceIte, Tg.isFull, Int.reduceToNat]
      exact hq
set_option maxRecDepth 20000 in
theorem Take_z (b : Bk) (z1 z2 z3 : Nat) (hz : Zk b z1 z2 z3) (hs : Sm b) (t n : Int) (h0 : takeM b.queue n = 0) : runW false prog 26 [.agg (bA b z1 z2 z3), .d (.int .i64 t), .d (.int .i64 n)] [] = some (takR (takeB b t n) 4 4, [], []) := by
  have h1 := ownB_eq b z1 z2 z3 hz hs
  have h2 := Recss_eq b.queue b.queue.isEmpty 0 (Nat.zero_le _) (by have := hs.lq; omega) (fun r hr => by have := hs.lp r hr; omega)
  have h3 : runW false prog 56 [.row 0, .d (.int .i64 0), .d (.int .i64 ((0 : Nat) : Int))] [.row 4 b.queue.isEmpty (recs b.queue)] = some (.row 0, [.row 4 b.queue.isEmpty (recs b.queue)], []) := Delz_eq b.queue b.queue.isEmpty hs.lq
  have hrl := recs_len b.queue
  have hm := takeM_if b.queue n
  rw [h0] at hm
  have hpe := Pend_eq b b.op.isEmpty b.queue.isEmpty b.nts.isEmpty
  have hen := Ends_eq b hs b.op.isEmpty b.queue.isEmpty b.nts.isEmpty t
  simp only [bP, bA, bC, bH] at h1 hpe hen
  have hc0 : cutB b n = b := by unfold cutB; rw [h0, List.drop_zero]
  have htk : takeB b t n = (if okTake b t then tellB b t else b, []) := by unfold takeB; rw [hc0, h0, List.take_zero]
  rw [htk]
  have ht := Tell_eq b hs b.op.isEmpty b.queue.isEmpty b.nts.isEmpty t
  simp only [bP, bC] at ht
  have g1 : (tellB b t).op = b.op := rfl
  have g2 : (tellB b t).nts = b.nts := rfl
  cases hok : okTake b t with
  | false =>
    simp only [takR, Bool.false_eq_true, if_false]
    refine run_of rfl ?_
    simp -dsimp (disch := first | rfl | omega) only [bA, bC, bH, r26_0, r26_1, r26_2, r26_3, r26_4, callW_fn pgOwnB, h1, callW_fn pgRecs', h2, callW_fn pgDelR, h3, hrl, hm, ↓vmP, vm0, vm1, vm2, vm3, vm4, vm5, vm6, vm7, vm8, vm9, vm10, vm11, vm12, vm13, vm14, vm15, vmC, vmN, Nat.reduceAdd, Nat.reduceMul, Nat.reduceSub, Nat.reduceEqDiff, Nat.reduceLT, Nat.reduceLeDiff, ↓reduceIte, Tg.isFull, Int.reduceToNat]
    refine tk_z b b hs z1 z2 z3 t _ _ _ _ _ _ ?_
    rw [hok]
    simp -dsimp (disch := first | rfl | omega) only [bA, bC, zB, tl0, tl1, tl2, tl3, tl4, tl5, r26_6, r26_7, ↓vmP, vm0, vm1, vm2, vm3, vm4, vm5, vm6, vm7, vm8, vm9, vm10, vm11, vm12, vm13, vm14, vm15, vmC, vmN, Nat.reduceAdd, Nat.reduceMul, Nat.reduceSub, Nat.reduceEqDiff, Nat.reduceLT, Nat.reduceLeDiff, ↓reduceIte, Tg.isFull, Int.reduceToNat]
  | true =>
    simp only [takR, if_true]
    refine run_of rfl ?_
    simp -dsimp (disch := first | rfl | omega) only [bA, bC, bH, r26_0, r26_1, r26_2, r26_3, r26_4, callW_fn pgOwnB, h1, callW_fn pgRecs', h2, callW_fn pgDelR, h3, hrl, hm, ↓vmP, vm0, vm1, vm2, vm3, vm4, vm5, vm6, vm7, vm8, vm9, vm10, vm11, vm12, vm13, vm14, vm15, vmC, vmN, Nat.reduceAdd, Nat.reduceMul, Nat.reduceSub, Nat.reduceEqDiff, Nat.reduceLT, Nat.reduceLeDiff, ↓reduceIte, Tg.isFull, Int.reduceToNat]
    refine tk_z b b hs z1 z2 z3 t _ _ _ _ _ _ ?_
    rw [hok]
    simp -dsimp (disch := first | rfl | omega) only [bA, bC, zB, tl0, tl1, tl2, tl3, tl4, tl5, r26_6, r26_7, callW_fn pgTell, ht, g1, g2, ↓vmP, vm0, vm1, vm2, vm3, vm4, vm5, vm6, vm7, vm8, vm9, vm10, vm11, vm12, vm13, vm14, vm15, vmC, vmN, Nat.reduceAdd, Nat.reduceMul, Nat.reduceSub, Nat.reduceEqDiff, Nat.reduceLT, Nat.reduceLeDiff, ↓reduceIte, Tg.isFull, Int.reduceToNat]
set_option maxRecDepth 20000 in
theorem Take_s (b : Bk) (z1 z2 z3 : Nat) (hz : Zk b z1 z2 z3) (hs : Sm b) (t n : Int) (h0 : takeM b.queue n ≠ 0) : runW false prog 26 [.agg (bA b z1 z2 z3), .d (.int .i64 t), .d (.int .i64 n)] [] = some (takR (takeB b t n) 4 4, [], []) := by
  have h1 := ownB_eq b z1 z2 z3 hz hs
  have hle := takeM_le b.queue n
  have h2 := Recss_eq b.queue b.queue.isEmpty (takeM b.queue n) hle (by have := hs.lq; omega) (fun r hr => by have := hs.lp r hr; omega)
  have h3 := Deln_eq b.queue b.queue.isEmpty hs.lq (takeM b.queue n) hle (by omega)
  have hrl := recs_len b.queue
  have hm := takeM_if b.queue n
  simp only [bP, bA, bC, bH] at h1
  have hsc : Sm (cutB b n) := ⟨hs.s, hs.r, hs.p, hs.u, hs.l, hs.lo, by have := hs.lq; show (b.queue.drop _).length ≤ _; rw [List.length_drop]; omega, hs.ln, fun r hr => hs.lp r (List.mem_of_mem_drop hr), hs.oo⟩
  have htk : takeB b t n = (if okTake (cutB b n) t then tellB (cutB b n) t else cutB b n, b.queue.take (takeM b.queue n)) := rfl
  rw [htk]
  have hql : (cutB b n).queue.length = b.queue.length - takeM b.queue n := by show (b.queue.drop _).length = _; rw [List.length_drop]
  have hqq : b.queue.drop (takeM b.queue n) = (cutB b n).queue := rfl
  have ht := sTell_eq (cutB b n) hsc b.op.isEmpty b.queue.isEmpty b.nts.isEmpty t (takeM b.queue n - 1)
  rw [show takeM b.queue n - 1 + 1 = takeM b.queue n by omega, hql] at ht
  rw [hqq] at h3
  have hxl : (cutB b n).queue.length ≤ (recs (cutB b n).queue ++ List.replicate (takeM b.queue n) zR).length := by rw [List.length_append, recs_len]; omega
  have hf1 : (recs (cutB b n).queue ++ List.replicate (takeM b.queue n) zR).take (b.queue.length - takeM b.queue n) = recs (cutB b n).queue := by
    rw [← hql, List.take_append_of_le_length (by rw [recs_len]; omega), List.take_of_length_le (by rw [recs_len]; omega)]
  have hxl2 : b.queue.length - takeM b.queue n ≤ (recs (cutB b n).queue ++ List.replicate (takeM b.queue n) zR).length := by rw [← hql]; exact hxl
  have hf2 : (recs (tellB (cutB b n) t).queue ++ List.replicate (takeM b.queue n - 1) zR).take (b.queue.length - takeM b.queue n + 1) = recs (tellB (cutB b n) t).queue := by
    have : (tellB (cutB b n) t).queue.length = b.queue.length - takeM b.queue n + 1 := by rw [← hql]; simp [tellB]
    rw [← this, List.take_append_of_le_length (by rw [recs_len]; omega), List.take_of_length_le (by rw [recs_len]; omega)]
  have hxl3 : b.queue.length - takeM b.queue n + 1 ≤ (recs (tellB (cutB b n) t).queue ++ List.replicate (takeM b.queue n - 1) zR).length := by
    have : (tellB (cutB b n) t).queue.length = b.queue.length - takeM b.queue n + 1 := by rw [← hql]; simp [tellB]
    rw [List.length_append, recs_len]; omega
  have hfit := tk_s (cutB b n) b hsc z1 z2 z3 t b.op.isEmpty b.queue.isEmpty b.nts.isEmpty
  rw [hql] at hfit
  have hh := fun O QQ N Q => hfit O _ QQ hxl2 N Q
  have g1 : (tellB (cutB b n) t).op = (cutB b n).op := rfl
  have g2 : (tellB (cutB b n) t).nts = (cutB b n).nts := rfl
  simp only [bS, bC] at ht
  cases hok : okTake (cutB b n) t with
  | false =>
    rw [hok] at hh
    simp only [takR, Bool.false_eq_true, if_false]
    refine run_of rfl ?_
    simp -dsimp (disch := first | rfl | omega) only [bA, bC, bH, r26_0, r26_1, r26_2, r26_3, r26_4, callW_fn pgOwnB, h1, callW_fn pgRecs', h2, callW_fn pgDelR, h3, hrl, hm, ↓vmP, vm0, vm1, vm2, vm3, vm4, vm5, vm6, vm7, vm8, vm9, vm10, vm11, vm12, vm13, vm14, vm15, vmC, vmN, Nat.reduceAdd, Nat.reduceMul, Nat.reduceSub, Nat.reduceEqDiff, Nat.reduceLT, Nat.reduceLeDiff, ↓reduceIte, Tg.isFull, Int.reduceToNat]
    refine hh _ _ _ _ ?_
    simp -dsimp (disch := first | rfl | omega) only [bA, bC, zB, tl0, tl1, tl2, tl3, tl4, tl5, r26_6, r26_7, hf1, ↓vmP, vm0, vm1, vm2, vm3, vm4, vm5, vm6, vm7, vm8, vm9, vm10, vm11, vm12, vm13, vm14, vm15, vmC, vmN, Nat.reduceAdd, Nat.reduceMul, Nat.reduceSub, Nat.reduceEqDiff, Nat.reduceLT, Nat.reduceLeDiff, ↓reduceIte, Tg.isFull, Int.reduceToNat]
    try rfl
  | true =>
    rw [hok] at hh
    simp only [takR, if_true]
    refine run_of rfl ?_
    simp -dsimp (disch := first | rfl | omega) only [bA, bC, bH, r26_0, r26_1, r26_2, r26_3, r26_4, callW_fn pgOwnB, h1, callW_fn pgRecs', h2, callW_fn pgDelR, h3, hrl, hm, ↓vmP, vm0, vm1, vm2, vm3, vm4, vm5, vm6, vm7, vm8, vm9, vm10, vm11, vm12, vm13, vm14, vm15, vmC, vmN, Nat.reduceAdd, Nat.reduceMul, Nat.reduceSub, Nat.reduceEqDiff, Nat.reduceLT, Nat.reduceLeDiff, ↓reduceIte, Tg.isFull, Int.reduceToNat]
    refine hh _ _ _ _ ?_
    simp -dsimp (disch := first | rfl | omega) only [bA, bC, zB, tl0, tl1, tl2, tl3, tl4, tl5, r26_6, r26_7, callW_fn pgTell, ht, hf2, g1, g2, ↓vmP, vm0, vm1, vm2, vm3, vm4, vm5, vm6, vm7, vm8, vm9, vm10, vm11, vm12, vm13, vm14, vm15, vmC, vmN, Nat.reduceAdd, Nat.reduceMul, Nat.reduceSub, Nat.reduceEqDiff, Nat.reduceLT, Nat.reduceLeDiff, ↓reduceIte, Tg.isFull, Int.reduceToNat]
    try rfl
end Go.Vm.Bk
