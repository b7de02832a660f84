/- A part of the proof of BacklogPlaysSaid: YtnihjdfbiddggaaFn. -/
import Derived.Test.YtnihjdfbiddggaaKFm
/- Backlogs: the law of the settings. -/
set_option linter.unusedVariables false
set_option linter.unusedSimpArgs false
set_option maxHeartbeats 1000000
namespace Go.Vm.Bk
theorem pgNew : prog 15 = some c15 := rfl
theorem pgRNew : prog 13 = some c13 := rfl
theorem pgRConf : prog 17 = some c17 := rfl
theorem pgROffer : prog 14 = some c14 := rfl
theorem pgOffer : prog 24 = some c24 := rfl
theorem pgRange : prog 11 = some c11 := rfl
theorem pgPick : prog 12 = some c12 := rfl
theorem pgSNew : prog 10 = some c10 := rfl
def tri (x y z : Int) : D := .sl .any 1 [[.int .i64 x], [.int .i64 y], [.int .i64 z]]
theorem sm_conf {b : Bk} (hs : Sm b) (l r f : Int) : Sm (conf b l r f) := ⟨hs.s, hs.r, hs.p, hs.u, hs.l, hs.lo, hs.lq, hs.ln, hs.lp, hs.oo⟩
set_option maxRecDepth 20000 in
theorem set_loop2 {Q : Ex → St → Prop} (b : Bk) (x y z x2 y2 z2 : Int) (s : St) (hg : gc [(10, none), (11, none), (13, none)] s = ⟨gS [(10, .row 0), (11, .ptr 1 0), (13, .d (.int .i64 2))], gH [(0, .row 1 false [[tri x y z], [tri x2 y2 z2]]), (1, .box (bA b 1 4 2))], 2, 0, []⟩) (hQ : ∀ L H nx, Q (.exit 0) ⟨gS L, H, nx, 0, []⟩) : wpW false prog (.loop [(10, none), (11, none), (13, none)] l3_15) s Q := by
  refine wp_loop1 ?_
  rw [hg]
  have i2 : ((2 : Nat) : Int) = 2 := rfl
  generalize hJ : (fun s' => wpW false prog (.loop [(10, none), (11, none), (13, none)] l3_15) s' Q) = J
  unfold l3_15
  simp -dsimp (disch := first | rfl | omega) only [i2, bA, bC, r3_7, Int.reduceLT, ↓vmP, vm0, vm1, vm2, vm3, vm4, vm5, vm6, vm7, vm8, vm9, vm10, vm11, vm12, vm13, vm14, vm15, vmC, vmN, Nat.reduceAdd, Nat.reduceMul, Nat.reduceSub, Nat.reduceEqDiff, Nat.reduceLT, Nat.reduceLeDiff, ↓reduceIte, Tg.isFull, Int.reduceToNat]
  exact hQ _ _ _
set_option maxRecDepth 20000 in
theorem set_loop1 {Q : Ex → St → Prop} (b : Bk) (hs : Sm b) (x y z x2 y2 z2 : Int) (s : St) (hg : gc [(10, none), (11, none), (13, none)] s = ⟨gS [(10, .row 0), (11, .ptr 1 0), (13, .d (.int .i64 1))], gH [(0, .row 1 false [[tri x y z], [tri x2 y2 z2]]), (1, .box (bA b 1 4 2))], 2, 0, []⟩) (hQ : ∀ L H nx, Q (.exit 0) ⟨gS L, H, nx, 0, []⟩) : wpW false prog (.loop [(10, none), (11, none), (13, none)] l3_15) s Q := by
  refine wp_loop1 ?_
  rw [hg]
  have i2 : ((2 : Nat) : Int) = 2 := rfl
  generalize hJ : (fun s' => wpW false prog (.loop [(10, none), (11, none), (13, none)] l3_15) s' Q) = J
  unfold l3_15
  have hN := New_eq x2 y2 z2
  have hR := RNew_eq x2 y2 z2
  have hC := Conf_eq b 1 4 2 (zk_of b) hs x2 y2 z2
  have hD := RConf_eq b 1 4 2 (zk_of b) hs x2 y2 z2
  cases hv : setOk x2 y2 z2 with
  | true =>
    have hS1 := Same_eq (conf zBk x2 y2 z2) 1 4 2 0 0 0 (zk_of _) (zk_z x2 y2 z2) (sm_z x2 y2 z2)
    have hS2 := Same_eq (conf b x2 y2 z2) 1 4 2 1 4 2 (zk_of _) (zk_of _) (sm_conf hs x2 y2 z2)
    simp only [hv, newR, if_true] at hN hR hC hD
    simp only [bA, bC, conf, zBk, i64s_nil, recs_nil, notes_nil] at hN hR hC hD hS1 hS2
    simp -dsimp (disch := first | rfl | omega) only [i2, bA, bC, conf, newR, hv, tri, zBk, i64s_nil, recs_nil, notes_nil, r3_7, r3_8, callW_fn pgNew, hN, vmK, if_true, if_false, Bool.false_eq_true, Int.reduceLT, Int.reduceToNat, ↓vmP, vm0, vm1, vm2, vm3, vm4, vm5, vm6, vm7, vm8, vm9, vm10, vm11, vm12, vm13, vm14, vm15, vmC, vmN, Nat.reduceAdd, Nat.reduceMul, Nat.reduceSub, Nat.reduceEqDiff, Nat.reduceLT, Nat.reduceLeDiff, ↓reduceIte, Tg.isFull, Int.reduceToNat]
    refine regD_of (by kernel_rfl) ?_
    simp -dsimp (disch := first | rfl | omega) only [i2, bA, bC, conf, newR, hv, tri, zBk, i64s_nil, recs_nil, notes_nil, r3_9, callW_fn pgRNew, hR, vmK, if_true, if_false, Bool.false_eq_true, Int.reduceToNat, ↓vmP, vm0, vm1, vm2, vm3, vm4, vm5, vm6, vm7, vm8, vm9, vm10, vm11, vm12, vm13, vm14, vm15, vmC, vmN, Nat.reduceAdd, Nat.reduceMul, Nat.reduceSub, Nat.reduceEqDiff, Nat.reduceLT, Nat.reduceLeDiff, ↓reduceIte, Tg.isFull, Int.reduceToNat]
    refine regD_of (by kernel_rfl) ?_
    simp -dsimp (disch := first | rfl | omega) only [i2, bA, bC, conf, newR, hv, tri, zBk, i64s_nil, recs_nil, notes_nil, r3_10, callW_fn pgConf, hC, vmK, if_true, if_false, Bool.false_eq_true, Int.reduceToNat, ↓vmP, vm0, vm1, vm2, vm3, vm4, vm5, vm6, vm7, vm8, vm9, vm10, vm11, vm12, vm13, vm14, vm15, vmC, vmN, Nat.reduceAdd, Nat.reduceMul, Nat.reduceSub, Nat.reduceEqDiff, Nat.reduceLT, Nat.reduceLeDiff, ↓reduceIte, Tg.isFull, Int.reduceToNat]
    refine regD_of (by kernel_rfl) ?_
    simp -dsimp (disch := first | rfl | omega) only [i2, bA, bC, conf, newR, hv, tri, zBk, i64s_nil, recs_nil, notes_nil, r3_11, callW_fn pgRConf, hD, vmK, if_true, if_false, Bool.false_eq_true, Int.reduceToNat, ↓vmP, vm0, vm1, vm2, vm3, vm4, vm5, vm6, vm7, vm8, vm9, vm10, vm11, vm12, vm13, vm14, vm15, vmC, vmN, Nat.reduceAdd, Nat.reduceMul, Nat.reduceSub, Nat.reduceEqDiff, Nat.reduceLT, Nat.reduceLeDiff, ↓reduceIte, Tg.isFull, Int.reduceToNat]
    refine regD_of (by kernel_rfl) ?_
    simp -dsimp (disch := first | rfl | omega) only [i2, bA, bC, conf, newR, hv, tri, zBk, i64s_nil, recs_nil, notes_nil, r3_12, r3_14, callW_fn pgSame, hS1, hS2, vmK, if_true, if_false, Bool.false_eq_true, Int.reduceAdd, ne_eq, not_true_eq_false, ↓vmP, vm0, vm1, vm2, vm3, vm4, vm5, vm6, vm7, vm8, vm9, vm10, vm11, vm12, vm13, vm14, vm15, vmC, vmN, Nat.reduceAdd, Nat.reduceMul, Nat.reduceSub, Nat.reduceEqDiff, Nat.reduceLT, Nat.reduceLeDiff, ↓reduceIte, Tg.isFull, Int.reduceToNat]
    rw [← hJ]
    exact set_loop2 b x y z x2 y2 z2 _ (by simp -dsimp (disch := first | rfl | omega) only [i2, bA, bC, tri, ↓vmP, vm0, vm1, vm2, vm3, vm4, vm5, vm6, vm7, vm8, vm9, vm10, vm11, vm12, vm13, vm14, vm15, vmC, vmN, Nat.reduceAdd, Nat.reduceMul, Nat.reduceSub, Nat.reduceEqDiff, Nat.reduceLT, Nat.reduceLeDiff, ↓reduceIte, Tg.isFull, Int.reduceToNat]) hQ
  | false =>
    have hS1 := Same_eq zBk 0 0 0 0 0 0 (zk_z 0 0 0) (zk_z 0 0 0) (sm_z 0 0 0)
    have hS2 := hS1
    simp only [hv, newR, if_false, Bool.false_eq_true] at hN hR hC hD
    simp only [bA, bC, conf, zBk, i64s_nil, recs_nil, notes_nil] at hN hR hC hD hS1 hS2
    simp -dsimp (disch := first | rfl | omega) only [i2, bA, bC, conf, newR, hv, tri, zBk, i64s_nil, recs_nil, notes_nil, r3_7, r3_8, callW_fn pgNew, hN, vmK, if_true, if_false, Bool.false_eq_true, Int.reduceLT, Int.reduceToNat, ↓vmP, vm0, vm1, vm2, vm3, vm4, vm5, vm6, vm7, vm8, vm9, vm10, vm11, vm12, vm13, vm14, vm15, vmC, vmN, Nat.reduceAdd, Nat.reduceMul, Nat.reduceSub, Nat.reduceEqDiff, Nat.reduceLT, Nat.reduceLeDiff, ↓reduceIte, Tg.isFull, Int.reduceToNat]
    refine regD_of (by kernel_rfl) ?_
    simp -dsimp (disch := first | rfl | omega) only [i2, bA, bC, conf, newR, hv, tri, zBk, i64s_nil, recs_nil, notes_nil, r3_9, callW_fn pgRNew, hR, vmK, if_true, if_false, Bool.false_eq_true, Int.reduceToNat, ↓vmP, vm0, vm1, vm2, vm3, vm4, vm5, vm6, vm7, vm8, vm9, vm10, vm11, vm12, vm13, vm14, vm15, vmC, vmN, Nat.reduceAdd, Nat.reduceMul, Nat.reduceSub, Nat.reduceEqDiff, Nat.reduceLT, Nat.reduceLeDiff, ↓reduceIte, Tg.isFull, Int.reduceToNat]
    refine regD_of (by kernel_rfl) ?_
    simp -dsimp (disch := first | rfl | omega) only [i2, bA, bC, conf, newR, hv, tri, zBk, i64s_nil, recs_nil, notes_nil, r3_10, callW_fn pgConf, hC, vmK, if_true, if_false, Bool.false_eq_true, Int.reduceToNat, ↓vmP, vm0, vm1, vm2, vm3, vm4, vm5, vm6, vm7, vm8, vm9, vm10, vm11, vm12, vm13, vm14, vm15, vmC, vmN, Nat.reduceAdd, Nat.reduceMul, Nat.reduceSub, Nat.reduceEqDiff, Nat.reduceLT, Nat.reduceLeDiff, ↓reduceIte, Tg.isFull, Int.reduceToNat]
    refine regD_of (by kernel_rfl) ?_
    simp -dsimp (disch := first | rfl | omega) only [i2, bA, bC, conf, newR, hv, tri, zBk, i64s_nil, recs_nil, notes_nil, r3_11, callW_fn pgRConf, hD, vmK, if_true, if_false, Bool.false_eq_true, Int.reduceToNat, ↓vmP, vm0, vm1, vm2, vm3, vm4, vm5, vm6, vm7, vm8, vm9, vm10, vm11, vm12, vm13, vm14, vm15, vmC, vmN, Nat.reduceAdd, Nat.reduceMul, Nat.reduceSub, Nat.reduceEqDiff, Nat.reduceLT, Nat.reduceLeDiff, ↓reduceIte, Tg.isFull, Int.reduceToNat]
    refine regD_of (by kernel_rfl) ?_
    simp -dsimp (disch := first | rfl | omega) only [i2, bA, bC, conf, newR, hv, tri, zBk, i64s_nil, recs_nil, notes_nil, r3_12, r3_14, callW_fn pgSame, hS1, hS2, vmK, if_true, if_false, Bool.false_eq_true, Int.reduceAdd, ne_eq, not_true_eq_false, ↓vmP, vm0, vm1, vm2, vm3, vm4, vm5, vm6, vm7, vm8, vm9, vm10, vm11, vm12, vm13, vm14, vm15, vmC, vmN, Nat.reduceAdd, Nat.reduceMul, Nat.reduceSub, Nat.reduceEqDiff, Nat.reduceLT, Nat.reduceLeDiff, ↓reduceIte, Tg.isFull, Int.reduceToNat]
    rw [← hJ]
    exact set_loop2 b x y z x2 y2 z2 _ (by simp -dsimp (disch := first | rfl | omega) only [i2, bA, bC, tri, ↓vmP, vm0, vm1, vm2, vm3, vm4, vm5, vm6, vm7, vm8, vm9, vm10, vm11, vm12, vm13, vm14, vm15, vmC, vmN, Nat.reduceAdd, Nat.reduceMul, Nat.reduceSub, Nat.reduceEqDiff, Nat.reduceLT, Nat.reduceLeDiff, ↓reduceIte, Tg.isFull, Int.reduceToNat]) hQ
set_option maxRecDepth 20000 in
theorem set_loop0 {Q : Ex → St → Prop} (b : Bk) (hs : Sm b) (x y z x2 y2 z2 : Int) (s : St) (hg : gc [(10, none), (11, none), (13, none)] s = ⟨gS [(10, .row 0), (11, .ptr 1 0), (13, .d (.int .i64 0))], gH [(0, .row 1 false [[tri x y z], [tri x2 y2 z2]]), (1, .box (bA b 1 4 2))], 2, 0, []⟩) (hQ : ∀ L H nx, Q (.exit 0) ⟨gS L, H, nx, 0, []⟩) : wpW false prog (.loop [(10, none), (11, none), (13, none)] l3_15) s Q := by
  refine wp_loop1 ?_
  rw [hg]
  have i2 : ((2 : Nat) : Int) = 2 := rfl
  generalize hJ : (fun s' => wpW false prog (.loop [(10, none), (11, none), (13, none)] l3_15) s' Q) = J
  unfold l3_15
  have hN := New_eq x y z
  have hR := RNew_eq x y z
  have hC := Conf_eq b 1 4 2 (zk_of b) hs x y z
  have hD := RConf_eq b 1 4 2 (zk_of b) hs x y z
  cases hv : setOk x y z with
  | true =>
    have hS1 := Same_eq (conf zBk x y z) 1 4 2 0 0 0 (zk_of _) (zk_z x y z) (sm_z x y z)
    have hS2 := Same_eq (conf b x y z) 1 4 2 1 4 2 (zk_of _) (zk_of _) (sm_conf hs x y z)
    simp only [hv, newR, if_true] at hN hR hC hD
    simp only [bA, bC, conf, zBk, i64s_nil, recs_nil, notes_nil] at hN hR hC hD hS1 hS2
    simp -dsimp (disch := first | rfl | omega) only [i2, bA, bC, conf, newR, hv, tri, zBk, i64s_nil, recs_nil, notes_nil, r3_7, r3_8, callW_fn pgNew, hN, vmK, if_true, if_false, Bool.false_eq_true, Int.reduceLT, Int.reduceToNat, ↓vmP, vm0, vm1, vm2, vm3, vm4, vm5, vm6, vm7, vm8, vm9, vm10, vm11, vm12, vm13, vm14, vm15, vmC, vmN, Nat.reduceAdd, Nat.reduceMul, Nat.reduceSub, Nat.reduceEqDiff, Nat.reduceLT, Nat.reduceLeDiff, ↓reduceIte, Tg.isFull, Int.reduceToNat]
    refine regD_of (by kernel_rfl) ?_
    simp -dsimp (disch := first | rfl | omega) only [i2, bA, bC, conf, newR, hv, tri, zBk, i64s_nil, recs_nil, notes_nil, r3_9, callW_fn pgRNew, hR, vmK, if_true, if_false, Bool.false_eq_true, Int.reduceToNat, ↓vmP, vm0, vm1, vm2, vm3, vm4, vm5, vm6, vm7, vm8, vm9, vm10, vm11, vm12, vm13, vm14, vm15, vmC, vmN, Nat.reduceAdd, Nat.reduceMul, Nat.reduceSub, Nat.reduceEqDiff, Nat.reduceLT, Nat.reduceLeDiff, ↓reduceIte, Tg.isFull, Int.reduceToNat]
    refine regD_of (by kernel_rfl) ?_
    simp -dsimp (disch := first | rfl | omega) only [i2, bA, bC, conf, newR, hv, tri, zBk, i64s_nil, recs_nil, notes_nil, r3_10, callW_fn pgConf, hC, vmK, if_true, if_false, Bool.false_eq_true, Int.reduceToNat, ↓vmP, vm0, vm1, vm2, vm3, vm4, vm5, vm6, vm7, vm8, vm9, vm10, vm11, vm12, vm13, vm14, vm15, vmC, vmN, Nat.reduceAdd, Nat.reduceMul, Nat.reduceSub, Nat.reduceEqDiff, Nat.reduceLT, Nat.reduceLeDiff, ↓reduceIte, Tg.isFull, Int.reduceToNat]
    refine regD_of (by kernel_rfl) ?_
    simp -dsimp (disch := first | rfl | omega) only [i2, bA, bC, conf, newR, hv, tri, zBk, i64s_nil, recs_nil, notes_nil, r3_11, callW_fn pgRConf, hD, vmK, if_true, if_false, Bool.false_eq_true, Int.reduceToNat, ↓vmP, vm0, vm1, vm2, vm3, vm4, vm5, vm6, vm7, vm8, vm9, vm10, vm11, vm12, vm13, vm14, vm15, vmC, vmN, Nat.reduceAdd, Nat.reduceMul, Nat.reduceSub, Nat.reduceEqDiff, Nat.reduceLT, Nat.reduceLeDiff, ↓reduceIte, Tg.isFull, Int.reduceToNat]
    refine regD_of (by kernel_rfl) ?_
    simp -dsimp (disch := first | rfl | omega) only [i2, bA, bC, conf, newR, hv, tri, zBk, i64s_nil, recs_nil, notes_nil, r3_12, r3_14, callW_fn pgSame, hS1, hS2, vmK, if_true, if_false, Bool.false_eq_true, Int.reduceAdd, ne_eq, not_true_eq_false, ↓vmP, vm0, vm1, vm2, vm3, vm4, vm5, vm6, vm7, vm8, vm9, vm10, vm11, vm12, vm13, vm14, vm15, vmC, vmN, Nat.reduceAdd, Nat.reduceMul, Nat.reduceSub, Nat.reduceEqDiff, Nat.reduceLT, Nat.reduceLeDiff, ↓reduceIte, Tg.isFull, Int.reduceToNat]
    rw [← hJ]
    exact set_loop1 b hs x y z x2 y2 z2 _ (by simp -dsimp (disch := first | rfl | omega) only [i2, bA, bC, tri, ↓vmP, vm0, vm1, vm2, vm3, vm4, vm5, vm6, vm7, vm8, vm9, vm10, vm11, vm12, vm13, vm14, vm15, vmC, vmN, Nat.reduceAdd, Nat.reduceMul, Nat.reduceSub, Nat.reduceEqDiff, Nat.reduceLT, Nat.reduceLeDiff, ↓reduceIte, Tg.isFull, Int.reduceToNat]) hQ
  | false =>
    have hS1 := Same_eq zBk 0 0 0 0 0 0 (zk_z 0 0 0) (zk_z 0 0 0) (sm_z 0 0 0)
    have hS2 := hS1
    simp only [hv, newR, if_false, Bool.false_eq_true] at hN hR hC hD
    simp only [bA, bC, conf, zBk, i64s_nil, recs_nil, notes_nil] at hN hR hC hD hS1 hS2
    simp -dsimp (disch := first | rfl | omega) only [i2, bA, bC, conf, newR, hv, tri, zBk, i64s_nil, recs_nil, notes_nil, r3_7, r3_8, callW_fn pgNew, hN, vmK, if_true, if_false, Bool.false_eq_true, Int.reduceLT, Int.reduceToNat, ↓vmP, vm0, vm1, vm2, vm3, vm4, vm5, vm6, vm7, vm8, vm9, vm10, vm11, vm12, vm13, vm14, vm15, vmC, vmN, Nat.reduceAdd, Nat.reduceMul, Nat.reduceSub, Nat.reduceEqDiff, Nat.reduceLT, Nat.reduceLeDiff, ↓reduceIte, Tg.isFull, Int.reduceToNat]
    refine regD_of (by kernel_rfl) ?_
    simp -dsimp (disch := first | rfl | omega) only [i2, bA, bC, conf, newR, hv, tri, zBk, i64s_nil, recs_nil, notes_nil, r3_9, callW_fn pgRNew, hR, vmK, if_true, if_false, Bool.false_eq_true, Int.reduceToNat, ↓vmP, vm0, vm1, vm2, vm3, vm4, vm5, vm6, vm7, vm8, vm9, vm10, vm11, vm12, vm13, vm14, vm15, vmC, vmN, Nat.reduceAdd, Nat.reduceMul, Nat.reduceSub, Nat.reduceEqDiff, Nat.reduceLT, Nat.reduceLeDiff, ↓reduceIte, Tg.isFull, Int.reduceToNat]
    refine regD_of (by kernel_rfl) ?_
    simp -dsimp (disch := first | rfl | omega) only [i2, bA, bC, conf, newR, hv, tri, zBk, i64s_nil, recs_nil, notes_nil, r3_10, callW_fn pgConf, hC, vmK, if_true, if_false, Bool.false_eq_true, Int.reduceToNat, ↓vmP, vm0, vm1, vm2, vm3, vm4, vm5, vm6, vm7, vm8, vm9, vm10, vm11, vm12, vm13, vm14, vm15, vmC, vmN, Nat.reduceAdd, Nat.reduceMul, Nat.reduceSub, Nat.reduceEqDiff, Nat.reduceLT, Nat.reduceLeDiff, ↓reduceIte, Tg.isFull, Int.reduceToNat]
    refine regD_of (by kernel_rfl) ?_
    simp -dsimp (disch := first | rfl | omega) only [i2, bA, bC, conf, newR, hv, tri, zBk, i64s_nil, recs_nil, notes_nil, r3_11, callW_fn pgRConf, hD, vmK, if_true, if_false, Bool.false_eq_true, Int.reduceToNat, ↓vmP, vm0, vm1, vm2, vm3, vm4, vm5, vm6, vm7, vm8, vm9, vm10, vm11, vm12, vm13, vm14, vm15, vmC, vmN, Nat.reduceAdd, Nat.reduceMul, Nat.reduceSub, Nat.reduceEqDiff, Nat.reduceLT, Nat.reduceLeDiff, ↓reduceIte, Tg.isFull, Int.reduceToNat]
    refine regD_of (by kernel_rfl) ?_
    simp -dsimp (disch := first | rfl | omega) only [i2, bA, bC, conf, newR, hv, tri, zBk, i64s_nil, recs_nil, notes_nil, r3_12, r3_14, callW_fn pgSame, hS1, hS2, vmK, if_true, if_false, Bool.false_eq_true, Int.reduceAdd, ne_eq, not_true_eq_false, ↓vmP, vm0, vm1, vm2, vm3, vm4, vm5, vm6, vm7, vm8, vm9, vm10, vm11, vm12, vm13, vm14, vm15, vmC, vmN, Nat.reduceAdd, Nat.reduceMul, Nat.reduceSub, Nat.reduceEqDiff, Nat.reduceLT, Nat.reduceLeDiff, ↓reduceIte, Tg.isFull, Int.reduceToNat]
    rw [← hJ]
    exact set_loop1 b hs x y z x2 y2 z2 _ (by simp -dsimp (disch := first | rfl | omega) only [i2, bA, bC, tri, ↓vmP, vm0, vm1, vm2, vm3, vm4, vm5, vm6, vm7, vm8, vm9, vm10, vm11, vm12, vm13, vm14, vm15, vmC, vmN, Nat.reduceAdd, Nat.reduceMul, Nat.reduceSub, Nat.reduceEqDiff, Nat.reduceLT, Nat.reduceLeDiff, ↓reduceIte, Tg.isFull, Int.reduceToNat]) hQ
def sb0 : Bk := conf zBk 8 0 1
def sb1 : Bk := ⟨8, 0, 1, 1, 0, [], [], 1, 1, 0, 1, 0, 0, 0, 1, false, []⟩
def sb2 : Bk := ⟨8, 0, 1, 3, 3, [3], [lossR 1 1 0 1 0 5 2], 0, 0, 0, 0, 0, 0, 1, 1, false, []⟩
theorem sb1_eq : offerB sb0 5 9 = (sb1, 1, false) := by kernel_rfl
theorem sb2_eq : offerB sb1 5 3 = (sb2, 3, true) := by kernel_rfl
theorem sm_sb1 : Sm sb1 := ⟨by decide, by decide, by decide, by decide, by decide, by decide, by decide, by decide, by simp [sb1], by simp [sb1]⟩
theorem sm_sb2 : Sm sb2 := ⟨by decide, by decide, by decide, by decide, by decide, by decide, by decide, by decide, by simp [sb2, lossR, lossP], by simp [sb2]⟩
set_option maxRecDepth 20000 in
theorem law_settings (limit rate fail : Int) (l : List Int) (hl : l.length ≤ 9223372036854775807) (hi : ∀ x ∈ l, InI x) : runW false prog 3 [.d (.int .i64 limit), .d (.int .i64 rate), .d (.int .i64 fail), .d (.sl .any 1 (i64s l))] [] = some (.d (.bool true), [], []) := by
  refine run_of rfl ?_
  have a0 := SNew_eq l
  have a1 := Range_eq l 0 (-1) 66 68 (by omega) hl hi (by decide) (by omega) (by omega) (by omega)
  have a2 := Pick_eq l 1 [0, 1, -1, 1000, 1001] (by omega) hl hi (by decide) (by decide)
  have a3 := Range_eq l 2 0 4 5 (by omega) hl hi (by decide) (by omega) (by omega) (by omega)
  rw [show i64s [0, 1, -1, 1000, 1001] = [[.int .i64 0], [.int .i64 1], [.int .i64 (-1)], [.int .i64 1000], [.int .i64 1001]] from rfl] at a2
  simp only [src, Nat.reduceAdd] at a0 a1 a2 a3
  generalize i64s l = X at a0 a1 a2 a3 ⊢
  have b0 := RNew_eq 8 0 1
  have hv : setOk 8 0 1 = true := by decide
  have b1 := ROffer_eq sb0 0 0 0 (zk_z 8 0 1) (sm_z 8 0 1) ⟨fun _ => rfl, fun _ => rfl⟩ (by decide) 5 9
  have b2 := ROffer_eq sb1 1 4 2 (zk_of _) sm_sb1 (by unfold PpOk; decide) (by decide) 5 3
  rw [sb1_eq] at b1
  rw [sb2_eq] at b2
  simp only [newR, hv, if_true, offR] at b0 b1 b2
  have hlp := fun x2 y2 z2 Q s => set_loop0 (Q := Q) sb2 sm_sb2 limit rate fail x2 y2 z2 s
  generalize (-1 + (sN l 0 68 : Int)) = g1 at a1
  generalize ([0, 1, -1, 1000, 1001] : List Int).getD _ 0 = g2 at a2
  generalize (0 + (sN l 2 5 : Int)) = g3 at a3
  have hz1 : conf zBk 8 0 1 = sb0 := rfl
  rw [hz1] at b0
  generalize sb0 = t0 at b0 b1
  generalize sb1 = t1 at b1 b2
  generalize sb2 = t2 at b2 hlp
  simp only [bA, bC] at b0 b1 b2
  simp -dsimp (disch := first | rfl | omega) only [r3_0, r3_1, r3_2, callW_fn pgSNew, a0, callW_fn pgRange, callW_fn pgPick, a1, a2, a3, callW_fn pgRNew, callW_fn pgROffer, b0, b1, b2, r3_3, r3_4, r3_5, r3_6, ↓vmP, vm0, vm1, vm2, vm3, vm4, vm5, vm6, vm7, vm8, vm9, vm10, vm11, vm12, vm13, vm14, vm15, vmC, vmN, Nat.reduceAdd, Nat.reduceMul, Nat.reduceSub, Nat.reduceEqDiff, Nat.reduceLT, Nat.reduceLeDiff, ↓reduceIte, Tg.isFull, Int.reduceToNat]
  refine hlp g1 g2 g3 _ _ (by simp -dsimp (disch := first | rfl | omega) only [bA, bC, tri, ↓vmP, vm0, vm1, vm2, vm3, vm4, vm5, vm6, vm7, vm8, vm9, vm10, vm11, vm12, vm13, vm14, vm15, vmC, vmN, Nat.reduceAdd, Nat.reduceMul, Nat.reduceSub, Nat.reduceEqDiff, Nat.reduceLT, Nat.reduceLeDiff, ↓reduceIte, Tg.isFull, Int.reduceToNat]) (fun L H nx => ?_)
  simp -dsimp (disch := first | rfl | omega) only [r3_16, callW_fn pgAwake, awake_eq, ↓vmP, vm0, vm1, vm2, vm3, vm4, vm5, vm6, vm7, vm8, vm9, vm10, vm11, vm12, vm13, vm14, vm15, vmC, vmN, Nat.reduceAdd, Nat.reduceMul, Nat.reduceSub, Nat.reduceEqDiff, Nat.reduceLT, Nat.reduceLeDiff, ↓reduceIte, Tg.isFull, Int.reduceToNat]

end Go.Vm.Bk
