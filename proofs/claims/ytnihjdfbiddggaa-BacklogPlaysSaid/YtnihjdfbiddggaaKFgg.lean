/- A part of the proof of BacklogPlaysSaid: YtnihjdfbiddggaaFgg. -/
import Derived.Test.YtnihjdfbiddggaaKFff
/- Backlogs: a play begins; the law of the plays. -/
set_option linter.unusedVariables false
set_option linter.unusedSimpArgs false
set_option maxHeartbeats 1000000
namespace Go.Vm.Bk
def blm : List Int := [64, 64, 20, 8, 5, 1, 3]
def brt : List Int := [0, 0, 0, 2, 5]
def begP (m r f : Int) : Ply := ⟨conf zBk m r f, 0, 0, 0, [], 0, [], []⟩
theorem pk_beg (m r f : Int) : Pk 0 (begP m r f) := ⟨inv_z m r f, zk_z m r f, by simp [begP], by simp [begP], by simp [begP], by simp [begP], by simp [begP]⟩
theorem blm_b (i : Nat) (h : i < blm.length) : 1 ≤ blm.getD i 0 ∧ blm.getD i 0 ≤ 64 := by
  match i, h with
  | 0, _ => decide
  | 1, _ => decide
  | 2, _ => decide
  | 3, _ => decide
  | 4, _ => decide
  | 5, _ => decide
  | 6, _ => decide
theorem newR_ok (m r f : Int) (z1 z2 z3 : Nat) (h : setOk m r f = true) : newR m r f z1 z2 z3 = .tup [.agg (bA (conf zBk m r f) z1 z2 z3), .d (.int .i64 0)] := by unfold newR; rw [if_pos h]
set_option maxRecDepth 20000 in
theorem beg_ex (l : List Int) (hl : l.length ≤ 9223372036854775807) (hv : ∀ v ∈ l, InI v) : ∃ m r f : Int, (1 ≤ m ∧ m ≤ 64) ∧ runW false prog 20 [.ptr 0 0] [src l 0] = some (.ptr 1 0, [src l 3, .box (plC (begP m r f) nlS (.row 2) (.row 3)), .row 4 true (recs []), .row 1 true (i64s [])], [0]) := by
  have hq1 := Pick_eq l 0 blm (by omega) hl hv (by decide) (by decide)
  rw [show i64s blm = [[.int .i64 64], [.int .i64 64], [.int .i64 20], [.int .i64 8], [.int .i64 5], [.int .i64 1], [.int .i64 3]] from rfl] at hq1
  have hq2 := Pick_eq l 1 brt (by omega) hl hv (by decide) (by decide)
  rw [show i64s brt = [[.int .i64 0], [.int .i64 0], [.int .i64 0], [.int .i64 2], [.int .i64 5]] from rfl] at hq2
  have hq3 := Range_eq l 2 1 3 3 (by omega) hl hv (by decide) (by omega) (by omega) (by omega)
  have hb1 := blm_b _ (sN_lt l 0 blm.length (by decide))
  have hb2 := getD_b brt 0 5 (by decide) (by decide) (sN l 1 brt.length)
  have hb3 := sN_lt l 2 3 (by decide)
  simp only [Nat.reduceAdd] at hq1 hq2 hq3
  generalize blm.getD (sN l 0 blm.length) 0 = m at hq1 hb1
  generalize brt.getD (sN l 1 brt.length) 0 = r at hq2 hb2
  have hf : 1 ≤ (1 + (sN l 2 3 : Int)) ∧ (1 + (sN l 2 3 : Int)) ≤ 3 := by omega
  generalize (1 + (sN l 2 3 : Int)) = f at hq3 hf
  have hok : setOk m r f = true := by simp only [setOk, decide_eq_true_eq]; omega
  refine ⟨m, r, f, hb1, ?_⟩
  have hN := New_eq m r f
  have hR := RNew_eq m r f
  rw [newR_ok _ _ _ _ _ _ hok] at hN hR
  simp only [begP, plC]
  generalize conf zBk m r f = b at hN hR ⊢
  simp only [src, bA, bC, i64s_nil, recs_nil, List.cons_append, List.nil_append] at hq1 hq2 hq3 hN hR ⊢
  refine run_of rfl ?_
  simp -dsimp (disch := first | rfl | omega) only [r20_0, r20_1, r20_2, r20_3, r20_4, r20_5, callW_fn pgPick, callW_fn pgRange, hq1, hq2, hq3, callW_fn pgNew, callW_fn pgRNew, hN, hR, nlS, ↓vmP, vm0, vm1, vm2, vm3, vm4, vm5, vm6, vm7, vm8, vm9, vm10, vm11, vm12, vm13, vm14, vm15, vmC, vmN, Nat.reduceAdd, Nat.reduceMul, Nat.reduceSub, Nat.reduceEqDiff, Nat.reduceLT, Nat.reduceLeDiff, ↓reduceIte, Tg.isFull, Int.reduceToNat]
  try rfl
theorem pgBegin : prog 20 = some c20 := rfl
/-- The law's state, tidied. -/
inductive GS (x : Ply) (l : List Int) (a j : Nat) (s : Go.Vm.St) : Prop
  | N (f2 f3 : Bool) (hop : x.op = []) (h : gc [(3, none), (4, none), (5, none)] s = ⟨gS [(3, .ptr 0 0), (4, .ptr 1 0), (5, .d (.int .i64 j))], gH [(0, src l a), (1, .box (plC x nlS (.row 2) (.row 3))), (2, .row 4 f2 (recs x.tk)), (3, .row 1 f3 (i64s x.gv))], 4, 0, []⟩) : GS x l a j s
  | R (f1 f2 f3 : Bool) (hop : x.op ≠ []) (h : gc [(3, none), (4, none), (5, none)] s = ⟨gS [(3, .ptr 0 0), (4, .ptr 1 0), (5, .d (.int .i64 j))], gH [(0, src l a), (1, .box (plC x (.row 2) (.row 3) (.row 4))), (2, .row 1 f1 (opD x.op)), (3, .row 4 f2 (recs x.tk)), (4, .row 1 f3 (i64s x.gv))], 5, 0, []⟩) : GS x l a j s
theorem plN_eq (x : Ply) (f2 f3 : Bool) (S : Chunk) : PLN x f2 f3 ++ [S] = [.box (plC x nlS (.row 1) (.row 2)), .row 4 f2 (recs x.tk), .row 1 f3 (i64s x.gv), S] := rfl
theorem plR_eq (x : Ply) (f1 f2 f3 : Bool) (S : Chunk) : PLR x f1 f2 f3 ++ [S] = [.box (plC x (.row 1) (.row 2) (.row 3)), .row 1 f1 (opD x.op), .row 4 f2 (recs x.tk), .row 1 f3 (i64s x.gv), S] := rfl
set_option maxRecDepth 20000 in
theorem Pl_loop {Q : Ex → Go.Vm.St → Prop} (l : List Int) (hl : l.length ≤ 9223372036854775807) (hv : ∀ v ∈ l, InI v) (hQ : ∀ T hp nx, Q (.exit 0) ⟨gS T, hp, nx, 0, []⟩) : ∀ (k j a : Nat) (x : Ply) (s : Go.Vm.St), j + k = 40 → a ≤ 4 * j + 3 → Pk j x → GS x l a j s → wpW false prog (.loop [(3, none), (4, none), (5, none)] l4_8) s Q := by
  intro k
  induction k with
  | zero =>
    intro j a x s hj ha hp hg
    obtain rfl : j = 40 := by omega
    have e0 : (((40 : Nat) : Int) < 40) = False := eq_false (by omega)
    refine wp_loop1 ?_
    rcases hg with ⟨f2, f3, hop, hg⟩ | ⟨f1, f2, f3, hop, hg⟩
    · rw [hg]
      generalize hJ : (fun s' => wpW false prog (.loop [(3, none), (4, none), (5, none)] l4_8) s' Q) = J
      unfold l4_8
      simp only [plC, src, bA, bC, List.cons_append, List.nil_append]
      simp -dsimp (disch := first | rfl | omega) only [r4_4, e0, nlS, ↓vmP, vm0, vm1, vm2, vm3, vm4, vm5, vm6, vm7, vm8, vm9, vm10, vm11, vm12, vm13, vm14, vm15, vmC, vmN, Nat.reduceAdd, Nat.reduceMul, Nat.reduceSub, Nat.reduceEqDiff, Nat.reduceLT, Nat.reduceLeDiff, ↓reduceIte, Tg.isFull, Int.reduceToNat]
      exact hQ _ _ _
    · rw [hg]
      generalize hJ : (fun s' => wpW false prog (.loop [(3, none), (4, none), (5, none)] l4_8) s' Q) = J
      unfold l4_8
      simp only [plC, src, bA, bC, List.cons_append, List.nil_append]
      simp -dsimp (disch := first | rfl | omega) only [r4_4, e0, ↓vmP, vm0, vm1, vm2, vm3, vm4, vm5, vm6, vm7, vm8, vm9, vm10, vm11, vm12, vm13, vm14, vm15, vmC, vmN, Nat.reduceAdd, Nat.reduceMul, Nat.reduceSub, Nat.reduceEqDiff, Nat.reduceLT, Nat.reduceLeDiff, ↓reduceIte, Tg.isFull, Int.reduceToNat]
      exact hQ _ _ _
  | succ k ih =>
    intro j a x s hj ha hp hg
    have e0 : ((j : Int) < 40) = True := eq_true (by omega)
    have ej : ((j : Int) + 1) = ((j + 1 : Nat) : Int) := by omega
    refine wp_loop1 ?_
    rcases hg with ⟨f2, f3, hop, hg⟩ | ⟨f1, f2, f3, hop, hg⟩
    · obtain ⟨x', a', R, hst, hpk, haa, hln, hrun⟩ := step_N l hl hv a (by omega) x j (by omega) hp hop f2 f3
      have ihh := fun s => ih (j + 1) a' x' s (by omega) (by omega) hpk
      rw [hg]
      generalize hJ : (fun s' => wpW false prog (.loop [(3, none), (4, none), (5, none)] l4_8) s' Q) = J
      unfold l4_8
      rw [plN_eq] at hrun
      cases hln with
      | skip hop' he =>
        subst he
        rw [plN_eq] at hrun
        simp only [plC, src, bA, bC, List.cons_append, List.nil_append] at hrun ⊢
        simp -dsimp (disch := first | rfl | omega) only [r4_4, r4_5, r4_7, callW_fn pgStep, hrun, e0, ej, Bool.not_true, nlS, ↓vmP, vm0, vm1, vm2, vm3, vm4, vm5, vm6, vm7, vm8, vm9, vm10, vm11, vm12, vm13, vm14, vm15, vmC, vmN, Nat.reduceAdd, Nat.reduceMul, Nat.reduceSub, Nat.reduceEqDiff, Nat.reduceLT, Nat.reduceLeDiff, ↓reduceIte, Tg.isFull, Int.reduceToNat]
        rw [← hJ]
        refine ihh _ (GS.N f2 f3 hop' ?_)
        simp -dsimp (disch := first | rfl | omega) only [plC, src, bA, bC, List.cons_append, List.nil_append, nlS, ↓vmP, vm0, vm1, vm2, vm3, vm4, vm5, vm6, vm7, vm8, vm9, vm10, vm11, vm12, vm13, vm14, vm15, vmC, vmN, Nat.reduceAdd, Nat.reduceMul, Nat.reduceSub, Nat.reduceEqDiff, Nat.reduceLT, Nat.reduceLeDiff, ↓reduceIte, Tg.isFull, Int.reduceToNat]
      | same hop' ht hg' =>
        rw [plN_eq] at hrun
        simp only [plC, src, bA, bC, List.cons_append, List.nil_append] at hrun ⊢
        simp -dsimp (disch := first | rfl | omega) only [r4_4, r4_5, r4_7, callW_fn pgStep, hrun, e0, ej, Bool.not_true, nlS, ↓vmP, vm0, vm1, vm2, vm3, vm4, vm5, vm6, vm7, vm8, vm9, vm10, vm11, vm12, vm13, vm14, vm15, vmC, vmN, Nat.reduceAdd, Nat.reduceMul, Nat.reduceSub, Nat.reduceEqDiff, Nat.reduceLT, Nat.reduceLeDiff, ↓reduceIte, Tg.isFull, Int.reduceToNat]
        rw [← hJ]
        refine ihh _ (GS.N f2 f3 hop' ?_)
        simp -dsimp (disch := first | rfl | omega) only [plC, src, bA, bC, List.cons_append, List.nil_append, ht, hg', ↓vmP, vm0, vm1, vm2, vm3, vm4, vm5, vm6, vm7, vm8, vm9, vm10, vm11, vm12, vm13, vm14, vm15, vmC, vmN, Nat.reduceAdd, Nat.reduceMul, Nat.reduceSub, Nat.reduceEqDiff, Nat.reduceLT, Nat.reduceLeDiff, ↓reduceIte, Tg.isFull, Int.reduceToNat]
      | acc hne ht =>
        simp only [plC, src, bA, bC, List.cons_append, List.nil_append] at hrun ⊢
        simp -dsimp (disch := first | rfl | omega) only [r4_4, r4_5, r4_7, callW_fn pgStep, hrun, e0, ej, Bool.not_true, nlS, ↓vmP, vm0, vm1, vm2, vm3, vm4, vm5, vm6, vm7, vm8, vm9, vm10, vm11, vm12, vm13, vm14, vm15, vmC, vmN, Nat.reduceAdd, Nat.reduceMul, Nat.reduceSub, Nat.reduceEqDiff, Nat.reduceLT, Nat.reduceLeDiff, ↓reduceIte, Tg.isFull, Int.reduceToNat]
        rw [← hJ]
        refine ihh _ (GS.R false f2 false hne ?_)
        simp -dsimp (disch := first | rfl | omega) only [plC, src, bA, bC, List.cons_append, List.nil_append, ht, ↓vmP, vm0, vm1, vm2, vm3, vm4, vm5, vm6, vm7, vm8, vm9, vm10, vm11, vm12, vm13, vm14, vm15, vmC, vmN, Nat.reduceAdd, Nat.reduceMul, Nat.reduceSub, Nat.reduceEqDiff, Nat.reduceLT, Nat.reduceLeDiff, ↓reduceIte, Tg.isFull, Int.reduceToNat]
      | tak hop' hg' =>
        simp only [plC, src, bA, bC, List.cons_append, List.nil_append] at hrun ⊢
        simp -dsimp (disch := first | rfl | omega) only [r4_4, r4_5, r4_7, callW_fn pgStep, hrun, e0, ej, Bool.not_true, nlS, ↓vmP, vm0, vm1, vm2, vm3, vm4, vm5, vm6, vm7, vm8, vm9, vm10, vm11, vm12, vm13, vm14, vm15, vmC, vmN, Nat.reduceAdd, Nat.reduceMul, Nat.reduceSub, Nat.reduceEqDiff, Nat.reduceLT, Nat.reduceLeDiff, ↓reduceIte, Tg.isFull, Int.reduceToNat]
        rw [← hJ]
        refine ihh _ (GS.N false f3 hop' ?_)
        simp -dsimp (disch := first | rfl | omega) only [plC, src, bA, bC, List.cons_append, List.nil_append, hg', ↓vmP, vm0, vm1, vm2, vm3, vm4, vm5, vm6, vm7, vm8, vm9, vm10, vm11, vm12, vm13, vm14, vm15, vmC, vmN, Nat.reduceAdd, Nat.reduceMul, Nat.reduceSub, Nat.reduceEqDiff, Nat.reduceLT, Nat.reduceLeDiff, ↓reduceIte, Tg.isFull, Int.reduceToNat]
    · obtain ⟨x', a', R, hst, hpk, haa, hln, hrun⟩ := step_R l hl hv a (by omega) x j (by omega) hp hop f1 f2 f3
      have ihh := fun s => ih (j + 1) a' x' s (by omega) (by omega) hpk
      rw [hg]
      generalize hJ : (fun s' => wpW false prog (.loop [(3, none), (4, none), (5, none)] l4_8) s' Q) = J
      unfold l4_8
      rw [plR_eq] at hrun
      cases hln with
      | same ho ht hg' =>
        rw [plR_eq] at hrun
        have hne : x'.op ≠ [] := by rw [ho]; exact hop
        simp only [plC, src, bA, bC, List.cons_append, List.nil_append] at hrun ⊢
        simp -dsimp (disch := first | rfl | omega) only [r4_4, r4_5, r4_7, callW_fn pgStep, hrun, e0, ej, Bool.not_true, nlS, ↓vmP, vm0, vm1, vm2, vm3, vm4, vm5, vm6, vm7, vm8, vm9, vm10, vm11, vm12, vm13, vm14, vm15, vmC, vmN, Nat.reduceAdd, Nat.reduceMul, Nat.reduceSub, Nat.reduceEqDiff, Nat.reduceLT, Nat.reduceLeDiff, ↓reduceIte, Tg.isFull, Int.reduceToNat]
        rw [← hJ]
        refine ihh _ (GS.R f1 f2 f3 hne ?_)
        simp -dsimp (disch := first | rfl | omega) only [plC, src, bA, bC, List.cons_append, List.nil_append, ho, ht, hg', ↓vmP, vm0, vm1, vm2, vm3, vm4, vm5, vm6, vm7, vm8, vm9, vm10, vm11, vm12, vm13, vm14, vm15, vmC, vmN, Nat.reduceAdd, Nat.reduceMul, Nat.reduceSub, Nat.reduceEqDiff, Nat.reduceLT, Nat.reduceLeDiff, ↓reduceIte, Tg.isFull, Int.reduceToNat]
      | more hne ht hg' =>
        rw [plR_eq] at hrun
        simp only [plC, src, bA, bC, List.cons_append, List.nil_append] at hrun ⊢
        simp -dsimp (disch := first | rfl | omega) only [r4_4, r4_5, r4_7, callW_fn pgStep, hrun, e0, ej, Bool.not_true, nlS, ↓vmP, vm0, vm1, vm2, vm3, vm4, vm5, vm6, vm7, vm8, vm9, vm10, vm11, vm12, vm13, vm14, vm15, vmC, vmN, Nat.reduceAdd, Nat.reduceMul, Nat.reduceSub, Nat.reduceEqDiff, Nat.reduceLT, Nat.reduceLeDiff, ↓reduceIte, Tg.isFull, Int.reduceToNat]
        rw [← hJ]
        refine ihh _ (GS.R f1 f2 f3 hne ?_)
        simp -dsimp (disch := first | rfl | omega) only [plC, src, bA, bC, List.cons_append, List.nil_append, ht, hg', ↓vmP, vm0, vm1, vm2, vm3, vm4, vm5, vm6, vm7, vm8, vm9, vm10, vm11, vm12, vm13, vm14, vm15, vmC, vmN, Nat.reduceAdd, Nat.reduceMul, Nat.reduceSub, Nat.reduceEqDiff, Nat.reduceLT, Nat.reduceLeDiff, ↓reduceIte, Tg.isFull, Int.reduceToNat]
      | acc hne ht =>
        simp only [plC, src, bA, bC, List.cons_append, List.nil_append] at hrun ⊢
        simp -dsimp (disch := first | rfl | omega) only [r4_4, r4_5, r4_7, callW_fn pgStep, hrun, e0, ej, Bool.not_true, nlS, ↓vmP, vm0, vm1, vm2, vm3, vm4, vm5, vm6, vm7, vm8, vm9, vm10, vm11, vm12, vm13, vm14, vm15, vmC, vmN, Nat.reduceAdd, Nat.reduceMul, Nat.reduceSub, Nat.reduceEqDiff, Nat.reduceLT, Nat.reduceLeDiff, ↓reduceIte, Tg.isFull, Int.reduceToNat]
        rw [← hJ]
        refine ihh _ (GS.R false f2 false hne ?_)
        simp -dsimp (disch := first | rfl | omega) only [plC, src, bA, bC, List.cons_append, List.nil_append, ht, ↓vmP, vm0, vm1, vm2, vm3, vm4, vm5, vm6, vm7, vm8, vm9, vm10, vm11, vm12, vm13, vm14, vm15, vmC, vmN, Nat.reduceAdd, Nat.reduceMul, Nat.reduceSub, Nat.reduceEqDiff, Nat.reduceLT, Nat.reduceLeDiff, ↓reduceIte, Tg.isFull, Int.reduceToNat]
      | one J' hop' ht hg' =>
        simp only [plC, src, bA, bC, List.cons_append, List.nil_append] at hrun ⊢
        simp -dsimp (disch := first | rfl | omega) only [r4_4, r4_5, r4_7, callW_fn pgStep, hrun, e0, ej, Bool.not_true, nlS, ↓vmP, vm0, vm1, vm2, vm3, vm4, vm5, vm6, vm7, vm8, vm9, vm10, vm11, vm12, vm13, vm14, vm15, vmC, vmN, Nat.reduceAdd, Nat.reduceMul, Nat.reduceSub, Nat.reduceEqDiff, Nat.reduceLT, Nat.reduceLeDiff, ↓reduceIte, Tg.isFull, Int.reduceToNat]
        rw [← hJ]
        refine ihh _ (GS.N f2 f3 hop' ?_)
        simp -dsimp (disch := first | rfl | omega) only [plC, src, bA, bC, List.cons_append, List.nil_append, ht, hg', ↓vmP, vm0, vm1, vm2, vm3, vm4, vm5, vm6, vm7, vm8, vm9, vm10, vm11, vm12, vm13, vm14, vm15, vmC, vmN, Nat.reduceAdd, Nat.reduceMul, Nat.reduceSub, Nat.reduceEqDiff, Nat.reduceLT, Nat.reduceLeDiff, ↓reduceIte, Tg.isFull, Int.reduceToNat]
      | part J' hne ht hg' =>
        simp only [plC, src, bA, bC, List.cons_append, List.nil_append] at hrun ⊢
        simp -dsimp (disch := first | rfl | omega) only [r4_4, r4_5, r4_7, callW_fn pgStep, hrun, e0, ej, Bool.not_true, nlS, ↓vmP, vm0, vm1, vm2, vm3, vm4, vm5, vm6, vm7, vm8, vm9, vm10, vm11, vm12, vm13, vm14, vm15, vmC, vmN, Nat.reduceAdd, Nat.reduceMul, Nat.reduceSub, Nat.reduceEqDiff, Nat.reduceLT, Nat.reduceLeDiff, ↓reduceIte, Tg.isFull, Int.reduceToNat]
        rw [← hJ]
        refine ihh _ (GS.R false f2 f3 hne ?_)
        simp -dsimp (disch := first | rfl | omega) only [plC, src, bA, bC, List.cons_append, List.nil_append, ht, hg', ↓vmP, vm0, vm1, vm2, vm3, vm4, vm5, vm6, vm7, vm8, vm9, vm10, vm11, vm12, vm13, vm14, vm15, vmC, vmN, Nat.reduceAdd, Nat.reduceMul, Nat.reduceSub, Nat.reduceEqDiff, Nat.reduceLT, Nat.reduceLeDiff, ↓reduceIte, Tg.isFull, Int.reduceToNat]
      | tak ho hg' =>
        have hne : x'.op ≠ [] := by rw [ho]; exact hop
        simp only [plC, src, bA, bC, List.cons_append, List.nil_append] at hrun ⊢
        simp -dsimp (disch := first | rfl | omega) only [r4_4, r4_5, r4_7, callW_fn pgStep, hrun, e0, ej, Bool.not_true, nlS, ↓vmP, vm0, vm1, vm2, vm3, vm4, vm5, vm6, vm7, vm8, vm9, vm10, vm11, vm12, vm13, vm14, vm15, vmC, vmN, Nat.reduceAdd, Nat.reduceMul, Nat.reduceSub, Nat.reduceEqDiff, Nat.reduceLT, Nat.reduceLeDiff, ↓reduceIte, Tg.isFull, Int.reduceToNat]
        rw [← hJ]
        refine ihh _ (GS.R f1 false f3 hne ?_)
        simp -dsimp (disch := first | rfl | omega) only [plC, src, bA, bC, List.cons_append, List.nil_append, ho, hg', ↓vmP, vm0, vm1, vm2, vm3, vm4, vm5, vm6, vm7, vm8, vm9, vm10, vm11, vm12, vm13, vm14, vm15, vmC, vmN, Nat.reduceAdd, Nat.reduceMul, Nat.reduceSub, Nat.reduceEqDiff, Nat.reduceLT, Nat.reduceLeDiff, ↓reduceIte, Tg.isFull, Int.reduceToNat]
set_option maxRecDepth 20000 in
theorem law_plays (l : List Int) (hl : l.length ≤ 9223372036854775807) (hv : ∀ v ∈ l, InI v) : runW false prog 4 [.d (.sl .any 1 (i64s l))] [] = some (.d (.bool true), [], []) := by
  refine run_of rfl ?_
  have a0 := SNew_eq l
  obtain ⟨m, r, f, hm, hb⟩ := beg_ex l hl hv
  have hlp := fun Q hQ s hg => Pl_loop (Q := Q) l hl hv hQ 40 0 3 (begP m r f) s (by omega) (by omega) (pk_beg m r f) hg
  have hop : (begP m r f).op = [] := rfl
  have e0 : ((0 : Nat) : Int) = 0 := rfl
  have ht0 : recs (begP m r f).tk = recs [] := rfl
  have hg0 : i64s (begP m r f).gv = i64s [] := rfl
  generalize begP m r f = x at hb hlp hop ht0 hg0
  simp only [src, plC, bA, bC, List.cons_append, List.nil_append, nlS] at a0 hb
  simp -dsimp (disch := first | rfl | omega) only [r4_0, r4_1, r4_2, r4_3, callW_fn pgSNew, callW_fn pgBegin, a0, hb, ↓vmP, vm0, vm1, vm2, vm3, vm4, vm5, vm6, vm7, vm8, vm9, vm10, vm11, vm12, vm13, vm14, vm15, vmC, vmN, Nat.reduceAdd, Nat.reduceMul, Nat.reduceSub, Nat.reduceEqDiff, Nat.reduceLT, Nat.reduceLeDiff, ↓reduceIte, Tg.isFull, Int.reduceToNat]
  refine hlp _ (fun T hp nx => ?_) _ (GS.N true true hop ?_)
  · simp -dsimp (disch := first | rfl | omega) only [r4_9, callW_fn pgAwake, awake_eq, ↓vmP, vm0, vm1, vm2, vm3, vm4, vm5, vm6, vm7, vm8, vm9, vm10, vm11, vm12, vm13, vm14, vm15, vmC, vmN, Nat.reduceAdd, Nat.reduceMul, Nat.reduceSub, Nat.reduceEqDiff, Nat.reduceLT, Nat.reduceLeDiff, ↓reduceIte, Tg.isFull, Int.reduceToNat]
  · simp -dsimp (disch := first | rfl | omega) only [plC, src, bA, bC, List.cons_append, List.nil_append, nlS, ht0, hg0, ↓vmP, vm0, vm1, vm2, vm3, vm4, vm5, vm6, vm7, vm8, vm9, vm10, vm11, vm12, vm13, vm14, vm15, vmC, vmN, Nat.reduceAdd, Nat.reduceMul, Nat.reduceSub, Nat.reduceEqDiff, Nat.reduceLT, Nat.reduceLeDiff, ↓reduceIte, Tg.isFull, Int.reduceToNat]
    try rfl
end Go.Vm.Bk
