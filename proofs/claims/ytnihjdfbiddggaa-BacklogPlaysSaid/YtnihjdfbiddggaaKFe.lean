/- A part of the proof of BacklogPlaysSaid: YtnihjdfbiddggaaFe. -/
import Derived.Test.YtnihjdfbiddggaaKFd
/- Backlogs: the reference's copy. -/
set_option linter.unusedVariables false
set_option linter.unusedSimpArgs false
set_option maxHeartbeats 1000000
namespace Go.Vm.Bk
def zB : List A := [.d (.int .i64 0), .d (.int .i64 0), .d (.int .i64 0), .d (.int .i64 0), .d (.int .i64 0), .d (.sl .nil 0 []), .d (.sl .nil 0 []), .d (.int .i64 0), .d (.int .i64 0), .d (.int .i64 0), .d (.int .i64 0), .d (.int .i64 0), .d (.int .i64 0), .d (.int .i64 0), .d (.int .i64 0), .d (.bool false), .d (.sl .nil 0 [])]
theorem recs_cut (l : List Rec) {j : Nat} (h : j < l.length) : ((recs l).drop j).take 1 = recs [l.getD j dRec] := by
  have : (recs l).drop j = recC (l.getD j dRec) :: (recs l).drop (j + 1) := by
    rw [List.drop_eq_getElem_cons (by rw [recs_len]; exact h)]
    congr 1
    have := recs_at l h
    rw [List.getElem?_eq_getElem (by rw [recs_len]; exact h)] at this
    exact Option.some.inj this
  rw [this]; rfl
theorem j1j (j : Nat) : j + 1 - j = 1 := by omega
set_option maxRecDepth 20000 in
theorem CP_loop00 {Q : Ex → St → Prop} (b : Bk) (z2 : Nat) (hz : b.queue ≠ [] → z2 = 4) (hs : Sm b) : ∀ (k j : Nat) (f : Bool) (s : St), j + k = b.queue.length → (f = (b.queue.take j).isEmpty) →
    gc [(1, none), (2, none), (3, some 4), (4, none)] s = ⟨gS [(1, .ptr 0 0), (2, .ptr 3 0), (3, .row 4), (4, .d (.int .i64 j))], gH [(0, .box (bC b (.row 1) (.d (.sl .any z2 (recs b.queue))) (.row 2))), (1, .row 1 false (i64s b.op)), (2, .row 2 false (notes b.nts)), (3, .box zB), (4, .row 4 f (recs (b.queue.take j)))], 5, 0, []⟩ →
    (∀ f T, f = b.queue.isEmpty → Q (.exit 0) ⟨gS ((1, .ptr 0 0) :: (2, .ptr 3 0) :: (3, .row 4) :: T), gH [(0, .box (bC b (.row 1) (.d (.sl .any z2 (recs b.queue))) (.row 2))), (1, .row 1 false (i64s b.op)), (2, .row 2 false (notes b.nts)), (3, .box zB), (4, .row 4 f (recs b.queue))], 45, 0, []⟩) → wpW false prog (.loop [(1, none), (2, none), (3, some 4), (4, none)] l35_8) s Q := by
  intro k
  induction k with
  | zero =>
    intro j f s hj hf hg hQ
    refine wp_loop1 ?_
    rw [hg]
    generalize hJ : (fun s' => wpW false prog (.loop [(1, none), (2, none), (3, some 4), (4, none)] l35_8) s' Q) = J
    unfold l35_8
    have hrl := recs_len b.queue
    have e0 : ((j : Int) < b.queue.length) = False := eq_false (by omega)
    rw [List.take_of_length_le (by omega)] at hf ⊢
    simp -dsimp (disch := first | rfl | omega) only [bC, r35_5, hrl, e0, ↓vmP, vm0, vm1, vm2, vm3, vm4, vm5, vm6, vm7, vm8, vm9, vm10, vm11, vm12, vm13, vm14, vm15, vmC, vmN, Nat.reduceAdd, Nat.reduceMul, Nat.reduceSub, Nat.reduceEqDiff, Nat.reduceLT, Nat.reduceLeDiff, ↓reduceIte, Tg.isFull, Int.reduceToNat]
    exact hQ f _ hf
  | succ k ih =>
    intro j f s hj hf hg hQ
    refine wp_loop1 ?_
    rw [hg]
    generalize hJ : (fun s' => wpW false prog (.loop [(1, none), (2, none), (3, some 4), (4, none)] l35_8) s' Q) = J
    unfold l35_8
    have hrl := recs_len b.queue
    have hl := hs.lq
    have e0 : ((j : Int) < b.queue.length) = True := eq_true (by omega)
    have ej : ((j : Int) + 1) = ((j + 1 : Nat) : Int) := by omega
    have hne : b.queue ≠ [] := fun h => by rw [h] at hj; simp at hj
    have hz' := hz hne
    subst hz'
    have hat := recs_at b.queue (show j < b.queue.length by omega)
    have hcut := recs_cut b.queue (show j < b.queue.length by omega)
    have hmem : b.queue.getD j dRec ∈ b.queue := by
      rw [List.getD_eq_getElem?_getD, List.getElem?_eq_getElem (by omega)]; exact List.getElem_mem _
    have htk : b.queue.take (j + 1) = b.queue.take j ++ [b.queue.getD j dRec] := by
      rw [List.take_add_one, List.getD_eq_getElem?_getD, List.getElem?_eq_getElem (by omega)]; rfl
    have hr := hs.lp _ hmem
    have hf2 : false = (b.queue.take (j + 1)).isEmpty := by rw [htk]; simp
    generalize b.queue.getD j dRec = r at hat hcut htk hr
    have h1 : recs (b.queue.take j) ++ recs [r] = recs (b.queue.take (j + 1)) := by rw [htk, recs_app]
    have hS := RStamp_eq [r] (by simp) (fun x hx => by simp at hx; subst hx; omega) 4 rfl r.serial
    rw [List.map_cons, List.map_nil, stp_self] at hS
    have hlen0 : (recs (b.queue.take j)).length = j := by rw [recs_len, List.length_take]; omega
    have hlen1 : (recs [r]).length = 1 := rfl
    have hie : (recs [r]).isEmpty = false := rfl
    generalize recs (b.queue.take j) = Y at h1 hlen0
    simp only [recC] at hat
    generalize recs [r] = X at hcut hS h1 hlen1 hie
    simp -dsimp (disch := first | rfl | omega) only [bC, r35_5, r35_6, r35_7, callW_fn pgStamp, hS, hat, hrl, e0, ej, j1j, hcut, h1, hie, ↓vmP, vm0, vm1, vm2, vm3, vm4, vm5, vm6, vm7, vm8, vm9, vm10, vm11, vm12, vm13, vm14, vm15, vmC, vmN, Nat.reduceAdd, Nat.reduceMul, Nat.reduceSub, Nat.reduceEqDiff, Nat.reduceLT, Nat.reduceLeDiff, ↓reduceIte, Tg.isFull, Int.reduceToNat]
    refine regD_of (by kernel_rfl) ?_
    simp -dsimp (disch := first | rfl | omega) only [bC, r35_7, ej, h1, ↓vmP, vm0, vm1, vm2, vm3, vm4, vm5, vm6, vm7, vm8, vm9, vm10, vm11, vm12, vm13, vm14, vm15, vmC, vmN, Nat.reduceAdd, Nat.reduceMul, Nat.reduceSub, Nat.reduceEqDiff, Nat.reduceLT, Nat.reduceLeDiff, ↓reduceIte, Tg.isFull, Int.reduceToNat]
    rw [← hJ]
    exact ih (j + 1) false _ (by omega) hf2 (by simp -dsimp (disch := first | rfl | omega) only [bC, zB, ↓vmP, vm0, vm1, vm2, vm3, vm4, vm5, vm6, vm7, vm8, vm9, vm10, vm11, vm12, vm13, vm14, vm15, vmC, vmN, Nat.reduceAdd, Nat.reduceMul, Nat.reduceSub, Nat.reduceEqDiff, Nat.reduceLT, Nat.reduceLeDiff, ↓reduceIte, Tg.isFull, Int.reduceToNat]) hQ
set_option maxRecDepth 20000 in
theorem CP_loop01 {Q : Ex → St → Prop} (b : Bk) (z2 : Nat) (hz : b.queue ≠ [] → z2 = 4) (hs : Sm b) : ∀ (k j : Nat) (f : Bool) (s : St), j + k = b.queue.length → (f = (b.queue.take j).isEmpty) →
    gc [(1, none), (2, none), (3, some 4), (4, none)] s = ⟨gS [(1, .ptr 0 0), (2, .ptr 2 0), (3, .row 3), (4, .d (.int .i64 j))], gH [(0, .box (bC b (.row 1) (.d (.sl .any z2 (recs b.queue))) (.d (.sl .nil 0 [])))), (1, .row 1 false (i64s b.op)), (2, .box zB), (3, .row 4 f (recs (b.queue.take j)))], 4, 0, []⟩ →
    (∀ f T, f = b.queue.isEmpty → Q (.exit 0) ⟨gS ((1, .ptr 0 0) :: (2, .ptr 2 0) :: (3, .row 3) :: T), gH [(0, .box (bC b (.row 1) (.d (.sl .any z2 (recs b.queue))) (.d (.sl .nil 0 [])))), (1, .row 1 false (i64s b.op)), (2, .box zB), (3, .row 4 f (recs b.queue))], 44, 0, []⟩) → wpW false prog (.loop [(1, none), (2, none), (3, some 4), (4, none)] l35_8) s Q := by
  intro k
  induction k with
  | zero =>
    intro j f s hj hf hg hQ
    refine wp_loop1 ?_
    rw [hg]
    generalize hJ : (fun s' => wpW false prog (.loop [(1, none), (2, none), (3, some 4), (4, none)] l35_8) s' Q) = J
    unfold l35_8
    have hrl := recs_len b.queue
    have e0 : ((j : Int) < b.queue.length) = False := eq_false (by omega)
    rw [List.take_of_length_le (by omega)] at hf ⊢
    simp -dsimp (disch := first | rfl | omega) only [bC, r35_5, hrl, e0, ↓vmP, vm0, vm1, vm2, vm3, vm4, vm5, vm6, vm7, vm8, vm9, vm10, vm11, vm12, vm13, vm14, vm15, vmC, vmN, Nat.reduceAdd, Nat.reduceMul, Nat.reduceSub, Nat.reduceEqDiff, Nat.reduceLT, Nat.reduceLeDiff, ↓reduceIte, Tg.isFull, Int.reduceToNat]
    exact hQ f _ hf
  | succ k ih =>
    intro j f s hj hf hg hQ
    refine wp_loop1 ?_
    rw [hg]
    generalize hJ : (fun s' => wpW false prog (.loop [(1, none), (2, none), (3, some 4), (4, none)] l35_8) s' Q) = J
    unfold l35_8
    have hrl := recs_len b.queue
    have hl := hs.lq
    have e0 : ((j : Int) < b.queue.length) = True := eq_true (by omega)
    have ej : ((j : Int) + 1) = ((j + 1 : Nat) : Int) := by omega
    have hne : b.queue ≠ [] := fun h => by rw [h] at hj; simp at hj
    have hz' := hz hne
    subst hz'
    have hat := recs_at b.queue (show j < b.queue.length by omega)
    have hcut := recs_cut b.queue (show j < b.queue.length by omega)
    have hmem : b.queue.getD j dRec ∈ b.queue := by
      rw [List.getD_eq_getElem?_getD, List.getElem?_eq_getElem (by omega)]; exact List.getElem_mem _
    have htk : b.queue.take (j + 1) = b.queue.take j ++ [b.queue.getD j dRec] := by
      rw [List.take_add_one, List.getD_eq_getElem?_getD, List.getElem?_eq_getElem (by omega)]; rfl
    have hr := hs.lp _ hmem
    have hf2 : false = (b.queue.take (j + 1)).isEmpty := by rw [htk]; simp
    generalize b.queue.getD j dRec = r at hat hcut htk hr
    have h1 : recs (b.queue.take j) ++ recs [r] = recs (b.queue.take (j + 1)) := by rw [htk, recs_app]
    have hS := RStamp_eq [r] (by simp) (fun x hx => by simp at hx; subst hx; omega) 4 rfl r.serial
    rw [List.map_cons, List.map_nil, stp_self] at hS
    have hlen0 : (recs (b.queue.take j)).length = j := by rw [recs_len, List.length_take]; omega
    have hlen1 : (recs [r]).length = 1 := rfl
    have hie : (recs [r]).isEmpty = false := rfl
    generalize recs (b.queue.take j) = Y at h1 hlen0
    simp only [recC] at hat
    generalize recs [r] = X at hcut hS h1 hlen1 hie
    simp -dsimp (disch := first | rfl | omega) only [bC, r35_5, r35_6, r35_7, callW_fn pgStamp, hS, hat, hrl, e0, ej, j1j, hcut, h1, hie, ↓vmP, vm0, vm1, vm2, vm3, vm4, vm5, vm6, vm7, vm8, vm9, vm10, vm11, vm12, vm13, vm14, vm15, vmC, vmN, Nat.reduceAdd, Nat.reduceMul, Nat.reduceSub, Nat.reduceEqDiff, Nat.reduceLT, Nat.reduceLeDiff, ↓reduceIte, Tg.isFull, Int.reduceToNat]
    refine regD_of (by kernel_rfl) ?_
    simp -dsimp (disch := first | rfl | omega) only [bC, r35_7, ej, h1, ↓vmP, vm0, vm1, vm2, vm3, vm4, vm5, vm6, vm7, vm8, vm9, vm10, vm11, vm12, vm13, vm14, vm15, vmC, vmN, Nat.reduceAdd, Nat.reduceMul, Nat.reduceSub, Nat.reduceEqDiff, Nat.reduceLT, Nat.reduceLeDiff, ↓reduceIte, Tg.isFull, Int.reduceToNat]
    rw [← hJ]
    exact ih (j + 1) false _ (by omega) hf2 (by simp -dsimp (disch := first | rfl | omega) only [bC, zB, ↓vmP, vm0, vm1, vm2, vm3, vm4, vm5, vm6, vm7, vm8, vm9, vm10, vm11, vm12, vm13, vm14, vm15, vmC, vmN, Nat.reduceAdd, Nat.reduceMul, Nat.reduceSub, Nat.reduceEqDiff, Nat.reduceLT, Nat.reduceLeDiff, ↓reduceIte, Tg.isFull, Int.reduceToNat]) hQ
set_option maxRecDepth 20000 in
theorem CP_loop10 {Q : Ex → St → Prop} (b : Bk) (z2 : Nat) (hz : b.queue ≠ [] → z2 = 4) (hs : Sm b) : ∀ (k j : Nat) (f : Bool) (s : St), j + k = b.queue.length → (f = (b.queue.take j).isEmpty) →
    gc [(1, none), (2, none), (3, some 4), (4, none)] s = ⟨gS [(1, .ptr 0 0), (2, .ptr 2 0), (3, .row 3), (4, .d (.int .i64 j))], gH [(0, .box (bC b (.d (.sl .nil 0 [])) (.d (.sl .any z2 (recs b.queue))) (.row 1))), (1, .row 2 false (notes b.nts)), (2, .box zB), (3, .row 4 f (recs (b.queue.take j)))], 4, 0, []⟩ →
    (∀ f T, f = b.queue.isEmpty → Q (.exit 0) ⟨gS ((1, .ptr 0 0) :: (2, .ptr 2 0) :: (3, .row 3) :: T), gH [(0, .box (bC b (.d (.sl .nil 0 [])) (.d (.sl .any z2 (recs b.queue))) (.row 1))), (1, .row 2 false (notes b.nts)), (2, .box zB), (3, .row 4 f (recs b.queue))], 44, 0, []⟩) → wpW false prog (.loop [(1, none), (2, none), (3, some 4), (4, none)] l35_8) s Q := by
  intro k
  induction k with
  | zero =>
    intro j f s hj hf hg hQ
    refine wp_loop1 ?_
    rw [hg]
    generalize hJ : (fun s' => wpW false prog (.loop [(1, none), (2, none), (3, some 4), (4, none)] l35_8) s' Q) = J
    unfold l35_8
    have hrl := recs_len b.queue
    have e0 : ((j : Int) < b.queue.length) = False := eq_false (by omega)
    rw [List.take_of_length_le (by omega)] at hf ⊢
    simp -dsimp (disch := first | rfl | omega) only [bC, r35_5, hrl, e0, ↓vmP, vm0, vm1, vm2, vm3, vm4, vm5, vm6, vm7, vm8, vm9, vm10, vm11, vm12, vm13, vm14, vm15, vmC, vmN, Nat.reduceAdd, Nat.reduceMul, Nat.reduceSub, Nat.reduceEqDiff, Nat.reduceLT, Nat.reduceLeDiff, ↓reduceIte, Tg.isFull, Int.reduceToNat]
    exact hQ f _ hf
  | succ k ih =>
    intro j f s hj hf hg hQ
    refine wp_loop1 ?_
    rw [hg]
    generalize hJ : (fun s' => wpW false prog (.loop [(1, none), (2, none), (3, some 4), (4, none)] l35_8) s' Q) = J
    unfold l35_8
    have hrl := recs_len b.queue
    have hl := hs.lq
    have e0 : ((j : Int) < b.queue.length) = True := eq_true (by omega)
    have ej : ((j : Int) + 1) = ((j + 1 : Nat) : Int) := by omega
    have hne : b.queue ≠ [] := fun h => by rw [h] at hj; simp at hj
    have hz' := hz hne
    subst hz'
    have hat := recs_at b.queue (show j < b.queue.length by omega)
    have hcut := recs_cut b.queue (show j < b.queue.length by omega)
    have hmem : b.queue.getD j dRec ∈ b.queue := by
      rw [List.getD_eq_getElem?_getD, List.getElem?_eq_getElem (by omega)]; exact List.getElem_mem _
    have htk : b.queue.take (j + 1) = b.queue.take j ++ [b.queue.getD j dRec] := by
      rw [List.take_add_one, List.getD_eq_getElem?_getD, List.getElem?_eq_getElem (by omega)]; rfl
    have hr := hs.lp _ hmem
    have hf2 : false = (b.queue.take (j + 1)).isEmpty := by rw [htk]; simp
    generalize b.queue.getD j dRec = r at hat hcut htk hr
    have h1 : recs (b.queue.take j) ++ recs [r] = recs (b.queue.take (j + 1)) := by rw [htk, recs_app]
    have hS := RStamp_eq [r] (by simp) (fun x hx => by simp at hx; subst hx; omega) 4 rfl r.serial
    rw [List.map_cons, List.map_nil, stp_self] at hS
    have hlen0 : (recs (b.queue.take j)).length = j := by rw [recs_len, List.length_take]; omega
    have hlen1 : (recs [r]).length = 1 := rfl
    have hie : (recs [r]).isEmpty = false := rfl
    generalize recs (b.queue.take j) = Y at h1 hlen0
    simp only [recC] at hat
    generalize recs [r] = X at hcut hS h1 hlen1 hie
    simp -dsimp (disch := first | rfl | omega) only [bC, r35_5, r35_6, r35_7, callW_fn pgStamp, hS, hat, hrl, e0, ej, j1j, hcut, h1, hie, ↓vmP, vm0, vm1, vm2, vm3, vm4, vm5, vm6, vm7, vm8, vm9, vm10, vm11, vm12, vm13, vm14, vm15, vmC, vmN, Nat.reduceAdd, Nat.reduceMul, Nat.reduceSub, Nat.reduceEqDiff, Nat.reduceLT, Nat.reduceLeDiff, ↓reduceIte, Tg.isFull, Int.reduceToNat]
    refine regD_of (by kernel_rfl) ?_
    simp -dsimp (disch := first | rfl | omega) only [bC, r35_7, ej, h1, ↓vmP, vm0, vm1, vm2, vm3, vm4, vm5, vm6, vm7, vm8, vm9, vm10, vm11, vm12, vm13, vm14, vm15, vmC, vmN, Nat.reduceAdd, Nat.reduceMul, Nat.reduceSub, Nat.reduceEqDiff, Nat.reduceLT, Nat.reduceLeDiff, ↓reduceIte, Tg.isFull, Int.reduceToNat]
    rw [← hJ]
    exact ih (j + 1) false _ (by omega) hf2 (by simp -dsimp (disch := first | rfl | omega) only [bC, zB, ↓vmP, vm0, vm1, vm2, vm3, vm4, vm5, vm6, vm7, vm8, vm9, vm10, vm11, vm12, vm13, vm14, vm15, vmC, vmN, Nat.reduceAdd, Nat.reduceMul, Nat.reduceSub, Nat.reduceEqDiff, Nat.reduceLT, Nat.reduceLeDiff, ↓reduceIte, Tg.isFull, Int.reduceToNat]) hQ
set_option maxRecDepth 20000 in
theorem CP_loop11 {Q : Ex → St → Prop} (b : Bk) (z2 : Nat) (hz : b.queue ≠ [] → z2 = 4) (hs : Sm b) : ∀ (k j : Nat) (f : Bool) (s : St), j + k = b.queue.length → (f = (b.queue.take j).isEmpty) →
    gc [(1, none), (2, none), (3, some 4), (4, none)] s = ⟨gS [(1, .ptr 0 0), (2, .ptr 1 0), (3, .row 2), (4, .d (.int .i64 j))], gH [(0, .box (bC b (.d (.sl .nil 0 [])) (.d (.sl .any z2 (recs b.queue))) (.d (.sl .nil 0 [])))), (1, .box zB), (2, .row 4 f (recs (b.queue.take j)))], 3, 0, []⟩ →
    (∀ f T, f = b.queue.isEmpty → Q (.exit 0) ⟨gS ((1, .ptr 0 0) :: (2, .ptr 1 0) :: (3, .row 2) :: T), gH [(0, .box (bC b (.d (.sl .nil 0 [])) (.d (.sl .any z2 (recs b.queue))) (.d (.sl .nil 0 [])))), (1, .box zB), (2, .row 4 f (recs b.queue))], 43, 0, []⟩) → wpW false prog (.loop [(1, none), (2, none), (3, some 4), (4, none)] l35_8) s Q := by
  intro k
  induction k with
  | zero =>
    intro j f s hj hf hg hQ
    refine wp_loop1 ?_
    rw [hg]
    generalize hJ : (fun s' => wpW false prog (.loop [(1, none), (2, none), (3, some 4), (4, none)] l35_8) s' Q) = J
    unfold l35_8
    have hrl := recs_len b.queue
    have e0 : ((j : Int) < b.queue.length) = False := eq_false (by omega)
    rw [List.take_of_length_le (by omega)] at hf ⊢
    simp -dsimp (disch := first | rfl | omega) only [bC, r35_5, hrl, e0, ↓vmP, vm0, vm1, vm2, vm3, vm4, vm5, vm6, vm7, vm8, vm9, vm10, vm11, vm12, vm13, vm14, vm15, vmC, vmN, Nat.reduceAdd, Nat.reduceMul, Nat.reduceSub, Nat.reduceEqDiff, Nat.reduceLT, Nat.reduceLeDiff, ↓reduceIte, Tg.isFull, Int.reduceToNat]
    exact hQ f _ hf
  | succ k ih =>
    intro j f s hj hf hg hQ
    refine wp_loop1 ?_
    rw [hg]
    generalize hJ : (fun s' => wpW false prog (.loop [(1, none), (2, none), (3, some 4), (4, none)] l35_8) s' Q) = J
    unfold l35_8
    have hrl := recs_len b.queue
    have hl := hs.lq
    have e0 : ((j : Int) < b.queue.length) = True := eq_true (by omega)
    have ej : ((j : Int) + 1) = ((j + 1 : Nat) : Int) := by omega
    have hne : b.queue ≠ [] := fun h => by rw [h] at hj; simp at hj
    have hz' := hz hne
    subst hz'
    have hat := recs_at b.queue (show j < b.queue.length by omega)
    have hcut := recs_cut b.queue (show j < b.queue.length by omega)
    have hmem : b.queue.getD j dRec ∈ b.queue := by
      rw [List.getD_eq_getElem?_getD, List.getElem?_eq_getElem (by omega)]; exact List.getElem_mem _
    have htk : b.queue.take (j + 1) = b.queue.take j ++ [b.queue.getD j dRec] := by
      rw [List.take_add_one, List.getD_eq_getElem?_getD, List.getElem?_eq_getElem (by omega)]; rfl
    have hr := hs.lp _ hmem
    have hf2 : false = (b.queue.take (j + 1)).isEmpty := by rw [htk]; simp
    generalize b.queue.getD j dRec = r at hat hcut htk hr
    have h1 : recs (b.queue.take j) ++ recs [r] = recs (b.queue.take (j + 1)) := by rw [htk, recs_app]
    have hS := RStamp_eq [r] (by simp) (fun x hx => by simp at hx; subst hx; omega) 4 rfl r.serial
    rw [List.map_cons, List.map_nil, stp_self] at hS
    have hlen0 : (recs (b.queue.take j)).length = j := by rw [recs_len, List.length_take]; omega
    have hlen1 : (recs [r]).length = 1 := rfl
    have hie : (recs [r]).isEmpty = false := rfl
    generalize recs (b.queue.take j) = Y at h1 hlen0
    simp only [recC] at hat
    generalize recs [r] = X at hcut hS h1 hlen1 hie
    simp -dsimp (disch := first | rfl | omega) only [bC, r35_5, r35_6, r35_7, callW_fn pgStamp, hS, hat, hrl, e0, ej, j1j, hcut, h1, hie, ↓vmP, vm0, vm1, vm2, vm3, vm4, vm5, vm6, vm7, vm8, vm9, vm10, vm11, vm12, vm13, vm14, vm15, vmC, vmN, Nat.reduceAdd, Nat.reduceMul, Nat.reduceSub, Nat.reduceEqDiff, Nat.reduceLT, Nat.reduceLeDiff, ↓reduceIte, Tg.isFull, Int.reduceToNat]
    refine regD_of (by kernel_rfl) ?_
    simp -dsimp (disch := first | rfl | omega) only [bC, r35_7, ej, h1, ↓vmP, vm0, vm1, vm2, vm3, vm4, vm5, vm6, vm7, vm8, vm9, vm10, vm11, vm12, vm13, vm14, vm15, vmC, vmN, Nat.reduceAdd, Nat.reduceMul, Nat.reduceSub, Nat.reduceEqDiff, Nat.reduceLT, Nat.reduceLeDiff, ↓reduceIte, Tg.isFull, Int.reduceToNat]
    rw [← hJ]
    exact ih (j + 1) false _ (by omega) hf2 (by simp -dsimp (disch := first | rfl | omega) only [bC, zB, ↓vmP, vm0, vm1, vm2, vm3, vm4, vm5, vm6, vm7, vm8, vm9, vm10, vm11, vm12, vm13, vm14, vm15, vmC, vmN, Nat.reduceAdd, Nat.reduceMul, Nat.reduceSub, Nat.reduceEqDiff, Nat.reduceLT, Nat.reduceLeDiff, ↓reduceIte, Tg.isFull, Int.reduceToNat]) hQ
set_option maxRecDepth 20000 in
theorem Copy_eq (b : Bk) (z1 z2 z3 : Nat) (hz : Zk b z1 z2 z3) (hs : Sm b) : runW false prog 35 [.agg (bA b z1 z2 z3)] [] = some (.agg (bC b (.row 0) (.row 1) (.row 2)), bH b, []) := by
  refine run_of rfl ?_
  have hz2 : b.queue ≠ [] → z2 = 4 := fun h => by
    have := hz.q
    cases hq : b.queue with
    | nil => exact absurd hq h
    | cons x l => rw [hq] at this; simpa [okSz, recs] using this
  have hil := i64s_len b.op
  have hnl := notes_len b.nts
  have hlo := hs.lo
  have hln := hs.ln
  have hzo := hz.o
  have hzn := hz.n
  rcases i64s_iso b.op with ⟨ho, ho2⟩ | ⟨ho, ho2⟩
  · rcases notes_iso b.nts with ⟨hn, hn2⟩ | ⟨hn, hn2⟩
    · have hlp := fun Q s h1 h2 => CP_loop11 (Q := Q) b z2 hz2 hs b.queue.length 0 true s (by omega) (by simp) h1 h2
      have hoe : b.op.isEmpty = true := by rw [ho]; rfl
      rw [ho] at hzo hil
      have hne : b.nts.isEmpty = true := by rw [hn]; rfl
      rw [hn] at hzn hnl
      simp -dsimp (disch := first | rfl | omega) only [bA, bC, r35_0, r35_1, r35_2, r35_3, r35_4, ho, hn, hzo, hzn, i64s_nil, notes_nil, ↓vmP, vm0, vm1, vm2, vm3, vm4, vm5, vm6, vm7, vm8, vm9, vm10, vm11, vm12, vm13, vm14, vm15, vmC, vmN, Nat.reduceAdd, Nat.reduceMul, Nat.reduceSub, Nat.reduceEqDiff, Nat.reduceLT, Nat.reduceLeDiff, ↓reduceIte, Tg.isFull, Int.reduceToNat]
      refine hlp _ _ (by simp -dsimp (disch := first | rfl | omega) only [bC, zB, List.take_zero, recs_nil, i64s_nil, notes_nil, ↓vmP, vm0, vm1, vm2, vm3, vm4, vm5, vm6, vm7, vm8, vm9, vm10, vm11, vm12, vm13, vm14, vm15, vmC, vmN, Nat.reduceAdd, Nat.reduceMul, Nat.reduceSub, Nat.reduceEqDiff, Nat.reduceLT, Nat.reduceLeDiff, ↓reduceIte, Tg.isFull, Int.reduceToNat]; rfl) (fun f T hf => ?_)
      subst hf
      simp -dsimp (disch := first | rfl | omega) only [bC, bH, zB, r35_9, r35_10, vmK, lkb5, lkb6, lkb16, hoe, hne, ho, hn, i64s_nil, notes_nil, ↓vmP, vm0, vm1, vm2, vm3, vm4, vm5, vm6, vm7, vm8, vm9, vm10, vm11, vm12, vm13, vm14, vm15, vmC, vmN, Nat.reduceAdd, Nat.reduceMul, Nat.reduceSub, Nat.reduceEqDiff, Nat.reduceLT, Nat.reduceLeDiff, ↓reduceIte, Tg.isFull, Int.reduceToNat]
      try rfl
    · have hlp := fun Q s h1 h2 => CP_loop10 (Q := Q) b z2 hz2 hs b.queue.length 0 true s (by omega) (by simp) h1 h2
      have hoe : b.op.isEmpty = true := by rw [ho]; rfl
      rw [ho] at hzo hil
      have hne : b.nts.isEmpty = false := hn
      simp -dsimp (disch := first | rfl | omega) only [bA, bC, r35_0, r35_1, r35_2, r35_3, r35_4, ho, hn2, hzo, hzn, i64s_nil, ↓vmP, vm0, vm1, vm2, vm3, vm4, vm5, vm6, vm7, vm8, vm9, vm10, vm11, vm12, vm13, vm14, vm15, vmC, vmN, Nat.reduceAdd, Nat.reduceMul, Nat.reduceSub, Nat.reduceEqDiff, Nat.reduceLT, Nat.reduceLeDiff, ↓reduceIte, Tg.isFull, Int.reduceToNat]
      refine hlp _ _ (by simp -dsimp (disch := first | rfl | omega) only [bC, zB, List.take_zero, recs_nil, i64s_nil, ↓vmP, vm0, vm1, vm2, vm3, vm4, vm5, vm6, vm7, vm8, vm9, vm10, vm11, vm12, vm13, vm14, vm15, vmC, vmN, Nat.reduceAdd, Nat.reduceMul, Nat.reduceSub, Nat.reduceEqDiff, Nat.reduceLT, Nat.reduceLeDiff, ↓reduceIte, Tg.isFull, Int.reduceToNat]; rfl) (fun f T hf => ?_)
      subst hf
      simp -dsimp (disch := first | rfl | omega) only [bC, bH, zB, r35_9, r35_10, vmK, lkb5, lkb6, lkb16, hoe, hne, ho, hn2, i64s_nil, ↓vmP, vm0, vm1, vm2, vm3, vm4, vm5, vm6, vm7, vm8, vm9, vm10, vm11, vm12, vm13, vm14, vm15, vmC, vmN, Nat.reduceAdd, Nat.reduceMul, Nat.reduceSub, Nat.reduceEqDiff, Nat.reduceLT, Nat.reduceLeDiff, ↓reduceIte, Tg.isFull, Int.reduceToNat]
      try rfl
  · rcases notes_iso b.nts with ⟨hn, hn2⟩ | ⟨hn, hn2⟩
    · have hlp := fun Q s h1 h2 => CP_loop01 (Q := Q) b z2 hz2 hs b.queue.length 0 true s (by omega) (by simp) h1 h2
      have hoe : b.op.isEmpty = false := ho
      have hne : b.nts.isEmpty = true := by rw [hn]; rfl
      rw [hn] at hzn hnl
      simp -dsimp (disch := first | rfl | omega) only [bA, bC, r35_0, r35_1, r35_2, r35_3, r35_4, ho2, hn, hzo, hzn, notes_nil, ↓vmP, vm0, vm1, vm2, vm3, vm4, vm5, vm6, vm7, vm8, vm9, vm10, vm11, vm12, vm13, vm14, vm15, vmC, vmN, Nat.reduceAdd, Nat.reduceMul, Nat.reduceSub, Nat.reduceEqDiff, Nat.reduceLT, Nat.reduceLeDiff, ↓reduceIte, Tg.isFull, Int.reduceToNat]
      refine hlp _ _ (by simp -dsimp (disch := first | rfl | omega) only [bC, zB, List.take_zero, recs_nil, notes_nil, ↓vmP, vm0, vm1, vm2, vm3, vm4, vm5, vm6, vm7, vm8, vm9, vm10, vm11, vm12, vm13, vm14, vm15, vmC, vmN, Nat.reduceAdd, Nat.reduceMul, Nat.reduceSub, Nat.reduceEqDiff, Nat.reduceLT, Nat.reduceLeDiff, ↓reduceIte, Tg.isFull, Int.reduceToNat]; rfl) (fun f T hf => ?_)
      subst hf
      simp -dsimp (disch := first | rfl | omega) only [bC, bH, zB, r35_9, r35_10, vmK, lkb5, lkb6, lkb16, hoe, hne, ho2, hn, notes_nil, ↓vmP, vm0, vm1, vm2, vm3, vm4, vm5, vm6, vm7, vm8, vm9, vm10, vm11, vm12, vm13, vm14, vm15, vmC, vmN, Nat.reduceAdd, Nat.reduceMul, Nat.reduceSub, Nat.reduceEqDiff, Nat.reduceLT, Nat.reduceLeDiff, ↓reduceIte, Tg.isFull, Int.reduceToNat]
      try rfl
    · have hlp := fun Q s h1 h2 => CP_loop00 (Q := Q) b z2 hz2 hs b.queue.length 0 true s (by omega) (by simp) h1 h2
      have hoe : b.op.isEmpty = false := ho
      have hne : b.nts.isEmpty = false := hn
      simp -dsimp (disch := first | rfl | omega) only [bA, bC, r35_0, r35_1, r35_2, r35_3, r35_4, ho2, hn2, hzo, hzn, ↓vmP, vm0, vm1, vm2, vm3, vm4, vm5, vm6, vm7, vm8, vm9, vm10, vm11, vm12, vm13, vm14, vm15, vmC, vmN, Nat.reduceAdd, Nat.reduceMul, Nat.reduceSub, Nat.reduceEqDiff, Nat.reduceLT, Nat.reduceLeDiff, ↓reduceIte, Tg.isFull, Int.reduceToNat]
      refine hlp _ _ (by simp -dsimp (disch := first | rfl | omega) only [bC, zB, List.take_zero, recs_nil, ↓vmP, vm0, vm1, vm2, vm3, vm4, vm5, vm6, vm7, vm8, vm9, vm10, vm11, vm12, vm13, vm14, vm15, vmC, vmN, Nat.reduceAdd, Nat.reduceMul, Nat.reduceSub, Nat.reduceEqDiff, Nat.reduceLT, Nat.reduceLeDiff, ↓reduceIte, Tg.isFull, Int.reduceToNat]; rfl) (fun f T hf => ?_)
      subst hf
      simp -dsimp (disch := first | rfl | omega) only [bC, bH, zB, r35_9, r35_10, vmK, lkb5, lkb6, lkb16, hoe, hne, ho2, hn2, ↓vmP, vm0, vm1, vm2, vm3, vm4, vm5, vm6, vm7, vm8, vm9, vm10, vm11, vm12, vm13, vm14, vm15, vmC, vmN, Nat.reduceAdd, Nat.reduceMul, Nat.reduceSub, Nat.reduceEqDiff, Nat.reduceLT, Nat.reduceLeDiff, ↓reduceIte, Tg.isFull, Int.reduceToNat]
      try rfl
end Go.Vm.Bk
