/- A part of the proof of BacklogPlaysSaid: YtnihjdfbiddggaaFo. -/
import Derived.Test.YtnihjdfbiddggaaKFm
/- Backlogs: numbers taken out of a list. -/
set_option linter.unusedVariables false
set_option linter.unusedSimpArgs false
set_option maxHeartbeats 1000000
namespace Go.Vm.Bk
theorem Put1_eq (r : Rec) (x : Int) : runW false prog 54 [.d (.int .i64 x), .ptr 0 0] [.box (recA r)] = some (.d (.bool (decide (x = r.serial))), [.box (recA r)], []) := by
  refine run_of rfl ?_
  simp -dsimp (disch := first | rfl | omega) only [recA, r54_0, r54_1, ↓vmP, vm0, vm1, vm2, vm3, vm4, vm5, vm6, vm7, vm8, vm9, vm10, vm11, vm12, vm13, vm14, vm15, vmC, vmN, Nat.reduceAdd, Nat.reduceMul, Nat.reduceSub, Nat.reduceEqDiff, Nat.reduceLT, Nat.reduceLeDiff, ↓reduceIte, Tg.isFull, Int.reduceToNat]
theorem pgPut1 : prog 54 = some c54 := rfl
/-- Where the number is first. -/
def ixI : List Int → Int → Nat → Int
  | [], _, _ => -1
  | x :: l, s, k => if x = s then k else ixI l s (k + 1)
theorem getD_drop (l : List Int) {j : Nat} (h : j < l.length) : l.drop j = l.getD j 0 :: l.drop (j + 1) := by
  rw [List.drop_eq_getElem_cons h, List.getD_eq_getElem?_getD, List.getElem?_eq_getElem h]; rfl
set_option maxRecDepth 20000 in
theorem Ix_loop {Q : Ex → St → Prop} (l : List Int) (hl : l.length ≤ 1000000) (r : Rec) (f : Bool) : ∀ (k j : Nat) (s : St), j + k = l.length →
    gc [(0, none), (1, none), (7, none), (8, none)] s = ⟨gS [(0, .row 0), (1, .fn 54 [.ptr 1 0]), (7, .d (.int .i64 l.length)), (8, .d (.int .i64 j))], gH [(0, .row 1 f (i64s l)), (1, .box (recA r))], 2, 2, []⟩ →
    (ixI (l.drop j) r.serial j = -1 → ∀ L nx, Q (.exit 0) ⟨gS L, gH [(0, .row 1 f (i64s l)), (1, .box (recA r))], nx, 2, []⟩) →
    (∀ m, ixI (l.drop j) r.serial j = m → ∀ nx, Q .ret ⟨gS [(4, .d (.int .i64 m))], gH [(0, .row 1 f (i64s l)), (1, .box (recA r))], nx, 2, []⟩) →
    wpW false prog (.loop [(0, none), (1, none), (7, none), (8, none)] l70_7) s Q := by
  intro k
  induction k with
  | zero =>
    intro j s hj hg hQ hR
    refine wp_loop1 ?_
    rw [hg]
    generalize hJ : (fun s' => wpW false prog (.loop [(0, none), (1, none), (7, none), (8, none)] l70_7) s' Q) = J
    unfold l70_7
    have e0 : ((j : Int) < l.length) = False := eq_false (by omega)
    have hn : ixI (l.drop j) r.serial j = -1 := by rw [List.drop_of_length_le (by omega)]; rfl
    simp -dsimp (disch := first | rfl | omega) only [recA, r70_2, r70_3, r70_4, r70_5, r70_6, e0, ↓vmP, vm0, vm1, vm2, vm3, vm4, vm5, vm6, vm7, vm8, vm9, vm10, vm11, vm12, vm13, vm14, vm15, vmC, vmN, Nat.reduceAdd, Nat.reduceMul, Nat.reduceSub, Nat.reduceEqDiff, Nat.reduceLT, Nat.reduceLeDiff, ↓reduceIte, Tg.isFull, Int.reduceToNat]
    exact hQ hn _ _
  | succ k ih =>
    intro j s hj hg hQ hR
    refine wp_loop1 ?_
    rw [hg]
    generalize hJ : (fun s' => wpW false prog (.loop [(0, none), (1, none), (7, none), (8, none)] l70_7) s' Q) = J
    unfold l70_7
    have hil := i64s_len l
    have hjl : j < l.length := by omega
    have e0 : ((j : Int) < l.length) = True := eq_true (by omega)
    have ej : ((j : Int) + 1) = ((j + 1 : Nat) : Int) := by omega
    have hat := i64s_at l hjl
    have hdr := getD_drop l hjl
    have hp := Put1_eq r (l.getD j 0)
    simp only [recA] at hp
    by_cases hx : l.getD j 0 = r.serial
    · have hi : ixI (l.drop j) r.serial j = j := by rw [hdr, ixI, if_pos hx]
      rw [decide_eq_true hx] at hp
      generalize l.getD j 0 = x at hat hp
      simp -dsimp (disch := first | rfl | omega) only [recA, r70_2, r70_3, r70_4, r70_5, r70_6, e0, hat, callW_fn pgPut1, hp, vmK, ↓vmP, vm0, vm1, vm2, vm3, vm4, vm5, vm6, vm7, vm8, vm9, vm10, vm11, vm12, vm13, vm14, vm15, vmC, vmN, Nat.reduceAdd, Nat.reduceMul, Nat.reduceSub, Nat.reduceEqDiff, Nat.reduceLT, Nat.reduceLeDiff, ↓reduceIte, Tg.isFull, Int.reduceToNat]
      exact hR _ hi _
    · have hi : ixI (l.drop j) r.serial j = ixI (l.drop (j + 1)) r.serial (j + 1) := by rw [hdr, ixI, if_neg hx]
      rw [decide_eq_false hx] at hp
      rw [hi] at hQ hR
      generalize l.getD j 0 = x at hat hp
      simp -dsimp (disch := first | rfl | omega) only [recA, r70_2, r70_3, r70_4, r70_5, r70_6, e0, hat, callW_fn pgPut1, hp, ej, vmK, ↓vmP, vm0, vm1, vm2, vm3, vm4, vm5, vm6, vm7, vm8, vm9, vm10, vm11, vm12, vm13, vm14, vm15, vmC, vmN, Nat.reduceAdd, Nat.reduceMul, Nat.reduceSub, Nat.reduceEqDiff, Nat.reduceLT, Nat.reduceLeDiff, ↓reduceIte, Tg.isFull, Int.reduceToNat]
      rw [← hJ]
      exact ih (j + 1) _ (by omega) (by simp -dsimp (disch := first | rfl | omega) only [recA, ↓vmP, vm0, vm1, vm2, vm3, vm4, vm5, vm6, vm7, vm8, vm9, vm10, vm11, vm12, vm13, vm14, vm15, vmC, vmN, Nat.reduceAdd, Nat.reduceMul, Nat.reduceSub, Nat.reduceEqDiff, Nat.reduceLT, Nat.reduceLeDiff, ↓reduceIte, Tg.isFull, Int.reduceToNat]) hQ hR
set_option maxRecDepth 20000 in
theorem Ix_eq (l : List Int) (hl : l.length ≤ 1000000) (r : Rec) (f : Bool) : runW false prog 70 [.row 0, .fn 54 [.ptr 1 0]] [.row 1 f (i64s l), .box (recA r)] = some (.d (.int .i64 (ixI l r.serial 0)), [.row 1 f (i64s l), .box (recA r)], []) := by
  refine run_of rfl ?_
  have hil := i64s_len l
  simp -dsimp (disch := first | rfl | omega) only [recA, r70_0, r70_1, ↓vmP, vm0, vm1, vm2, vm3, vm4, vm5, vm6, vm7, vm8, vm9, vm10, vm11, vm12, vm13, vm14, vm15, vmC, vmN, Nat.reduceAdd, Nat.reduceMul, Nat.reduceSub, Nat.reduceEqDiff, Nat.reduceLT, Nat.reduceLeDiff, ↓reduceIte, Tg.isFull, Int.reduceToNat]
  refine Ix_loop l hl r f l.length 0 _ (by omega) (by simp -dsimp (disch := first | rfl | omega) only [recA, hil, ↓vmP, vm0, vm1, vm2, vm3, vm4, vm5, vm6, vm7, vm8, vm9, vm10, vm11, vm12, vm13, vm14, vm15, vmC, vmN, Nat.reduceAdd, Nat.reduceMul, Nat.reduceSub, Nat.reduceEqDiff, Nat.reduceLT, Nat.reduceLeDiff, ↓reduceIte, Tg.isFull, Int.reduceToNat]; try rfl) (fun h L nx => ?_) (fun m h nx => ?_)
  · rw [List.drop_zero] at h
    rw [h]
    simp -dsimp (disch := first | rfl | omega) only [recA, r70_8, ↓vmP, vm0, vm1, vm2, vm3, vm4, vm5, vm6, vm7, vm8, vm9, vm10, vm11, vm12, vm13, vm14, vm15, vmC, vmN, Nat.reduceAdd, Nat.reduceMul, Nat.reduceSub, Nat.reduceEqDiff, Nat.reduceLT, Nat.reduceLeDiff, ↓reduceIte, Tg.isFull, Int.reduceToNat]
  · rw [List.drop_zero] at h
    rw [h]
    simp -dsimp (disch := first | rfl | omega) only [recA, ↓vmP, vm0, vm1, vm2, vm3, vm4, vm5, vm6, vm7, vm8, vm9, vm10, vm11, vm12, vm13, vm14, vm15, vmC, vmN, Nat.reduceAdd, Nat.reduceMul, Nat.reduceSub, Nat.reduceEqDiff, Nat.reduceLT, Nat.reduceLeDiff, ↓reduceIte, Tg.isFull, Int.reduceToNat]
theorem pgIx : prog 70 = some c70 := rfl
def delI (l : List Int) (s : Int) : List Int := l.filter (fun x => !decide (x = s))
theorem delI_app (a b : List Int) (s : Int) : delI (a ++ b) s = delI a s ++ delI b s := by simp [delI]
theorem delI_len (l : List Int) (s : Int) : (delI l s).length ≤ l.length := List.length_filter_le ..
theorem delI_take (l : List Int) (s : Int) {j : Nat} (h : j < l.length) : delI (l.take (j + 1)) s = delI (l.take j) s ++ (if l.getD j 0 = s then [] else [l.getD j 0]) := by
  rw [List.take_add_one, List.getElem?_eq_getElem h, delI_app, List.getD_eq_getElem?_getD, List.getElem?_eq_getElem h]
  congr 1
  by_cases hx : l[j] = s <;> simp [delI, hx]
theorem ixI_no : ∀ (l : List Int) (s : Int) (k : Nat), ixI l s k = -1 → delI l s = l
  | [], _, _, _ => rfl
  | x :: l, s, k, h => by
    simp only [ixI] at h
    by_cases hx : x = s
    · rw [if_pos hx] at h; omega
    · rw [if_neg hx] at h
      have := ixI_no l s (k + 1) h
      simp only [delI, List.filter_cons, hx, decide_false, Bool.not_false, if_true]
      exact congrArg _ this
theorem ixI_yes : ∀ (l : List Int) (s : Int) (k : Nat), ixI l s k ≠ -1 → ∃ m, m < l.length ∧ ixI l s k = ((k + m : Nat) : Int) ∧ delI (l.take (m + 1)) s = l.take m
  | [], _, _, h => absurd rfl h
  | x :: l, s, k, h => by
    simp only [ixI] at h ⊢
    by_cases hx : x = s
    · rw [if_pos hx] at h ⊢
      exact ⟨0, by simp, by simp, by simp [delI, hx]⟩
    · rw [if_neg hx] at h ⊢
      obtain ⟨m, h1, h2, h3⟩ := ixI_yes l s (k + 1) h
      refine ⟨m + 1, by simp; omega, by rw [h2]; congr 1; omega, ?_⟩
      simp only [delI, List.take_succ_cons, List.filter_cons, hx, decide_false, Bool.not_false, if_true] at h3 ⊢
      rw [h3]
set_option maxRecDepth 20000 in
theorem Del_loop {Q : Ex → St → Prop} (l : List Int) (hl : l.length ≤ 1000000) (r : Rec) (f : Bool) : ∀ (k j : Nat) (C : List (List D)) (dy : List Nat) (s : St), j + k = l.length → (dy = [] ∨ dy = [0]) → C.length = l.length → (∀ i, i < l.length → ∃ y, C[i]? = some [y]) →
    C.take (delI (l.take j) r.serial).length = i64s (delI (l.take j) r.serial) → C.drop j = i64s (l.drop j) → (delI (l.take j) r.serial).length ≤ j →
    gc [(0, none), (1, none), (5, none), (6, none)] s = ⟨gS [(0, .row 0), (1, .fn 54 [.ptr 1 0]), (5, .d (.int .i64 (delI (l.take j) r.serial).length)), (6, .d (.int .i64 j))], gH [(0, .row 1 f C), (1, .box (recA r))], 2, 2, dy⟩ →
    (∀ C dy T, (dy = [] ∨ dy = [0]) → C.length = l.length → C.take (delI l r.serial).length = i64s (delI l r.serial) → Q (.exit 0) ⟨gS ((0, .row 0) :: (1, .fn 54 [.ptr 1 0]) :: (5, .d (.int .i64 (delI l r.serial).length)) :: T), gH [(0, .row 1 f C), (1, .box (recA r))], 34, 2, dy⟩) →
    wpW false prog (.loop [(0, none), (1, none), (5, none), (6, none)] l53_11) s Q := by
  intro k
  induction k with
  | zero =>
    intro j C dy s hj hd hc hw h1 h2 h3 hg hQ
    refine wp_loop1 ?_
    rw [hg]
    generalize hJ : (fun s' => wpW false prog (.loop [(0, none), (1, none), (5, none), (6, none)] l53_11) s' Q) = J
    unfold l53_11
    have e0 : ((j : Int) < C.length) = False := eq_false (by omega)
    rw [show l.take j = l from List.take_of_length_le (by omega)] at h1 ⊢
    have hh := hQ C dy
    generalize (delI l r.serial).length = i at h1 hh ⊢
    simp -dsimp (disch := first | rfl | omega) only [recA, r53_5, e0, ↓vmP, vm0, vm1, vm2, vm3, vm4, vm5, vm6, vm7, vm8, vm9, vm10, vm11, vm12, vm13, vm14, vm15, vmC, vmN, Nat.reduceAdd, Nat.reduceMul, Nat.reduceSub, Nat.reduceEqDiff, Nat.reduceLT, Nat.reduceLeDiff, ↓reduceIte, Tg.isFull, Int.reduceToNat]
    simp only [recA] at hh
    exact hh _ hd hc h1
  | succ k ih =>
    intro j C dy s hj hd hc hw h1 h2 h3 hg hQ
    refine wp_loop1 ?_
    rw [hg]
    generalize hJ : (fun s' => wpW false prog (.loop [(0, none), (1, none), (5, none), (6, none)] l53_11) s' Q) = J
    unfold l53_11
    have hjl : j < l.length := by omega
    have e0 : ((j : Int) < C.length) = True := eq_true (by omega)
    have ej : ((j : Int) + 1) = ((j + 1 : Nat) : Int) := by omega
    have hdr := getD_drop l hjl
    have hat : C[j]? = some [.int .i64 (l.getD j 0)] := by
      have : (C.drop j)[0]? = some [.int .i64 (l.getD j 0)] := by rw [h2, hdr]; rfl
      rwa [List.getElem?_drop, Nat.add_zero] at this
    have hp := Put1_eq r (l.getD j 0)
    have hdt := delI_take l r.serial hjl
    simp only [recA] at hp
    by_cases hx : l.getD j 0 = r.serial
    · rw [decide_eq_true hx] at hp
      rw [if_pos hx, List.append_nil] at hdt
      generalize l.getD j 0 = x at hat hp
      have ihh := fun s => ih (j + 1) C dy s (by omega) hd hc hw (by rw [hdt]; exact h1) (by rw [← List.drop_drop, h2]; simp [i64s]) (by rw [hdt]; omega)
      rw [hdt] at ihh
      generalize (delI (l.take j) r.serial).length = i at *
      simp -dsimp (disch := first | rfl | omega) only [recA, r53_5, r53_6, r53_7, r53_10, e0, hat, callW_fn pgPut1, hp, ej, vmK, ↓vmP, vm0, vm1, vm2, vm3, vm4, vm5, vm6, vm7, vm8, vm9, vm10, vm11, vm12, vm13, vm14, vm15, vmC, vmN, Nat.reduceAdd, Nat.reduceMul, Nat.reduceSub, Nat.reduceEqDiff, Nat.reduceLT, Nat.reduceLeDiff, ↓reduceIte, Tg.isFull, Int.reduceToNat]
      rw [← hJ]
      exact ihh _ (by simp -dsimp (disch := first | rfl | omega) only [recA, ↓vmP, vm0, vm1, vm2, vm3, vm4, vm5, vm6, vm7, vm8, vm9, vm10, vm11, vm12, vm13, vm14, vm15, vmC, vmN, Nat.reduceAdd, Nat.reduceMul, Nat.reduceSub, Nat.reduceEqDiff, Nat.reduceLT, Nat.reduceLeDiff, ↓reduceIte, Tg.isFull, Int.reduceToNat]) hQ
    · rw [decide_eq_false hx] at hp
      rw [if_neg hx] at hdt
      obtain ⟨y, hy⟩ := hw _ (Nat.lt_of_le_of_lt h3 hjl)
      have hdl : (delI (l.take (j + 1)) r.serial).length = (delI (l.take j) r.serial).length + 1 := by rw [hdt]; simp
      have hset := List.set_eq_take_append_cons_drop (l := C) (i := (delI (l.take j) r.serial).length) (a := [.int .i64 (l.getD j 0)])
      rw [if_pos (by omega)] at hset
      have ihh := fun dy s hd => ih (j + 1) (C.set (delI (l.take j) r.serial).length [.int .i64 (l.getD j 0)]) dy s (by omega) hd (by rw [List.length_set]; exact hc)
        (fun i hi => by
          rw [List.getElem?_set]
          split
          · rw [if_pos (by omega)]; exact ⟨_, rfl⟩
          · exact hw i hi)
        (by rw [hset, hdl, hdt, ← i64s_app, ← h1, List.take_append, List.length_take, Nat.min_eq_left (by omega), Nat.add_sub_cancel_left, List.take_of_length_le (by rw [List.length_take]; omega)]; rfl) (by rw [List.drop_set_of_lt (by omega), ← List.drop_drop, h2]; simp [i64s]) (by rw [hdl]; omega)
      rw [hdl] at ihh
      generalize (delI (l.take j) r.serial).length = i at *
      generalize l.getD j 0 = x at *
      have ei : ((i : Int) + 1) = ((i + 1 : Nat) : Int) := by omega
      rcases hd with rfl | rfl
      · simp -dsimp (disch := first | rfl | omega) only [recA, r53_5, r53_6, r53_7, r53_10, r53_8, r53_9, e0, hat, hy, callW_fn pgPut1, hp, ej, ei, vmK, ↓vmP, vm0, vm1, vm2, vm3, vm4, vm5, vm6, vm7, vm8, vm9, vm10, vm11, vm12, vm13, vm14, vm15, vmC, vmN, Nat.reduceAdd, Nat.reduceMul, Nat.reduceSub, Nat.reduceEqDiff, Nat.reduceLT, Nat.reduceLeDiff, ↓reduceIte, Tg.isFull, Int.reduceToNat]
        rw [← hJ]
        exact ihh [0] _ (.inr rfl) (by simp -dsimp (disch := first | rfl | omega) only [recA, ↓vmP, vm0, vm1, vm2, vm3, vm4, vm5, vm6, vm7, vm8, vm9, vm10, vm11, vm12, vm13, vm14, vm15, vmC, vmN, Nat.reduceAdd, Nat.reduceMul, Nat.reduceSub, Nat.reduceEqDiff, Nat.reduceLT, Nat.reduceLeDiff, ↓reduceIte, Tg.isFull, Int.reduceToNat]) hQ
      · simp -dsimp (disch := first | rfl | omega) only [recA, r53_5, r53_6, r53_7, r53_10, r53_8, r53_9, e0, hat, hy, callW_fn pgPut1, hp, ej, ei, vmK, ↓vmP, vm0, vm1, vm2, vm3, vm4, vm5, vm6, vm7, vm8, vm9, vm10, vm11, vm12, vm13, vm14, vm15, vmC, vmN, Nat.reduceAdd, Nat.reduceMul, Nat.reduceSub, Nat.reduceEqDiff, Nat.reduceLT, Nat.reduceLeDiff, ↓reduceIte, Tg.isFull, Int.reduceToNat]
        rw [← hJ]
        exact ihh [0] _ (.inr rfl) (by simp -dsimp (disch := first | rfl | omega) only [recA, ↓vmP, vm0, vm1, vm2, vm3, vm4, vm5, vm6, vm7, vm8, vm9, vm10, vm11, vm12, vm13, vm14, vm15, vmC, vmN, Nat.reduceAdd, Nat.reduceMul, Nat.reduceSub, Nat.reduceEqDiff, Nat.reduceLT, Nat.reduceLeDiff, ↓reduceIte, Tg.isFull, Int.reduceToNat]) hQ
set_option maxRecDepth 20000 in
theorem Del_eq (l : List Int) (hl : l.length ≤ 1000000) (r : Rec) (f : Bool) : (ixI l r.serial 0 = -1 ∧ runW false prog 53 [.row 0, .fn 54 [.ptr 1 0]] [.row 1 f (i64s l), .box (recA r)] = some (.row 0, [.row 1 f (i64s l), .box (recA r)], [])) ∨
    ∃ R, (∃ C : List (List D), C.take (delI l r.serial).length = i64s (delI l r.serial) ∧ (delI l r.serial).length ≤ C.length ∧ R = (.sub 0 0 (delI l r.serial).length true, [.row 1 f C, .box (recA r)], [0])) ∧ runW false prog 53 [.row 0, .fn 54 [.ptr 1 0]] [.row 1 f (i64s l), .box (recA r)] = some R := by
  have hix := Ix_eq l hl r f
  have hil := i64s_len l
  by_cases hn : ixI l r.serial 0 = -1
  · left
    refine ⟨hn, ?_⟩
    refine run_of rfl ?_
    rw [hn] at hix
    simp only [recA] at hix
    simp -dsimp (disch := first | rfl | omega) only [recA, r53_0, r53_1, r53_2, r53_3, callW_fn pgIx, hix, vmK, ↓vmP, vm0, vm1, vm2, vm3, vm4, vm5, vm6, vm7, vm8, vm9, vm10, vm11, vm12, vm13, vm14, vm15, vmC, vmN, Nat.reduceAdd, Nat.reduceMul, Nat.reduceSub, Nat.reduceEqDiff, Nat.reduceLT, Nat.reduceLeDiff, ↓reduceIte, Tg.isFull, Int.reduceToNat]
  · right
    refine run_ex rfl ?_
    obtain ⟨m, hm, hi, hd⟩ := ixI_yes l r.serial 0 hn
    rw [Nat.zero_add] at hi
    rw [hi] at hix
    simp only [recA] at hix
    have em : ((m : Int) = -1) = False := eq_false (by omega)
    have em1 : ((m : Int) + 1) = ((m + 1 : Nat) : Int) := by omega
    have hlp := fun Q s => Del_loop (Q := Q) l hl r f (l.length - (m + 1)) (m + 1) (i64s l) [] s (by omega) (.inl rfl) hil (fun i hi => ⟨_, i64s_at l hi⟩) (by rw [hd, List.length_take, Nat.min_eq_left (by omega)]; simp [i64s, List.map_take]) (by simp [i64s, List.map_drop]) (by rw [hd, List.length_take]; omega)
    rw [hd, List.length_take, Nat.min_eq_left (by omega)] at hlp
    generalize hQ : (fun (e : Ex) (s : St) => _ : Ex → St → Prop) = Q
    simp -dsimp (disch := first | rfl | omega) only [recA, r53_0, r53_1, r53_2, r53_3, r53_4, callW_fn pgIx, hix, em, em1, vmK, ↓vmP, vm0, vm1, vm2, vm3, vm4, vm5, vm6, vm7, vm8, vm9, vm10, vm11, vm12, vm13, vm14, vm15, vmC, vmN, Nat.reduceAdd, Nat.reduceMul, Nat.reduceSub, Nat.reduceEqDiff, Nat.reduceLT, Nat.reduceLeDiff, ↓reduceIte, Tg.isFull, Int.reduceToNat]
    refine hlp _ _ (by simp -dsimp (disch := first | rfl | omega) only [recA, ↓vmP, vm0, vm1, vm2, vm3, vm4, vm5, vm6, vm7, vm8, vm9, vm10, vm11, vm12, vm13, vm14, vm15, vmC, vmN, Nat.reduceAdd, Nat.reduceMul, Nat.reduceSub, Nat.reduceEqDiff, Nat.reduceLT, Nat.reduceLeDiff, ↓reduceIte, Tg.isFull, Int.reduceToNat]) (fun C dy T hdy hC htk => ?_)
    have hle := delI_len l r.serial
    generalize (delI l r.serial).length = i at htk hle hlp hQ ⊢
    have hfin : (C.take i ++ (List.replicate (C.length - i) [D.int .i64 0] ++ C.drop C.length)).take i = i64s (delI l r.serial) := by
      rw [List.take_append_of_le_length (by rw [List.length_take]; omega), List.take_take, Nat.min_self, htk]
    have hfl : i ≤ (C.take i ++ (List.replicate (C.length - i) [D.int .i64 0] ++ C.drop C.length)).length := by
      simp only [List.length_append, List.length_take]; omega
    have g1 : (C.take i).length = i := by rw [List.length_take]; omega
    have g2 : (C.drop C.length).length = 0 := by simp
    have hc2 : i ≤ C.length := by omega
    rcases hdy with rfl | rfl
    · simp -dsimp (disch := first | rfl | omega) only [recA, r53_12, r53_13, g1, g2, List.length_replicate, ↓vmP, vm0, vm1, vm2, vm3, vm4, vm5, vm6, vm7, vm8, vm9, vm10, vm11, vm12, vm13, vm14, vm15, vmC, vmN, Nat.reduceAdd, Nat.reduceMul, Nat.reduceSub, Nat.reduceEqDiff, Nat.reduceLT, Nat.reduceLeDiff, ↓reduceIte, Tg.isFull, Int.reduceToNat]
      rw [← hQ]
      refine ⟨_, ⟨_, hfin, hfl, rfl⟩, ?_⟩
      simp -dsimp (disch := first | rfl | omega) only [recA, vmK, ↓vmP, vm0, vm1, vm2, vm3, vm4, vm5, vm6, vm7, vm8, vm9, vm10, vm11, vm12, vm13, vm14, vm15, vmC, vmN, Nat.reduceAdd, Nat.reduceMul, Nat.reduceSub, Nat.reduceEqDiff, Nat.reduceLT, Nat.reduceLeDiff, ↓reduceIte, Tg.isFull, Int.reduceToNat]
    · simp -dsimp (disch := first | rfl | omega) only [recA, r53_12, r53_13, g1, g2, List.length_replicate, ↓vmP, vm0, vm1, vm2, vm3, vm4, vm5, vm6, vm7, vm8, vm9, vm10, vm11, vm12, vm13, vm14, vm15, vmC, vmN, Nat.reduceAdd, Nat.reduceMul, Nat.reduceSub, Nat.reduceEqDiff, Nat.reduceLT, Nat.reduceLeDiff, ↓reduceIte, Tg.isFull, Int.reduceToNat]
      rw [← hQ]
      refine ⟨_, ⟨_, hfin, hfl, rfl⟩, ?_⟩
      simp -dsimp (disch := first | rfl | omega) only [recA, vmK, ↓vmP, vm0, vm1, vm2, vm3, vm4, vm5, vm6, vm7, vm8, vm9, vm10, vm11, vm12, vm13, vm14, vm15, vmC, vmN, Nat.reduceAdd, Nat.reduceMul, Nat.reduceSub, Nat.reduceEqDiff, Nat.reduceLT, Nat.reduceLeDiff, ↓reduceIte, Tg.isFull, Int.reduceToNat]
end Go.Vm.Bk
