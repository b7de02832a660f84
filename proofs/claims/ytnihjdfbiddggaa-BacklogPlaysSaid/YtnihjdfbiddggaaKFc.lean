/- A part of the proof of BacklogPlaysSaid: YtnihjdfbiddggaaFc. -/
import Derived.Test.YtnihjdfbiddggaaKFb
/- Lists of records: copies, stamps, comparisons. -/
set_option linter.unusedVariables false
set_option linter.unusedSimpArgs false
set_option maxHeartbeats 1000000
namespace Go.Vm.Bk
theorem pgEach : prog 71 = some c71 := rfl
theorem pgSF : prog 74 = some c74 := rfl
theorem recs_nil : recs [] = [] := rfl
theorem Ea52_0 (z : Nat) : runW false prog 71 [.d (.sl .any z []), .fn 52 []] [] = some (.row 0, [.row 4 true []], []) := by
  refine run_of rfl ?_
  have e0 : ((0 : Nat) : Int) = 0 := rfl
  simp -dsimp (disch := first | rfl | omega) only [r71_0, r71_1, r71_2, e0, vmK, lk4, ↓vmP, vm0, vm1, vm2, vm3, vm4, vm5, vm6, vm7, vm8, vm9, vm10, vm11, vm12, vm13, vm14, vm15, vmC, vmN, Nat.reduceAdd, Nat.reduceMul, Nat.reduceSub, Nat.reduceEqDiff, Nat.reduceLT, Nat.reduceLeDiff, ↓reduceIte, Tg.isFull, Int.reduceToNat]
set_option maxRecDepth 20000 in
theorem Ea52_eq (l : List Rec) (hl : l.length ≤ 1000000) (hp : ∀ r ∈ l, r.pairs.length ≤ 1000000) (z : Nat) (hz : okSz 4 z (recs l) = true) : runW false prog 71 [.d (.sl .any z (recs l)), .fn 52 []] [] = some (.row 0, [.row 4 l.isEmpty (recs l)], []) := by
  cases l with
  | nil => exact Ea52_0 z
  | cons x l =>
    have hz4 : z = 4 := by simpa [okSz, recs] using hz
    subst hz4
    refine run_of rfl ?_
    have hrl := recs_len (x :: l)
    have e0 : (((x :: l).length : Int) = 0) = False := eq_false (by simp; omega)
    have hie : (x :: l).isEmpty = false := rfl
    rw [hie]
    have hlp := fun Q s h1 h2 => E52_loop (Q := Q) (x :: l) hl hp 4 (fun _ => rfl) pgRec (x :: l).length 0 s (by omega) h1 h2
    generalize hx : x :: l = L at hl hrl e0 hlp
    simp -dsimp (disch := first | rfl | omega) only [r71_0, r71_1, r71_3, r71_4, e0, hrl, stp, ↓vmP, vm0, vm1, vm2, vm3, vm4, vm5, vm6, vm7, vm8, vm9, vm10, vm11, vm12, vm13, vm14, vm15, vmC, vmN, Nat.reduceAdd, Nat.reduceMul, Nat.reduceSub, Nat.reduceEqDiff, Nat.reduceLT, Nat.reduceLeDiff, ↓reduceIte, Tg.isFull, Int.reduceToNat]
    refine hlp _ _ (by simp -dsimp (disch := first | rfl | omega) only [hrl, zR, List.take_zero, recs_nil, List.map_nil, ↓vmP, vm0, vm1, vm2, vm3, vm4, vm5, vm6, vm7, vm8, vm9, vm10, vm11, vm12, vm13, vm14, vm15, vmC, vmN, Nat.reduceAdd, Nat.reduceMul, Nat.reduceSub, Nat.reduceEqDiff, Nat.reduceLT, Nat.reduceLeDiff, ↓reduceIte, Tg.isFull, Int.reduceToNat]; rfl) (fun T => ?_)
    simp -dsimp (disch := first | rfl | omega) only [r71_10, vmK, lk4, stp, List.map_id, ↓vmP, vm0, vm1, vm2, vm3, vm4, vm5, vm6, vm7, vm8, vm9, vm10, vm11, vm12, vm13, vm14, vm15, vmC, vmN, Nat.reduceAdd, Nat.reduceMul, Nat.reduceSub, Nat.reduceEqDiff, Nat.reduceLT, Nat.reduceLeDiff, ↓reduceIte, Tg.isFull, Int.reduceToNat]
theorem Ea74_0 (sr : Int) (z : Nat) : runW false prog 71 [.d (.sl .any z []), .fn 74 [.ptr 0 0]] [.box [.d (.int .i64 sr)]] = some (.row 1, [.box [.d (.int .i64 sr)], .row 4 true []], []) := by
  refine run_of rfl ?_
  have e0 : ((0 : Nat) : Int) = 0 := rfl
  simp -dsimp (disch := first | rfl | omega) only [r71_0, r71_1, r71_2, e0, vmK, lk4, ↓vmP, vm0, vm1, vm2, vm3, vm4, vm5, vm6, vm7, vm8, vm9, vm10, vm11, vm12, vm13, vm14, vm15, vmC, vmN, Nat.reduceAdd, Nat.reduceMul, Nat.reduceSub, Nat.reduceEqDiff, Nat.reduceLT, Nat.reduceLeDiff, ↓reduceIte, Tg.isFull, Int.reduceToNat]
set_option maxRecDepth 20000 in
theorem Ea74_eq (sr : Int) (l : List Rec) (hl : l.length ≤ 1000000) (hp : ∀ r ∈ l, r.pairs.length ≤ 1000000) (z : Nat) (hz : okSz 4 z (recs l) = true) : runW false prog 71 [.d (.sl .any z (recs l)), .fn 74 [.ptr 0 0]] [.box [.d (.int .i64 sr)]] = some (.row 1, [.box [.d (.int .i64 sr)], .row 4 l.isEmpty (recs (l.map (stp sr)))], []) := by
  cases l with
  | nil => exact Ea74_0 sr z
  | cons x l =>
    have hz4 : z = 4 := by simpa [okSz, recs] using hz
    subst hz4
    refine run_of rfl ?_
    have hrl := recs_len (x :: l)
    have e0 : (((x :: l).length : Int) = 0) = False := eq_false (by simp; omega)
    have hie : (x :: l).isEmpty = false := rfl
    rw [hie]
    have hlp := fun Q s h1 h2 => E74_loop (Q := Q) sr (x :: l) hl hp 4 (fun _ => rfl) pgSF (x :: l).length 0 s (by omega) h1 h2
    generalize hx : x :: l = L at hl hrl e0 hlp
    simp -dsimp (disch := first | rfl | omega) only [r71_0, r71_1, r71_3, r71_4, e0, hrl, stp, ↓vmP, vm0, vm1, vm2, vm3, vm4, vm5, vm6, vm7, vm8, vm9, vm10, vm11, vm12, vm13, vm14, vm15, vmC, vmN, Nat.reduceAdd, Nat.reduceMul, Nat.reduceSub, Nat.reduceEqDiff, Nat.reduceLT, Nat.reduceLeDiff, ↓reduceIte, Tg.isFull, Int.reduceToNat]
    refine hlp _ _ (by simp -dsimp (disch := first | rfl | omega) only [hrl, zR, List.take_zero, recs_nil, List.map_nil, ↓vmP, vm0, vm1, vm2, vm3, vm4, vm5, vm6, vm7, vm8, vm9, vm10, vm11, vm12, vm13, vm14, vm15, vmC, vmN, Nat.reduceAdd, Nat.reduceMul, Nat.reduceSub, Nat.reduceEqDiff, Nat.reduceLT, Nat.reduceLeDiff, ↓reduceIte, Tg.isFull, Int.reduceToNat]; rfl) (fun T => ?_)
    simp -dsimp (disch := first | rfl | omega) only [r71_10, vmK, lk4, stp, List.map_id, ↓vmP, vm0, vm1, vm2, vm3, vm4, vm5, vm6, vm7, vm8, vm9, vm10, vm11, vm12, vm13, vm14, vm15, vmC, vmN, Nat.reduceAdd, Nat.reduceMul, Nat.reduceSub, Nat.reduceEqDiff, Nat.reduceLT, Nat.reduceLeDiff, ↓reduceIte, Tg.isFull, Int.reduceToNat]
theorem Recs_eq (l : List Rec) (hl : l.length ≤ 1000000) (hp : ∀ r ∈ l, r.pairs.length ≤ 1000000) (z : Nat) (hz : okSz 4 z (recs l) = true) : runW false prog 55 [.d (.sl .any z (recs l))] [] = some (.row 0, [.row 4 l.isEmpty (recs l)], []) := by
  refine run_of rfl ?_
  have h1 := Ea52_eq l hl hp z hz
  simp -dsimp (disch := first | rfl | omega) only [r55_0, r55_1, callW_fn pgEach, h1, vmK, lk4, ↓vmP, vm0, vm1, vm2, vm3, vm4, vm5, vm6, vm7, vm8, vm9, vm10, vm11, vm12, vm13, vm14, vm15, vmC, vmN, Nat.reduceAdd, Nat.reduceMul, Nat.reduceSub, Nat.reduceEqDiff, Nat.reduceLT, Nat.reduceLeDiff, ↓reduceIte, Tg.isFull, Int.reduceToNat]
theorem Ea52s_0 (q : List Rec) (fq : Bool) : runW false prog 71 [.sub 0 0 0 true, .fn 52 []] [.row 4 fq (recs q)] = some (.row 1, [.row 4 fq (recs q), .row 4 true []], []) := by
  refine run_of rfl ?_
  have e0 : ((0 : Nat) : Int) = 0 := rfl
  simp -dsimp (disch := first | rfl | omega) only [r71_0, r71_1, r71_2, e0, vmK, lk4, ↓vmP, vm0, vm1, vm2, vm3, vm4, vm5, vm6, vm7, vm8, vm9, vm10, vm11, vm12, vm13, vm14, vm15, vmC, vmN, Nat.reduceAdd, Nat.reduceMul, Nat.reduceSub, Nat.reduceEqDiff, Nat.reduceLT, Nat.reduceLeDiff, ↓reduceIte, Tg.isFull, Int.reduceToNat]
set_option maxRecDepth 20000 in
theorem Ea52s_eq (q : List Rec) (fq : Bool) (n : Nat) (hn : n ≤ q.length) (hq : q.length ≤ 1000000) (hp : ∀ r ∈ q, r.pairs.length ≤ 1000000) : runW false prog 71 [.sub 0 0 n true, .fn 52 []] [.row 4 fq (recs q)] = some (.row 1, [.row 4 fq (recs q), .row 4 (q.take n).isEmpty (recs (q.take n))], []) := by
  cases n with
  | zero => exact Ea52s_0 q fq
  | succ n =>
    refine run_of rfl ?_
    have hrl := recs_len q
    have hlt : (q.take (n + 1)).length = n + 1 := by rw [List.length_take]; omega
    have e0 : (((n + 1 : Nat) : Int) = 0) = False := eq_false (by omega)
    have hie : (q.take (n + 1)).isEmpty = false := by
      cases h : q.take (n + 1) with
      | nil => rw [h] at hlt; simp at hlt
      | cons x l => rfl
    rw [hie]
    have hlp := fun Q s h1 h2 => E52s_loop (Q := Q) q fq (n + 1) hn hq (q.take (n + 1)) (by omega) (fun r hr => hp r (List.mem_of_mem_take hr)) rfl pgRec (n + 1) 0 s (by omega) h1 h2
    generalize n + 1 = k at *
    simp -dsimp (disch := first | rfl | omega) only [r71_0, r71_1, r71_3, r71_4, e0, hrl, Nat.sub_zero, ↓vmP, vm0, vm1, vm2, vm3, vm4, vm5, vm6, vm7, vm8, vm9, vm10, vm11, vm12, vm13, vm14, vm15, vmC, vmN, Nat.reduceAdd, Nat.reduceMul, Nat.reduceSub, Nat.reduceEqDiff, Nat.reduceLT, Nat.reduceLeDiff, ↓reduceIte, Tg.isFull, Int.reduceToNat]
    refine hlp _ _ (by simp -dsimp (disch := first | rfl | omega) only [hrl, zR, List.take_zero, recs_nil, List.map_nil, Nat.sub_zero, ↓vmP, vm0, vm1, vm2, vm3, vm4, vm5, vm6, vm7, vm8, vm9, vm10, vm11, vm12, vm13, vm14, vm15, vmC, vmN, Nat.reduceAdd, Nat.reduceMul, Nat.reduceSub, Nat.reduceEqDiff, Nat.reduceLT, Nat.reduceLeDiff, ↓reduceIte, Tg.isFull, Int.reduceToNat]; rfl) (fun T => ?_)
    simp -dsimp (disch := first | rfl | omega) only [r71_10, vmK, lk4, List.map_id, ↓vmP, vm0, vm1, vm2, vm3, vm4, vm5, vm6, vm7, vm8, vm9, vm10, vm11, vm12, vm13, vm14, vm15, vmC, vmN, Nat.reduceAdd, Nat.reduceMul, Nat.reduceSub, Nat.reduceEqDiff, Nat.reduceLT, Nat.reduceLeDiff, ↓reduceIte, Tg.isFull, Int.reduceToNat]
theorem Recss_eq (q : List Rec) (fq : Bool) (n : Nat) (hn : n ≤ q.length) (hq : q.length ≤ 1000000) (hp : ∀ r ∈ q, r.pairs.length ≤ 1000000) : runW false prog 55 [.sub 0 0 n true] [.row 4 fq (recs q)] = some (.row 1, [.row 4 fq (recs q), .row 4 (q.take n).isEmpty (recs (q.take n))], []) := by
  refine run_of rfl ?_
  have h1 := Ea52s_eq q fq n hn hq hp
  simp -dsimp (disch := first | rfl | omega) only [r55_0, r55_1, callW_fn pgEach, h1, vmK, lk4, ↓vmP, vm0, vm1, vm2, vm3, vm4, vm5, vm6, vm7, vm8, vm9, vm10, vm11, vm12, vm13, vm14, vm15, vmC, vmN, Nat.reduceAdd, Nat.reduceMul, Nat.reduceSub, Nat.reduceEqDiff, Nat.reduceLT, Nat.reduceLeDiff, ↓reduceIte, Tg.isFull, Int.reduceToNat]
theorem Stamp_eq (l : List Rec) (hl : l.length ≤ 1000000) (hp : ∀ r ∈ l, r.pairs.length ≤ 1000000) (z : Nat) (hz : okSz 4 z (recs l) = true) (sr : Int) : runW false prog 67 [.d (.sl .any z (recs l)), .d (.int .i64 sr)] [] = some (.d (.sl .any 4 (recs (l.map (stp sr)))), [], []) := by
  refine run_of rfl ?_
  have h1 := Ea74_eq sr l hl hp z hz
  simp -dsimp (disch := first | rfl | omega) only [r67_0, r67_1, callW_fn pgEach, h1, ↓vmP, vm0, vm1, vm2, vm3, vm4, vm5, vm6, vm7, vm8, vm9, vm10, vm11, vm12, vm13, vm14, vm15, vmC, vmN, Nat.reduceAdd, Nat.reduceMul, Nat.reduceSub, Nat.reduceEqDiff, Nat.reduceLT, Nat.reduceLeDiff, ↓reduceIte, Tg.isFull, Int.reduceToNat]
theorem psD_iso (l : List Par) : (l = [] ∧ (psD l).isEmpty = true) ∨ ((psD l).isEmpty = false ∧ pz l = 4) := by
  cases l
  · exact .inl ⟨rfl, rfl⟩
  · exact .inr ⟨rfl, rfl⟩
theorem psD_nil : psD [] = [] := rfl
theorem pz_nil : pz [] = 0 := rfl
theorem recs_app1 (l : List Rec) (r : Rec) : recs l ++ [[.int .i64 r.ty, .int .i64 r.time, .int .i64 r.serial, .sl .any (pz r.pairs) (psD r.pairs)]] = recs (l ++ [r]) := by simp [recs, recC]
set_option maxRecDepth 20000 in
theorem RS_loop {Q : Ex → St → Prop} (sr : Int) (l : List Rec) (hl : l.length ≤ 1000000) (hp : ∀ r ∈ l, r.pairs.length ≤ 1000000) (t : Tg) (z : Nat) (hz : l ≠ [] → z = 4) : ∀ (k j : Nat) (f : Bool) (s : St), j + k = l.length →
    gc [(0, none), (1, none), (5, some 4), (6, none)] s = ⟨gS [(0, .d (.sl .any z (recs l))), (1, .d (.int .i64 sr)), (5, .row 0), (6, .d (.int .i64 j))], gH [(0, .row 4 f (recs ((l.take j).map (stp sr))))], 1, 0, []⟩ →
    (∀ f T, Q (.exit 0) ⟨gS ((0, .d (.sl .any z (recs l))) :: (1, .d (.int .i64 sr)) :: (5, .row 0) :: T), gH [(0, .row 4 f (recs (l.map (stp sr))))], 33, 0, []⟩) → wpW false prog (.loop [(0, none), (1, none), (5, some 4), (6, none)] l28_9) s Q := by
  intro k
  induction k with
  | zero =>
    intro j f s hj hg hQ
    refine wp_loop1 ?_
    rw [hg]
    generalize hJ : (fun s' => wpW false prog (.loop [(0, none), (1, none), (5, some 4), (6, none)] l28_9) s' Q) = J
    unfold l28_9
    have hrl := recs_len l
    have e0 : ((j : Int) < l.length) = False := eq_false (by omega)
    rw [List.take_of_length_le (by omega)]
    simp -dsimp (disch := first | rfl | omega) only [r28_3, hrl, e0, ↓vmP, vm0, vm1, vm2, vm3, vm4, vm5, vm6, vm7, vm8, vm9, vm10, vm11, vm12, vm13, vm14, vm15, vmC, vmN, Nat.reduceAdd, Nat.reduceMul, Nat.reduceSub, Nat.reduceEqDiff, Nat.reduceLT, Nat.reduceLeDiff, ↓reduceIte, Tg.isFull, Int.reduceToNat]
    exact hQ f _
  | succ k ih =>
    intro j f s hj hg hQ
    refine wp_loop1 ?_
    rw [hg]
    generalize hJ : (fun s' => wpW false prog (.loop [(0, none), (1, none), (5, some 4), (6, none)] l28_9) s' Q) = J
    unfold l28_9
    have e0 : ((j : Int) < l.length) = True := eq_true (by omega)
    have ej : ((j : Int) + 1) = ((j + 1 : Nat) : Int) := by omega
    have hne : l ≠ [] := fun h => by rw [h] at hj; simp at hj
    have hz' := hz hne
    subst hz'
    have hrl := recs_len l
    have hat := recs_at l (show j < l.length by omega)
    have hmem : l.getD j dRec ∈ l := by
      rw [List.getD_eq_getElem?_getD, List.getElem?_eq_getElem (by omega)]; exact List.getElem_mem _
    have htk : l.take (j + 1) = l.take j ++ [l.getD j dRec] := by
      rw [List.take_add_one, List.getD_eq_getElem?_getD, List.getElem?_eq_getElem (by omega)]; rfl
    have hr := hp _ hmem
    generalize l.getD j dRec = r at hat htk hr
    have h1 : recs ((l.take (j + 1)).map (stp sr)) = recs ((l.take j).map (stp sr) ++ [stp sr r]) := by rw [htk]; simp
    have h2 := recs_app1 ((l.take j).map (stp sr)) (stp sr r)
    have hlen0 : (recs ((l.take j).map (stp sr))).length = j := by rw [recs_len, List.length_map, List.length_take]; omega
    rw [← h1] at h2
    generalize recs ((l.take j).map (stp sr)) = Y at h2 hlen0
    have hpl := psD_len r.pairs
    have hpo := pz_ok r.pairs
    simp only [recC] at hat
    simp only [stp] at h2
    rcases psD_iso r.pairs with ⟨hp0, hp1⟩ | ⟨hp1, hp2⟩
    · rw [hp0] at hat h2 hp1 hpl hpo
      simp only [psD_nil, pz_nil] at hat h2 hp1 hpl hpo
      simp -dsimp (disch := first | rfl | omega) only [r28_3, r28_4, r28_5, r28_6, r28_7, r28_8, hat, hrl, e0, ej, h2, ↓vmP, vm0, vm1, vm2, vm3, vm4, vm5, vm6, vm7, vm8, vm9, vm10, vm11, vm12, vm13, vm14, vm15, vmC, vmN, Nat.reduceAdd, Nat.reduceMul, Nat.reduceSub, Nat.reduceEqDiff, Nat.reduceLT, Nat.reduceLeDiff, ↓reduceIte, Tg.isFull, Int.reduceToNat]
      rw [← hJ]
      exact ih (j + 1) false _ (by omega) (by simp -dsimp (disch := first | rfl | omega) only [↓vmP, vm0, vm1, vm2, vm3, vm4, vm5, vm6, vm7, vm8, vm9, vm10, vm11, vm12, vm13, vm14, vm15, vmC, vmN, Nat.reduceAdd, Nat.reduceMul, Nat.reduceSub, Nat.reduceEqDiff, Nat.reduceLT, Nat.reduceLeDiff, ↓reduceIte, Tg.isFull, Int.reduceToNat]) hQ
    · rw [hp2] at hat h2 hpo
      simp -dsimp (disch := first | rfl | omega) only [r28_3, r28_4, r28_5, r28_6, r28_7, r28_8, hat, hrl, e0, ej, h2, hp1, hpo, ↓vmP, vm0, vm1, vm2, vm3, vm4, vm5, vm6, vm7, vm8, vm9, vm10, vm11, vm12, vm13, vm14, vm15, vmC, vmN, Nat.reduceAdd, Nat.reduceMul, Nat.reduceSub, Nat.reduceEqDiff, Nat.reduceLT, Nat.reduceLeDiff, ↓reduceIte, Tg.isFull, Int.reduceToNat]
      rw [← hJ]
      exact ih (j + 1) false _ (by omega) (by simp -dsimp (disch := first | rfl | omega) only [↓vmP, vm0, vm1, vm2, vm3, vm4, vm5, vm6, vm7, vm8, vm9, vm10, vm11, vm12, vm13, vm14, vm15, vmC, vmN, Nat.reduceAdd, Nat.reduceMul, Nat.reduceSub, Nat.reduceEqDiff, Nat.reduceLT, Nat.reduceLeDiff, ↓reduceIte, Tg.isFull, Int.reduceToNat]) hQ
theorem RStamp_eq (l : List Rec) (hl : l.length ≤ 1000000) (hp : ∀ r ∈ l, r.pairs.length ≤ 1000000) (z : Nat) (hz : okSz 4 z (recs l) = true) (sr : Int) : runW false prog 28 [.d (.sl .any z (recs l)), .d (.int .i64 sr)] [] = some (.d (.sl .any 4 (recs (l.map (stp sr)))), [], []) := by
  refine run_of rfl ?_
  have hz' : l ≠ [] → z = 4 := fun h => by
    cases l with
    | nil => exact absurd rfl h
    | cons x l => simpa [okSz, recs] using hz
  simp -dsimp (disch := first | rfl | omega) only [r28_0, r28_1, r28_2, ↓vmP, vm0, vm1, vm2, vm3, vm4, vm5, vm6, vm7, vm8, vm9, vm10, vm11, vm12, vm13, vm14, vm15, vmC, vmN, Nat.reduceAdd, Nat.reduceMul, Nat.reduceSub, Nat.reduceEqDiff, Nat.reduceLT, Nat.reduceLeDiff, ↓reduceIte, Tg.isFull, Int.reduceToNat]
  refine RS_loop sr l hl hp .any z hz' l.length 0 true _ (by omega) (by simp -dsimp (disch := first | rfl | omega) only [List.take_zero, recs_nil, List.map_nil, ↓vmP, vm0, vm1, vm2, vm3, vm4, vm5, vm6, vm7, vm8, vm9, vm10, vm11, vm12, vm13, vm14, vm15, vmC, vmN, Nat.reduceAdd, Nat.reduceMul, Nat.reduceSub, Nat.reduceEqDiff, Nat.reduceLT, Nat.reduceLeDiff, ↓reduceIte, Tg.isFull, Int.reduceToNat]; rfl) (fun f T => ?_)
  simp -dsimp (disch := first | rfl | omega) only [r28_10, ↓vmP, vm0, vm1, vm2, vm3, vm4, vm5, vm6, vm7, vm8, vm9, vm10, vm11, vm12, vm13, vm14, vm15, vmC, vmN, Nat.reduceAdd, Nat.reduceMul, Nat.reduceSub, Nat.reduceEqDiff, Nat.reduceLT, Nat.reduceLeDiff, ↓reduceIte, Tg.isFull, Int.reduceToNat]
theorem eqs_2 (a b : Int) : cellsEq [.int, .int] [.int .i64 a, .int .i64 b] [.int .i64 a, .int .i64 b] = some true := by simp [cellsEq]
theorem eqs_5 (a b c d e : Int) : cellsEq [.int, .int, .int, .int, .int] [.int .i64 a, .int .i64 b, .int .i64 c, .int .i64 d, .int .i64 e] [.int .i64 a, .int .i64 b, .int .i64 c, .int .i64 d, .int .i64 e] = some true := by simp [cellsEq]
theorem eqs_p (n t : ByteArray) (a b : Int) : cellsEq [.str, .int, .int, .str] [.str n, .int .i64 a, .int .i64 b, .str t] [.str n, .int .i64 a, .int .i64 b, .str t] = some true := by simp [cellsEq]
theorem notes_at (l : List (Int × Int)) {i : Nat} (h : i < l.length) : (notes l)[i]? = some [.int .i64 (l.getD i (0, 0)).1, .int .i64 (l.getD i (0, 0)).2] := by
  simp [notes, h, List.getD_eq_getElem?_getD]
def dPar : Par := ⟨[], 0, 0, []⟩
theorem psD_at (l : List Par) {i : Nat} (h : i < l.length) : (psD l)[i]? = some (parC (l.getD i dPar)) := by
  simp [psD, h, List.getD_eq_getElem?_getD]
set_option maxRecDepth 20000 in
theorem sInts_loop {Q : Ex → St → Prop} (l : List Int) (hl : l.length ≤ 1000000) (z z2 : Nat) (hz : l ≠ [] → z = 1) (hz2 : l ≠ [] → z2 = 1) : ∀ (k j : Nat) (s : St), j + k = l.length →
    gc [(0, none), (1, none), (5, none)] s = ⟨gS [(0, .d (.sl .any z (i64s l))), (1, .d (.sl .any z2 (i64s l))), (5, .d (.int .i64 j))], gH [], 0, 0, []⟩ →
    (∀ L, Q (.exit 0) ⟨gS L, gH [], 32, 0, []⟩) → wpW false prog (.loop [(0, none), (1, none), (5, none)] l41_8) s Q := by
  intro k
  induction k with
  | zero =>
    intro j s hj hg hQ
    refine wp_loop1 ?_
    rw [hg]
    generalize hJ : (fun s' => wpW false prog (.loop [(0, none), (1, none), (5, none)] l41_8) s' Q) = J
    unfold l41_8
    have hrl : (i64s l).length = l.length := by simp [i64s]
    have e0 : ((j : Int) < l.length) = False := eq_false (by omega)
    simp -dsimp (disch := first | rfl | omega) only [r41_4, hrl, e0, ↓vmP, vm0, vm1, vm2, vm3, vm4, vm5, vm6, vm7, vm8, vm9, vm10, vm11, vm12, vm13, vm14, vm15, vmC, vmN, Nat.reduceAdd, Nat.reduceMul, Nat.reduceSub, Nat.reduceEqDiff, Nat.reduceLT, Nat.reduceLeDiff, ↓reduceIte, Tg.isFull, Int.reduceToNat]
    exact hQ _
  | succ k ih =>
    intro j s hj hg hQ
    refine wp_loop1 ?_
    rw [hg]
    generalize hJ : (fun s' => wpW false prog (.loop [(0, none), (1, none), (5, none)] l41_8) s' Q) = J
    unfold l41_8
    have e0 : ((j : Int) < l.length) = True := eq_true (by omega)
    have ej : ((j : Int) + 1) = ((j + 1 : Nat) : Int) := by omega
    have hne : l ≠ [] := fun h => by rw [h] at hj; simp at hj
    have hz' := hz hne
    have hz2' := hz2 hne
    subst hz' hz2'
    have hrl : (i64s l).length = l.length := by simp [i64s]
    have hat := i64s_at l (show j < l.length by omega)
    generalize l.getD j 0 = x at hat
    simp -dsimp (disch := first | rfl | omega) only [r41_4, r41_5, r41_7, hat, hrl, e0, ej, ne_eq, not_true_eq_false, ↓vmP, vm0, vm1, vm2, vm3, vm4, vm5, vm6, vm7, vm8, vm9, vm10, vm11, vm12, vm13, vm14, vm15, vmC, vmN, Nat.reduceAdd, Nat.reduceMul, Nat.reduceSub, Nat.reduceEqDiff, Nat.reduceLT, Nat.reduceLeDiff, ↓reduceIte, Tg.isFull, Int.reduceToNat]
    refine regD_of (by kernel_rfl) ?_
    simp -dsimp (disch := first | rfl | omega) only [r41_7, ej, ne_eq, not_true_eq_false, ↓vmP, vm0, vm1, vm2, vm3, vm4, vm5, vm6, vm7, vm8, vm9, vm10, vm11, vm12, vm13, vm14, vm15, vmC, vmN, Nat.reduceAdd, Nat.reduceMul, Nat.reduceSub, Nat.reduceEqDiff, Nat.reduceLT, Nat.reduceLeDiff, ↓reduceIte, Tg.isFull, Int.reduceToNat]
    rw [← hJ]
    exact ih (j + 1) _ (by omega) (by simp -dsimp (disch := first | rfl | omega) only [↓vmP, vm0, vm1, vm2, vm3, vm4, vm5, vm6, vm7, vm8, vm9, vm10, vm11, vm12, vm13, vm14, vm15, vmC, vmN, Nat.reduceAdd, Nat.reduceMul, Nat.reduceSub, Nat.reduceEqDiff, Nat.reduceLT, Nat.reduceLeDiff, ↓reduceIte, Tg.isFull, Int.reduceToNat]) hQ
theorem sInts_eq (l : List Int) (hl : l.length ≤ 1000000) (z z2 : Nat) (hz : okSz 1 z (i64s l) = true) (hz2 : okSz 1 z2 (i64s l) = true) : runW false prog 41 [.d (.sl .any z (i64s l)), .d (.sl .any z2 (i64s l))] [] = some (.d (.bool true), [], []) := by
  refine run_of rfl ?_
  have hrl : (i64s l).length = l.length := by simp [i64s]
  have hz' : l ≠ [] → z = 1 := fun h => by
    cases l with
    | nil => exact absurd rfl h
    | cons x l => simpa [okSz, i64s] using hz
  have hz2' : l ≠ [] → z2 = 1 := fun h => by
    cases l with
    | nil => exact absurd rfl h
    | cons x l => simpa [okSz, i64s] using hz2
  simp -dsimp (disch := first | rfl | omega) only [r41_0, r41_1, r41_3, hrl, ne_eq, not_true_eq_false, ↓vmP, vm0, vm1, vm2, vm3, vm4, vm5, vm6, vm7, vm8, vm9, vm10, vm11, vm12, vm13, vm14, vm15, vmC, vmN, Nat.reduceAdd, Nat.reduceMul, Nat.reduceSub, Nat.reduceEqDiff, Nat.reduceLT, Nat.reduceLeDiff, ↓reduceIte, Tg.isFull, Int.reduceToNat]
  refine sInts_loop l hl z z2 hz' hz2' l.length 0 _ (by omega) (by simp -dsimp (disch := first | rfl | omega) only [↓vmP, vm0, vm1, vm2, vm3, vm4, vm5, vm6, vm7, vm8, vm9, vm10, vm11, vm12, vm13, vm14, vm15, vmC, vmN, Nat.reduceAdd, Nat.reduceMul, Nat.reduceSub, Nat.reduceEqDiff, Nat.reduceLT, Nat.reduceLeDiff, ↓reduceIte, Tg.isFull, Int.reduceToNat]; rfl) (fun L => ?_)
  simp -dsimp (disch := first | rfl | omega) only [r41_9, ↓vmP, vm0, vm1, vm2, vm3, vm4, vm5, vm6, vm7, vm8, vm9, vm10, vm11, vm12, vm13, vm14, vm15, vmC, vmN, Nat.reduceAdd, Nat.reduceMul, Nat.reduceSub, Nat.reduceEqDiff, Nat.reduceLT, Nat.reduceLeDiff, ↓reduceIte, Tg.isFull, Int.reduceToNat]
theorem pg_sInts : prog 41 = some c41 := rfl
set_option maxRecDepth 20000 in
theorem sNotes_loop {Q : Ex → St → Prop} (l : List (Int × Int)) (hl : l.length ≤ 1000000) (z z2 : Nat) (hz : l ≠ [] → z = 2) (hz2 : l ≠ [] → z2 = 2) : ∀ (k j : Nat) (s : St), j + k = l.length →
    gc [(0, none), (1, none), (5, none)] s = ⟨gS [(0, .d (.sl .any z (notes l))), (1, .d (.sl .any z2 (notes l))), (5, .d (.int .i64 j))], gH [], 0, 0, []⟩ →
    (∀ L, Q (.exit 0) ⟨gS L, gH [], 32, 0, []⟩) → wpW false prog (.loop [(0, none), (1, none), (5, none)] l43_8) s Q := by
  intro k
  induction k with
  | zero =>
    intro j s hj hg hQ
    refine wp_loop1 ?_
    rw [hg]
    generalize hJ : (fun s' => wpW false prog (.loop [(0, none), (1, none), (5, none)] l43_8) s' Q) = J
    unfold l43_8
    have hrl : (notes l).length = l.length := by simp [notes]
    have e0 : ((j : Int) < l.length) = False := eq_false (by omega)
    simp -dsimp (disch := first | rfl | omega) only [r43_4, hrl, e0, ↓vmP, vm0, vm1, vm2, vm3, vm4, vm5, vm6, vm7, vm8, vm9, vm10, vm11, vm12, vm13, vm14, vm15, vmC, vmN, Nat.reduceAdd, Nat.reduceMul, Nat.reduceSub, Nat.reduceEqDiff, Nat.reduceLT, Nat.reduceLeDiff, ↓reduceIte, Tg.isFull, Int.reduceToNat]
    exact hQ _
  | succ k ih =>
    intro j s hj hg hQ
    refine wp_loop1 ?_
    rw [hg]
    generalize hJ : (fun s' => wpW false prog (.loop [(0, none), (1, none), (5, none)] l43_8) s' Q) = J
    unfold l43_8
    have e0 : ((j : Int) < l.length) = True := eq_true (by omega)
    have ej : ((j : Int) + 1) = ((j + 1 : Nat) : Int) := by omega
    have hne : l ≠ [] := fun h => by rw [h] at hj; simp at hj
    have hz' := hz hne
    have hz2' := hz2 hne
    subst hz' hz2'
    have hrl : (notes l).length = l.length := by simp [notes]
    have hat := notes_at l (show j < l.length by omega)
    generalize l.getD j (0, 0) = x at hat
    have heq := eqs_2 x.1 x.2
    simp -dsimp (disch := first | rfl | omega) only [r43_4, r43_5, r43_7, hat, hrl, e0, ej, heq, ne_eq, not_true_eq_false, ↓vmP, vm0, vm1, vm2, vm3, vm4, vm5, vm6, vm7, vm8, vm9, vm10, vm11, vm12, vm13, vm14, vm15, vmC, vmN, Nat.reduceAdd, Nat.reduceMul, Nat.reduceSub, Nat.reduceEqDiff, Nat.reduceLT, Nat.reduceLeDiff, ↓reduceIte, Tg.isFull, Int.reduceToNat]
    refine regD_of (by kernel_rfl) ?_
    simp -dsimp (disch := first | rfl | omega) only [r43_7, ej, heq, ne_eq, not_true_eq_false, ↓vmP, vm0, vm1, vm2, vm3, vm4, vm5, vm6, vm7, vm8, vm9, vm10, vm11, vm12, vm13, vm14, vm15, vmC, vmN, Nat.reduceAdd, Nat.reduceMul, Nat.reduceSub, Nat.reduceEqDiff, Nat.reduceLT, Nat.reduceLeDiff, ↓reduceIte, Tg.isFull, Int.reduceToNat]
    rw [← hJ]
    exact ih (j + 1) _ (by omega) (by simp -dsimp (disch := first | rfl | omega) only [↓vmP, vm0, vm1, vm2, vm3, vm4, vm5, vm6, vm7, vm8, vm9, vm10, vm11, vm12, vm13, vm14, vm15, vmC, vmN, Nat.reduceAdd, Nat.reduceMul, Nat.reduceSub, Nat.reduceEqDiff, Nat.reduceLT, Nat.reduceLeDiff, ↓reduceIte, Tg.isFull, Int.reduceToNat]) hQ
theorem sNotes_eq (l : List (Int × Int)) (hl : l.length ≤ 1000000) (z z2 : Nat) (hz : okSz 2 z (notes l) = true) (hz2 : okSz 2 z2 (notes l) = true) : runW false prog 43 [.d (.sl .any z (notes l)), .d (.sl .any z2 (notes l))] [] = some (.d (.bool true), [], []) := by
  refine run_of rfl ?_
  have hrl : (notes l).length = l.length := by simp [notes]
  have hz' : l ≠ [] → z = 2 := fun h => by
    cases l with
    | nil => exact absurd rfl h
    | cons x l => simpa [okSz, notes] using hz
  have hz2' : l ≠ [] → z2 = 2 := fun h => by
    cases l with
    | nil => exact absurd rfl h
    | cons x l => simpa [okSz, notes] using hz2
  simp -dsimp (disch := first | rfl | omega) only [r43_0, r43_1, r43_3, hrl, ne_eq, not_true_eq_false, ↓vmP, vm0, vm1, vm2, vm3, vm4, vm5, vm6, vm7, vm8, vm9, vm10, vm11, vm12, vm13, vm14, vm15, vmC, vmN, Nat.reduceAdd, Nat.reduceMul, Nat.reduceSub, Nat.reduceEqDiff, Nat.reduceLT, Nat.reduceLeDiff, ↓reduceIte, Tg.isFull, Int.reduceToNat]
  refine sNotes_loop l hl z z2 hz' hz2' l.length 0 _ (by omega) (by simp -dsimp (disch := first | rfl | omega) only [↓vmP, vm0, vm1, vm2, vm3, vm4, vm5, vm6, vm7, vm8, vm9, vm10, vm11, vm12, vm13, vm14, vm15, vmC, vmN, Nat.reduceAdd, Nat.reduceMul, Nat.reduceSub, Nat.reduceEqDiff, Nat.reduceLT, Nat.reduceLeDiff, ↓reduceIte, Tg.isFull, Int.reduceToNat]; rfl) (fun L => ?_)
  simp -dsimp (disch := first | rfl | omega) only [r43_9, ↓vmP, vm0, vm1, vm2, vm3, vm4, vm5, vm6, vm7, vm8, vm9, vm10, vm11, vm12, vm13, vm14, vm15, vmC, vmN, Nat.reduceAdd, Nat.reduceMul, Nat.reduceSub, Nat.reduceEqDiff, Nat.reduceLT, Nat.reduceLeDiff, ↓reduceIte, Tg.isFull, Int.reduceToNat]
theorem pg_sNotes : prog 43 = some c43 := rfl
set_option maxRecDepth 20000 in
theorem sPairs_loop {Q : Ex → St → Prop} (l : List Par) (hl : l.length ≤ 1000000) (z z2 : Nat) (hz : l ≠ [] → z = 4) (hz2 : l ≠ [] → z2 = 4) : ∀ (k j : Nat) (s : St), j + k = l.length →
    gc [(0, none), (1, none), (5, none)] s = ⟨gS [(0, .d (.sl .any z (psD l))), (1, .d (.sl .any z2 (psD l))), (5, .d (.int .i64 j))], gH [], 0, 0, []⟩ →
    (∀ L, Q (.exit 0) ⟨gS L, gH [], 32, 0, []⟩) → wpW false prog (.loop [(0, none), (1, none), (5, none)] l58_8) s Q := by
  intro k
  induction k with
  | zero =>
    intro j s hj hg hQ
    refine wp_loop1 ?_
    rw [hg]
    generalize hJ : (fun s' => wpW false prog (.loop [(0, none), (1, none), (5, none)] l58_8) s' Q) = J
    unfold l58_8
    have hrl : (psD l).length = l.length := by simp [psD]
    have e0 : ((j : Int) < l.length) = False := eq_false (by omega)
    simp -dsimp (disch := first | rfl | omega) only [r58_4, hrl, e0, ↓vmP, vm0, vm1, vm2, vm3, vm4, vm5, vm6, vm7, vm8, vm9, vm10, vm11, vm12, vm13, vm14, vm15, vmC, vmN, Nat.reduceAdd, Nat.reduceMul, Nat.reduceSub, Nat.reduceEqDiff, Nat.reduceLT, Nat.reduceLeDiff, ↓reduceIte, Tg.isFull, Int.reduceToNat]
    exact hQ _
  | succ k ih =>
    intro j s hj hg hQ
    refine wp_loop1 ?_
    rw [hg]
    generalize hJ : (fun s' => wpW false prog (.loop [(0, none), (1, none), (5, none)] l58_8) s' Q) = J
    unfold l58_8
    have e0 : ((j : Int) < l.length) = True := eq_true (by omega)
    have ej : ((j : Int) + 1) = ((j + 1 : Nat) : Int) := by omega
    have hne : l ≠ [] := fun h => by rw [h] at hj; simp at hj
    have hz' := hz hne
    have hz2' := hz2 hne
    subst hz' hz2'
    have hrl : (psD l).length = l.length := by simp [psD]
    have hat := psD_at l (show j < l.length by omega)
    generalize l.getD j dPar = x at hat
    have heq := eqs_p ⟨x.name.toArray⟩ ⟨x.text.toArray⟩ x.kind x.num
    simp only [parC] at hat
    simp -dsimp (disch := first | rfl | omega) only [r58_4, r58_5, r58_7, hat, hrl, e0, ej, heq, ne_eq, not_true_eq_false, ↓vmP, vm0, vm1, vm2, vm3, vm4, vm5, vm6, vm7, vm8, vm9, vm10, vm11, vm12, vm13, vm14, vm15, vmC, vmN, Nat.reduceAdd, Nat.reduceMul, Nat.reduceSub, Nat.reduceEqDiff, Nat.reduceLT, Nat.reduceLeDiff, ↓reduceIte, Tg.isFull, Int.reduceToNat]
    refine regD_of (by kernel_rfl) ?_
    simp -dsimp (disch := first | rfl | omega) only [r58_7, ej, heq, ne_eq, not_true_eq_false, ↓vmP, vm0, vm1, vm2, vm3, vm4, vm5, vm6, vm7, vm8, vm9, vm10, vm11, vm12, vm13, vm14, vm15, vmC, vmN, Nat.reduceAdd, Nat.reduceMul, Nat.reduceSub, Nat.reduceEqDiff, Nat.reduceLT, Nat.reduceLeDiff, ↓reduceIte, Tg.isFull, Int.reduceToNat]
    rw [← hJ]
    exact ih (j + 1) _ (by omega) (by simp -dsimp (disch := first | rfl | omega) only [↓vmP, vm0, vm1, vm2, vm3, vm4, vm5, vm6, vm7, vm8, vm9, vm10, vm11, vm12, vm13, vm14, vm15, vmC, vmN, Nat.reduceAdd, Nat.reduceMul, Nat.reduceSub, Nat.reduceEqDiff, Nat.reduceLT, Nat.reduceLeDiff, ↓reduceIte, Tg.isFull, Int.reduceToNat]) hQ
theorem sPairs_eq (l : List Par) (hl : l.length ≤ 1000000) (z z2 : Nat) (hz : okSz 4 z (psD l) = true) (hz2 : okSz 4 z2 (psD l) = true) : runW false prog 58 [.d (.sl .any z (psD l)), .d (.sl .any z2 (psD l))] [] = some (.d (.bool true), [], []) := by
  refine run_of rfl ?_
  have hrl : (psD l).length = l.length := by simp [psD]
  have hz' : l ≠ [] → z = 4 := fun h => by
    cases l with
    | nil => exact absurd rfl h
    | cons x l => simpa [okSz, psD] using hz
  have hz2' : l ≠ [] → z2 = 4 := fun h => by
    cases l with
    | nil => exact absurd rfl h
    | cons x l => simpa [okSz, psD] using hz2
  simp -dsimp (disch := first | rfl | omega) only [r58_0, r58_1, r58_3, hrl, ne_eq, not_true_eq_false, ↓vmP, vm0, vm1, vm2, vm3, vm4, vm5, vm6, vm7, vm8, vm9, vm10, vm11, vm12, vm13, vm14, vm15, vmC, vmN, Nat.reduceAdd, Nat.reduceMul, Nat.reduceSub, Nat.reduceEqDiff, Nat.reduceLT, Nat.reduceLeDiff, ↓reduceIte, Tg.isFull, Int.reduceToNat]
  refine sPairs_loop l hl z z2 hz' hz2' l.length 0 _ (by omega) (by simp -dsimp (disch := first | rfl | omega) only [↓vmP, vm0, vm1, vm2, vm3, vm4, vm5, vm6, vm7, vm8, vm9, vm10, vm11, vm12, vm13, vm14, vm15, vmC, vmN, Nat.reduceAdd, Nat.reduceMul, Nat.reduceSub, Nat.reduceEqDiff, Nat.reduceLT, Nat.reduceLeDiff, ↓reduceIte, Tg.isFull, Int.reduceToNat]; rfl) (fun L => ?_)
  simp -dsimp (disch := first | rfl | omega) only [r58_9, ↓vmP, vm0, vm1, vm2, vm3, vm4, vm5, vm6, vm7, vm8, vm9, vm10, vm11, vm12, vm13, vm14, vm15, vmC, vmN, Nat.reduceAdd, Nat.reduceMul, Nat.reduceSub, Nat.reduceEqDiff, Nat.reduceLT, Nat.reduceLeDiff, ↓reduceIte, Tg.isFull, Int.reduceToNat]
theorem pg_sPairs : prog 58 = some c58 := rfl
theorem sRec_eq (r : Rec) (hp : r.pairs.length ≤ 1000000) : runW false prog 27 [.agg (recA r), .agg (recA r)] [] = some (.d (.bool true), [], []) := by
  refine run_of rfl ?_
  have h1 := sPairs_eq r.pairs hp (pz r.pairs) (pz r.pairs) (pz_ok _) (pz_ok _)
  simp -dsimp (disch := first | rfl | omega) only [recA, r27_0, r27_1, callW_fn pg_sPairs, h1, ↓vmP, vm0, vm1, vm2, vm3, vm4, vm5, vm6, vm7, vm8, vm9, vm10, vm11, vm12, vm13, vm14, vm15, vmC, vmN, Nat.reduceAdd, Nat.reduceMul, Nat.reduceSub, Nat.reduceEqDiff, Nat.reduceLT, Nat.reduceLeDiff, ↓reduceIte, Tg.isFull, Int.reduceToNat]
theorem pg_sRec : prog 27 = some c27 := rfl
set_option maxRecDepth 20000 in
theorem sRecs_loop {Q : Ex → St → Prop} (l : List Rec) (hp : ∀ r ∈ l, r.pairs.length ≤ 1000000) (hl : l.length ≤ 1000000) (z z2 : Nat) (hz : l ≠ [] → z = 4) (hz2 : l ≠ [] → z2 = 4) : ∀ (k j : Nat) (s : St), j + k = l.length →
    gc [(0, none), (1, none), (5, none)] s = ⟨gS [(0, .d (.sl .any z (recs l))), (1, .d (.sl .any z2 (recs l))), (5, .d (.int .i64 j))], gH [], 0, 0, []⟩ →
    (∀ L, Q (.exit 0) ⟨gS L, gH [], 32, 0, []⟩) → wpW false prog (.loop [(0, none), (1, none), (5, none)] l42_8) s Q := by
  intro k
  induction k with
  | zero =>
    intro j s hj hg hQ
    refine wp_loop1 ?_
    rw [hg]
    generalize hJ : (fun s' => wpW false prog (.loop [(0, none), (1, none), (5, none)] l42_8) s' Q) = J
    unfold l42_8
    have hrl : (recs l).length = l.length := by simp [recs]
    have e0 : ((j : Int) < l.length) = False := eq_false (by omega)
    simp -dsimp (disch := first | rfl | omega) only [r42_4, hrl, e0, ↓vmP, vm0, vm1, vm2, vm3, vm4, vm5, vm6, vm7, vm8, vm9, vm10, vm11, vm12, vm13, vm14, vm15, vmC, vmN, Nat.reduceAdd, Nat.reduceMul, Nat.reduceSub, Nat.reduceEqDiff, Nat.reduceLT, Nat.reduceLeDiff, ↓reduceIte, Tg.isFull, Int.reduceToNat]
    exact hQ _
  | succ k ih =>
    intro j s hj hg hQ
    refine wp_loop1 ?_
    rw [hg]
    generalize hJ : (fun s' => wpW false prog (.loop [(0, none), (1, none), (5, none)] l42_8) s' Q) = J
    unfold l42_8
    have e0 : ((j : Int) < l.length) = True := eq_true (by omega)
    have ej : ((j : Int) + 1) = ((j + 1 : Nat) : Int) := by omega
    have hne : l ≠ [] := fun h => by rw [h] at hj; simp at hj
    have hz' := hz hne
    have hz2' := hz2 hne
    subst hz' hz2'
    have hrl : (recs l).length = l.length := by simp [recs]
    have hat := recs_at l (show j < l.length by omega)
    have hmem : l.getD j dRec ∈ l := by
      rw [List.getD_eq_getElem?_getD, List.getElem?_eq_getElem (by omega)]; exact List.getElem_mem _
    have hpr := hp _ hmem
    generalize l.getD j dRec = x at hat hpr
    have heq := sRec_eq x hpr
    simp only [recC] at hat
    simp only [recA] at heq
    simp -dsimp (disch := first | rfl | omega) only [r42_4, r42_5, r42_7, hat, hrl, e0, ej, callW_fn pg_sRec, heq, ne_eq, not_true_eq_false, ↓vmP, vm0, vm1, vm2, vm3, vm4, vm5, vm6, vm7, vm8, vm9, vm10, vm11, vm12, vm13, vm14, vm15, vmC, vmN, Nat.reduceAdd, Nat.reduceMul, Nat.reduceSub, Nat.reduceEqDiff, Nat.reduceLT, Nat.reduceLeDiff, ↓reduceIte, Tg.isFull, Int.reduceToNat]
    refine regD_of (by kernel_rfl) ?_
    simp -dsimp (disch := first | rfl | omega) only [r42_7, ej, callW_fn pg_sRec, heq, ne_eq, not_true_eq_false, ↓vmP, vm0, vm1, vm2, vm3, vm4, vm5, vm6, vm7, vm8, vm9, vm10, vm11, vm12, vm13, vm14, vm15, vmC, vmN, Nat.reduceAdd, Nat.reduceMul, Nat.reduceSub, Nat.reduceEqDiff, Nat.reduceLT, Nat.reduceLeDiff, ↓reduceIte, Tg.isFull, Int.reduceToNat]
    rw [← hJ]
    exact ih (j + 1) _ (by omega) (by simp -dsimp (disch := first | rfl | omega) only [↓vmP, vm0, vm1, vm2, vm3, vm4, vm5, vm6, vm7, vm8, vm9, vm10, vm11, vm12, vm13, vm14, vm15, vmC, vmN, Nat.reduceAdd, Nat.reduceMul, Nat.reduceSub, Nat.reduceEqDiff, Nat.reduceLT, Nat.reduceLeDiff, ↓reduceIte, Tg.isFull, Int.reduceToNat]) hQ
theorem sRecs_eq (l : List Rec) (hp : ∀ r ∈ l, r.pairs.length ≤ 1000000) (hl : l.length ≤ 1000000) (z z2 : Nat) (hz : okSz 4 z (recs l) = true) (hz2 : okSz 4 z2 (recs l) = true) : runW false prog 42 [.d (.sl .any z (recs l)), .d (.sl .any z2 (recs l))] [] = some (.d (.bool true), [], []) := by
  refine run_of rfl ?_
  have hrl : (recs l).length = l.length := by simp [recs]
  have hz' : l ≠ [] → z = 4 := fun h => by
    cases l with
    | nil => exact absurd rfl h
    | cons x l => simpa [okSz, recs] using hz
  have hz2' : l ≠ [] → z2 = 4 := fun h => by
    cases l with
    | nil => exact absurd rfl h
    | cons x l => simpa [okSz, recs] using hz2
  simp -dsimp (disch := first | rfl | omega) only [r42_0, r42_1, r42_3, hrl, ne_eq, not_true_eq_false, ↓vmP, vm0, vm1, vm2, vm3, vm4, vm5, vm6, vm7, vm8, vm9, vm10, vm11, vm12, vm13, vm14, vm15, vmC, vmN, Nat.reduceAdd, Nat.reduceMul, Nat.reduceSub, Nat.reduceEqDiff, Nat.reduceLT, Nat.reduceLeDiff, ↓reduceIte, Tg.isFull, Int.reduceToNat]
  refine sRecs_loop l hp hl z z2 hz' hz2' l.length 0 _ (by omega) (by simp -dsimp (disch := first | rfl | omega) only [↓vmP, vm0, vm1, vm2, vm3, vm4, vm5, vm6, vm7, vm8, vm9, vm10, vm11, vm12, vm13, vm14, vm15, vmC, vmN, Nat.reduceAdd, Nat.reduceMul, Nat.reduceSub, Nat.reduceEqDiff, Nat.reduceLT, Nat.reduceLeDiff, ↓reduceIte, Tg.isFull, Int.reduceToNat]; rfl) (fun L => ?_)
  simp -dsimp (disch := first | rfl | omega) only [r42_9, ↓vmP, vm0, vm1, vm2, vm3, vm4, vm5, vm6, vm7, vm8, vm9, vm10, vm11, vm12, vm13, vm14, vm15, vmC, vmN, Nat.reduceAdd, Nat.reduceMul, Nat.reduceSub, Nat.reduceEqDiff, Nat.reduceLT, Nat.reduceLeDiff, ↓reduceIte, Tg.isFull, Int.reduceToNat]
theorem pg_sRecs : prog 42 = some c42 := rfl
end Go.Vm.Bk
