/- A part of the proof of WireBackUptoSaid: YthojpjhnhipfpaaFo. -/
import Derived.Test.YthojpjhnhipfpaaKFn
/- The bytes of a message read by the program. -/
set_option linter.unusedVariables false
set_option linter.unusedSimpArgs false
set_option maxHeartbeats 1000000
namespace Go.Vm.Wr
theorem rd_le : ∀ {l : List UInt8} {i acc n k : Nat}, rd l i acc = some (n, k) → i < k ∧ k ≤ i + l.length
  | [], i, acc, n, k, h => by simp [rd] at h
  | c :: l, i, acc, n, k, h => by
    simp only [rd] at h
    split at h
    · cases h
    · split at h
      · cases h; simp
      · have := rd_le h; simp only [List.length_cons]; omega
theorem pgNum : prog 66 = some c66 := rfl
def nmR (l : List UInt8) : Option (Nat × Nat) → A
  | some (n, k) => .tup [.d (.int .i64 n), .d (.sl .any 1 (u8s (l.drop k))), .d (.bool true)]
  | none => .tup [.d (.int .i64 0), .d (.sl .any 1 (u8s l)), .d (.bool false)]
theorem number_eq (l : List UInt8) (hl : l.length ≤ 9223372036854775807) : runW false prog 63 [.d (.sl .any 1 (u8s l))] [] = some (nmR l (rd l 0 0), [], []) := by
  refine run_of rfl ?_
  have h1 := Num_eq l hl
  cases hr : rd l 0 0 with
  | none =>
    rw [hr] at h1
    simp only [rdR] at h1
    simp -dsimp (disch := first | rfl | omega) only [r63_0, r63_1, r63_2, callW_fn pgNum, h1, ↓vmP, vm0, vm1, vm2, vm3, vm4, vm5, vm6, vm7, vm8, vm9, vm10, vm11, vm12, vm13, vm14, vm15, vmC, vmN, Nat.reduceAdd, Nat.reduceMul, Nat.reduceSub, Nat.reduceEqDiff, Nat.reduceLT, Nat.reduceLeDiff, ↓reduceIte, Tg.isFull, Int.reduceToNat]
    refine regD_of (by kernel_rfl) ?_
    simp -dsimp (disch := first | rfl | omega) only [nmR, List.take_length, ↓vmP, vm0, vm1, vm2, vm3, vm4, vm5, vm6, vm7, vm8, vm9, vm10, vm11, vm12, vm13, vm14, vm15, vmC, vmN, Nat.reduceAdd, Nat.reduceMul, Nat.reduceSub, Nat.reduceEqDiff, Nat.reduceLT, Nat.reduceLeDiff, ↓reduceIte, Tg.isFull, Int.reduceToNat]
  | some p =>
    obtain ⟨n, k⟩ := p
    rw [hr] at h1
    simp only [rdR] at h1
    have hk := rd_le hr
    have hkl : k ≤ l.length := by omega
    simp -dsimp (disch := first | rfl | omega) only [r63_0, r63_1, r63_2, callW_fn pgNum, h1, ↓vmP, vm0, vm1, vm2, vm3, vm4, vm5, vm6, vm7, vm8, vm9, vm10, vm11, vm12, vm13, vm14, vm15, vmC, vmN, Nat.reduceAdd, Nat.reduceMul, Nat.reduceSub, Nat.reduceEqDiff, Nat.reduceLT, Nat.reduceLeDiff, ↓reduceIte, Tg.isFull, Int.reduceToNat]
    refine regD_of (by kernel_rfl) ?_
    simp -dsimp (disch := first | rfl | omega) only [nmR, ↓vmP, vm0, vm1, vm2, vm3, vm4, vm5, vm6, vm7, vm8, vm9, vm10, vm11, vm12, vm13, vm14, vm15, vmC, vmN, Nat.reduceAdd, Nat.reduceMul, Nat.reduceSub, Nat.reduceEqDiff, Nat.reduceLT, Nat.reduceLeDiff, ↓reduceIte, Tg.isFull, Int.reduceToNat]
/-- One field read from bytes. -/
def fst1 (f : Int) (b : List UInt8) (m : Msg) : Option (Msg × List UInt8) :=
  if f = 1 then (if b.length = 0 then none else if b.length < (b.getD 0 0).toNat + 1 then none else some ({ m with host := (b.drop 1).take (b.getD 0 0).toNat }, b.drop ((b.getD 0 0).toNat + 1)))
  else if f = 2 then (match rd b 0 0 with | none => none | some p => some ({ m with epoch := p.1 }, b.drop p.2))
  else if f = 3 then (match rd b 0 0 with | none => none | some p => some ({ m with seq := p.1 }, b.drop p.2))
  else if f = 4 then (match rd b 0 0 with | none => none | some p => some ({ m with to := p.1 }, b.drop p.2))
  else some ({ m with body := b, tg := .any, bz := 1 }, [])
def prs : List Int → List UInt8 → Msg → Option (Msg × List UInt8)
  | [], b, m => some (m, b)
  | f :: fs, b, m => match fst1 f b m with
    | none => none
    | some p => prs fs p.2 p.1
theorem pgNm : prog 63 = some c63 := rfl
theorem pgClone : prog 58 = some c58 := rfl
def zC : List A := [.d (.int .i64 0), .d (.str ⟨⟨[]⟩⟩), .d (.int .i64 0), .d (.int .i64 0), .d (.int .i64 0), .d (.sl .nil 0 [])]
def bC (m : Msg) : List A := [.d (.int .i64 m.kind), .d (.str ⟨m.host.toArray⟩), .d (.int .i64 m.epoch), .d (.int .i64 m.seq), .d (.int .i64 m.to), .row 2]
theorem dl_loop {Q : Ex → St → Prop} (W : List UInt8) (fa : List Int) (y : Nat) (hfa : fa.length ≤ 10) (hf : ∀ f ∈ fa, f = 1 ∨ f = 2 ∨ f = 3 ∨ f = 4 ∨ f = 5) (h5 : ∀ i, i < fa.length → fa.getD i 0 = 5 → i + 1 = fa.length) (hy : fa ≠ [] → y = 1) : ∀ (k j : Nat) (m : Msg) (b : List UInt8) (s : St), j + k = fa.length → b.length ≤ 1000000 →
    gc [(0, none), (2, none), (4, none), (5, none), (7, none), (29, none), (30, none), (31, none)] s = ⟨gS [(0, .d (.sl .any 1 (u8s W))), (2, .ptr 0 0), (4, .d (.sl .any 1 (u8s b))), (5, .ptr 1 0), (7, .d (.bool true)), (29, .d (.sl .any y (i64s fa))), (30, .d (.int .i64 fa.length)), (31, .d (.int .i64 j))], gH [(0, .box zC), (1, .box (mC m))], 2, 0, []⟩ →
    (∀ m' b', prs (fa.drop j) b m = some (m', b') → 5 ∉ fa.drop j → ∀ t z T, Q (.exit 0) ⟨gS ((0, .d (.sl .any 1 (u8s W))) :: (2, .ptr 0 0) :: (4, .d (.sl t z (u8s b'))) :: (5, .ptr 1 0) :: (7, .d (.bool true)) :: T), gH [(0, .box zC), (1, .box (mC m'))], 10, 0, []⟩) →
    (∀ m' b', prs (fa.drop j) b m = some (m', b') → 5 ∈ fa.drop j → ∀ f T, Q (.exit 0) ⟨gS ((0, .d (.sl .any 1 (u8s W))) :: (2, .ptr 0 0) :: (4, .d (.sl .nil 0 [])) :: (5, .ptr 1 0) :: (7, .d (.bool true)) :: T), gH [(0, .box zC), (1, .box (bC m')), (2, .row 1 f (u8s m'.body))], 11, 0, []⟩) →
    (prs (fa.drop j) b m = none → (∀ x T H nx, Q (.exit 0) ⟨gS ((0, .d (.sl .any 1 (u8s W))) :: (2, .ptr 0 0) :: (4, x) :: (5, .ptr 1 0) :: (7, .d (.bool false)) :: T), gH ((0, .box zC) :: H), nx, 0, []⟩) ∧ (∀ T H nx, Q .ret ⟨gS ((2, .ptr 0 0) :: (3, .d (.bool false)) :: T), gH ((0, .box zC) :: H), nx, 0, []⟩)) →
    wpW false prog (.loop [(0, none), (2, none), (4, none), (5, none), (7, none), (29, none), (30, none), (31, none)] l59_24) s Q := by
  intro k
  induction k with
  | zero =>
    intro j m b s hj hb hg hQ hB hF
    refine wp_loop1 ?_
    rw [hg]
    generalize hJ : (fun s' => wpW false prog (.loop [(0, none), (2, none), (4, none), (5, none), (7, none), (29, none), (30, none), (31, none)] l59_24) s' Q) = J
    unfold l59_24
    have hj' : j = fa.length := by omega
    subst hj'
    rw [List.drop_length] at hQ
    have e0 : ((fa.length : Int) < fa.length) = False := eq_false (by omega)
    simp -dsimp (disch := first | rfl | omega) only [r59_6, e0, ↓vmP, vm0, vm1, vm2, vm3, vm4, vm5, vm6, vm7, vm8, vm9, vm10, vm11, vm12, vm13, vm14, vm15, vmC, vmN, Nat.reduceAdd, Nat.reduceMul, Nat.reduceSub, Nat.reduceEqDiff, Nat.reduceLT, Nat.reduceLeDiff, ↓reduceIte, Tg.isFull, Int.reduceToNat]
    exact hQ m b (by simp [prs]) (by simp) _ 1 _
  | succ k ih =>
    intro j m b s hj hb hg hQ hB hF
    have exitF : ∀ (ok' : Nat) (x : A) (m' : Msg) (s' : St), ok' = j + 1 → prs (fa.drop j) b m = none → gc [(0, none), (2, none), (4, none), (5, none), (7, none), (29, none), (30, none), (31, none)] s' = ⟨gS [(0, .d (.sl .any 1 (u8s W))), (2, .ptr 0 0), (4, x), (5, .ptr 1 0), (7, .d (.bool false)), (29, .d (.sl .any y (i64s fa))), (30, .d (.int .i64 fa.length)), (31, .d (.int .i64 ok'))], gH [(0, .box zC), (1, .box (mC m'))], 2, 0, []⟩ → wpW false prog (.loop [(0, none), (2, none), (4, none), (5, none), (7, none), (29, none), (30, none), (31, none)] l59_24) s' Q := fun ok' x m' s' hk hn hg' => by
      subst hk
      refine wp_loop1 ?_
      rw [hg']
      generalize hJ : (fun s' => wpW false prog (.loop [(0, none), (2, none), (4, none), (5, none), (7, none), (29, none), (30, none), (31, none)] l59_24) s' Q) = J
      unfold l59_24
      by_cases hl : j + 1 < fa.length
      · have e0 : (((j + 1 : Nat) : Int) < fa.length) = True := eq_true (by omega)
        have hat := i64s_at fa hl
        have hne : fa ≠ [] := fun h => by rw [h] at hl; simp at hl
        have hy1 := hy hne
        subst hy1
        simp -dsimp (disch := first | rfl | omega) only [r59_6, r59_7, r59_8, e0, i64s_len, hat, ↓vmP, vm0, vm1, vm2, vm3, vm4, vm5, vm6, vm7, vm8, vm9, vm10, vm11, vm12, vm13, vm14, vm15, vmC, vmN, Nat.reduceAdd, Nat.reduceMul, Nat.reduceSub, Nat.reduceEqDiff, Nat.reduceLT, Nat.reduceLeDiff, ↓reduceIte, Tg.isFull, Int.reduceToNat]
        exact (hF hn).1 _ _ _ _
      · have e0 : (((j + 1 : Nat) : Int) < fa.length) = False := eq_false (by omega)
        simp -dsimp (disch := first | rfl | omega) only [r59_6, e0, ↓vmP, vm0, vm1, vm2, vm3, vm4, vm5, vm6, vm7, vm8, vm9, vm10, vm11, vm12, vm13, vm14, vm15, vmC, vmN, Nat.reduceAdd, Nat.reduceMul, Nat.reduceSub, Nat.reduceEqDiff, Nat.reduceLT, Nat.reduceLeDiff, ↓reduceIte, Tg.isFull, Int.reduceToNat]
        exact (hF hn).1 _ _ _ _
    have exitB : ∀ (b' : List UInt8) (m' : Msg) (f : Bool) (s' : St), j + 1 = fa.length → prs (fa.drop j) b m = some ({ m' with body := b', tg := .any, bz := 1 }, []) → 5 ∈ fa.drop j → gc [(0, none), (2, none), (4, none), (5, none), (7, none), (29, none), (30, none), (31, none)] s' = ⟨gS [(0, .d (.sl .any 1 (u8s W))), (2, .ptr 0 0), (4, .d (.sl .nil 0 [])), (5, .ptr 1 0), (7, .d (.bool true)), (29, .d (.sl .any y (i64s fa))), (30, .d (.int .i64 fa.length)), (31, .d (.int .i64 (j + 1 : Nat)))], gH [(0, .box zC), (1, .box (bC m')), (2, .row 1 f (u8s b'))], 3, 0, []⟩ → wpW false prog (.loop [(0, none), (2, none), (4, none), (5, none), (7, none), (29, none), (30, none), (31, none)] l59_24) s' Q := fun b' m' f s' hk hn h5' hg' => by
      refine wp_loop1 ?_
      rw [hg']
      generalize hJ : (fun s' => wpW false prog (.loop [(0, none), (2, none), (4, none), (5, none), (7, none), (29, none), (30, none), (31, none)] l59_24) s' Q) = J
      unfold l59_24
      have e0 : (((j + 1 : Nat) : Int) < fa.length) = False := eq_false (by omega)
      simp -dsimp (disch := first | rfl | omega) only [r59_6, e0, ↓vmP, vm0, vm1, vm2, vm3, vm4, vm5, vm6, vm7, vm8, vm9, vm10, vm11, vm12, vm13, vm14, vm15, vmC, vmN, Nat.reduceAdd, Nat.reduceMul, Nat.reduceSub, Nat.reduceEqDiff, Nat.reduceLT, Nat.reduceLeDiff, ↓reduceIte, Tg.isFull, Int.reduceToNat]
      exact hB _ _ hn h5' f _
    refine wp_loop1 ?_
    rw [hg]
    generalize hJ : (fun s' => wpW false prog (.loop [(0, none), (2, none), (4, none), (5, none), (7, none), (29, none), (30, none), (31, none)] l59_24) s' Q) = J
    unfold l59_24
    have hne : fa ≠ [] := fun h => by rw [h] at hj; simp at hj
    have hy1 := hy hne
    subst hy1
    have e0 : ((j : Int) < fa.length) = True := eq_true (by omega)
    have ej : ((j : Int) + 1) = ((j + 1 : Nat) : Int) := by omega
    have hat := i64s_at fa (show j < fa.length by omega)
    have hdr : fa.drop j = fa.getD j 0 :: fa.drop (j + 1) := by
      rw [List.drop_eq_getElem_cons (by omega), List.getD_eq_getElem?_getD, List.getElem?_eq_getElem (by omega)]; rfl
    have hmem : fa.getD j 0 ∈ fa := by
      rw [List.getD_eq_getElem?_getD, List.getElem?_eq_getElem (by omega)]; exact List.getElem_mem _
    have hf1 := hf _ hmem
    have h5j := h5 j (by omega)
    have hlast : fa.getD j 0 ≠ 5 → (5 ∈ fa.drop j ↔ 5 ∈ fa.drop (j + 1)) := fun h => by rw [hdr]; simp; exact fun e => absurd e.symm h
    rw [hdr] at hQ hB hF exitF exitB hlast
    generalize fa.getD j 0 = f at hat hdr hQ hB hF hf1 h5j hlast exitF exitB
    simp only [prs] at hQ hB hF exitF exitB
    have next : f ≠ 5 → ∀ (m' : Msg) (b' : List UInt8) (s' : St), fst1 f b m = some (m', b') → b'.length ≤ b.length → gc [(0, none), (2, none), (4, none), (5, none), (7, none), (29, none), (30, none), (31, none)] s' = ⟨gS [(0, .d (.sl .any 1 (u8s W))), (2, .ptr 0 0), (4, .d (.sl .any 1 (u8s b'))), (5, .ptr 1 0), (7, .d (.bool true)), (29, .d (.sl .any 1 (i64s fa))), (30, .d (.int .i64 fa.length)), (31, .d (.int .i64 (j + 1 : Nat)))], gH [(0, .box zC), (1, .box (mC m'))], 2, 0, []⟩ → J s' := fun hne5 m' b' s' h1 h2 h3 => by
      rw [← hJ]
      rw [h1] at hQ hB hF
      simp only at hQ hB hF
      have hl5 := hlast hne5
      exact ih (j + 1) m' b' s' (by omega) (by omega) h3 (fun m2 b2 q1 q2 => hQ m2 b2 q1 (fun q => q2 (hl5.1 q))) (fun m2 b2 q1 q2 => hB m2 b2 q1 (hl5.2 q2)) hF
    rcases hf1 with rfl | rfl | rfl | rfl | rfl
    · have eb0 : b.length = 0 ∨ 0 < b.length := by omega
      rcases eb0 with eb | eb
      · have hn : fst1 1 b m = none := by simp [fst1, eb]
        rw [hn] at hF
        have e1 : ((b.length : Int) = 0) = True := eq_true (by omega)
        simp -dsimp (disch := first | rfl | omega) only [zC, r59_6, r59_7, r59_8, r59_9, r59_10, r59_11, r59_12, i64s_len, hat, e0, ej, e1, Int.reduceEq, ↓vmP, vm0, vm1, vm2, vm3, vm4, vm5, vm6, vm7, vm8, vm9, vm10, vm11, vm12, vm13, vm14, vm15, vmC, vmN, Nat.reduceAdd, Nat.reduceMul, Nat.reduceSub, Nat.reduceEqDiff, Nat.reduceLT, Nat.reduceLeDiff, ↓reduceIte, Tg.isFull, Int.reduceToNat]
        exact (hF rfl).2 _ _ _
      · have e1 : ((b.length : Int) = 0) = False := eq_false (by omega)
        have hb0 := u8s_at b (show 0 < b.length by omega)
        have hc := (b.getD 0 0).toNat_lt
        by_cases hlt : b.length < (b.getD 0 0).toNat + 1
        · have hn : fst1 1 b m = none := by simp only [fst1, if_true, if_neg (show ¬ b.length = 0 by omega), if_pos hlt]
          rw [hn] at hF
          generalize b.getD 0 0 = c at hb0 hc hlt
          have e2 : ((b.length : Int) < (c.toNat : Int) + 1) = True := eq_true (by omega)
          simp -dsimp (disch := first | rfl | omega) only [zC, r59_6, r59_7, r59_8, r59_9, r59_10, r59_11, r59_12, i64s_len, hat, hb0, e0, ej, e1, e2, Int.reduceEq, ↓vmP, vm0, vm1, vm2, vm3, vm4, vm5, vm6, vm7, vm8, vm9, vm10, vm11, vm12, vm13, vm14, vm15, vmC, vmN, Nat.reduceAdd, Nat.reduceMul, Nat.reduceSub, Nat.reduceEqDiff, Nat.reduceLT, Nat.reduceLeDiff, ↓reduceIte, Tg.isFull, Int.reduceToNat]
          exact (hF rfl).2 _ _ _
        · have hs : fst1 1 b m = some ({ m with host := (b.drop 1).take (b.getD 0 0).toNat }, b.drop ((b.getD 0 0).toNat + 1)) := by simp only [fst1, if_true, if_neg (show ¬ b.length = 0 by omega), if_neg hlt]
          generalize b.getD 0 0 = c at hb0 hc hlt hs
          have e2 : ((b.length : Int) < (c.toNat : Int) + 1) = False := eq_false (by omega)
          have ec : ((c.toNat : Int) + 1) = ((c.toNat + 1 : Nat) : Int) := by omega
          rw [ec] at e2
          have hcl : c.toNat + 1 ≤ b.length := by omega
          simp -dsimp (disch := first | rfl | omega) only [mC, zC, r59_6, r59_7, r59_8, r59_9, r59_10, r59_11, r59_13, r59_14, r59_23, i64s_len, hat, hb0, e0, ej, e1, e2, ec, Int.reduceEq, ↓vmP, vm0, vm1, vm2, vm3, vm4, vm5, vm6, vm7, vm8, vm9, vm10, vm11, vm12, vm13, vm14, vm15, vmC, vmN, Nat.reduceAdd, Nat.reduceMul, Nat.reduceSub, Nat.reduceEqDiff, Nat.reduceLT, Nat.reduceLeDiff, ↓reduceIte, Tg.isFull, Int.reduceToNat]
          refine regD_of (by kernel_rfl) ?_
          simp -dsimp (disch := first | rfl | omega) only [↓vmP, vm0, vm1, vm2, vm3, vm4, vm5, vm6, vm7, vm8, vm9, vm10, vm11, vm12, vm13, vm14, vm15, vmC, vmN, Nat.reduceAdd, Nat.reduceMul, Nat.reduceSub, Nat.reduceEqDiff, Nat.reduceLT, Nat.reduceLeDiff, ↓reduceIte, Tg.isFull, Int.reduceToNat]
          exact next (by decide) _ _ _ hs (by simp) (by simp -dsimp (disch := first | rfl | omega) only [mC, zC, ej, ↓vmP, vm0, vm1, vm2, vm3, vm4, vm5, vm6, vm7, vm8, vm9, vm10, vm11, vm12, vm13, vm14, vm15, vmC, vmN, Nat.reduceAdd, Nat.reduceMul, Nat.reduceSub, Nat.reduceEqDiff, Nat.reduceLT, Nat.reduceLeDiff, ↓reduceIte, Tg.isFull, Int.reduceToNat])
    · have hN := number_eq b (by omega)
      cases hr : rd b 0 0 with
      | none =>
        have hn : fst1 2 b m = none := by simp [fst1, hr]
        rw [hn] at exitF
        rw [hr] at hN
        simp only [nmR] at hN
        simp -dsimp (disch := first | rfl | omega) only [mC, zC, r59_6, r59_7, r59_8, r59_9, r59_10, r59_15, r59_16, r59_23, callW_fn pgNm, hN, i64s_len, hat, e0, ej, Int.reduceEq, ↓vmP, vm0, vm1, vm2, vm3, vm4, vm5, vm6, vm7, vm8, vm9, vm10, vm11, vm12, vm13, vm14, vm15, vmC, vmN, Nat.reduceAdd, Nat.reduceMul, Nat.reduceSub, Nat.reduceEqDiff, Nat.reduceLT, Nat.reduceLeDiff, ↓reduceIte, Tg.isFull, Int.reduceToNat]
        rw [← hJ]
        exact exitF (j + 1) _ { m with epoch := 0 } _ rfl rfl (by simp -dsimp (disch := first | rfl | omega) only [mC, zC, ↓vmP, vm0, vm1, vm2, vm3, vm4, vm5, vm6, vm7, vm8, vm9, vm10, vm11, vm12, vm13, vm14, vm15, vmC, vmN, Nat.reduceAdd, Nat.reduceMul, Nat.reduceSub, Nat.reduceEqDiff, Nat.reduceLT, Nat.reduceLeDiff, ↓reduceIte, Tg.isFull, Int.reduceToNat]; try rfl)
      | some p =>
        obtain ⟨n, k⟩ := p
        have hs : fst1 2 b m = some ({ m with epoch := n }, b.drop k) := by simp [fst1, hr]
        rw [hr] at hN
        simp only [nmR] at hN
        simp -dsimp (disch := first | rfl | omega) only [mC, zC, r59_6, r59_7, r59_8, r59_9, r59_10, r59_15, r59_16, r59_23, callW_fn pgNm, hN, i64s_len, hat, e0, ej, Int.reduceEq, ↓vmP, vm0, vm1, vm2, vm3, vm4, vm5, vm6, vm7, vm8, vm9, vm10, vm11, vm12, vm13, vm14, vm15, vmC, vmN, Nat.reduceAdd, Nat.reduceMul, Nat.reduceSub, Nat.reduceEqDiff, Nat.reduceLT, Nat.reduceLeDiff, ↓reduceIte, Tg.isFull, Int.reduceToNat]
        exact next (by decide) _ _ _ hs (by simp) (by simp -dsimp (disch := first | rfl | omega) only [mC, zC, ↓vmP, vm0, vm1, vm2, vm3, vm4, vm5, vm6, vm7, vm8, vm9, vm10, vm11, vm12, vm13, vm14, vm15, vmC, vmN, Nat.reduceAdd, Nat.reduceMul, Nat.reduceSub, Nat.reduceEqDiff, Nat.reduceLT, Nat.reduceLeDiff, ↓reduceIte, Tg.isFull, Int.reduceToNat])
    · have hN := number_eq b (by omega)
      cases hr : rd b 0 0 with
      | none =>
        have hn : fst1 3 b m = none := by simp [fst1, hr]
        rw [hn] at exitF
        rw [hr] at hN
        simp only [nmR] at hN
        simp -dsimp (disch := first | rfl | omega) only [mC, zC, r59_6, r59_7, r59_8, r59_9, r59_10, r59_15, r59_17, r59_18, r59_23, callW_fn pgNm, hN, i64s_len, hat, e0, ej, Int.reduceEq, ↓vmP, vm0, vm1, vm2, vm3, vm4, vm5, vm6, vm7, vm8, vm9, vm10, vm11, vm12, vm13, vm14, vm15, vmC, vmN, Nat.reduceAdd, Nat.reduceMul, Nat.reduceSub, Nat.reduceEqDiff, Nat.reduceLT, Nat.reduceLeDiff, ↓reduceIte, Tg.isFull, Int.reduceToNat]
        rw [← hJ]
        exact exitF (j + 1) _ { m with seq := 0 } _ rfl rfl (by simp -dsimp (disch := first | rfl | omega) only [mC, zC, ↓vmP, vm0, vm1, vm2, vm3, vm4, vm5, vm6, vm7, vm8, vm9, vm10, vm11, vm12, vm13, vm14, vm15, vmC, vmN, Nat.reduceAdd, Nat.reduceMul, Nat.reduceSub, Nat.reduceEqDiff, Nat.reduceLT, Nat.reduceLeDiff, ↓reduceIte, Tg.isFull, Int.reduceToNat]; try rfl)
      | some p =>
        obtain ⟨n, k⟩ := p
        have hs : fst1 3 b m = some ({ m with seq := n }, b.drop k) := by simp [fst1, hr]
        rw [hr] at hN
        simp only [nmR] at hN
        simp -dsimp (disch := first | rfl | omega) only [mC, zC, r59_6, r59_7, r59_8, r59_9, r59_10, r59_15, r59_17, r59_18, r59_23, callW_fn pgNm, hN, i64s_len, hat, e0, ej, Int.reduceEq, ↓vmP, vm0, vm1, vm2, vm3, vm4, vm5, vm6, vm7, vm8, vm9, vm10, vm11, vm12, vm13, vm14, vm15, vmC, vmN, Nat.reduceAdd, Nat.reduceMul, Nat.reduceSub, Nat.reduceEqDiff, Nat.reduceLT, Nat.reduceLeDiff, ↓reduceIte, Tg.isFull, Int.reduceToNat]
        exact next (by decide) _ _ _ hs (by simp) (by simp -dsimp (disch := first | rfl | omega) only [mC, zC, ↓vmP, vm0, vm1, vm2, vm3, vm4, vm5, vm6, vm7, vm8, vm9, vm10, vm11, vm12, vm13, vm14, vm15, vmC, vmN, Nat.reduceAdd, Nat.reduceMul, Nat.reduceSub, Nat.reduceEqDiff, Nat.reduceLT, Nat.reduceLeDiff, ↓reduceIte, Tg.isFull, Int.reduceToNat])
    · have hN := number_eq b (by omega)
      cases hr : rd b 0 0 with
      | none =>
        have hn : fst1 4 b m = none := by simp [fst1, hr]
        rw [hn] at exitF
        rw [hr] at hN
        simp only [nmR] at hN
        simp -dsimp (disch := first | rfl | omega) only [mC, zC, r59_6, r59_7, r59_8, r59_9, r59_10, r59_15, r59_17, r59_19, r59_20, r59_23, callW_fn pgNm, hN, i64s_len, hat, e0, ej, Int.reduceEq, ↓vmP, vm0, vm1, vm2, vm3, vm4, vm5, vm6, vm7, vm8, vm9, vm10, vm11, vm12, vm13, vm14, vm15, vmC, vmN, Nat.reduceAdd, Nat.reduceMul, Nat.reduceSub, Nat.reduceEqDiff, Nat.reduceLT, Nat.reduceLeDiff, ↓reduceIte, Tg.isFull, Int.reduceToNat]
        rw [← hJ]
        exact exitF (j + 1) _ { m with to := 0 } _ rfl rfl (by simp -dsimp (disch := first | rfl | omega) only [mC, zC, ↓vmP, vm0, vm1, vm2, vm3, vm4, vm5, vm6, vm7, vm8, vm9, vm10, vm11, vm12, vm13, vm14, vm15, vmC, vmN, Nat.reduceAdd, Nat.reduceMul, Nat.reduceSub, Nat.reduceEqDiff, Nat.reduceLT, Nat.reduceLeDiff, ↓reduceIte, Tg.isFull, Int.reduceToNat]; try rfl)
      | some p =>
        obtain ⟨n, k⟩ := p
        have hs : fst1 4 b m = some ({ m with to := n }, b.drop k) := by simp [fst1, hr]
        rw [hr] at hN
        simp only [nmR] at hN
        simp -dsimp (disch := first | rfl | omega) only [mC, zC, r59_6, r59_7, r59_8, r59_9, r59_10, r59_15, r59_17, r59_19, r59_20, r59_23, callW_fn pgNm, hN, i64s_len, hat, e0, ej, Int.reduceEq, ↓vmP, vm0, vm1, vm2, vm3, vm4, vm5, vm6, vm7, vm8, vm9, vm10, vm11, vm12, vm13, vm14, vm15, vmC, vmN, Nat.reduceAdd, Nat.reduceMul, Nat.reduceSub, Nat.reduceEqDiff, Nat.reduceLT, Nat.reduceLeDiff, ↓reduceIte, Tg.isFull, Int.reduceToNat]
        exact next (by decide) _ _ _ hs (by simp) (by simp -dsimp (disch := first | rfl | omega) only [mC, zC, ↓vmP, vm0, vm1, vm2, vm3, vm4, vm5, vm6, vm7, vm8, vm9, vm10, vm11, vm12, vm13, vm14, vm15, vmC, vmN, Nat.reduceAdd, Nat.reduceMul, Nat.reduceSub, Nat.reduceEqDiff, Nat.reduceLT, Nat.reduceLeDiff, ↓reduceIte, Tg.isFull, Int.reduceToNat])
    · have hjl := h5j rfl
      have hnil : fa.drop (j + 1) = [] := by rw [hjl]; exact List.drop_length ..
      simp -dsimp (disch := first | rfl | omega) only [mC, zC, r59_6, r59_7, r59_8, r59_9, r59_10, r59_15, r59_17, r59_19, r59_21, r59_22, r59_23, callW_cl pgClone, i64s_len, hat, e0, ej, Int.reduceEq, ↓vmP, vm0, vm1, vm2, vm3, vm4, vm5, vm6, vm7, vm8, vm9, vm10, vm11, vm12, vm13, vm14, vm15, vmC, vmN, Nat.reduceAdd, Nat.reduceMul, Nat.reduceSub, Nat.reduceEqDiff, Nat.reduceLT, Nat.reduceLeDiff, ↓reduceIte, Tg.isFull, Int.reduceToNat]
      rw [← hJ]
      exact exitB b m false _ hjl (by rw [hnil]; simp [fst1, prs]) (by simp) (by simp -dsimp (disch := first | rfl | omega) only [mC, zC, bC, ↓vmP, vm0, vm1, vm2, vm3, vm4, vm5, vm6, vm7, vm8, vm9, vm10, vm11, vm12, vm13, vm14, vm15, vmC, vmN, Nat.reduceAdd, Nat.reduceMul, Nat.reduceSub, Nat.reduceEqDiff, Nat.reduceLT, Nat.reduceLeDiff, ↓reduceIte, Tg.isFull, Int.reduceToNat]; try rfl)
end Go.Vm.Wr
