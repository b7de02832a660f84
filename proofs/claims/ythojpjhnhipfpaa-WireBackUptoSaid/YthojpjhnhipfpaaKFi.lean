/- A part of the proof of WireBackUptoSaid: YthojpjhnhipfpaaFi. -/
import Derived.Test.YthojpjhnhipfpaaKFh
/- The bytes of a message, by the program. -/
set_option linter.unusedVariables false
set_option linter.unusedSimpArgs false
set_option maxHeartbeats 1000000
namespace Go.Vm.Wr
/-- The bytes of a field. -/
def fbs (m : Msg) (f : Int) : List UInt8 :=
  if f = 1 then UInt8.ofNat m.host.length :: m.host else if f = 2 then vb m.epoch.toNat else if f = 3 then vb m.seq.toNat else if f = 4 then vb m.to.toNat else m.body
def fbl (m : Msg) : List Int → List UInt8
  | [] => []
  | f :: fs => fbs m f ++ fbl m fs
/-- What a message with valid fields has. -/
structure Nums (m : Msg) (fs : List Int) : Prop where
  h : m.host.length ≤ 1000
  e : 2 ∈ fs → 0 ≤ m.epoch ∧ m.epoch ≤ 1099511627776
  s : 3 ∈ fs → 0 ≤ m.seq ∧ m.seq ≤ 1099511627776
  t : 4 ∈ fs → 0 ≤ m.to ∧ m.to ≤ 1099511627776
  b : 5 ∈ fs → m.body.length ≤ 16320
  z : okSz 1 m.bz (u8s m.body) = true
theorem pgANr : prog 46 = some c46 := rfl
theorem pgValid : prog 26 = some c26 := rfl
theorem byteCells_of (l : List UInt8) : byteCells ({ data := l.toArray } : ByteArray) = u8s l := by
  simp [byteCells, u8s]
theorem en_loop {Q : Ex → St → Prop} (m : Msg) (fa : List Int) (z : Nat) (hfa : fa.length ≤ 10) (hf : ∀ f ∈ fa, f = 1 ∨ f = 2 ∨ f = 3 ∨ f = 4 ∨ f = 5) (hz : fa ≠ [] → z = 1) (hN : Nums m fa) : ∀ (k j : Nat) (out : List UInt8) (fl : Bool) (s : St), j + k = fa.length → out.length ≤ 100 + 20000 * j →
    gc [(1, none), (4, some 1), (18, none), (19, none), (20, none)] s = ⟨gS [(1, .ptr 0 0), (4, .row 1), (18, .d (.sl .any z (i64s fa))), (19, .d (.int .i64 fa.length)), (20, .d (.int .i64 j))], gH [(0, .box (mC m)), (1, .row 1 fl (u8s out))], 2, 0, []⟩ →
    (∀ fl T, Q (.exit 0) ⟨gS ((1, .ptr 0 0) :: (4, .row 1) :: T), gH [(0, .box (mC m)), (1, .row 1 fl (u8s (out ++ fbl m (fa.drop j))))], 10, 0, []⟩) →
    wpW false prog (.loop [(1, none), (4, some 1), (18, none), (19, none), (20, none)] l17_19) s Q := by
  intro k
  induction k with
  | zero =>
    intro j out fl s hj ho hg hQ
    refine wp_loop1 ?_
    rw [hg]
    generalize hJ : (fun s' => wpW false prog (.loop [(1, none), (4, some 1), (18, none), (19, none), (20, none)] l17_19) s' Q) = J
    unfold l17_19
    have hj' : j = fa.length := by omega
    subst hj'
    have e0 : ((fa.length : Int) < fa.length) = False := eq_false (by omega)
    rw [List.drop_length] at hQ
    simp only [fbl, List.append_nil] at hQ
    simp -dsimp (disch := first | rfl | omega) only [r17_5, e0, ↓vmP, vm0, vm1, vm2, vm3, vm4, vm5, vm6, vm7, vm8, vm9, vm10, vm11, vm12, vm13, vm14, vm15, vmC, vmN, Nat.reduceAdd, Nat.reduceMul, Nat.reduceSub, Nat.reduceEqDiff, Nat.reduceLT, Nat.reduceLeDiff, ↓reduceIte, Tg.isFull, Int.reduceToNat]
    exact hQ fl _
  | succ k ih =>
    intro j out fl s hj ho hg hQ
    refine wp_loop1 ?_
    rw [hg]
    generalize hJ : (fun s' => wpW false prog (.loop [(1, none), (4, some 1), (18, none), (19, none), (20, none)] l17_19) s' Q) = J
    unfold l17_19
    have hne : fa ≠ [] := fun h => by rw [h] at hj; simp at hj
    have hz1 := hz hne
    subst hz1
    have e0 : ((j : Int) < fa.length) = True := eq_true (by omega)
    have ej : ((j : Int) + 1) = ((j + 1 : Nat) : Int) := by omega
    have hat := i64s_at fa (show j < fa.length by omega)
    have hdr : fa.drop j = fa.getD j 0 :: fa.drop (j + 1) := by
      rw [List.drop_eq_getElem_cons (by omega), List.getD_eq_getElem?_getD, List.getElem?_eq_getElem (by omega)]; rfl
    have hmem : fa.getD j 0 ∈ fa := by
      rw [List.getD_eq_getElem?_getD, List.getElem?_eq_getElem (by omega)]; exact List.getElem_mem _
    have hf1 := hf _ hmem
    rw [hdr] at hQ
    generalize fa.getD j 0 = f at hat hdr hQ hf1 hmem
    simp only [fbl] at hQ
    have next : ∀ (out' : List UInt8) (s' : St), out' = out ++ fbs m f → out'.length ≤ 100 + 20000 * (j + 1) →
        gc [(1, none), (4, some 1), (18, none), (19, none), (20, none)] s' = ⟨gS [(1, .ptr 0 0), (4, .row 1), (18, .d (.sl .any 1 (i64s fa))), (19, .d (.int .i64 fa.length)), (20, .d (.int .i64 (j + 1 : Nat)))], gH [(0, .box (mC m)), (1, .row 1 false (u8s out'))], 2, 0, []⟩ → J s' := fun out' s' h1 h2 h3 => by
      rw [← hJ]
      refine ih (j + 1) out' false s' (by omega) h2 h3 (fun fl T => ?_)
      have := hQ fl T
      rw [← List.append_assoc, ← h1] at this
      exact this
    have hh := hN.h
    have hvb := vb_len
    rcases hf1 with rfl | rfl | rfl | rfl | rfl
    · simp -dsimp (disch := first | rfl | omega) only [mC, r17_5, r17_6, r17_7, r17_8, r17_9, i64s_len, hat, e0, ej, bsz, byteCells_of, Int.reduceEq, ↓vmP, vm0, vm1, vm2, vm3, vm4, vm5, vm6, vm7, vm8, vm9, vm10, vm11, vm12, vm13, vm14, vm15, vmC, vmN, Nat.reduceAdd, Nat.reduceMul, Nat.reduceSub, Nat.reduceEqDiff, Nat.reduceLT, Nat.reduceLeDiff, ↓reduceIte, Tg.isFull, Int.reduceToNat]
      refine regD_of (by kernel_rfl) ?_
      simp -dsimp (disch := first | rfl | omega) only [mC, r17_18, i64s_len, hat, e0, ej, bsz, byteCells_of, Int.reduceEq, ↓vmP, vm0, vm1, vm2, vm3, vm4, vm5, vm6, vm7, vm8, vm9, vm10, vm11, vm12, vm13, vm14, vm15, vmC, vmN, Nat.reduceAdd, Nat.reduceMul, Nat.reduceSub, Nat.reduceEqDiff, Nat.reduceLT, Nat.reduceLeDiff, ↓reduceIte, Tg.isFull, Int.reduceToNat]
      exact next (out ++ [UInt8.ofNat m.host.length] ++ m.host) _ (by simp [fbs]) (by simp; omega) (by simp -dsimp (disch := first | rfl | omega) only [mC, i64s_len, ↓vmP, vm0, vm1, vm2, vm3, vm4, vm5, vm6, vm7, vm8, vm9, vm10, vm11, vm12, vm13, vm14, vm15, vmC, vmN, Nat.reduceAdd, Nat.reduceMul, Nat.reduceSub, Nat.reduceEqDiff, Nat.reduceLT, Nat.reduceLeDiff, ↓reduceIte, Tg.isFull, Int.reduceToNat])
    · have hr := hN.e hmem
      obtain ⟨n, hn⟩ : ∃ n : Nat, m.epoch = n := ⟨m.epoch.toNat, by omega⟩
      have h1 := AN_row n (by omega) out (by omega) fl
      have hv := vb_len n (by omega)
      have hfb : fbs m 2 = vb n := by simp [fbs, hn]
      simp -dsimp (disch := first | rfl | omega) only [mC, r17_5, r17_6, r17_7, r17_8, r17_10, r17_11, r17_18, callW_fn pgANr, h1, hn, i64s_len, hat, e0, ej, Int.reduceEq, ↓vmP, vm0, vm1, vm2, vm3, vm4, vm5, vm6, vm7, vm8, vm9, vm10, vm11, vm12, vm13, vm14, vm15, vmC, vmN, Nat.reduceAdd, Nat.reduceMul, Nat.reduceSub, Nat.reduceEqDiff, Nat.reduceLT, Nat.reduceLeDiff, ↓reduceIte, Tg.isFull, Int.reduceToNat]
      exact next (out ++ vb n) _ (by rw [hfb]) (by simp; omega) (by simp -dsimp (disch := first | rfl | omega) only [mC, hn, i64s_len, ↓vmP, vm0, vm1, vm2, vm3, vm4, vm5, vm6, vm7, vm8, vm9, vm10, vm11, vm12, vm13, vm14, vm15, vmC, vmN, Nat.reduceAdd, Nat.reduceMul, Nat.reduceSub, Nat.reduceEqDiff, Nat.reduceLT, Nat.reduceLeDiff, ↓reduceIte, Tg.isFull, Int.reduceToNat])
    · have hr := hN.s hmem
      obtain ⟨n, hn⟩ : ∃ n : Nat, m.seq = n := ⟨m.seq.toNat, by omega⟩
      have h1 := AN_row n (by omega) out (by omega) fl
      have hv := vb_len n (by omega)
      have hfb : fbs m 3 = vb n := by simp [fbs, hn]
      simp -dsimp (disch := first | rfl | omega) only [mC, r17_5, r17_6, r17_7, r17_8, r17_10, r17_12, r17_13, r17_18, callW_fn pgANr, h1, hn, i64s_len, hat, e0, ej, Int.reduceEq, ↓vmP, vm0, vm1, vm2, vm3, vm4, vm5, vm6, vm7, vm8, vm9, vm10, vm11, vm12, vm13, vm14, vm15, vmC, vmN, Nat.reduceAdd, Nat.reduceMul, Nat.reduceSub, Nat.reduceEqDiff, Nat.reduceLT, Nat.reduceLeDiff, ↓reduceIte, Tg.isFull, Int.reduceToNat]
      exact next (out ++ vb n) _ (by rw [hfb]) (by simp; omega) (by simp -dsimp (disch := first | rfl | omega) only [mC, hn, i64s_len, ↓vmP, vm0, vm1, vm2, vm3, vm4, vm5, vm6, vm7, vm8, vm9, vm10, vm11, vm12, vm13, vm14, vm15, vmC, vmN, Nat.reduceAdd, Nat.reduceMul, Nat.reduceSub, Nat.reduceEqDiff, Nat.reduceLT, Nat.reduceLeDiff, ↓reduceIte, Tg.isFull, Int.reduceToNat])
    · have hr := hN.t hmem
      obtain ⟨n, hn⟩ : ∃ n : Nat, m.to = n := ⟨m.to.toNat, by omega⟩
      have h1 := AN_row n (by omega) out (by omega) fl
      have hv := vb_len n (by omega)
      have hfb : fbs m 4 = vb n := by simp [fbs, hn]
      simp -dsimp (disch := first | rfl | omega) only [mC, r17_5, r17_6, r17_7, r17_8, r17_10, r17_12, r17_14, r17_15, r17_18, callW_fn pgANr, h1, hn, i64s_len, hat, e0, ej, Int.reduceEq, ↓vmP, vm0, vm1, vm2, vm3, vm4, vm5, vm6, vm7, vm8, vm9, vm10, vm11, vm12, vm13, vm14, vm15, vmC, vmN, Nat.reduceAdd, Nat.reduceMul, Nat.reduceSub, Nat.reduceEqDiff, Nat.reduceLT, Nat.reduceLeDiff, ↓reduceIte, Tg.isFull, Int.reduceToNat]
      exact next (out ++ vb n) _ (by rw [hfb]) (by simp; omega) (by simp -dsimp (disch := first | rfl | omega) only [mC, hn, i64s_len, ↓vmP, vm0, vm1, vm2, vm3, vm4, vm5, vm6, vm7, vm8, vm9, vm10, vm11, vm12, vm13, vm14, vm15, vmC, vmN, Nat.reduceAdd, Nat.reduceMul, Nat.reduceSub, Nat.reduceEqDiff, Nat.reduceLT, Nat.reduceLeDiff, ↓reduceIte, Tg.isFull, Int.reduceToNat])
    · have hr := hN.b hmem
      have hz2 := hN.z
      simp -dsimp (disch := first | rfl | omega) only [mC, r17_5, r17_6, r17_7, r17_8, r17_10, r17_12, r17_14, r17_16, r17_17, r17_18, i64s_len, hat, e0, ej, hz2, Int.reduceEq, ↓vmP, vm0, vm1, vm2, vm3, vm4, vm5, vm6, vm7, vm8, vm9, vm10, vm11, vm12, vm13, vm14, vm15, vmC, vmN, Nat.reduceAdd, Nat.reduceMul, Nat.reduceSub, Nat.reduceEqDiff, Nat.reduceLT, Nat.reduceLeDiff, ↓reduceIte, Tg.isFull, Int.reduceToNat]
      exact next (out ++ m.body) _ (by simp [fbs]) (by simp; omega) (by simp -dsimp (disch := first | rfl | omega) only [mC, i64s_len, ↓vmP, vm0, vm1, vm2, vm3, vm4, vm5, vm6, vm7, vm8, vm9, vm10, vm11, vm12, vm13, vm14, vm15, vmC, vmN, Nat.reduceAdd, Nat.reduceMul, Nat.reduceSub, Nat.reduceEqDiff, Nat.reduceLT, Nat.reduceLeDiff, ↓reduceIte, Tg.isFull, Int.reduceToNat])
end Go.Vm.Wr
