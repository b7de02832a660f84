/- A part of the proof of WireBackUptoSaid: YthojpjhnhipfpaaFc. -/
import Derived.Test.YthojpjhnhipfpaaKFb
/- Names of machines. -/
set_option linter.unusedVariables false
set_option linter.unusedSimpArgs false
set_option maxHeartbeats 1000000
namespace Go.Vm.Wr
def okc (c : UInt8) : Bool := (decide (97 ≤ c.toNat) && decide (c.toNat ≤ 122)) || (decide (48 ≤ c.toNat) && decide (c.toNat ≤ 57))
def hname (l : List UInt8) : Bool := l.all okc && decide (0 < l.length) && decide (l.length ≤ 16)
theorem okc_yes {c : UInt8} (h : okc c = true) : (97 ≤ c.toNat ∧ c.toNat ≤ 122) ∨ (48 ≤ c.toNat ∧ c.toNat ≤ 57) := by simpa [okc] using h
theorem okc_no {c : UInt8} (h : ¬ okc c = true) : c.toNat < 48 ∨ (57 < c.toNat ∧ c.toNat < 97) ∨ 122 < c.toNat := by
  simp [okc] at h; omega
theorem bsz (l : List UInt8) : ({ data := l.toArray } : ByteArray).size = l.length := by simp [ByteArray.size]
theorem bat (l : List UInt8) {i : Nat} (h : i < l.length) : ({ data := l.toArray } : ByteArray).data[i]? = some (l.getD i 0) := by
  simp [h, List.getD_eq_getElem?_getD]
theorem HN_loop {Q : Ex → St → Prop} (l : List UInt8) (hl : l.length ≤ 9223372036854775807) : ∀ (k i : Nat) (s : St), i + k = l.length →
    gc [(0, none), (3, none)] s = ⟨gS [(0, .d (.str ⟨l.toArray⟩)), (3, .d (.int .i64 i))], gH [], 0, 0, []⟩ →
    ((l.drop i).all okc = true → ∀ T, Q (.exit 0) ⟨gS ((0, .d (.str ⟨l.toArray⟩)) :: (3, .d (.int .i64 l.length)) :: T), gH [], 32, 0, []⟩) →
    ((l.drop i).all okc = false → ∀ T nx, Q .ret ⟨gS ((2, .d (.bool false)) :: T), gH [], nx, 0, []⟩) →
    wpW false prog (.loop [(0, none), (3, none)] l55_7) s Q := by
  intro k
  induction k with
  | zero =>
    intro i s hi hg hQ hR
    refine wp_loop1 ?_
    rw [hg]
    generalize hJ : (fun s' => wpW false prog (.loop [(0, none), (3, none)] l55_7) s' Q) = J
    unfold l55_7
    have hi' : i = l.length := by omega
    subst hi'
    have e0 : ((l.length : Int) < l.length) = False := eq_false (by omega)
    simp -dsimp (disch := first | rfl | omega) only [r55_2, bsz, e0, ↓vmP, vm0, vm1, vm2, vm3, vm4, vm5, vm6, vm7, vm8, vm9, vm10, vm11, vm12, vm13, vm14, vm15, vmC, vmN, Nat.reduceAdd, Nat.reduceMul, Nat.reduceSub, Nat.reduceEqDiff, Nat.reduceLT, Nat.reduceLeDiff, ↓reduceIte, Tg.isFull, Int.reduceToNat]
    exact hQ (by simp) _
  | succ k ih =>
    intro i s hi hg hQ hR
    refine wp_loop1 ?_
    rw [hg]
    generalize hJ : (fun s' => wpW false prog (.loop [(0, none), (3, none)] l55_7) s' Q) = J
    unfold l55_7
    have e0 : ((i : Int) < l.length) = True := eq_true (by omega)
    have ei : ((i : Int) + 1) = ((i + 1 : Nat) : Int) := by omega
    have hat := bat l (show i < l.length by omega)
    have hdr := drop_cons' l i (by omega)
    rw [hdr] at hQ hR
    generalize l.getD i 0 = c at hat hdr hQ hR
    have h256 := c.toNat_lt
    simp only [List.all_cons] at hQ hR
    by_cases hc : okc c = true
    · simp only [hc, Bool.true_and] at hQ hR
      rcases okc_yes hc with ⟨a1, a2⟩ | ⟨a1, a2⟩
      · have e1 : ((c.toNat : Int) < 97) = False := eq_false (by omega)
        have e2 : (122 < (c.toNat : Int)) = False := eq_false (by omega)
        simp -dsimp (disch := first | rfl | omega) only [r55_2, r55_3, r55_4, r55_6, bsz, e0, ei, hat, e1, e2, ↓vmP, vm0, vm1, vm2, vm3, vm4, vm5, vm6, vm7, vm8, vm9, vm10, vm11, vm12, vm13, vm14, vm15, vmC, vmN, Nat.reduceAdd, Nat.reduceMul, Nat.reduceSub, Nat.reduceEqDiff, Nat.reduceLT, Nat.reduceLeDiff, ↓reduceIte, Tg.isFull, Int.reduceToNat]
        rw [← hJ]
        exact ih (i + 1) _ (by omega) (by simp -dsimp (disch := first | rfl | omega) only [↓vmP, vm0, vm1, vm2, vm3, vm4, vm5, vm6, vm7, vm8, vm9, vm10, vm11, vm12, vm13, vm14, vm15, vmC, vmN, Nat.reduceAdd, Nat.reduceMul, Nat.reduceSub, Nat.reduceEqDiff, Nat.reduceLT, Nat.reduceLeDiff, ↓reduceIte, Tg.isFull, Int.reduceToNat]) hQ hR
      · have e1 : ((c.toNat : Int) < 97) = True := eq_true (by omega)
        have e3 : ((c.toNat : Int) < 48) = False := eq_false (by omega)
        have e4 : (57 < (c.toNat : Int)) = False := eq_false (by omega)
        simp -dsimp (disch := first | rfl | omega) only [r55_2, r55_3, r55_4, r55_6, bsz, e0, ei, hat, e1, e3, e4, ↓vmP, vm0, vm1, vm2, vm3, vm4, vm5, vm6, vm7, vm8, vm9, vm10, vm11, vm12, vm13, vm14, vm15, vmC, vmN, Nat.reduceAdd, Nat.reduceMul, Nat.reduceSub, Nat.reduceEqDiff, Nat.reduceLT, Nat.reduceLeDiff, ↓reduceIte, Tg.isFull, Int.reduceToNat]
        rw [← hJ]
        exact ih (i + 1) _ (by omega) (by simp -dsimp (disch := first | rfl | omega) only [↓vmP, vm0, vm1, vm2, vm3, vm4, vm5, vm6, vm7, vm8, vm9, vm10, vm11, vm12, vm13, vm14, vm15, vmC, vmN, Nat.reduceAdd, Nat.reduceMul, Nat.reduceSub, Nat.reduceEqDiff, Nat.reduceLT, Nat.reduceLeDiff, ↓reduceIte, Tg.isFull, Int.reduceToNat]) hQ hR
    · simp only [hc, Bool.false_and] at hQ hR
      rcases okc_no hc with a | a | a
      · have e1 : ((c.toNat : Int) < 97) = True := eq_true (by omega)
        have e3 : ((c.toNat : Int) < 48) = True := eq_true (by omega)
        simp -dsimp (disch := first | rfl | omega) only [r55_2, r55_3, r55_4, r55_5, bsz, e0, hat, e1, e3, ↓vmP, vm0, vm1, vm2, vm3, vm4, vm5, vm6, vm7, vm8, vm9, vm10, vm11, vm12, vm13, vm14, vm15, vmC, vmN, Nat.reduceAdd, Nat.reduceMul, Nat.reduceSub, Nat.reduceEqDiff, Nat.reduceLT, Nat.reduceLeDiff, ↓reduceIte, Tg.isFull, Int.reduceToNat]
        exact hR trivial _ _
      · have e1 : ((c.toNat : Int) < 97) = True := eq_true (by omega)
        have e3 : ((c.toNat : Int) < 48) = False := eq_false (by omega)
        have e4 : (57 < (c.toNat : Int)) = True := eq_true (by omega)
        simp -dsimp (disch := first | rfl | omega) only [r55_2, r55_3, r55_4, r55_5, bsz, e0, hat, e1, e3, e4, ↓vmP, vm0, vm1, vm2, vm3, vm4, vm5, vm6, vm7, vm8, vm9, vm10, vm11, vm12, vm13, vm14, vm15, vmC, vmN, Nat.reduceAdd, Nat.reduceMul, Nat.reduceSub, Nat.reduceEqDiff, Nat.reduceLT, Nat.reduceLeDiff, ↓reduceIte, Tg.isFull, Int.reduceToNat]
        exact hR trivial _ _
      · have e1 : ((c.toNat : Int) < 97) = False := eq_false (by omega)
        have e2 : (122 < (c.toNat : Int)) = True := eq_true (by omega)
        have e3 : ((c.toNat : Int) < 48) = False := eq_false (by omega)
        have e4 : (57 < (c.toNat : Int)) = True := eq_true (by omega)
        simp -dsimp (disch := first | rfl | omega) only [r55_2, r55_3, r55_4, r55_5, bsz, e0, hat, e1, e2, e3, e4, ↓vmP, vm0, vm1, vm2, vm3, vm4, vm5, vm6, vm7, vm8, vm9, vm10, vm11, vm12, vm13, vm14, vm15, vmC, vmN, Nat.reduceAdd, Nat.reduceMul, Nat.reduceSub, Nat.reduceEqDiff, Nat.reduceLT, Nat.reduceLeDiff, ↓reduceIte, Tg.isFull, Int.reduceToNat]
        exact hR trivial _ _
theorem HN_eq (l : List UInt8) (hl : l.length ≤ 9223372036854775807) : runW false prog 55 [.d (.str ⟨l.toArray⟩)] [] = some (.d (.bool (hname l)), [], []) := by
  refine run_of rfl ?_
  simp -dsimp (disch := first | rfl | omega) only [r55_0, r55_1, ↓vmP, vm0, vm1, vm2, vm3, vm4, vm5, vm6, vm7, vm8, vm9, vm10, vm11, vm12, vm13, vm14, vm15, vmC, vmN, Nat.reduceAdd, Nat.reduceMul, Nat.reduceSub, Nat.reduceEqDiff, Nat.reduceLT, Nat.reduceLeDiff, ↓reduceIte, Tg.isFull, Int.reduceToNat]
  refine HN_loop l hl l.length 0 _ (by omega) (by simp -dsimp (disch := first | rfl | omega) only [↓vmP, vm0, vm1, vm2, vm3, vm4, vm5, vm6, vm7, vm8, vm9, vm10, vm11, vm12, vm13, vm14, vm15, vmC, vmN, Nat.reduceAdd, Nat.reduceMul, Nat.reduceSub, Nat.reduceEqDiff, Nat.reduceLT, Nat.reduceLeDiff, ↓reduceIte, Tg.isFull, Int.reduceToNat]; rfl) (fun h T => ?_) (fun h T nx => ?_)
  · rw [List.drop_zero] at h
    by_cases h0 : 0 < l.length
    · have e1 : (0 < (l.length : Int)) = True := eq_true (by omega)
      by_cases h1 : l.length ≤ 16
      · have e2 : ((l.length : Int) ≤ 16) = True := eq_true (by omega)
        have hv : hname l = true := by simp [hname, h, h0, h1]
        rw [hv]
        simp -dsimp (disch := first | rfl | omega) only [r55_8, bsz, e1, e2, ↓vmP, vm0, vm1, vm2, vm3, vm4, vm5, vm6, vm7, vm8, vm9, vm10, vm11, vm12, vm13, vm14, vm15, vmC, vmN, Nat.reduceAdd, Nat.reduceMul, Nat.reduceSub, Nat.reduceEqDiff, Nat.reduceLT, Nat.reduceLeDiff, ↓reduceIte, Tg.isFull, Int.reduceToNat]
      · have e2 : ((l.length : Int) ≤ 16) = False := eq_false (by omega)
        have hv : hname l = false := by simp [hname, h, h0, h1]
        rw [hv]
        simp -dsimp (disch := first | rfl | omega) only [r55_8, bsz, e1, e2, ↓vmP, vm0, vm1, vm2, vm3, vm4, vm5, vm6, vm7, vm8, vm9, vm10, vm11, vm12, vm13, vm14, vm15, vmC, vmN, Nat.reduceAdd, Nat.reduceMul, Nat.reduceSub, Nat.reduceEqDiff, Nat.reduceLT, Nat.reduceLeDiff, ↓reduceIte, Tg.isFull, Int.reduceToNat]
    · have e1 : (0 < (l.length : Int)) = False := eq_false (by omega)
      have hv : hname l = false := by simp [hname, h, h0]
      rw [hv]
      simp -dsimp (disch := first | rfl | omega) only [r55_8, bsz, e1, ↓vmP, vm0, vm1, vm2, vm3, vm4, vm5, vm6, vm7, vm8, vm9, vm10, vm11, vm12, vm13, vm14, vm15, vmC, vmN, Nat.reduceAdd, Nat.reduceMul, Nat.reduceSub, Nat.reduceEqDiff, Nat.reduceLT, Nat.reduceLeDiff, ↓reduceIte, Tg.isFull, Int.reduceToNat]
  · rw [List.drop_zero] at h
    have hv : hname l = false := by simp [hname, h]
    rw [hv]
    simp -dsimp (disch := first | rfl | omega) only [↓vmP, vm0, vm1, vm2, vm3, vm4, vm5, vm6, vm7, vm8, vm9, vm10, vm11, vm12, vm13, vm14, vm15, vmC, vmN, Nat.reduceAdd, Nat.reduceMul, Nat.reduceSub, Nat.reduceEqDiff, Nat.reduceLT, Nat.reduceLeDiff, ↓reduceIte, Tg.isFull, Int.reduceToNat]
theorem RN_loop {Q : Ex → St → Prop} (l : List UInt8) (hl : l.length ≤ 9223372036854775807) : ∀ (k i : Nat) (s : St), i + k = l.length →
    gc [(0, none), (3, none)] s = ⟨gS [(0, .d (.str ⟨l.toArray⟩)), (3, .d (.int .i64 i))], gH [], 0, 0, []⟩ →
    ((l.drop i).all okc = true → ∀ T, Q (.exit 0) ⟨gS ((0, .d (.str ⟨l.toArray⟩)) :: (3, .d (.int .i64 l.length)) :: T), gH [], 32, 0, []⟩) →
    ((l.drop i).all okc = false → ∀ T nx, Q .ret ⟨gS ((2, .d (.bool false)) :: T), gH [], nx, 0, []⟩) →
    wpW false prog (.loop [(0, none), (3, none)] l57_7) s Q := by
  intro k
  induction k with
  | zero =>
    intro i s hi hg hQ hR
    refine wp_loop1 ?_
    rw [hg]
    generalize hJ : (fun s' => wpW false prog (.loop [(0, none), (3, none)] l57_7) s' Q) = J
    unfold l57_7
    have hi' : i = l.length := by omega
    subst hi'
    have e0 : ((l.length : Int) < l.length) = False := eq_false (by omega)
    simp -dsimp (disch := first | rfl | omega) only [r57_2, bsz, e0, ↓vmP, vm0, vm1, vm2, vm3, vm4, vm5, vm6, vm7, vm8, vm9, vm10, vm11, vm12, vm13, vm14, vm15, vmC, vmN, Nat.reduceAdd, Nat.reduceMul, Nat.reduceSub, Nat.reduceEqDiff, Nat.reduceLT, Nat.reduceLeDiff, ↓reduceIte, Tg.isFull, Int.reduceToNat]
    exact hQ (by simp) _
  | succ k ih =>
    intro i s hi hg hQ hR
    refine wp_loop1 ?_
    rw [hg]
    generalize hJ : (fun s' => wpW false prog (.loop [(0, none), (3, none)] l57_7) s' Q) = J
    unfold l57_7
    have e0 : ((i : Int) < l.length) = True := eq_true (by omega)
    have ei : ((i : Int) + 1) = ((i + 1 : Nat) : Int) := by omega
    have hat := bat l (show i < l.length by omega)
    have hdr := drop_cons' l i (by omega)
    rw [hdr] at hQ hR
    generalize l.getD i 0 = c at hat hdr hQ hR
    have h256 := c.toNat_lt
    simp only [List.all_cons] at hQ hR
    by_cases hc : okc c = true
    · simp only [hc, Bool.true_and] at hQ hR
      rcases okc_yes hc with ⟨a1, a2⟩ | ⟨a1, a2⟩
      · have e1 : ((c.toNat : Int) < 97) = False := eq_false (by omega)
        have e2 : (122 < (c.toNat : Int)) = False := eq_false (by omega)
        simp -dsimp (disch := first | rfl | omega) only [r57_2, r57_3, r57_4, r57_6, bsz, e0, ei, hat, e1, e2, ↓vmP, vm0, vm1, vm2, vm3, vm4, vm5, vm6, vm7, vm8, vm9, vm10, vm11, vm12, vm13, vm14, vm15, vmC, vmN, Nat.reduceAdd, Nat.reduceMul, Nat.reduceSub, Nat.reduceEqDiff, Nat.reduceLT, Nat.reduceLeDiff, ↓reduceIte, Tg.isFull, Int.reduceToNat]
        rw [← hJ]
        exact ih (i + 1) _ (by omega) (by simp -dsimp (disch := first | rfl | omega) only [↓vmP, vm0, vm1, vm2, vm3, vm4, vm5, vm6, vm7, vm8, vm9, vm10, vm11, vm12, vm13, vm14, vm15, vmC, vmN, Nat.reduceAdd, Nat.reduceMul, Nat.reduceSub, Nat.reduceEqDiff, Nat.reduceLT, Nat.reduceLeDiff, ↓reduceIte, Tg.isFull, Int.reduceToNat]) hQ hR
      · have e1 : ((c.toNat : Int) < 97) = True := eq_true (by omega)
        have e3 : ((c.toNat : Int) < 48) = False := eq_false (by omega)
        have e4 : (57 < (c.toNat : Int)) = False := eq_false (by omega)
        simp -dsimp (disch := first | rfl | omega) only [r57_2, r57_3, r57_4, r57_6, bsz, e0, ei, hat, e1, e3, e4, ↓vmP, vm0, vm1, vm2, vm3, vm4, vm5, vm6, vm7, vm8, vm9, vm10, vm11, vm12, vm13, vm14, vm15, vmC, vmN, Nat.reduceAdd, Nat.reduceMul, Nat.reduceSub, Nat.reduceEqDiff, Nat.reduceLT, Nat.reduceLeDiff, ↓reduceIte, Tg.isFull, Int.reduceToNat]
        rw [← hJ]
        exact ih (i + 1) _ (by omega) (by simp -dsimp (disch := first | rfl | omega) only [↓vmP, vm0, vm1, vm2, vm3, vm4, vm5, vm6, vm7, vm8, vm9, vm10, vm11, vm12, vm13, vm14, vm15, vmC, vmN, Nat.reduceAdd, Nat.reduceMul, Nat.reduceSub, Nat.reduceEqDiff, Nat.reduceLT, Nat.reduceLeDiff, ↓reduceIte, Tg.isFull, Int.reduceToNat]) hQ hR
    · simp only [hc, Bool.false_and] at hQ hR
      rcases okc_no hc with a | a | a
      · have e1 : ((c.toNat : Int) < 97) = True := eq_true (by omega)
        have e3 : ((c.toNat : Int) < 48) = True := eq_true (by omega)
        simp -dsimp (disch := first | rfl | omega) only [r57_2, r57_3, r57_4, r57_5, bsz, e0, hat, e1, e3, ↓vmP, vm0, vm1, vm2, vm3, vm4, vm5, vm6, vm7, vm8, vm9, vm10, vm11, vm12, vm13, vm14, vm15, vmC, vmN, Nat.reduceAdd, Nat.reduceMul, Nat.reduceSub, Nat.reduceEqDiff, Nat.reduceLT, Nat.reduceLeDiff, ↓reduceIte, Tg.isFull, Int.reduceToNat]
        exact hR trivial _ _
      · have e1 : ((c.toNat : Int) < 97) = True := eq_true (by omega)
        have e3 : ((c.toNat : Int) < 48) = False := eq_false (by omega)
        have e4 : (57 < (c.toNat : Int)) = True := eq_true (by omega)
        simp -dsimp (disch := first | rfl | omega) only [r57_2, r57_3, r57_4, r57_5, bsz, e0, hat, e1, e3, e4, ↓vmP, vm0, vm1, vm2, vm3, vm4, vm5, vm6, vm7, vm8, vm9, vm10, vm11, vm12, vm13, vm14, vm15, vmC, vmN, Nat.reduceAdd, Nat.reduceMul, Nat.reduceSub, Nat.reduceEqDiff, Nat.reduceLT, Nat.reduceLeDiff, ↓reduceIte, Tg.isFull, Int.reduceToNat]
        exact hR trivial _ _
      · have e1 : ((c.toNat : Int) < 97) = False := eq_false (by omega)
        have e2 : (122 < (c.toNat : Int)) = True := eq_true (by omega)
        have e3 : ((c.toNat : Int) < 48) = False := eq_false (by omega)
        have e4 : (57 < (c.toNat : Int)) = True := eq_true (by omega)
        simp -dsimp (disch := first | rfl | omega) only [r57_2, r57_3, r57_4, r57_5, bsz, e0, hat, e1, e2, e3, e4, ↓vmP, vm0, vm1, vm2, vm3, vm4, vm5, vm6, vm7, vm8, vm9, vm10, vm11, vm12, vm13, vm14, vm15, vmC, vmN, Nat.reduceAdd, Nat.reduceMul, Nat.reduceSub, Nat.reduceEqDiff, Nat.reduceLT, Nat.reduceLeDiff, ↓reduceIte, Tg.isFull, Int.reduceToNat]
        exact hR trivial _ _
theorem RN_eq (l : List UInt8) (hl : l.length ≤ 9223372036854775807) : runW false prog 57 [.d (.str ⟨l.toArray⟩)] [] = some (.d (.bool (hname l)), [], []) := by
  refine run_of rfl ?_
  simp -dsimp (disch := first | rfl | omega) only [r57_0, r57_1, ↓vmP, vm0, vm1, vm2, vm3, vm4, vm5, vm6, vm7, vm8, vm9, vm10, vm11, vm12, vm13, vm14, vm15, vmC, vmN, Nat.reduceAdd, Nat.reduceMul, Nat.reduceSub, Nat.reduceEqDiff, Nat.reduceLT, Nat.reduceLeDiff, ↓reduceIte, Tg.isFull, Int.reduceToNat]
  refine RN_loop l hl l.length 0 _ (by omega) (by simp -dsimp (disch := first | rfl | omega) only [↓vmP, vm0, vm1, vm2, vm3, vm4, vm5, vm6, vm7, vm8, vm9, vm10, vm11, vm12, vm13, vm14, vm15, vmC, vmN, Nat.reduceAdd, Nat.reduceMul, Nat.reduceSub, Nat.reduceEqDiff, Nat.reduceLT, Nat.reduceLeDiff, ↓reduceIte, Tg.isFull, Int.reduceToNat]; rfl) (fun h T => ?_) (fun h T nx => ?_)
  · rw [List.drop_zero] at h
    by_cases h0 : 0 < l.length
    · have e1 : (1 ≤ (l.length : Int)) = True := eq_true (by omega)
      by_cases h1 : l.length ≤ 16
      · have e2 : ((l.length : Int) ≤ 16) = True := eq_true (by omega)
        have hv : hname l = true := by simp [hname, h, h0, h1]
        rw [hv]
        simp -dsimp (disch := first | rfl | omega) only [r57_8, bsz, e1, e2, ↓vmP, vm0, vm1, vm2, vm3, vm4, vm5, vm6, vm7, vm8, vm9, vm10, vm11, vm12, vm13, vm14, vm15, vmC, vmN, Nat.reduceAdd, Nat.reduceMul, Nat.reduceSub, Nat.reduceEqDiff, Nat.reduceLT, Nat.reduceLeDiff, ↓reduceIte, Tg.isFull, Int.reduceToNat]
      · have e2 : ((l.length : Int) ≤ 16) = False := eq_false (by omega)
        have hv : hname l = false := by simp [hname, h, h0, h1]
        rw [hv]
        simp -dsimp (disch := first | rfl | omega) only [r57_8, bsz, e1, e2, ↓vmP, vm0, vm1, vm2, vm3, vm4, vm5, vm6, vm7, vm8, vm9, vm10, vm11, vm12, vm13, vm14, vm15, vmC, vmN, Nat.reduceAdd, Nat.reduceMul, Nat.reduceSub, Nat.reduceEqDiff, Nat.reduceLT, Nat.reduceLeDiff, ↓reduceIte, Tg.isFull, Int.reduceToNat]
    · have e1 : (1 ≤ (l.length : Int)) = False := eq_false (by omega)
      have hv : hname l = false := by simp [hname, h, h0]
      rw [hv]
      simp -dsimp (disch := first | rfl | omega) only [r57_8, bsz, e1, ↓vmP, vm0, vm1, vm2, vm3, vm4, vm5, vm6, vm7, vm8, vm9, vm10, vm11, vm12, vm13, vm14, vm15, vmC, vmN, Nat.reduceAdd, Nat.reduceMul, Nat.reduceSub, Nat.reduceEqDiff, Nat.reduceLT, Nat.reduceLeDiff, ↓reduceIte, Tg.isFull, Int.reduceToNat]
  · rw [List.drop_zero] at h
    have hv : hname l = false := by simp [hname, h]
    rw [hv]
    simp -dsimp (disch := first | rfl | omega) only [↓vmP, vm0, vm1, vm2, vm3, vm4, vm5, vm6, vm7, vm8, vm9, vm10, vm11, vm12, vm13, vm14, vm15, vmC, vmN, Nat.reduceAdd, Nat.reduceMul, Nat.reduceSub, Nat.reduceEqDiff, Nat.reduceLT, Nat.reduceLeDiff, ↓reduceIte, Tg.isFull, Int.reduceToNat]
end Go.Vm.Wr
