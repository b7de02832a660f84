/- A part of the proof of WireBackUptoSaid: YthojpjhnhipfpaaFe. -/
import Derived.Test.YthojpjhnhipfpaaKFd
/- Which messages are valid, by the program. -/
set_option linter.unusedVariables false
set_option linter.unusedSimpArgs false
set_option maxHeartbeats 1000000
namespace Go.Vm.Wr
def i64s (l : List Int) : List (List D) := l.map fun x => [.int .i64 x]
theorem i64s_at (l : List Int) {i : Nat} (h : i < l.length) : (i64s l)[i]? = some [.int .i64 (l.getD i 0)] := by
  simp [i64s, h, List.getD_eq_getElem?_getD]
theorem i64s_len (l : List Int) : (i64s l).length = l.length := by simp [i64s]
structure Msg where
  kind : Int
  host : List UInt8
  epoch : Int
  seq : Int
  to : Int
  body : List UInt8
  tg : Tg
  bz : Nat
def mC (m : Msg) : List A := [.d (.int .i64 m.kind), .d (.str ⟨m.host.toArray⟩), .d (.int .i64 m.epoch), .d (.int .i64 m.seq), .d (.int .i64 m.to), .d (.sl m.tg m.bz (u8s m.body))]
def inR (n low : Int) : Bool := decide (low ≤ n ∧ n ≤ 1099511627776)
def fitF (m : Msg) (least f : Int) : Bool :=
  if f = 1 then hname m.host else if f = 2 then inR m.epoch 1 else if f = 3 then inR m.seq least else if f = 4 then inR m.to m.seq else decide (0 < m.body.length) && decide (m.body.length ≤ 16320)
def clr (f : Int) (r : Msg) : Msg :=
  if f = 1 then { r with host := [] } else if f = 2 then { r with epoch := 0 } else if f = 3 then { r with seq := 0 } else if f = 4 then { r with to := 0 } else { r with body := [], tg := .nil, bz := 0 }
def chk (m : Msg) (least : Int) : List Int → Msg → Option Msg
  | [], r => some r
  | f :: fs, r => if fitF m least f then chk m least fs (clr f r) else none
theorem pgHN : prog 55 = some c55 := rfl
theorem pgWithin : prog 56 = some c56 := rfl
theorem pgFields : prog 45 = some c45 := rfl
def vLp : CCode := .loop [(1, none), (5, none), (6, none), (28, none), (29, none), (30, none)] l26_26
theorem v_loop {Q : Ex → St → Prop} (m : Msg) (hh : m.host.length ≤ 9223372036854775807) (hb : m.body.length ≤ 9223372036854775807) (least : Int) (fa : List Int) (z : Nat) (hfa : fa.length ≤ 10) (hf : ∀ f ∈ fa, f = 1 ∨ f = 2 ∨ f = 3 ∨ f = 4 ∨ f = 5) (hz : fa ≠ [] → z = 1) : ∀ (k j : Nat) (r : Msg) (s : St), j + k = fa.length →
    gc [(1, none), (5, none), (6, none), (28, none), (29, none), (30, none)] s = ⟨gS [(1, .ptr 0 0), (5, .ptr 1 0), (6, .d (.int .i64 least)), (28, .d (.sl .any z (i64s fa))), (29, .d (.int .i64 fa.length)), (30, .d (.int .i64 j))], gH [(0, .box (mC m)), (1, .box (mC r))], 2, 0, []⟩ →
    (∀ r', chk m least (fa.drop j) r = some r' → ∀ T, Q (.exit 0) ⟨gS ((1, .ptr 0 0) :: (5, .ptr 1 0) :: T), gH [(0, .box (mC m)), (1, .box (mC r'))], 10, 0, []⟩) →
    (chk m least (fa.drop j) r = none → ∀ T H nx, Q .ret ⟨gS ((2, .d (.bool false)) :: T), gH H, nx, 0, []⟩) →
    wpW false prog (.loop [(1, none), (5, none), (6, none), (28, none), (29, none), (30, none)] l26_26) s Q := by
  intro k
  induction k with
  | zero =>
    intro j r s hj hg hQ hR
    refine wp_loop1 ?_
    rw [hg]
    generalize hJ : (fun s' => wpW false prog (.loop [(1, none), (5, none), (6, none), (28, none), (29, none), (30, none)] l26_26) s' Q) = J
    unfold l26_26
    have hj' : j = fa.length := by omega
    subst hj'
    have e0 : ((fa.length : Int) < fa.length) = False := eq_false (by omega)
    simp -dsimp (disch := first | rfl | omega) only [r26_9, e0, ↓vmP, vm0, vm1, vm2, vm3, vm4, vm5, vm6, vm7, vm8, vm9, vm10, vm11, vm12, vm13, vm14, vm15, vmC, vmN, Nat.reduceAdd, Nat.reduceMul, Nat.reduceSub, Nat.reduceEqDiff, Nat.reduceLT, Nat.reduceLeDiff, ↓reduceIte, Tg.isFull, Int.reduceToNat]
    exact hQ r (by simp [chk]) _
  | succ k ih =>
    intro j r s hj hg hQ hR
    refine wp_loop1 ?_
    rw [hg]
    generalize hJ : (fun s' => wpW false prog (.loop [(1, none), (5, none), (6, none), (28, none), (29, none), (30, none)] l26_26) s' Q) = J
    unfold l26_26
    have hne : fa ≠ [] := fun h => by rw [h] at hj; simp at hj
    have hz1 := hz hne
    subst hz1
    have e0 : ((j : Int) < fa.length) = True := eq_true (by omega)
    have ej : ((j : Int) + 1) = ((j + 1 : Nat) : Int) := by omega
    have hat := i64s_at fa (show j < fa.length by omega)
    have hdr : fa.drop j = fa.getD j 0 :: fa.drop (j + 1) := by
      rw [List.drop_eq_getElem_cons (by omega), List.getD_eq_getElem?_getD, List.getElem?_eq_getElem (by omega)]; rfl
    have hmem : fa.getD j 0 ∈ fa := by
      rw [List.getD_eq_getElem?_getD, List.getElem?_eq_getElem (by omega)]; exact List.getElem_mem _
    have hf1 := hf _ hmem
    rw [hdr] at hQ hR
    generalize fa.getD j 0 = f at hat hdr hQ hR hf1
    simp only [chk] at hQ hR
    have next : ∀ (r' : Msg) (s' : St), (∀ r2, chk m least (fa.drop (j + 1)) r' = some r2 → ∀ T, Q (.exit 0) ⟨gS ((1, .ptr 0 0) :: (5, .ptr 1 0) :: T), gH [(0, .box (mC m)), (1, .box (mC r2))], 10, 0, []⟩) →
        (chk m least (fa.drop (j + 1)) r' = none → ∀ T H nx, Q .ret ⟨gS ((2, .d (.bool false)) :: T), gH H, nx, 0, []⟩) →
        gc [(1, none), (5, none), (6, none), (28, none), (29, none), (30, none)] s' = ⟨gS [(1, .ptr 0 0), (5, .ptr 1 0), (6, .d (.int .i64 least)), (28, .d (.sl .any 1 (i64s fa))), (29, .d (.int .i64 fa.length)), (30, .d (.int .i64 (j + 1 : Nat)))], gH [(0, .box (mC m)), (1, .box (mC r'))], 2, 0, []⟩ → J s' := fun r' s' h1 h2 h3 => by
      rw [← hJ]
      exact ih (j + 1) r' s' (by omega) h3 h1 h2
    have hhn := HN_eq m.host hh
    have hwe := within_eq m.epoch 1
    have hws := within_eq m.seq least
    have hwt := within_eq m.to m.seq
    rcases hf1 with rfl | rfl | rfl | rfl | rfl
    · have ef : fitF m least 1 = hname m.host := by simp [fitF, inR]
      rw [ef] at hQ hR
      cases hv : hname m.host with
      | true =>
        simp only [hv, if_true] at hQ hR
        rw [hv] at hhn
        simp -dsimp (disch := first | rfl | omega) only [mC, r26_9, r26_10, r26_11, r26_12, r26_13, r26_14, r26_23, r26_24, r26_25, callW_fn pgHN, callW_fn pgWithin, hhn, i64s_len, hat, e0, ej, Int.reduceEq, ↓vmP, vm0, vm1, vm2, vm3, vm4, vm5, vm6, vm7, vm8, vm9, vm10, vm11, vm12, vm13, vm14, vm15, vmC, vmN, Nat.reduceAdd, Nat.reduceMul, Nat.reduceSub, Nat.reduceEqDiff, Nat.reduceLT, Nat.reduceLeDiff, ↓reduceIte, Tg.isFull, Int.reduceToNat]
        exact next _ _ hQ hR (by simp -dsimp (disch := first | rfl | omega) only [mC, clr, if_true, if_false, Int.reduceEq, ↓vmP, vm0, vm1, vm2, vm3, vm4, vm5, vm6, vm7, vm8, vm9, vm10, vm11, vm12, vm13, vm14, vm15, vmC, vmN, Nat.reduceAdd, Nat.reduceMul, Nat.reduceSub, Nat.reduceEqDiff, Nat.reduceLT, Nat.reduceLeDiff, ↓reduceIte, Tg.isFull, Int.reduceToNat])
      | false =>
        simp only [hv, Bool.false_eq_true, if_false] at hQ hR
        rw [hv] at hhn
        simp -dsimp (disch := first | rfl | omega) only [mC, r26_9, r26_10, r26_11, r26_12, r26_13, r26_14, r26_23, r26_24, r26_25, callW_fn pgHN, callW_fn pgWithin, hhn, i64s_len, hat, e0, ej, Int.reduceEq, ↓vmP, vm0, vm1, vm2, vm3, vm4, vm5, vm6, vm7, vm8, vm9, vm10, vm11, vm12, vm13, vm14, vm15, vmC, vmN, Nat.reduceAdd, Nat.reduceMul, Nat.reduceSub, Nat.reduceEqDiff, Nat.reduceLT, Nat.reduceLeDiff, ↓reduceIte, Tg.isFull, Int.reduceToNat]
        exact hR trivial _ _ _
    · have ef : fitF m least 2 = decide (1 ≤ m.epoch ∧ m.epoch ≤ 1099511627776) := by simp [fitF, inR]
      rw [ef] at hQ hR
      cases hv : decide (1 ≤ m.epoch ∧ m.epoch ≤ 1099511627776) with
      | true =>
        simp only [hv, if_true] at hQ hR
        rw [hv] at hwe
        simp -dsimp (disch := first | rfl | omega) only [mC, r26_9, r26_10, r26_11, r26_12, r26_13, r26_15, r26_16, r26_23, r26_24, r26_25, callW_fn pgHN, callW_fn pgWithin, hwe, i64s_len, hat, e0, ej, Int.reduceEq, ↓vmP, vm0, vm1, vm2, vm3, vm4, vm5, vm6, vm7, vm8, vm9, vm10, vm11, vm12, vm13, vm14, vm15, vmC, vmN, Nat.reduceAdd, Nat.reduceMul, Nat.reduceSub, Nat.reduceEqDiff, Nat.reduceLT, Nat.reduceLeDiff, ↓reduceIte, Tg.isFull, Int.reduceToNat]
        exact next _ _ hQ hR (by simp -dsimp (disch := first | rfl | omega) only [mC, clr, if_true, if_false, Int.reduceEq, ↓vmP, vm0, vm1, vm2, vm3, vm4, vm5, vm6, vm7, vm8, vm9, vm10, vm11, vm12, vm13, vm14, vm15, vmC, vmN, Nat.reduceAdd, Nat.reduceMul, Nat.reduceSub, Nat.reduceEqDiff, Nat.reduceLT, Nat.reduceLeDiff, ↓reduceIte, Tg.isFull, Int.reduceToNat])
      | false =>
        simp only [hv, Bool.false_eq_true, if_false] at hQ hR
        rw [hv] at hwe
        simp -dsimp (disch := first | rfl | omega) only [mC, r26_9, r26_10, r26_11, r26_12, r26_13, r26_15, r26_16, r26_23, r26_24, r26_25, callW_fn pgHN, callW_fn pgWithin, hwe, i64s_len, hat, e0, ej, Int.reduceEq, ↓vmP, vm0, vm1, vm2, vm3, vm4, vm5, vm6, vm7, vm8, vm9, vm10, vm11, vm12, vm13, vm14, vm15, vmC, vmN, Nat.reduceAdd, Nat.reduceMul, Nat.reduceSub, Nat.reduceEqDiff, Nat.reduceLT, Nat.reduceLeDiff, ↓reduceIte, Tg.isFull, Int.reduceToNat]
        exact hR trivial _ _ _
    · have ef : fitF m least 3 = decide (least ≤ m.seq ∧ m.seq ≤ 1099511627776) := by simp [fitF, inR]
      rw [ef] at hQ hR
      cases hv : decide (least ≤ m.seq ∧ m.seq ≤ 1099511627776) with
      | true =>
        simp only [hv, if_true] at hQ hR
        rw [hv] at hws
        simp -dsimp (disch := first | rfl | omega) only [mC, r26_9, r26_10, r26_11, r26_12, r26_13, r26_15, r26_17, r26_18, r26_23, r26_24, r26_25, callW_fn pgHN, callW_fn pgWithin, hws, i64s_len, hat, e0, ej, Int.reduceEq, ↓vmP, vm0, vm1, vm2, vm3, vm4, vm5, vm6, vm7, vm8, vm9, vm10, vm11, vm12, vm13, vm14, vm15, vmC, vmN, Nat.reduceAdd, Nat.reduceMul, Nat.reduceSub, Nat.reduceEqDiff, Nat.reduceLT, Nat.reduceLeDiff, ↓reduceIte, Tg.isFull, Int.reduceToNat]
        exact next _ _ hQ hR (by simp -dsimp (disch := first | rfl | omega) only [mC, clr, if_true, if_false, Int.reduceEq, ↓vmP, vm0, vm1, vm2, vm3, vm4, vm5, vm6, vm7, vm8, vm9, vm10, vm11, vm12, vm13, vm14, vm15, vmC, vmN, Nat.reduceAdd, Nat.reduceMul, Nat.reduceSub, Nat.reduceEqDiff, Nat.reduceLT, Nat.reduceLeDiff, ↓reduceIte, Tg.isFull, Int.reduceToNat])
      | false =>
        simp only [hv, Bool.false_eq_true, if_false] at hQ hR
        rw [hv] at hws
        simp -dsimp (disch := first | rfl | omega) only [mC, r26_9, r26_10, r26_11, r26_12, r26_13, r26_15, r26_17, r26_18, r26_23, r26_24, r26_25, callW_fn pgHN, callW_fn pgWithin, hws, i64s_len, hat, e0, ej, Int.reduceEq, ↓vmP, vm0, vm1, vm2, vm3, vm4, vm5, vm6, vm7, vm8, vm9, vm10, vm11, vm12, vm13, vm14, vm15, vmC, vmN, Nat.reduceAdd, Nat.reduceMul, Nat.reduceSub, Nat.reduceEqDiff, Nat.reduceLT, Nat.reduceLeDiff, ↓reduceIte, Tg.isFull, Int.reduceToNat]
        exact hR trivial _ _ _
    · have ef : fitF m least 4 = decide (m.seq ≤ m.to ∧ m.to ≤ 1099511627776) := by simp [fitF, inR]
      rw [ef] at hQ hR
      cases hv : decide (m.seq ≤ m.to ∧ m.to ≤ 1099511627776) with
      | true =>
        simp only [hv, if_true] at hQ hR
        rw [hv] at hwt
        simp -dsimp (disch := first | rfl | omega) only [mC, r26_9, r26_10, r26_11, r26_12, r26_13, r26_15, r26_17, r26_19, r26_20, r26_23, r26_24, r26_25, callW_fn pgHN, callW_fn pgWithin, hwt, i64s_len, hat, e0, ej, Int.reduceEq, ↓vmP, vm0, vm1, vm2, vm3, vm4, vm5, vm6, vm7, vm8, vm9, vm10, vm11, vm12, vm13, vm14, vm15, vmC, vmN, Nat.reduceAdd, Nat.reduceMul, Nat.reduceSub, Nat.reduceEqDiff, Nat.reduceLT, Nat.reduceLeDiff, ↓reduceIte, Tg.isFull, Int.reduceToNat]
        exact next _ _ hQ hR (by simp -dsimp (disch := first | rfl | omega) only [mC, clr, if_true, if_false, Int.reduceEq, ↓vmP, vm0, vm1, vm2, vm3, vm4, vm5, vm6, vm7, vm8, vm9, vm10, vm11, vm12, vm13, vm14, vm15, vmC, vmN, Nat.reduceAdd, Nat.reduceMul, Nat.reduceSub, Nat.reduceEqDiff, Nat.reduceLT, Nat.reduceLeDiff, ↓reduceIte, Tg.isFull, Int.reduceToNat])
      | false =>
        simp only [hv, Bool.false_eq_true, if_false] at hQ hR
        rw [hv] at hwt
        simp -dsimp (disch := first | rfl | omega) only [mC, r26_9, r26_10, r26_11, r26_12, r26_13, r26_15, r26_17, r26_19, r26_20, r26_23, r26_24, r26_25, callW_fn pgHN, callW_fn pgWithin, hwt, i64s_len, hat, e0, ej, Int.reduceEq, ↓vmP, vm0, vm1, vm2, vm3, vm4, vm5, vm6, vm7, vm8, vm9, vm10, vm11, vm12, vm13, vm14, vm15, vmC, vmN, Nat.reduceAdd, Nat.reduceMul, Nat.reduceSub, Nat.reduceEqDiff, Nat.reduceLT, Nat.reduceLeDiff, ↓reduceIte, Tg.isFull, Int.reduceToNat]
        exact hR trivial _ _ _
    · by_cases b1 : 0 < m.body.length
      · have e1 : (0 < (m.body.length : Int)) = True := eq_true (by omega)
        by_cases b2 : m.body.length ≤ 16320
        · have e2 : ((m.body.length : Int) ≤ 16320) = True := eq_true (by omega)
          have ef : fitF m least 5 = true := by simp [fitF, b1, b2]
          rw [ef] at hQ hR
          simp only [if_true] at hQ hR
          simp -dsimp (disch := first | rfl | omega) only [mC, r26_9, r26_10, r26_11, r26_12, r26_13, r26_15, r26_17, r26_19, r26_21, r26_22, r26_23, r26_24, r26_25, i64s_len, hat, e0, ej, e1, e2, Int.reduceEq, ↓vmP, vm0, vm1, vm2, vm3, vm4, vm5, vm6, vm7, vm8, vm9, vm10, vm11, vm12, vm13, vm14, vm15, vmC, vmN, Nat.reduceAdd, Nat.reduceMul, Nat.reduceSub, Nat.reduceEqDiff, Nat.reduceLT, Nat.reduceLeDiff, ↓reduceIte, Tg.isFull, Int.reduceToNat]
          exact next _ _ hQ hR (by simp -dsimp (disch := first | rfl | omega) only [mC, clr, if_true, if_false, Int.reduceEq, u8s_nil, ↓vmP, vm0, vm1, vm2, vm3, vm4, vm5, vm6, vm7, vm8, vm9, vm10, vm11, vm12, vm13, vm14, vm15, vmC, vmN, Nat.reduceAdd, Nat.reduceMul, Nat.reduceSub, Nat.reduceEqDiff, Nat.reduceLT, Nat.reduceLeDiff, ↓reduceIte, Tg.isFull, Int.reduceToNat])
        · have e2 : ((m.body.length : Int) ≤ 16320) = False := eq_false (by omega)
          have ef : fitF m least 5 = false := by simp [fitF, b1, b2]
          rw [ef] at hQ hR
          simp only [Bool.false_eq_true, if_false] at hQ hR
          simp -dsimp (disch := first | rfl | omega) only [mC, r26_9, r26_10, r26_11, r26_12, r26_13, r26_15, r26_17, r26_19, r26_21, r26_22, r26_23, r26_24, r26_25, i64s_len, hat, e0, ej, e1, e2, Int.reduceEq, ↓vmP, vm0, vm1, vm2, vm3, vm4, vm5, vm6, vm7, vm8, vm9, vm10, vm11, vm12, vm13, vm14, vm15, vmC, vmN, Nat.reduceAdd, Nat.reduceMul, Nat.reduceSub, Nat.reduceEqDiff, Nat.reduceLT, Nat.reduceLeDiff, ↓reduceIte, Tg.isFull, Int.reduceToNat]
          exact hR trivial _ _ _
      · have e1 : (0 < (m.body.length : Int)) = False := eq_false (by omega)
        have ef : fitF m least 5 = false := by simp [fitF, b1]
        rw [ef] at hQ hR
        simp only [Bool.false_eq_true, if_false] at hQ hR
        simp -dsimp (disch := first | rfl | omega) only [mC, r26_9, r26_10, r26_11, r26_12, r26_13, r26_15, r26_17, r26_19, r26_21, r26_22, r26_23, r26_24, r26_25, i64s_len, hat, e0, ej, e1, Int.reduceEq, ↓vmP, vm0, vm1, vm2, vm3, vm4, vm5, vm6, vm7, vm8, vm9, vm10, vm11, vm12, vm13, vm14, vm15, vmC, vmN, Nat.reduceAdd, Nat.reduceMul, Nat.reduceSub, Nat.reduceEqDiff, Nat.reduceLT, Nat.reduceLeDiff, ↓reduceIte, Tg.isFull, Int.reduceToNat]
        exact hR trivial _ _ _
end Go.Vm.Wr
