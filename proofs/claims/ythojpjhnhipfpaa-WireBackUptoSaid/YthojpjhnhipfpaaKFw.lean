/- A part of the proof of WireBackUptoSaid: YthojpjhnhipfpaaFw. -/
import Derived.Test.YthojpjhnhipfpaaKFv
/- Streams of messages. -/
set_option linter.unusedVariables false
set_option linter.unusedSimpArgs false
set_option maxHeartbeats 400000
namespace Go.Vm.Wr
theorem body_nil {m : Msg} (hv : vld m = true) (h : m.kind ≠ 3) : m.body = [] := by
  obtain ⟨k, ho, e, s, t, b, tg, bz⟩ := m
  simp only at h ⊢
  by_cases h1 : k = 1
  · subst h1; rw [vld_1] at hv; simp at hv; exact hv.2
  by_cases h2 : k = 2
  · subst h2; rw [vld_2] at hv; simp at hv; exact hv.2
  by_cases h4 : k = 4
  · subst h4; rw [vld_4] at hv; simp at hv; exact hv.2
  by_cases h5 : k = 5
  · subst h5; rw [vld_5] at hv; simp at hv; exact hv.2
  by_cases h6 : k = 6
  · subst h6; rw [vld_6] at hv; simp at hv; exact hv.2
  by_cases h7 : k = 7
  · subst h7; rw [vld_7] at hv; simp at hv; exact hv.2
  simp [vld, lst, h1, h2, h, h4, h5, h6, h7] at hv
theorem body_len {m : Msg} (hv : vld m = true) : m.body.length ≤ 16320 := by
  by_cases h : m.kind = 3
  · obtain ⟨k, ho, e, s, t, b, tg, bz⟩ := m
    simp only at h
    subst h; rw [vld_3] at hv; simp at hv; exact hv.2.2
  · rw [body_nil hv h]; simp
theorem nm_wf {m : Msg} (h : Nm m) : Wf m := by
  have h1 := vld_host h.v
  have h2 := body_len h.v
  exact ⟨by omega, by omega, okSz_nm m h.z (fun h3 => body_nil h.v h3)⟩
theorem nm_no {m : Msg} (h : Nm m) : noM m = m := by
  obtain ⟨k, ho, e, s, t, b, tg, bz⟩ := m
  have h1 := h.t
  have h2 := h.z
  simp only at h1 h2
  subst h1
  show (⟨k, ho, e, s, t, b, .any, if k = 3 then 1 else 0⟩ : Msg) = _
  rw [← h2]
theorem no_nm {m : Msg} (h : vld m = true) : Nm (noM m) := ⟨by rw [vld_no]; exact h, rfl, rfl⟩
theorem no_enc (m : Msg) : enc (noM m) = enc m := enc_bz _ _ _
theorem bodyB_len {m : Msg} (hv : vld m = true) : 1 ≤ (bodyB m).length ∧ (bodyB m).length ≤ 16512 := by
  have h1 := vld_host hv
  have h2 := body_len hv
  have w : ∀ x : Int, x ≤ 1099511627776 → (vb x.toNat).length ≤ 9 := fun x hx => vb_len _ (by omega)
  obtain ⟨k, ho, e, s, t, b, tg, bz⟩ := m
  simp only at h1 h2
  by_cases k1 : k = 1
  · subst k1; rw [vld_1] at hv; simp at hv
    have a1 := w e (by omega); have a2 := w s (by omega)
    simp [bodyB, lst, fbl, fbs]; omega
  by_cases k2 : k = 2
  · subst k2; rw [vld_2] at hv; simp at hv
    have a2 := w s (by omega)
    simp [bodyB, lst, fbl, fbs]; omega
  by_cases k3 : k = 3
  · subst k3; rw [vld_3] at hv; simp at hv
    have a2 := w s (by omega)
    simp [bodyB, lst, fbl, fbs]; omega
  by_cases k4 : k = 4
  · subst k4; rw [vld_4] at hv; simp at hv
    have a2 := w s (by omega); have a3 := w t (by omega)
    simp [bodyB, lst, fbl, fbs]; omega
  by_cases k5 : k = 5
  · subst k5; rw [vld_5] at hv; simp at hv
    have a2 := w s (by omega)
    simp [bodyB, lst, fbl, fbs]; omega
  by_cases k6 : k = 6
  · subst k6; simp [bodyB, lst, fbl]
  by_cases k7 : k = 7
  · subst k7; simp [bodyB, lst, fbl]
  simp [vld, lst, k1, k2, k3, k4, k5, k6, k7] at hv
theorem enc_le {m : Msg} (hv : vld m = true) : (enc m).length ≤ 16516 := by
  have := bodyB_len hv
  simp [enc, lenB]; omega
def encs (l : List Msg) : List UInt8 := l.flatMap enc
theorem encs_app (l : List Msg) (m : Msg) : encs (l ++ [m]) = encs l ++ enc m := by simp [encs]
theorem encs_len {l : List Msg} (h : ∀ m ∈ l, Nm m) : (encs l).length ≤ 16516 * l.length := by
  induction l with
  | nil => simp [encs]
  | cons m l ih =>
    have h1 := enc_le (h m (List.mem_cons_self ..)).v
    have h2 := ih (fun x hx => h x (List.mem_cons_of_mem _ hx))
    simp only [encs, List.flatMap_cons, List.length_append, List.length_cons] at h2 ⊢
    omega
theorem fdF_len : ∀ (k : Nat) (b : List UInt8) (out : List Msg), (fdF k b out).1.length ≤ out.length + k
  | 0, b, out => by simp [fdF]
  | k + 1, b, out => by
    simp only [fdF]
    have := fdF_len k (b.drop (n4 b + 4)) (out ++ [(dR (b.take (n4 b + 4))).1])
    repeat' split
    all_goals first | (simp at this ⊢; omega) | simp
theorem pgMsg : prog 23 = some c23 := rfl
theorem st_loop {Q : Ex → St → Prop} (l : List UInt8) (hl : l.length ≤ 1000) : ∀ (n a : Nat) (L : List Msg) (f1 f2 : Bool) (s : St), a ≤ l.length → (∀ m ∈ L, Nm m) → L.length + n ≤ 10 →
    gc [(0, none), (4, some 6), (5, some 1), (6, none)] s = ⟨gS [(0, .ptr 0 0), (4, .row 1), (5, .row 2), (6, .d (.int .i64 n))], gH [(0, cs l a), (1, .row 6 f1 (msD L)), (2, .row 1 f2 (u8s (encs L)))], 3, 1, [0]⟩ →
    (∀ a' L' f1 f2 T, a ≤ a' → a' ≤ l.length → (∀ m ∈ L', Nm m) → L'.length ≤ 10 → Q (.exit 0) ⟨gS ((0, .ptr 0 0) :: (4, .row 1) :: (5, .row 2) :: T), gH [(0, cs l a'), (1, .row 6 f1 (msD L')), (2, .row 1 f2 (u8s (encs L')))], 19, 1, [0]⟩) →
    wpW false prog (.loop [(0, none), (4, some 6), (5, some 1), (6, none)] l29_9) s Q := by
  intro n
  induction n with
  | zero =>
    intro a L f1 f2 s ha hL hn hg hQ
    refine wp_loop1 ?_
    rw [hg]
    generalize hJ : (fun s' => wpW false prog (.loop [(0, none), (4, some 6), (5, some 1), (6, none)] l29_9) s' Q) = J
    unfold l29_9
    simp -dsimp (disch := first | rfl | omega) only [r29_4, show (((0 : Nat) : Int)) = 0 from rfl, Int.reduceLT, ↓vmP, vm0, vm1, vm2, vm3, vm4, vm5, vm6, vm7, vm8, vm9, vm10, vm11, vm12, vm13, vm14, vm15, vmC, vmN, Nat.reduceAdd, Nat.reduceMul, Nat.reduceSub, Nat.reduceEqDiff, Nat.reduceLT, Nat.reduceLeDiff, ↓reduceIte, Tg.isFull, Int.reduceToNat]
    exact hQ a L f1 f2 _ (Nat.le_refl _) ha hL (by omega)
  | succ n ih =>
    intro a L f1 f2 s ha hL hn hg hQ
    refine wp_loop1 ?_
    rw [hg]
    generalize hJ : (fun s' => wpW false prog (.loop [(0, none), (4, some 6), (5, some 1), (6, none)] l29_9) s' Q) = J
    unfold l29_9
    have e0 : ((0 : Int) < ((n + 1 : Nat) : Int)) = True := eq_true (by omega)
    have en : (((n + 1 : Nat) : Int) - 1) = (n : Int) := by omega
    obtain ⟨m, a1, hm, m1, m2, hM⟩ := Msg_ex l a hl ha
    have hE := Enc_all m (nm_wf hm)
    rw [if_pos hm.v] at hE
    have h1 := enc_le hm.v
    have h2 := encs_len hL
    have hml := msD_len L
    have hul := u8s_len (encs L)
    have hul2 := u8s_len (enc m)
    have hem : (u8s (enc m)).isEmpty = false := rfl
    have hmt := hm.t
    have hnm := hm
    obtain ⟨k, ho, e, s, t, b, tg, bz⟩ := m
    simp only at hmt
    subst hmt
    have happ := msD_app1 L k ho e s t b bz
    have heap : u8s (encs L) ++ u8s (enc ⟨k, ho, e, s, t, b, .any, bz⟩) = u8s (encs (L ++ [⟨k, ho, e, s, t, b, .any, bz⟩])) := by rw [u8s_app, encs_app]
    generalize enc ⟨k, ho, e, s, t, b, .any, bz⟩ = E at hE h1 hul2 hem heap
    simp only [mC] at hM hE
    simp only [cs] at hM
    rw [u8s_app] at heap
    simp -dsimp (disch := first | rfl | omega) only [cs, r29_4, r29_5, r29_6, r29_7, r29_8, callW_fn pgMsg, callW_fn pgEnc, hM, hE, hem, e0, en, happ, heap, ↓vmP, vm0, vm1, vm2, vm3, vm4, vm5, vm6, vm7, vm8, vm9, vm10, vm11, vm12, vm13, vm14, vm15, vmC, vmN, Nat.reduceAdd, Nat.reduceMul, Nat.reduceSub, Nat.reduceEqDiff, Nat.reduceLT, Nat.reduceLeDiff, ↓reduceIte, Tg.isFull, Int.reduceToNat]
    rw [← hJ]
    refine ih a1 (L ++ [⟨k, ho, e, s, t, b, .any, bz⟩]) false false _ m2 (fun x hx => ?_) (by simp; omega) (by simp -dsimp (disch := first | rfl | omega) only [cs, ↓vmP, vm0, vm1, vm2, vm3, vm4, vm5, vm6, vm7, vm8, vm9, vm10, vm11, vm12, vm13, vm14, vm15, vmC, vmN, Nat.reduceAdd, Nat.reduceMul, Nat.reduceSub, Nat.reduceEqDiff, Nat.reduceLT, Nat.reduceLeDiff, ↓reduceIte, Tg.isFull, Int.reduceToNat]) (fun a' L' f1 f2 T h1 h2 h3 h4 => hQ a' L' f1 f2 T (by omega) h2 h3 h4)
    rcases List.mem_append.1 hx with hx | hx
    · exact hL x hx
    · simp at hx; subst hx; exact hnm
theorem Stream_ex (l : List UInt8) (a : Nat) (hl : l.length ≤ 1000) (ha : a ≤ l.length) : ∃ (L : List Msg) (a' : Nat), (∀ m ∈ L, Nm m) ∧ L.length ≤ 10 ∧ a ≤ a' ∧ a' ≤ l.length ∧ runW false prog 29 [.ptr 0 0] [cs l a] = some (.tup [.d (.sl .any 6 (msD L)), .d (.sl .any 1 (u8s (encs L)))], [cs l a'], [0]) := by
  have key : ∃ R, (∃ (L : List Msg) (a' : Nat), (∀ m ∈ L, Nm m) ∧ L.length ≤ 10 ∧ a ≤ a' ∧ a' ≤ l.length ∧ R = (A.tup [.d (.sl .any 6 (msD L)), .d (.sl .any 1 (u8s (encs L)))], [cs l a'], [0])) ∧ runW false prog 29 [.ptr 0 0] [cs l a] = some R := by
    refine run_ex rfl ?_
    generalize hQ : (fun (e : Ex) (s : St) => _ : Ex → St → Prop) = Q
    have hi := Int_eq l a 5 (by omega) (by omega) (by omega)
    rw [show ((5 : Nat) : Int) = 5 from rfl] at hi
    have q1 := cN_le l a 5
    have q2 := cN_len l a 5 ha
    have qx := cI_lt l a 5 (by omega)
    generalize cN l a 5 = a1 at hi q1 q2
    generalize cI l a 5 = x at hi qx
    simp only [cs] at hi
    simp -dsimp (disch := first | rfl | omega) only [cs, r29_0, r29_1, r29_2, r29_3, callW_fn pgI, hi, ↓vmP, vm0, vm1, vm2, vm3, vm4, vm5, vm6, vm7, vm8, vm9, vm10, vm11, vm12, vm13, vm14, vm15, vmC, vmN, Nat.reduceAdd, Nat.reduceMul, Nat.reduceSub, Nat.reduceEqDiff, Nat.reduceLT, Nat.reduceLeDiff, ↓reduceIte, Tg.isFull, Int.reduceToNat]
    refine st_loop l hl x a1 [] true true _ q2 (by simp) (by simp; omega) (by simp -dsimp (disch := first | rfl | omega) only [cs, msD, List.map_nil, ↓vmP, vm0, vm1, vm2, vm3, vm4, vm5, vm6, vm7, vm8, vm9, vm10, vm11, vm12, vm13, vm14, vm15, vmC, vmN, Nat.reduceAdd, Nat.reduceMul, Nat.reduceSub, Nat.reduceEqDiff, Nat.reduceLT, Nat.reduceLeDiff, ↓reduceIte, Tg.isFull, Int.reduceToNat]; rfl) (fun a' L' f1 f2 T g1 g2 g3 g4 => ?_)
    simp -dsimp (disch := first | rfl | omega) only [cs, r29_10, ↓vmP, vm0, vm1, vm2, vm3, vm4, vm5, vm6, vm7, vm8, vm9, vm10, vm11, vm12, vm13, vm14, vm15, vmC, vmN, Nat.reduceAdd, Nat.reduceMul, Nat.reduceSub, Nat.reduceEqDiff, Nat.reduceLT, Nat.reduceLeDiff, ↓reduceIte, Tg.isFull, Int.reduceToNat]
    rw [← hQ]
    refine ⟨_, ⟨L', a', g3, g4, by omega, g2, rfl⟩, ?_⟩
    simp -dsimp (disch := first | rfl | omega) only [cs, ↓vmP, vm0, vm1, vm2, vm3, vm4, vm5, vm6, vm7, vm8, vm9, vm10, vm11, vm12, vm13, vm14, vm15, vmC, vmN, Nat.reduceAdd, Nat.reduceMul, Nat.reduceSub, Nat.reduceEqDiff, Nat.reduceLT, Nat.reduceLeDiff, ↓reduceIte, Tg.isFull, Int.reduceToNat]
  obtain ⟨R, ⟨L, a', h1, h2, h3, h4, rfl⟩, h⟩ := key
  exact ⟨L, a', h1, h2, h3, h4, h⟩
theorem pgStream : prog 29 = some c29 := rfl
end Go.Vm.Wr
