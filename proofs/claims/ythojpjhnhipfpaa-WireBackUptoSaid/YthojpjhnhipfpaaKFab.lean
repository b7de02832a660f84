/- A part of the proof of WireBackUptoSaid: YthojpjhnhipfpaaFab. -/
import Derived.Test.YthojpjhnhipfpaaKFz
/- What is read has the bytes from which it was read: the plain law, and the statement run. -/
set_option linter.unusedVariables false
set_option linter.unusedSimpArgs false
set_option maxHeartbeats 1000000
namespace Go.Vm.Wr
theorem fd_back : ∀ (k : Nat) (b : List UInt8) (out out' : List Msg) (left : List UInt8) (ok : Bool), fdF k b out = (out', left, ok) → ∃ L r, out' = out ++ L ∧ (∀ m ∈ L, Nm m) ∧ encs L ++ r = b ∧ ((ok = true ∧ r = left) ∨ (ok = false ∧ left = []))
  | 0, b, out, out', left, ok, h => by
    simp only [fdF, Prod.mk.injEq] at h
    obtain ⟨rfl, rfl, rfl⟩ := h
    exact ⟨[], b, by simp, by simp, by simp [encs], .inl ⟨rfl, rfl⟩⟩
  | k + 1, b, out, out', left, ok, h => by
    unfold fdF at h
    split at h
    · simp only [Prod.mk.injEq] at h
      obtain ⟨rfl, rfl, rfl⟩ := h
      exact ⟨[], b, by simp, by simp, by simp [encs], .inl ⟨rfl, rfl⟩⟩
    split at h
    · simp only [Prod.mk.injEq] at h
      obtain ⟨rfl, rfl, rfl⟩ := h
      exact ⟨[], b, by simp, by simp, by simp [encs], .inr ⟨rfl, rfl⟩⟩
    split at h
    · simp only [Prod.mk.injEq] at h
      obtain ⟨rfl, rfl, rfl⟩ := h
      exact ⟨[], b, by simp, by simp, by simp [encs], .inl ⟨rfl, rfl⟩⟩
    split at h
    · rename_i hd
      obtain ⟨m, h1, h2, h3⟩ := dR_ok hd
      rw [h1] at h
      obtain ⟨L, r, q1, q2, q3, q4⟩ := fd_back k _ _ out' left ok h
      refine ⟨noM m :: L, r, by rw [q1]; simp, fun x hx => ?_, ?_, q4⟩
      · rcases List.mem_cons.1 hx with rfl | hx
        · exact no_nm h2
        · exact q2 x hx
      · rw [encs_cons, no_enc, h3, List.append_assoc, q3, List.take_append_drop]
    · simp only [Prod.mk.injEq] at h
      obtain ⟨rfl, rfl, rfl⟩ := h
      exact ⟨[], b, by simp, by simp, by simp [encs], .inr ⟨rfl, rfl⟩⟩
theorem encs_app2 (a b : List Msg) : encs (a ++ b) = encs a ++ encs b := by simp [encs]
theorem b_loop {Q : Ex → St → Prop} (xs : List Msg) (hx : ∀ m ∈ xs, Nm m) (hl : xs.length ≤ 4000000) (he : (encs xs).length ≤ 4000000) (raw left : List UInt8) (z : Nat) (err : Int) : ∀ (k j : Nat) (f : Bool) (s : St), j + k = xs.length →
    gc [(1, none), (12, none), (13, none), (14, some 1), (63, none), (64, none), (65, none)] s = ⟨gS [(1, .d (.sl .any 1 (u8s raw))), (12, .d (.sl .any z (u8s left))), (13, .d (.int .i64 err)), (14, .row 0), (63, .d (.sl .any 6 (msD xs))), (64, .d (.int .i64 xs.length)), (65, .d (.int .i64 j))], gH [(0, .row 1 f (u8s (encs (xs.take j))))], 1, 0, []⟩ →
    (∀ f T, Q (.exit 0) ⟨gS ((1, .d (.sl .any 1 (u8s raw))) :: (12, .d (.sl .any z (u8s left))) :: (13, .d (.int .i64 err)) :: (14, .row 0) :: T), gH [(0, .row 1 f (u8s (encs xs)))], 9, 0, []⟩) →
    wpW false prog (.loop [(1, none), (12, none), (13, none), (14, some 1), (63, none), (64, none), (65, none)] l8_16) s Q := by
  intro k
  induction k with
  | zero =>
    intro j f s hj hg hQ
    refine wp_loop1 ?_
    rw [hg]
    generalize hJ : (fun s' => wpW false prog (.loop [(1, none), (12, none), (13, none), (14, some 1), (63, none), (64, none), (65, none)] l8_16) s' Q) = J
    unfold l8_16
    have e0 : ((j : Int) < xs.length) = False := eq_false (by omega)
    rw [List.take_of_length_le (by omega)]
    simp -dsimp (disch := first | rfl | omega) only [r8_9, e0, ↓vmP, vm0, vm1, vm2, vm3, vm4, vm5, vm6, vm7, vm8, vm9, vm10, vm11, vm12, vm13, vm14, vm15, vmC, vmN, Nat.reduceAdd, Nat.reduceMul, Nat.reduceSub, Nat.reduceEqDiff, Nat.reduceLT, Nat.reduceLeDiff, ↓reduceIte, Tg.isFull, Int.reduceToNat]
    exact hQ f _
  | succ k ih =>
    intro j f s hj hg hQ
    refine wp_loop1 ?_
    rw [hg]
    generalize hJ : (fun s' => wpW false prog (.loop [(1, none), (12, none), (13, none), (14, some 1), (63, none), (64, none), (65, none)] l8_16) s' Q) = J
    unfold l8_16
    have e0 : ((j : Int) < xs.length) = True := eq_true (by omega)
    have ej : ((j : Int) + 1) = ((j + 1 : Nat) : Int) := by omega
    have hat := msD_at xs (show j < xs.length by omega)
    have hml := msD_len xs
    have hmem : xs.getD j dMsg ∈ xs := by
      rw [List.getD_eq_getElem?_getD, List.getElem?_eq_getElem (by omega)]; exact List.getElem_mem _
    have htk : xs.take (j + 1) = xs.take j ++ [xs.getD j dMsg] := by
      rw [List.take_add_one, List.getD_eq_getElem?_getD, List.getElem?_eq_getElem (by omega)]; rfl
    have hm := hx _ hmem
    have hel : (encs (xs.take (j + 1))).length ≤ 4000000 := by
      have := congrArg List.length (encs_app2 (xs.take (j + 1)) (xs.drop (j + 1)))
      rw [List.take_append_drop, List.length_append] at this
      omega
    rw [htk, encs_app, List.length_append] at hel
    generalize xs.getD j dMsg = x at hat htk hm hel
    have hE := Enc_all x (nm_wf hm)
    rw [if_pos hm.v] at hE
    have hul2 := u8s_len (enc x)
    have hul := u8s_len (encs (xs.take j))
    have hem : (u8s (enc x)).isEmpty = false := rfl
    have heap : u8s (encs (xs.take j) ++ enc x) = u8s (encs (xs.take (j + 1))) := by rw [htk, encs_app]
    have hxt := hm.t
    obtain ⟨mk, mh, me, mq, mt, mb, mtg, mz⟩ := x
    simp only at hxt
    subst hxt
    generalize enc ⟨mk, mh, me, mq, mt, mb, .any, mz⟩ = E at hE hul2 hem heap hel
    simp only [mC] at hE
    simp only [mD] at hat
    simp -dsimp (disch := first | rfl | omega) only [r8_9, r8_10, r8_11, r8_12, r8_14, r8_15, callW_fn pgEnc, hE, hat, e0, ej, hem, heap, ne_eq, not_true_eq_false, ↓vmP, vm0, vm1, vm2, vm3, vm4, vm5, vm6, vm7, vm8, vm9, vm10, vm11, vm12, vm13, vm14, vm15, vmC, vmN, Nat.reduceAdd, Nat.reduceMul, Nat.reduceSub, Nat.reduceEqDiff, Nat.reduceLT, Nat.reduceLeDiff, ↓reduceIte, Tg.isFull, Int.reduceToNat]
    rw [← hJ]
    exact ih (j + 1) false _ (by omega) (by simp -dsimp (disch := first | rfl | omega) only [↓vmP, vm0, vm1, vm2, vm3, vm4, vm5, vm6, vm7, vm8, vm9, vm10, vm11, vm12, vm13, vm14, vm15, vmC, vmN, Nat.reduceAdd, Nat.reduceMul, Nat.reduceSub, Nat.reduceEqDiff, Nat.reduceLT, Nat.reduceLeDiff, ↓reduceIte, Tg.isFull, Int.reduceToNat]) hQ
theorem law_wback (codes raw : List UInt8) (hr : raw.length ≤ 1048576) : runW false prog 8 [.d (.sl .any 1 (u8s codes)), .d (.sl .any 1 (u8s raw))] [] = some (.d (.bool true), [], []) := by
  refine run_of rfl ?_
  have h1 := New_eq codes 100 (by omega)
  rw [show ((100 : Nat) : Int) = 100 from rfl] at h1
  have hcl : (codes.take 100).length ≤ 1000 := by rw [List.length_take]; omega
  generalize codes.take 100 = l at h1 hcl
  obtain ⟨m, a1, hm, _, a1l, h2⟩ := Msg_ex l 0 hcl (by omega)
  have hE := Enc_all m (nm_wf hm)
  rw [if_pos hm.v] at hE
  have hle := enc_le hm.v
  have hF := Feed_eq [] (enc m) .any .any 0 1 rfl rfl (by simp; omega)
  obtain ⟨i2, p', j1, j2, j3, j4⟩ := fd_pref [m] (enc m) [] [] ((enc m).length + 1) (by simp [encs]) (by simpa using hm) (by omega)
  obtain ⟨rfl, rfl⟩ := j4 rfl
  rw [List.nil_append, j2] at hF
  simp only [fdR, u8s_nil, List.nil_append, List.take_length] at hF
  have hS := Same_self m .any .any m.bz m.bz
  have hG := Feed_eq [] raw .any .any 0 1 rfl rfl (by simp; omega)
  rw [List.nil_append] at hG
  obtain ⟨xs, left, ok, hfd⟩ : ∃ xs left ok, fdF (raw.length + 1) raw [] = (xs, left, ok) := ⟨_, _, _, rfl⟩
  rw [hfd] at hG
  have hlen := fdF_len (raw.length + 1) raw []
  rw [hfd] at hlen
  obtain ⟨L, r, q1, q2, q3, q4⟩ := fd_back _ _ _ _ _ _ hfd
  rw [List.nil_append] at q1
  subst q1
  have hel : (encs xs).length + r.length = raw.length := by rw [← q3, List.length_append]
  have hxl : xs.length ≤ 4000000 := by simp at hlen; omega
  have hmt := hm.t
  obtain ⟨mk, mh, me, mq, mt, mb, mtg, mz⟩ := m
  simp only at hmt
  subst hmt
  generalize enc ⟨mk, mh, me, mq, mt, mb, .any, mz⟩ = E at hE hF
  simp only [mC] at h2 hE hS
  simp only [cs] at h1 h2
  rw [show (((0 : Nat) : Int)) = 0 from rfl] at h1 h2
  simp only [msD, mD, List.map_cons, List.map_nil, u8s_nil] at hF
  rw [u8s_nil] at hG
  have hmlx := msD_len xs
  have hulE := u8s_len (encs xs)
  have hull := u8s_len left
  rcases q4 with ⟨rfl, rfl⟩ | ⟨rfl, rfl⟩
  · simp only [fdR] at hG
    simp -dsimp (disch := first | rfl | omega) only [mC, cs, r8_0, r8_1, r8_2, r8_3, r8_4, r8_6, r8_7, r8_8, callW_fn pgNewP, callW_fn pgMsg, callW_fn pgEnc, callW_fn pgFeed, callW_fn pgSameM, h1, h2, hE, hF, hS, hG, ne_eq, not_true_eq_false, show (((1 : Nat) : Int)) = 1 from rfl, show (((0 : Nat) : Int)) = 0 from rfl, ↓vmP, vm0, vm1, vm2, vm3, vm4, vm5, vm6, vm7, vm8, vm9, vm10, vm11, vm12, vm13, vm14, vm15, vmC, vmN, Nat.reduceAdd, Nat.reduceMul, Nat.reduceSub, Nat.reduceEqDiff, Nat.reduceLT, Nat.reduceLeDiff, ↓reduceIte, Tg.isFull, Int.reduceToNat]
    refine regD_of (by kernel_rfl) ?_
    simp -dsimp (disch := first | rfl | omega) only [r8_0, r8_1, r8_2, r8_3, r8_4, r8_6, r8_7, r8_8, callW_fn pgFeed, hG, hmlx, ↓vmP, vm0, vm1, vm2, vm3, vm4, vm5, vm6, vm7, vm8, vm9, vm10, vm11, vm12, vm13, vm14, vm15, vmC, vmN, Nat.reduceAdd, Nat.reduceMul, Nat.reduceSub, Nat.reduceEqDiff, Nat.reduceLT, Nat.reduceLeDiff, ↓reduceIte, Tg.isFull, Int.reduceToNat]
    refine b_loop xs q2 hxl (by omega) raw r 1 0 xs.length 0 true _ (by omega) (by simp -dsimp (disch := first | rfl | omega) only [hmlx, ↓vmP, vm0, vm1, vm2, vm3, vm4, vm5, vm6, vm7, vm8, vm9, vm10, vm11, vm12, vm13, vm14, vm15, vmC, vmN, Nat.reduceAdd, Nat.reduceMul, Nat.reduceSub, Nat.reduceEqDiff, Nat.reduceLT, Nat.reduceLeDiff, ↓reduceIte, Tg.isFull, Int.reduceToNat]; rfl) (fun f T => ?_)
    have hre : (r = [] ∧ (u8s r).isEmpty = true) ∨ (u8s r).isEmpty = false := by cases r; exact .inl ⟨rfl, rfl⟩; exact .inr rfl
    have hSB := fun t1 t2 z1 z2 => SameBytes_eq raw raw t1 t2 z1 z2
    simp only [decide_true] at hSB
    rcases hre with ⟨rfl, hre⟩ | hre
    · rw [List.append_nil] at q3
      rw [q3]
      simp -dsimp (disch := first | rfl | omega) only [r8_17, r8_19, callW_fn pgSame, callW_fn pgBegun, begun_eq, hSB, hre, ne_eq, not_true_eq_false, ↓vmP, vm0, vm1, vm2, vm3, vm4, vm5, vm6, vm7, vm8, vm9, vm10, vm11, vm12, vm13, vm14, vm15, vmC, vmN, Nat.reduceAdd, Nat.reduceMul, Nat.reduceSub, Nat.reduceEqDiff, Nat.reduceLT, Nat.reduceLeDiff, ↓reduceIte, Tg.isFull, Int.reduceToNat]
    · simp -dsimp (disch := first | rfl | omega) only [r8_17, r8_19, callW_fn pgSame, callW_fn pgBegun, begun_eq, hSB, hre, q3, ne_eq, not_true_eq_false, ↓vmP, vm0, vm1, vm2, vm3, vm4, vm5, vm6, vm7, vm8, vm9, vm10, vm11, vm12, vm13, vm14, vm15, vmC, vmN, Nat.reduceAdd, Nat.reduceMul, Nat.reduceSub, Nat.reduceEqDiff, Nat.reduceLT, Nat.reduceLeDiff, ↓reduceIte, Tg.isFull, Int.reduceToNat]
  · simp only [fdR] at hG
    simp -dsimp (disch := first | rfl | omega) only [mC, cs, r8_0, r8_1, r8_2, r8_3, r8_4, r8_6, r8_7, r8_8, callW_fn pgNewP, callW_fn pgMsg, callW_fn pgEnc, callW_fn pgFeed, callW_fn pgSameM, h1, h2, hE, hF, hS, hG, ne_eq, not_true_eq_false, show (((1 : Nat) : Int)) = 1 from rfl, show (((0 : Nat) : Int)) = 0 from rfl, ↓vmP, vm0, vm1, vm2, vm3, vm4, vm5, vm6, vm7, vm8, vm9, vm10, vm11, vm12, vm13, vm14, vm15, vmC, vmN, Nat.reduceAdd, Nat.reduceMul, Nat.reduceSub, Nat.reduceEqDiff, Nat.reduceLT, Nat.reduceLeDiff, ↓reduceIte, Tg.isFull, Int.reduceToNat]
    refine regD_of (by kernel_rfl) ?_
    simp -dsimp (disch := first | rfl | omega) only [r8_0, r8_1, r8_2, r8_3, r8_4, r8_6, r8_7, r8_8, callW_fn pgFeed, hG, hmlx, ↓vmP, vm0, vm1, vm2, vm3, vm4, vm5, vm6, vm7, vm8, vm9, vm10, vm11, vm12, vm13, vm14, vm15, vmC, vmN, Nat.reduceAdd, Nat.reduceMul, Nat.reduceSub, Nat.reduceEqDiff, Nat.reduceLT, Nat.reduceLeDiff, ↓reduceIte, Tg.isFull, Int.reduceToNat]
    refine b_loop xs q2 hxl (by omega) raw [] 0 331 xs.length 0 true _ (by omega) (by simp -dsimp (disch := first | rfl | omega) only [hmlx, u8s_nil, ↓vmP, vm0, vm1, vm2, vm3, vm4, vm5, vm6, vm7, vm8, vm9, vm10, vm11, vm12, vm13, vm14, vm15, vmC, vmN, Nat.reduceAdd, Nat.reduceMul, Nat.reduceSub, Nat.reduceEqDiff, Nat.reduceLT, Nat.reduceLeDiff, ↓reduceIte, Tg.isFull, Int.reduceToNat]; rfl) (fun f T => ?_)
    have hrt : raw.take (encs xs).length = encs xs := by rw [← q3, List.take_append_of_le_length (Nat.le_refl _), List.take_length]
    have hSB := fun t1 t2 z1 z2 => SameBytes_eq (encs xs) (encs xs) t1 t2 z1 z2
    simp only [decide_true] at hSB
    have hlr : ((encs xs).length : Int) ≤ raw.length := by omega
    have hlr2 : (encs xs).length ≤ raw.length := by omega
    have hlr' := eq_true hlr
    simp -dsimp (disch := first | rfl | omega) only [r8_17, r8_18, callW_fn pgSame, callW_fn pgBegun, begun_eq, hSB, hrt, hlr', u8s_nil, ne_eq, Int.reduceEq, not_false_eq_true, show (((0 : Nat) : Int)) = 0 from rfl, ↓vmP, vm0, vm1, vm2, vm3, vm4, vm5, vm6, vm7, vm8, vm9, vm10, vm11, vm12, vm13, vm14, vm15, vmC, vmN, Nat.reduceAdd, Nat.reduceMul, Nat.reduceSub, Nat.reduceEqDiff, Nat.reduceLT, Nat.reduceLeDiff, ↓reduceIte, Tg.isFull, Int.reduceToNat]
end Go.Vm.Wr
