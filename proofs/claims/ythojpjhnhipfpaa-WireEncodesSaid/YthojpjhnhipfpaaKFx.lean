/- A part of the proof of WireEncodesSaid: YthojpjhnhipfpaaFx. -/
import Derived.Test.YthojpjhnhipfpaaKFw
/- The statement on the bytes of messages, run. -/
set_option linter.unusedVariables false
set_option linter.unusedSimpArgs false
set_option maxHeartbeats 1000000
namespace Go.Vm.Wr
theorem pgSp : prog 24 = some c24 := rfl
theorem pgNew : prog 9 = some c9 := rfl
theorem e_loop {Q : Ex → St → Prop} (m : Msg) (xs : List Msg) (hx : ∀ x ∈ xs, Wf x ∧ x.tg = .any) (hl : xs.length ≤ 10) (f : Bool) : ∀ (k j : Nat) (s : St), j + k = xs.length →
    gc [(8, none), (37, none), (38, none), (39, none)] s = ⟨gS [(8, .ptr 0 0), (37, .row 1), (38, .d (.int .i64 xs.length)), (39, .d (.int .i64 j))], gH [(0, .box (mC m)), (1, .row 6 f (msD xs))], 2, 0, []⟩ →
    (∀ T, Q (.exit 0) ⟨gS ((8, .ptr 0 0) :: T), gH [(0, .box (mC m)), (1, .row 6 f (msD xs))], 10, 0, []⟩) → wpW false prog (.loop [(8, none), (37, none), (38, none), (39, none)] l5_12) s Q := by
  intro k
  induction k with
  | zero =>
    intro j s hj hg hQ
    refine wp_loop1 ?_
    rw [hg]
    generalize hJ : (fun s' => wpW false prog (.loop [(8, none), (37, none), (38, none), (39, none)] l5_12) s' Q) = J
    unfold l5_12
    have e0 : ((j : Int) < xs.length) = False := eq_false (by omega)
    simp -dsimp (disch := first | rfl | omega) only [r5_5, e0, ↓vmP, vm0, vm1, vm2, vm3, vm4, vm5, vm6, vm7, vm8, vm9, vm10, vm11, vm12, vm13, vm14, vm15, vmC, vmN, Nat.reduceAdd, Nat.reduceMul, Nat.reduceSub, Nat.reduceEqDiff, Nat.reduceLT, Nat.reduceLeDiff, ↓reduceIte, Tg.isFull, Int.reduceToNat]
    exact hQ _
  | succ k ih =>
    intro j s hj hg hQ
    refine wp_loop1 ?_
    rw [hg]
    generalize hJ : (fun s' => wpW false prog (.loop [(8, none), (37, none), (38, none), (39, none)] l5_12) s' Q) = J
    unfold l5_12
    have e0 : ((j : Int) < xs.length) = True := eq_true (by omega)
    have ej : ((j : Int) + 1) = ((j + 1 : Nat) : Int) := by omega
    have hat := msD_at xs (show j < xs.length by omega)
    have hml := msD_len xs
    have hmem : xs.getD j dMsg ∈ xs := by
      rw [List.getD_eq_getElem?_getD, List.getElem?_eq_getElem (by omega)]; exact List.getElem_mem _
    obtain ⟨hw, ht⟩ := hx _ hmem
    generalize xs.getD j dMsg = x at hat hw ht
    obtain ⟨mk, mh, me, mq, mt, mb, mtg, mz⟩ := x
    simp only at ht
    subst ht
    have h1 := Enc_all _ hw
    have h2 := REnc_all _ hw
    have h3 := Valid_eq _ hw.h hw.b
    have h4 := RValid_eq _ hw.h
    have h5 := fun t1 t2 z1 z2 => SameBytes_eq (enc ⟨mk, mh, me, mq, mt, mb, .any, mz⟩) (enc ⟨mk, mh, me, mq, mt, mb, .any, mz⟩) t1 t2 z1 z2
    have h6 := fun t1 t2 z1 z2 => SameBytes_eq [] [] t1 t2 z1 z2
    generalize vld ⟨mk, mh, me, mq, mt, mb, .any, mz⟩ = v at h1 h2 h3 h4
    generalize enc ⟨mk, mh, me, mq, mt, mb, .any, mz⟩ = E at h1 h2 h5
    simp only [mC] at h1 h2 h3 h4
    simp only [mD] at hat
    simp only [decide_true, u8s_nil] at h5 h6
    cases v
    all_goals
      simp only [if_true, if_false, Bool.false_eq_true] at h1 h2
      simp -dsimp (disch := first | rfl | omega) only [r5_5, r5_6, r5_7, r5_8, r5_9, r5_11, callW_fn pgEnc, callW_fn pgREnc, callW_fn pgValid, callW_fn pgRValid, callW_fn pgSame, h1, h2, h3, h4, h5, h6, hat, e0, ej, ne_eq, not_true_eq_false, show (false == false) = true from rfl, show (true == true) = true from rfl, ↓vmP, vm0, vm1, vm2, vm3, vm4, vm5, vm6, vm7, vm8, vm9, vm10, vm11, vm12, vm13, vm14, vm15, vmC, vmN, Nat.reduceAdd, Nat.reduceMul, Nat.reduceSub, Nat.reduceEqDiff, Nat.reduceLT, Nat.reduceLeDiff, ↓reduceIte, Tg.isFull, Int.reduceToNat]
      refine regD_of (by kernel_rfl) ?_
      simp -dsimp (disch := first | rfl | omega) only [r5_11, ej, ne_eq, not_true_eq_false, show (false == false) = true from rfl, show (true == true) = true from rfl, ↓vmP, vm0, vm1, vm2, vm3, vm4, vm5, vm6, vm7, vm8, vm9, vm10, vm11, vm12, vm13, vm14, vm15, vmC, vmN, Nat.reduceAdd, Nat.reduceMul, Nat.reduceSub, Nat.reduceEqDiff, Nat.reduceLT, Nat.reduceLeDiff, ↓reduceIte, Tg.isFull, Int.reduceToNat]
      rw [← hJ]
      exact ih (j + 1) _ (by omega) (by simp -dsimp (disch := first | rfl | omega) only [mC, ↓vmP, vm0, vm1, vm2, vm3, vm4, vm5, vm6, vm7, vm8, vm9, vm10, vm11, vm12, vm13, vm14, vm15, vmC, vmN, Nat.reduceAdd, Nat.reduceMul, Nat.reduceSub, Nat.reduceEqDiff, Nat.reduceLT, Nat.reduceLeDiff, ↓reduceIte, Tg.isFull, Int.reduceToNat]) hQ
theorem zeros (n : Nat) : List.replicate n [D.int .u8 0] = u8s (List.replicate n 0) := by simp [u8s]
theorem mod5 (n : Nat) : (n : Int).tmod 5 = ((n % 5 : Nat) : Int) := tmod_nat n 5
theorem law_encodes (codes : List UInt8) (raw : Msg) (hr : Wf raw) (ht : raw.tg = .any) (lg : Nat) (hlg : lg < 65536) : runW false prog 5 [.d (.sl .any 1 (u8s codes)), .agg (mC raw), .d (.int .u16 lg)] [] = some (.d (.bool true), [], []) := by
  refine run_of rfl ?_
  have h1 := New_eq codes 100 (by omega)
  rw [show ((100 : Nat) : Int) = 100 from rfl] at h1
  have hcl : (codes.take 100).length ≤ 1000 := by rw [List.length_take]; omega
  generalize codes.take 100 = l at h1 hcl
  obtain ⟨m, a1, hm, _, a1l, h2⟩ := Msg_ex l 0 hcl (by omega)
  have hmw := nm_wf hm
  have hmt := hm.t
  obtain ⟨x1, a2, x1w, x1t, _, a2l, h3⟩ := Sp_ex l a1 hcl a1l m hmw hmt
  obtain ⟨x2, a3, x2w, x2t, _, a3l, h4⟩ := Sp_ex l a2 hcl a2l m hmw hmt
  obtain ⟨x3, a4, x3w, x3t, _, a4l, h5⟩ := Sp_ex l a3 hcl a3l x2 x2w x2t
  have el : IntKind.i64.wrap (lg : Int) = lg := w_i64 (by omega)
  have el2 : (16318 : Int) + ((lg % 5 : Nat) : Int) = ((16318 + lg % 5 : Nat) : Int) := by omega
  have hV := Valid_eq m hmw.h hmw.b
  rw [hm.v] at hV
  obtain ⟨b, hbl, hbr⟩ : ∃ b : List UInt8, b.length ≤ 20000 ∧ List.replicate (16318 + lg % 5) [D.int .u8 0] = u8s b := ⟨List.replicate (16318 + lg % 5) 0, by simp; omega, zeros _⟩
  have hn2 : 16318 + lg % 5 ≤ 20000 := by omega
  generalize 16318 + lg % 5 = n at el2 hbr hn2
  have hbw : Wf ⟨3, [], 0, 1, 0, b, .any, 1⟩ := ⟨by simp, by show b.length ≤ _; omega, rfl⟩
  have hlp := fun Q f s h1 h2 => e_loop (Q := Q) m [m, x1, x3, raw, ⟨3, [], 0, 1, 0, b, .any, 1⟩] (fun x hx => by
    simp at hx
    rcases hx with rfl | rfl | rfl | rfl | rfl
    · exact ⟨hmw, hmt⟩
    · exact ⟨x1w, x1t⟩
    · exact ⟨x3w, x3t⟩
    · exact ⟨hr, ht⟩
    · exact ⟨hbw, rfl⟩) (by simp) f 5 0 s rfl h1 h2
  obtain ⟨mk, mh, me, mq, mt, mb, mtg, mz⟩ := m
  obtain ⟨rk, rh, re, rq, rt, rb, rtg, rz⟩ := raw
  obtain ⟨x1k, x1h, x1e, x1q, x1t', x1b, x1g, x1z⟩ := x1
  obtain ⟨x2k, x2h, x2e, x2q, x2t', x2b, x2g, x2z⟩ := x2
  obtain ⟨x3k, x3h, x3e, x3q, x3t', x3b, x3g, x3z⟩ := x3
  simp only at hmt ht x1t x2t x3t
  subst hmt ht x1t x2t x3t
  simp only [mC, cs] at h2 h3 h4 h5 hV hlp
  simp only [cs] at h1
  simp -dsimp (disch := first | rfl | omega) only [mC, cs, r5_0, r5_1, r5_2, r5_3, r5_4, callW_fn pgNew, callW_fn pgMsg, callW_fn pgSp, h1, h2, h3, h4, h5, el, mod5, el2, hbr, ↓vmP, vm0, vm1, vm2, vm3, vm4, vm5, vm6, vm7, vm8, vm9, vm10, vm11, vm12, vm13, vm14, vm15, vmC, vmN, Nat.reduceAdd, Nat.reduceMul, Nat.reduceSub, Nat.reduceEqDiff, Nat.reduceLT, Nat.reduceLeDiff, ↓reduceIte, Tg.isFull, Int.reduceToNat]
  refine regD_of (by kernel_rfl) ?_
  simp -dsimp (disch := first | rfl | omega) only [↓vmP, vm0, vm1, vm2, vm3, vm4, vm5, vm6, vm7, vm8, vm9, vm10, vm11, vm12, vm13, vm14, vm15, vmC, vmN, Nat.reduceAdd, Nat.reduceMul, Nat.reduceSub, Nat.reduceEqDiff, Nat.reduceLT, Nat.reduceLeDiff, ↓reduceIte, Tg.isFull, Int.reduceToNat]
  refine hlp _ false _ (by simp -dsimp (disch := first | rfl | omega) only [msD, mD, List.map_cons, List.map_nil, hbr, ↓vmP, vm0, vm1, vm2, vm3, vm4, vm5, vm6, vm7, vm8, vm9, vm10, vm11, vm12, vm13, vm14, vm15, vmC, vmN, Nat.reduceAdd, Nat.reduceMul, Nat.reduceSub, Nat.reduceEqDiff, Nat.reduceLT, Nat.reduceLeDiff, ↓reduceIte, Tg.isFull, Int.reduceToNat]; rfl) (fun T => ?_)
  simp -dsimp (disch := first | rfl | omega) only [r5_13, callW_fn pgValid, callW_fn pgBegun, begun_eq, hV, ↓vmP, vm0, vm1, vm2, vm3, vm4, vm5, vm6, vm7, vm8, vm9, vm10, vm11, vm12, vm13, vm14, vm15, vmC, vmN, Nat.reduceAdd, Nat.reduceMul, Nat.reduceSub, Nat.reduceEqDiff, Nat.reduceLT, Nat.reduceLeDiff, ↓reduceIte, Tg.isFull, Int.reduceToNat]
end Go.Vm.Wr
