/- A part of the proof of WireBackUptoSaid: YthojpjhnhipfpaaFp. -/
import Derived.Test.YthojpjhnhipfpaaKFo
/- The bytes of a message read by the program: whole. -/
set_option linter.unusedVariables false
set_option linter.unusedSimpArgs false
set_option maxHeartbeats 1000000
namespace Go.Vm.Wr
theorem Equal_eq (a b : List UInt8) (t1 t2 : Tg) (z1 z2 : Nat) : runW false prog 64 [.d (.sl t1 z1 (u8s a)), .d (.sl t2 z2 (u8s b))] [] = some (.d (.bool (decide (a = b))), [], []) := by
  refine run_of rfl ?_
  simp -dsimp (disch := first | rfl | omega) only [r64_0, r64_1, ↓vmP, vm0, vm1, vm2, vm3, vm4, vm5, vm6, vm7, vm8, vm9, vm10, vm11, vm12, vm13, vm14, vm15, vmC, vmN, Nat.reduceAdd, Nat.reduceMul, Nat.reduceSub, Nat.reduceEqDiff, Nat.reduceLT, Nat.reduceLeDiff, ↓reduceIte, Tg.isFull, Int.reduceToNat]
  have : (({ data := a.toArray } : ByteArray) = { data := b.toArray }) = (a = b) := by simp
  simp only [this]
theorem pgEqual : prog 64 = some c64 := rfl
theorem pgEnc : prog 17 = some c17 := rfl
def m0 (k : Int) : Msg := ⟨k, [], 0, 0, 0, [], .nil, 0⟩
def zM : Msg := ⟨0, [], 0, 0, 0, [], .any, 0⟩
def nM (m : Msg) : Msg := { m with tg := .any }
def kd (W : List UInt8) : Int := ((W.getD 4 0).toNat : Int)
def dR (W : List UInt8) : Msg × Bool := match lst (kd W) with
  | none => (zM, false)
  | some fs => match prs fs (W.drop 5) (m0 (kd W)) with
    | none => (zM, false)
    | some p => (nM p.1, vld p.1 && decide (enc p.1 = W))
theorem lst_5 {k : Int} {fs : List Int} (h : lst k = some fs) : ∀ i, i < fs.length → fs.getD i 0 = 5 → i + 1 = fs.length := by
  unfold lst at h
  repeat' split at h
  all_goals cases h
  all_goals intro i hi h5
  all_goals simp only [List.length_cons, List.length_nil] at hi ⊢
  all_goals (try omega)
  · have : i = 0 ∨ i = 1 ∨ i = 2 := by omega
    rcases this with rfl | rfl | rfl <;> simp at h5 ⊢
  · have : i = 0 ∨ i = 1 := by omega
    rcases this with rfl | rfl <;> simp at h5 ⊢
  · have : i = 0 ∨ i = 1 := by omega
    rcases this with rfl | rfl <;> simp at h5 ⊢
theorem fst1_ok {f : Int} {b b' : List UInt8} {m m' : Msg} (h : fst1 f b m = some (m', b')) (hw : m.host.length ≤ 256 ∧ m.body.length ≤ 1000000 ∧ okSz 1 m.bz (u8s m.body) = true) (hb : b.length ≤ 1000000) : (m'.host.length ≤ 256 ∧ m'.body.length ≤ 1000000 ∧ okSz 1 m'.bz (u8s m'.body) = true) ∧ b'.length ≤ 1000000 := by
  have hc := (b.getD 0 0).toNat_lt
  unfold fst1 at h
  repeat' split at h
  all_goals cases h
  all_goals refine ⟨⟨?_, ?_, ?_⟩, ?_⟩
  all_goals first | exact hw.1 | exact hw.2.1 | exact hw.2.2 | exact hb | rfl | (simp only [List.length_take, List.length_drop]; omega) | (simp; done)
theorem prs_ok : ∀ {fs : List Int} {b b' : List UInt8} {m m' : Msg}, prs fs b m = some (m', b') → m.host.length ≤ 256 ∧ m.body.length ≤ 1000000 ∧ okSz 1 m.bz (u8s m.body) = true → b.length ≤ 1000000 → (m'.host.length ≤ 256 ∧ m'.body.length ≤ 1000000 ∧ okSz 1 m'.bz (u8s m'.body) = true)
  | [], b, b', m, m', h, hw, hb => by cases h; exact hw
  | f :: fs, b, b', m, m', h, hw, hb => by
    simp only [prs] at h
    cases h1 : fst1 f b m with
    | none => rw [h1] at h; cases h
    | some p =>
      rw [h1] at h
      have h2 := fst1_ok (m' := p.1) (b' := p.2) h1 hw hb
      exact prs_ok h h2.1 h2.2
/-- No field of the body: there is none. -/
theorem prs_nb : ∀ {fs : List Int} {b b' : List UInt8} {m m' : Msg}, prs fs b m = some (m', b') → (∀ f ∈ fs, f = 1 ∨ f = 2 ∨ f = 3 ∨ f = 4 ∨ f = 5) → 5 ∉ fs → m'.body = m.body ∧ m'.bz = m.bz
  | [], b, b', m, m', h, hf, h5 => by cases h; exact ⟨rfl, rfl⟩
  | f :: fs, b, b', m, m', h, hf, h5 => by
    simp only [prs] at h
    cases h1 : fst1 f b m with
    | none => rw [h1] at h; cases h
    | some p =>
      rw [h1] at h
      have h2 := prs_nb (m' := m') h (fun g hg => hf g (List.mem_cons_of_mem _ hg)) (fun h => h5 (List.mem_cons_of_mem _ h))
      have hp : p.1.body = m.body ∧ p.1.bz = m.bz := by
        have hne : f ≠ 5 := fun e => h5 (by rw [e]; exact List.mem_cons_self ..)
        have hf1 := hf f (List.mem_cons_self ..)
        unfold fst1 at h1
        repeat' split at h1
        all_goals first | (cases h1; exact ⟨rfl, rfl⟩) | (cases h1; done) | (exfalso; omega)
      exact ⟨h2.1.trans hp.1, h2.2.trans hp.2⟩
/-- With it: what came last. -/
theorem prs_wb : ∀ {fs : List Int} {b b' : List UInt8} {m m' : Msg}, prs fs b m = some (m', b') → (∀ f ∈ fs, f = 1 ∨ f = 2 ∨ f = 3 ∨ f = 4 ∨ f = 5) → 5 ∈ fs → m'.bz = 1
  | [], b, b', m, m', h, hf, h5 => by cases h5
  | f :: fs, b, b', m, m', h, hf, h5 => by
    simp only [prs] at h
    cases h1 : fst1 f b m with
    | none => rw [h1] at h; cases h
    | some p =>
      rw [h1] at h
      by_cases h6 : 5 ∈ fs
      · exact prs_wb h (fun g hg => hf g (List.mem_cons_of_mem _ hg)) h6
      · have h2 := prs_nb (m' := m') h (fun g hg => hf g (List.mem_cons_of_mem _ hg)) h6
        have : f = 5 := by
          rcases List.mem_cons.1 h5 with e | e
          · exact e.symm
          · exact absurd e h6
        subst this
        rw [h2.2]
        simp [fst1] at h1
        rw [← h1]
theorem fbl_tg (m : Msg) (t : Tg) : ∀ fs : List Int, fbl { m with tg := t } fs = fbl m fs
  | [] => rfl
  | f :: fs => by simp only [fbl, fbl_tg m t fs]; rfl
theorem enc_tg (m : Msg) (t : Tg) : enc { m with tg := t } = enc m := by
  simp only [enc, bodyB, fbl_tg]
theorem zM_c : [A.d (.int .i64 0), .d (.str ⟨⟨[]⟩⟩), .d (.int .i64 0), .d (.int .i64 0), .d (.int .i64 0), .d (.sl .any 0 [])] = mC zM := rfl
theorem Dec_eq (W : List UInt8) (h5 : 5 ≤ W.length) (hW : W.length ≤ 1000000) : runW false prog 59 [.d (.sl .any 1 (u8s W))] [] = some (.tup [.agg (mC (dR W).1), .d (.bool (dR W).2)], [], []) := by
  refine run_of rfl ?_
  have hk := kf_fk (kd W)
  have h4 : 4 ≤ W.length := by omega
  have hd0 := u8s_at (W.drop 4) (i := 0) (by simp; omega)
  rw [show (W.drop 4).getD 0 0 = W.getD 4 0 by simp [List.getD_eq_getElem?_getD]] at hd0
  have hd1 : 1 ≤ W.length - 4 := by omega
  have hdd : (W.drop 4).drop 1 = W.drop 5 := by simp
  have hdl : (W.drop 4).length = W.length - 4 := by simp
  have hdt : (W.drop 5).take (W.length - 4 - 1) = W.drop 5 := by rw [List.take_of_length_le]; simp; omega
  have hwk : ((W.getD 4 0).toNat : Int) = kd W := rfl
  have hkb : IntKind.i64.wrap ((W.getD 4 0).toNat : Int) = kd W := w_bi64 _
  cases hl : lst (kd W) with
  | none =>
    have hR : dR W = (zM, false) := by simp [dR, hl]
    rw [hR]
    rw [hl] at hk
    simp -dsimp (disch := first | rfl | omega) only [r59_0, r59_1, r59_2, r59_3, callW_fn pgFields, fields_eq, hd0, hkb, hdl, h4, hk, Option.map_none, Option.getD_none, ↓vmP, vm0, vm1, vm2, vm3, vm4, vm5, vm6, vm7, vm8, vm9, vm10, vm11, vm12, vm13, vm14, vm15, vmC, vmN, Nat.reduceAdd, Nat.reduceMul, Nat.reduceSub, Nat.reduceEqDiff, Nat.reduceLT, Nat.reduceLeDiff, ↓reduceIte, Tg.isFull, Int.reduceToNat]
    refine regD_of (by kernel_rfl) ?_
    simp -dsimp (disch := first | rfl | omega) only [r59_4, r59_5, hdl, hdd, hdt, hd1, h4, Option.getD_none, ↓vmP, vm0, vm1, vm2, vm3, vm4, vm5, vm6, vm7, vm8, vm9, vm10, vm11, vm12, vm13, vm14, vm15, vmC, vmN, Nat.reduceAdd, Nat.reduceMul, Nat.reduceSub, Nat.reduceEqDiff, Nat.reduceLT, Nat.reduceLeDiff, ↓reduceIte, Tg.isFull, Int.reduceToNat]
    refine wp_loop1 ?_
    generalize hJ : (fun s' => wpW false prog (.loop [(0, none), (2, none), (4, none), (5, none), (7, none), (29, none), (30, none), (31, none)] l59_24) s' _) = J
    unfold l59_24
    simp -dsimp (disch := first | rfl | omega) only [show (((0 : Nat) : Int)) = 0 from rfl, Int.reduceLT, r59_6, r59_25, r59_26, ↓vmP, vm0, vm1, vm2, vm3, vm4, vm5, vm6, vm7, vm8, vm9, vm10, vm11, vm12, vm13, vm14, vm15, vmC, vmN, Nat.reduceAdd, Nat.reduceMul, Nat.reduceSub, Nat.reduceEqDiff, Nat.reduceLT, Nat.reduceLeDiff, ↓reduceIte, Tg.isFull, Int.reduceToNat]
    simp only [mC, zM, u8s_nil]
  | some fs =>
    rw [hl] at hk
    obtain ⟨g1, g2, g3⟩ := lst_ok hl
    have g5 := lst_5 hl
    simp -dsimp (disch := first | rfl | omega) only [r59_0, r59_1, r59_2, r59_3, callW_fn pgFields, fields_eq, hd0, hkb, hdl, h4, hk, Option.map_some, Option.getD_some, ↓vmP, vm0, vm1, vm2, vm3, vm4, vm5, vm6, vm7, vm8, vm9, vm10, vm11, vm12, vm13, vm14, vm15, vmC, vmN, Nat.reduceAdd, Nat.reduceMul, Nat.reduceSub, Nat.reduceEqDiff, Nat.reduceLT, Nat.reduceLeDiff, ↓reduceIte, Tg.isFull, Int.reduceToNat]
    refine regD_of (by kernel_rfl) ?_
    simp -dsimp (disch := first | rfl | omega) only [r59_4, r59_5, hdl, hdd, hdt, hd1, h4, i64s_len, ↓vmP, vm0, vm1, vm2, vm3, vm4, vm5, vm6, vm7, vm8, vm9, vm10, vm11, vm12, vm13, vm14, vm15, vmC, vmN, Nat.reduceAdd, Nat.reduceMul, Nat.reduceSub, Nat.reduceEqDiff, Nat.reduceLT, Nat.reduceLeDiff, ↓reduceIte, Tg.isFull, Int.reduceToNat]
    have hwf : ∀ m' b', prs fs (W.drop 5) (m0 (kd W)) = some (m', b') → Wf (nM m') := fun m' b' hp => by
      have := prs_ok hp (by simp [m0, okSz, u8s_nil]) (by simp; omega)
      exact ⟨by show m'.host.length ≤ _; omega, by show m'.body.length ≤ _; omega, this.2.2⟩
    refine dl_loop W fs (lsz fs) g1 g2 g5 g3 fs.length 0 (m0 (kd W)) (W.drop 5) _ (by omega) (by simp; omega) (by simp -dsimp (disch := first | rfl | omega) only [mC, m0, zC, u8s_nil, i64s_len, ↓vmP, vm0, vm1, vm2, vm3, vm4, vm5, vm6, vm7, vm8, vm9, vm10, vm11, vm12, vm13, vm14, vm15, vmC, vmN, Nat.reduceAdd, Nat.reduceMul, Nat.reduceSub, Nat.reduceEqDiff, Nat.reduceLT, Nat.reduceLeDiff, ↓reduceIte, Tg.isFull, Int.reduceToNat]; rfl) (fun m' b' hp n5 t z T => ?_) (fun m' b' hp y5 f T => ?_) (fun hn => ⟨fun x T H nx => ?_, fun T H nx => ?_⟩)
    · rw [List.drop_zero] at hp
      have hR : dR W = (nM m', vld m' && decide (enc m' = W)) := by simp [dR, hl, hp]
      rw [hR]
      have hE := Enc_all (nM m') (hwf _ _ hp)
      have hvv : vld (nM m') = vld m' := vld_tg _ _ _ _ _ _ _ _ _ _
      have hee : enc (nM m') = enc m' := enc_tg m' .any
      rw [hvv, hee] at hE
      simp only [mC, nM] at hE
      cases hv : vld m' with
      | false =>
        rw [hv] at hE
        simp -dsimp (disch := first | rfl | omega) only [mC, nM, zC, r59_25, r59_27, r59_28, callW_fn pgEnc, hE, dimF, Int.reduceEq, ↓vmP, vm0, vm1, vm2, vm3, vm4, vm5, vm6, vm7, vm8, vm9, vm10, vm11, vm12, vm13, vm14, vm15, vmC, vmN, Nat.reduceAdd, Nat.reduceMul, Nat.reduceSub, Nat.reduceEqDiff, Nat.reduceLT, Nat.reduceLeDiff, ↓reduceIte, Tg.isFull, Int.reduceToNat]
        refine regD_of (by kernel_rfl) ?_
        simp -dsimp (disch := first | rfl | omega) only [mC, nM, dimF, ↓vmP, vm0, vm1, vm2, vm3, vm4, vm5, vm6, vm7, vm8, vm9, vm10, vm11, vm12, vm13, vm14, vm15, vmC, vmN, Nat.reduceAdd, Nat.reduceMul, Nat.reduceSub, Nat.reduceEqDiff, Nat.reduceLT, Nat.reduceLeDiff, ↓reduceIte, Tg.isFull, Int.reduceToNat]
      | true =>
        rw [hv] at hE
        simp -dsimp (disch := first | rfl | omega) only [mC, nM, zC, r59_25, r59_27, r59_28, callW_fn pgEnc, callW_fn pgEqual, Equal_eq, hE, dimF, ↓vmP, vm0, vm1, vm2, vm3, vm4, vm5, vm6, vm7, vm8, vm9, vm10, vm11, vm12, vm13, vm14, vm15, vmC, vmN, Nat.reduceAdd, Nat.reduceMul, Nat.reduceSub, Nat.reduceEqDiff, Nat.reduceLT, Nat.reduceLeDiff, ↓reduceIte, Tg.isFull, Int.reduceToNat]
        refine regD_of (by kernel_rfl) ?_
        simp -dsimp (disch := first | rfl | omega) only [mC, nM, dimF, ↓vmP, vm0, vm1, vm2, vm3, vm4, vm5, vm6, vm7, vm8, vm9, vm10, vm11, vm12, vm13, vm14, vm15, vmC, vmN, Nat.reduceAdd, Nat.reduceMul, Nat.reduceSub, Nat.reduceEqDiff, Nat.reduceLT, Nat.reduceLeDiff, ↓reduceIte, Tg.isFull, Int.reduceToNat]
    · rw [List.drop_zero] at hp y5
      have hR : dR W = (nM m', vld m' && decide (enc m' = W)) := by simp [dR, hl, hp]
      rw [hR]
      have hbz := prs_wb hp g2 y5
      have hE := Enc_all (nM m') (hwf _ _ hp)
      have hvv : vld (nM m') = vld m' := vld_tg _ _ _ _ _ _ _ _ _ _
      have hee : enc (nM m') = enc m' := enc_tg m' .any
      rw [hvv, hee] at hE
      simp only [mC, nM, hbz] at hE
      cases hv : vld m' with
      | false =>
        rw [hv] at hE
        simp -dsimp (disch := first | rfl | omega) only [mC, bC, nM, zC, r59_25, r59_27, r59_28, callW_fn pgEnc, hE, dimF, Int.reduceEq, hbz, ↓vmP, vm0, vm1, vm2, vm3, vm4, vm5, vm6, vm7, vm8, vm9, vm10, vm11, vm12, vm13, vm14, vm15, vmC, vmN, Nat.reduceAdd, Nat.reduceMul, Nat.reduceSub, Nat.reduceEqDiff, Nat.reduceLT, Nat.reduceLeDiff, ↓reduceIte, Tg.isFull, Int.reduceToNat]
        refine regD_of (by kernel_rfl) ?_
        simp -dsimp (disch := first | rfl | omega) only [mC, bC, nM, dimF, hbz, ↓vmP, vm0, vm1, vm2, vm3, vm4, vm5, vm6, vm7, vm8, vm9, vm10, vm11, vm12, vm13, vm14, vm15, vmC, vmN, Nat.reduceAdd, Nat.reduceMul, Nat.reduceSub, Nat.reduceEqDiff, Nat.reduceLT, Nat.reduceLeDiff, ↓reduceIte, Tg.isFull, Int.reduceToNat]
      | true =>
        rw [hv] at hE
        simp -dsimp (disch := first | rfl | omega) only [mC, bC, nM, zC, r59_25, r59_27, r59_28, callW_fn pgEnc, callW_fn pgEqual, Equal_eq, hE, dimF, hbz, ↓vmP, vm0, vm1, vm2, vm3, vm4, vm5, vm6, vm7, vm8, vm9, vm10, vm11, vm12, vm13, vm14, vm15, vmC, vmN, Nat.reduceAdd, Nat.reduceMul, Nat.reduceSub, Nat.reduceEqDiff, Nat.reduceLT, Nat.reduceLeDiff, ↓reduceIte, Tg.isFull, Int.reduceToNat]
        refine regD_of (by kernel_rfl) ?_
        simp -dsimp (disch := first | rfl | omega) only [mC, bC, nM, dimF, hbz, ↓vmP, vm0, vm1, vm2, vm3, vm4, vm5, vm6, vm7, vm8, vm9, vm10, vm11, vm12, vm13, vm14, vm15, vmC, vmN, Nat.reduceAdd, Nat.reduceMul, Nat.reduceSub, Nat.reduceEqDiff, Nat.reduceLT, Nat.reduceLeDiff, ↓reduceIte, Tg.isFull, Int.reduceToNat]
    · rw [List.drop_zero] at hn
      have hR : dR W = (zM, false) := by simp [dR, hl, hn]
      rw [hR]
      simp -dsimp (disch := first | rfl | omega) only [zC, r59_25, r59_26, ↓vmP, vm0, vm1, vm2, vm3, vm4, vm5, vm6, vm7, vm8, vm9, vm10, vm11, vm12, vm13, vm14, vm15, vmC, vmN, Nat.reduceAdd, Nat.reduceMul, Nat.reduceSub, Nat.reduceEqDiff, Nat.reduceLT, Nat.reduceLeDiff, ↓reduceIte, Tg.isFull, Int.reduceToNat]
      simp only [mC, zM, u8s_nil]
    · rw [List.drop_zero] at hn
      have hR : dR W = (zM, false) := by simp [dR, hl, hn]
      rw [hR]
      simp -dsimp (disch := first | rfl | omega) only [zC, ↓vmP, vm0, vm1, vm2, vm3, vm4, vm5, vm6, vm7, vm8, vm9, vm10, vm11, vm12, vm13, vm14, vm15, vmC, vmN, Nat.reduceAdd, Nat.reduceMul, Nat.reduceSub, Nat.reduceEqDiff, Nat.reduceLT, Nat.reduceLeDiff, ↓reduceIte, Tg.isFull, Int.reduceToNat]
      simp only [mC, zM, u8s_nil]
end Go.Vm.Wr
