/- A part of the proof of WireBackUptoSaid: YthojpjhnhipfpaaFj. -/
import Derived.Test.YthojpjhnhipfpaaKFi
/- The bytes of a message, by the program: whole. -/
set_option linter.unusedVariables false
set_option linter.unusedSimpArgs false
set_option maxHeartbeats 1000000
namespace Go.Vm.Wr
def bodyB (m : Msg) : List UInt8 := toB m.kind :: fbl m ((lst m.kind).getD [])
def lenB (n : Nat) : List UInt8 := [UInt8.ofNat (n / 16777216), UInt8.ofNat (n / 65536), UInt8.ofNat (n / 256), UInt8.ofNat n]
def enc (m : Msg) : List UInt8 := lenB (bodyB m).length ++ bodyB m
theorem chk_fit {m : Msg} {l : Int} : ∀ {fs : List Int} {r r' : Msg}, chk m l fs r = some r' → ∀ f ∈ fs, fitF m l f = true
  | [], r, r', h, f, hf => by cases hf
  | g :: fs, r, r', h, f, hf => by
    unfold chk at h
    split at h
    · rename_i hg
      rcases List.mem_cons.1 hf with rfl | hf
      · exact hg
      · exact chk_fit h f hf
    · cases h
theorem vld_nums {m : Msg} (h : vld m = true) (hh : m.host.length ≤ 1000) (hz : okSz 1 m.bz (u8s m.body) = true) : ∃ fs, lst m.kind = some fs ∧ Nums m fs := by
  unfold vld at h
  cases hl : lst m.kind with
  | none => rw [hl] at h; cases h
  | some fs =>
    rw [hl] at h
    simp only at h
    cases hc : chk m (least m.kind) fs m with
    | none => rw [hc] at h; cases h
    | some r =>
      have hk := chk_fit hc
      have hle : 0 ≤ least m.kind := by unfold least; split <;> omega
      refine ⟨fs, rfl, hh, fun h2 => ?_, fun h3 => ?_, fun h4 => ?_, fun h5 => ?_, hz⟩
      · have := hk 2 h2; simp [fitF, inR] at this; omega
      · have := hk 3 h3; simp [fitF, inR] at this; omega
      · have := hk 4 h4
        simp [fitF, inR] at this
        have h3 : 3 ∈ fs := by
          unfold lst at hl
          repeat' split at hl
          all_goals cases hl
          all_goals simp at h4 ⊢
        have := hk 3 h3; simp [fitF, inR] at this; omega
      · have := hk 5 h5; simp [fitF] at this; omega
theorem dimF (t : Tg) : Tg.dim false t = .any := by cases t <;> rfl
theorem vld_tg (k : Int) (h : List UInt8) (e s t : Int) (b : List UInt8) (tg tg' : Tg) (bz bz' : Nat) : vld ⟨k, h, e, s, t, b, tg, bz⟩ = vld ⟨k, h, e, s, t, b, tg', bz'⟩ := by
  by_cases h1 : k = 1
  · subst h1; rw [vld_1, vld_1]
  by_cases h2 : k = 2
  · subst h2; rw [vld_2, vld_2]
  by_cases h3 : k = 3
  · subst h3; rw [vld_3, vld_3]
  by_cases h4 : k = 4
  · subst h4; rw [vld_4, vld_4]
  by_cases h5 : k = 5
  · subst h5; rw [vld_5, vld_5]
  by_cases h6 : k = 6
  · subst h6; rw [vld_6, vld_6]
  by_cases h7 : k = 7
  · subst h7; rw [vld_7, vld_7]
  simp [vld, lst, h1, h2, h3, h4, h5, h6, h7]
theorem shr24 (d : Nat) : ((d : Int).fdiv (2 ^ Nat.min 24 IntKind.i64.bits)) = ((d / 16777216 : Nat) : Int) := by
  have e : (2 : Int) ^ (Nat.min 24 IntKind.i64.bits) = 16777216 := rfl
  rw [e, Int.fdiv_eq_ediv_of_nonneg _ (by omega)]; omega
theorem shr16 (d : Nat) : ((d : Int).fdiv (2 ^ Nat.min 16 IntKind.i64.bits)) = ((d / 65536 : Nat) : Int) := by
  have e : (2 : Int) ^ (Nat.min 16 IntKind.i64.bits) = 65536 := rfl
  rw [e, Int.fdiv_eq_ediv_of_nonneg _ (by omega)]; omega
theorem at_0 (a : UInt8) (l : List UInt8) : (u8s (a :: l))[0]? = some [.int .u8 a.toNat] := rfl
theorem at_1 (a b : UInt8) (l : List UInt8) : (u8s (a :: b :: l))[1]? = some [.int .u8 b.toNat] := rfl
theorem at_2 (a b c : UInt8) (l : List UInt8) : (u8s (a :: b :: c :: l))[2]? = some [.int .u8 c.toNat] := rfl
theorem at_3 (a b c d : UInt8) (l : List UInt8) : (u8s (a :: b :: c :: d :: l))[3]? = some [.int .u8 d.toNat] := rfl
theorem set_0 (a x : UInt8) (l : List UInt8) : (u8s (a :: l)).set 0 [.int .u8 x.toNat] = u8s (x :: l) := rfl
theorem set_1 (a b x : UInt8) (l : List UInt8) : (u8s (a :: b :: l)).set 1 [.int .u8 x.toNat] = u8s (a :: x :: l) := rfl
theorem set_2 (a b c x : UInt8) (l : List UInt8) : (u8s (a :: b :: c :: l)).set 2 [.int .u8 x.toNat] = u8s (a :: b :: x :: l) := rfl
theorem set_3 (a b c d x : UInt8) (l : List UInt8) : (u8s (a :: b :: c :: d :: l)).set 3 [.int .u8 x.toNat] = u8s (a :: b :: c :: x :: l) := rfl
theorem fbl_len {m : Msg} {fa : List Int} (hN : Nums m fa) (hf : ∀ f ∈ fa, f = 1 ∨ f = 2 ∨ f = 3 ∨ f = 4 ∨ f = 5) : ∀ fs : List Int, (∀ f ∈ fs, f ∈ fa) → (fbl m fs).length ≤ 20000 * fs.length
  | [], _ => by simp [fbl]
  | f :: fs, h => by
    have ih := fbl_len hN hf fs (fun g hg => h g (List.mem_cons_of_mem _ hg))
    have hm := h f (List.mem_cons_self ..)
    have hb : (fbs m f).length ≤ 20000 := by
      rcases hf f hm with rfl | rfl | rfl | rfl | rfl
      · have := hN.h; simp [fbs]; omega
      · have := hN.e hm; have := vb_len m.epoch.toNat (by omega); simp [fbs]; omega
      · have := hN.s hm; have := vb_len m.seq.toNat (by omega); simp [fbs]; omega
      · have := hN.t hm; have := vb_len m.to.toNat (by omega); simp [fbs]; omega
      · have := hN.b hm; simp [fbs]; omega
    simp only [fbl, List.length_append, List.length_cons]; omega
theorem Encode_eq (m : Msg) (hh : m.host.length ≤ 1000) (hb : m.body.length ≤ 9223372036854775807) (hz : okSz 1 m.bz (u8s m.body) = true) : runW false prog 17 [.agg (mC m)] [] = some (if vld m then (.tup [.d (.sl .any 1 (u8s (enc m))), .d (.int .i64 0)]) else (.tup [.d (.sl .any 0 []), .d (.int .i64 330)]), [], []) := by
  refine run_of rfl ?_
  have hv := Valid_eq ⟨m.kind, m.host, m.epoch, m.seq, m.to, m.body, .any, m.bz⟩ (by show m.host.length ≤ _; omega) hb
  rw [vld_tg _ _ _ _ _ _ .any m.tg m.bz m.bz] at hv
  change runW _ _ _ _ _ = some (.d (.bool (vld m)), _, _) at hv
  have hk := kf_fk m.kind
  simp only [mC] at hv
  cases h : vld m with
  | false =>
    rw [h] at hv
    simp -dsimp (disch := first | rfl | omega) only [mC, r17_0, r17_1, r17_2, callW_fn pgValid, hv, dimF, ↓vmP, vm0, vm1, vm2, vm3, vm4, vm5, vm6, vm7, vm8, vm9, vm10, vm11, vm12, vm13, vm14, vm15, vmC, vmN, Nat.reduceAdd, Nat.reduceMul, Nat.reduceSub, Nat.reduceEqDiff, Nat.reduceLT, Nat.reduceLeDiff, ↓reduceIte, Tg.isFull, Int.reduceToNat]
    try rfl
  | true =>
    rw [h] at hv
    obtain ⟨fs, hl, hN⟩ := vld_nums h hh hz
    obtain ⟨g1, g2, g3⟩ := lst_ok hl
    rw [hl] at hk
    simp -dsimp (disch := first | rfl | omega) only [mC, r17_0, r17_1, r17_3, r17_4, callW_fn pgValid, callW_fn pgFields, fields_eq, hv, hk, dimF, w_toB, Option.map_some, Option.getD_some, i64s_len, ↓vmP, vm0, vm1, vm2, vm3, vm4, vm5, vm6, vm7, vm8, vm9, vm10, vm11, vm12, vm13, vm14, vm15, vmC, vmN, Nat.reduceAdd, Nat.reduceMul, Nat.reduceSub, Nat.reduceEqDiff, Nat.reduceLT, Nat.reduceLeDiff, ↓reduceIte, Tg.isFull, Int.reduceToNat]
    refine regD_of (by kernel_rfl) ?_
    simp -dsimp (disch := first | rfl | omega) only [mC, hk, Option.map_some, Option.getD_some, i64s_len, ↓vmP, vm0, vm1, vm2, vm3, vm4, vm5, vm6, vm7, vm8, vm9, vm10, vm11, vm12, vm13, vm14, vm15, vmC, vmN, Nat.reduceAdd, Nat.reduceMul, Nat.reduceSub, Nat.reduceEqDiff, Nat.reduceLT, Nat.reduceLeDiff, ↓reduceIte, Tg.isFull, Int.reduceToNat]
    refine en_loop m fs (lsz fs) g1 g2 g3 hN fs.length 0 [0, 0, 0, 0, toB m.kind] false _ (by omega) (by simp) (by simp -dsimp (disch := first | rfl | omega) only [mC, i64s_len, ↓vmP, vm0, vm1, vm2, vm3, vm4, vm5, vm6, vm7, vm8, vm9, vm10, vm11, vm12, vm13, vm14, vm15, vmC, vmN, Nat.reduceAdd, Nat.reduceMul, Nat.reduceSub, Nat.reduceEqDiff, Nat.reduceLT, Nat.reduceLeDiff, ↓reduceIte, Tg.isFull, Int.reduceToNat]; rfl) (fun fl T => ?_)
    have hbl : (bodyB m) = toB m.kind :: fbl m fs := by simp [bodyB, hl]
    have hfb : (fbl m fs).length ≤ 200000 := by
      have := fbl_len hN g2 fs (fun _ h => h); omega
    rw [List.drop_zero]
    generalize fbl m fs = x at hbl hfb
    have hlen : ([0, 0, 0, 0, toB m.kind] ++ x).length = x.length + 5 := by simp
    have e1 : (((x.length + 5 : Nat) : Int) - 4) = ((x.length + 1 : Nat) : Int) := by omega
    simp -dsimp (disch := first | rfl | omega) only [mC, r17_20, r17_21, r17_22, hlen, e1, shr8, shr16, shr24, at_0, at_1, at_2, at_3, set_0, set_1, set_2, set_3, ↓vmP, vm0, vm1, vm2, vm3, vm4, vm5, vm6, vm7, vm8, vm9, vm10, vm11, vm12, vm13, vm14, vm15, vmC, vmN, Nat.reduceAdd, Nat.reduceMul, Nat.reduceSub, Nat.reduceEqDiff, Nat.reduceLT, Nat.reduceLeDiff, ↓reduceIte, Tg.isFull, Int.reduceToNat]
    have he : enc m = UInt8.ofNat ((x.length + 1) / 16777216) :: UInt8.ofNat ((x.length + 1) / 65536) :: UInt8.ofNat ((x.length + 1) / 256) :: UInt8.ofNat (x.length + 1) :: toB m.kind :: x := by
      unfold enc lenB; rw [hbl]; simp
    rw [he]
end Go.Vm.Wr
