/- A part of the proof of WireEncodesSaid: YthojpjhnhipfpaaLa. -/
import Derived.Test.YthojpjhnhipfpaaKFx
import Derived.Test.YthojpjhnhipfpaaKOk
import Derived.Test.YthojpjhnhipfpaaRows
import Derived.Test.YthojpjhnhipfpaaKVmGlueS
import Derived.WalkKit
import Derived.ProofKit
import Derived.OpenShut
import Derived.Handed
import Derived.JoinedOf
/- What the laws come to, over the program. -/
set_option linter.unusedVariables false
namespace Go.Proofs.Ythojpjhnhipfpaa
open Go.ChangeShapes Go.WideShapes Go.ChangeAt Go.RowKit Go.Vm Go.Vm.Wr
theorem own : ownKnob Try.prog.godebug = none := by kernel_rfl
theorem laid : laidOutB Try.prog = true := by kernel_rfl
theorem rowed : mapsRowed Try.prog = true := by kernel_rfl
theorem kids : Kids Try.prog (fun t => ∃ d, Rowish Try.prog d t) := kids_rowish laid rowed
theorem full : ∀ t e, (∃ d, Rowish Try.prog d t) → Try.prog.underlying t = some (.slice e) → 0 < Try.prog.cellsOf e := full_of (by kernel_rfl)
theorem rowish {t : TypeId} (h : decide (t < Try.prog.types.size) = true) : ∃ d, Rowish Try.prog d t := ⟨0, (of_decide_eq_true h : t < Try.prog.types.size)⟩
theorem c3 : Try.prog.cellsOf 3 = 1 := by kernel_rfl
theorem c9 : Try.prog.cellsOf 9 = 1 := by kernel_rfl
theorem c22 : Try.prog.cellsOf 22 = 1 := by kernel_rfl
set_option maxRecDepth 100000 in
theorem rep_of_msg {H : Type} {enc : TypeId × Value → H} {W : World} {base : Nat} {sp : Nat → Bool} {hd : Bool} {v : Value} {d : DataW H} {ps : List MemPlace} {r : Reach} {b0 : Nat} (hval : Value.okWide Try.prog W r b0 49 v) (ht : DataW.Trod enc Try.prog W base sp hd 49 v d ps) :
    ∃ m : Msg, Wf m ∧ m.tg = .any ∧ RepA (heapM W) (fun _ => none) (.agg (mC m)) v := by
  obtain ⟨cs, rfl, hsz, hok, hf⟩ := open_cells (ts := [3, 9, 3, 3, 3, 22]) Try.underlying49 (by kernel_rfl) (by kernel_rfl) hval ht
  obtain ⟨l⟩ := cs
  rcases l with _ | ⟨x0, _ | ⟨x1, _ | ⟨x2, _ | ⟨x3, _ | ⟨x4, _ | ⟨x5, _ | ⟨x6, l⟩⟩⟩⟩⟩⟩⟩ <;> simp at hsz
  simp only [List.forall_mem_cons, c3, c9, c22, List.drop_zero, List.drop_succ_cons, List.take_succ_cons, List.take_zero] at hf
  obtain ⟨⟨_, _, f0⟩, ⟨_, _, f1⟩, ⟨_, _, f2⟩, ⟨_, _, f3⟩, ⟨_, _, f4⟩, ⟨_, _, f5⟩, _⟩ := hf
  obtain ⟨n0, rfl, _⟩ := cell_int Try.underlying3 f0
  obtain ⟨s1, rfl, q1⟩ := cell_str Try.underlying9 f1
  obtain ⟨n2, rfl, _⟩ := cell_int Try.underlying3 f2
  obtain ⟨n3, rfl, _⟩ := cell_int Try.underlying3 f3
  obtain ⟨n4, rfl, _⟩ := cell_int Try.underlying3 f4
  obtain ⟨⟨a5, n5, c5, rfl⟩, zs, w5, l5, g5⟩ := cell_nums Try.underlying22 Try.underlying5 (by kernel_rfl) (hok 5 22 x5 rfl rfl) f5
  rw [u8_of_nums w5] at g5
  refine ⟨⟨n0, s1.data.toList, n2, n3, n4, zs.map toB, .any, 1⟩, ⟨by show s1.data.toList.length ≤ _; simpa using Nat.le_trans q1 (by decide), by show (zs.map toB).length ≤ _; rw [List.length_map]; exact Nat.le_trans l5 (by decide), rfl⟩, rfl, .agg _ _ rfl (fun i x v hx hv => ?_) ?_⟩
  · simp only [mC, str_of] at hx
    match i with
    | 0 => cases hx; cases hv; exact .d (.int ..)
    | 1 => cases hx; cases hv; exact .d (.str ..)
    | 2 => cases hx; cases hv; exact .d (.int ..)
    | 3 => cases hx; cases hv; exact .d (.int ..)
    | 4 => cases hx; cases hv; exact .d (.int ..)
    | 5 => cases hx; cases hv; exact g5
    | i + 6 => simp at hx
  · intro v hv
    simp at hv
    rcases hv with rfl | rfl | rfl | rfl | rfl | rfl <;> rfl
namespace wireEncodes
set_option maxRecDepth 100000 in
theorem contract (H : Type) (enc : TypeId × Value → H) (W : World) (base : Nat) (args : Array Value) (ds gs : List (DataW H)) (before : List MemPlace)
    (hval : ∀ (j : Nat) t v, Try.f5.params[j]? = some t → args[j]? = some v → Value.okWide Try.prog W .any base t v)
    (hW : DataW.Whole enc Try.prog Try.f5.params.toList Rows.wireEncodesSpec.vars false W args.toList ds gs before) :
    Calls Try.prog 5 args W fun e W' => ∃ v, e = .returned v ∧ Rows.wireEncodesSpec.post enc Try.prog Try.f5 false true false false W args v W' := by
  have hW' := hW
  obtain ⟨p, q, hA0, hV, rfl, hfz, hnd⟩ := hW
  have hA : DataW.TrodAll enc Try.prog W 0 (fun _ => true) true Try.f5.params.toList args.toList ds p := hA0
  rw [Try.params5] at hA hval
  obtain ⟨v0, vs0, d0, ds0, p0, q0, hargs, rfl, rfl, h0, r0⟩ := trodAll_cons hA
  obtain ⟨v1, vs1, d1, ds1, p1, q1, rfl, rfl, rfl, h1, r1⟩ := trodAll_cons r0
  obtain ⟨v2, vs2, d2, ds2, p2, q2, rfl, rfl, rfl, h2, r2⟩ := trodAll_cons r1
  obtain ⟨rfl, rfl, rfl⟩ := trodAll_nil r2
  obtain rfl : args = #[v0, v1, v2] := by cases args; simp_all
  obtain ⟨rfl, rfl⟩ := trodVars_none hV
  obtain ⟨z0, w0, l0, g0⟩ := rep_of_nums Try.underlying22 Try.underlying5 (by kernel_rfl) (hval 0 22 v0 rfl rfl) h0
  rw [u8_of_nums w0] at g0
  obtain ⟨m1, w1, t1, g1⟩ := rep_of_msg (hval 1 49 v1 rfl rfl) h1
  obtain ⟨z2, w2, g2⟩ := rep_of_int Try.underlying65 (hval 2 65 v2 rfl rfl) h2
  obtain ⟨n2, rfl, m2⟩ := nat_of_num (k := .u16) rfl w2
  have hrun := law_encodes (z0.map toB) m1 w1 t1 n2 m2
  simp only [List.append_nil] at hW'
  refine (law_calls progOk mix hrun (RepAs.cons g0 (RepAs.cons g1 (RepAs.cons g2 (RepAs.nil _ _))))).mono fun e W' ⟨he, hk⟩ => ?_
  exact ⟨_, he, law_post kids full (fun t ht => rowish (by rw [Try.params5] at ht; simp at ht; rcases ht with rfl | rfl | rfl <;> kernel_rfl)) rfl hW' rfl Try.underlying4 rfl hk⟩
set_option maxRecDepth 100000 in
theorem lifted (os : Os) (started : os.Started) (H : Type) (enc : TypeId × Value → H) :
    ReturnsInHanded {} Try.checked os 5 .any (Rows.wireEncodesSpec.pre6 enc Try.prog Try.f5 Rows.wireEncodesRow.domain false) (Rows.wireEncodesSpec.post enc Try.prog Try.f5 false true false false) := by
  refine returnsInHanded_of_change (C := Try.checked) own started (by kernel_rfl) Try.func5
    (ChangeSpec.witness6 (enc := enc) (C := Try.checked) false ⟨#[], #[.slice none 0 0, .agg #[.int .i64 0, .string ⟨#[]⟩, .int .i64 0, .int .i64 0, .int .i64 0, .slice none 0 0], .int .u16 0], []⟩ 8 (by kernel_rfl) (by kernel_rfl) (by kernel_rfl) (by kernel_rfl)) ?_
  intro W base args ds gs before hval hW _ _
  exact contract H enc W base args ds gs before hval hW
theorem proved : Rows.WireEncodesSaid :=
  OpenClaim.holds_of_wide 5 Try.f5 rfl rfl rfl rfl rfl rfl rfl ⟨rfl, rfl, rfl, rfl, rfl⟩ rfl rfl rfl rfl rfl (by kernel_rfl) Try.func5 (by kernel_rfl)
    (of_decide_eq_true (by kernel_rfl)) (by unfold Func.isWrapper; first | (rw [if_pos (by decide +kernel)]; kernel_rfl) | (rw [if_neg (by decide +kernel)]; exact ⟨rfl, rfl⟩))
    (fun os started H enc _ => lifted os started H enc)
end wireEncodes
end Go.Proofs.Ythojpjhnhipfpaa
