/- A part of the proof of BacklogSettingsSaid: YtnihjdfbiddggaaLa. -/
import Derived.Test.YtnihjdfbiddggaaKFn
import Derived.Test.YtnihjdfbiddggaaKOk
import Derived.Test.YtnihjdfbiddggaaRows
import Derived.Test.YtnihjdfbiddggaaKV8
import Derived.WalkKit
import Derived.ProofKit
import Derived.OpenShut
import Derived.Handed
import Derived.JoinedOf
/- What the laws come to, over the program. -/
set_option linter.unusedVariables false
namespace Go.Proofs.Ytnihjdfbiddggaa
open Go.ChangeShapes Go.WideShapes Go.ChangeAt Go.RowKit Go.Vm Go.Vm.Bk
theorem own : ownKnob Try.prog.godebug = none := by kernel_rfl
theorem laid : laidOutB Try.prog = true := by kernel_rfl
theorem rowed : mapsRowed Try.prog = true := by kernel_rfl
theorem kids : Kids Try.prog (fun t => ∃ d, Rowish Try.prog d t) := kids_rowish laid rowed
theorem full : ∀ t e, (∃ d, Rowish Try.prog d t) → Try.prog.underlying t = some (.slice e) → 0 < Try.prog.cellsOf e := full_of (by kernel_rfl)
theorem rowish {t : TypeId} (h : decide (t < Try.prog.types.size) = true) : ∃ d, Rowish Try.prog d t := ⟨0, (of_decide_eq_true h : t < Try.prog.types.size)⟩
theorem inI_of {zs : List Int} (h : ∀ n ∈ zs, (Lit.int .i64 n).wf = true) : ∀ n ∈ zs, InI n := by
  intro n hn
  have := h n hn
  simpa [InI, Lit.wf, IntKind.min, IntKind.max, IntKind.signed, IntKind.bits] using this
namespace backlogSettings
set_option maxRecDepth 100000 in
theorem contract (H : Type) (enc : TypeId × Value → H) (W : World) (base : Nat) (args : Array Value) (ds gs : List (DataW H)) (before : List MemPlace)
    (hval : ∀ (j : Nat) t v, Try.f3.params[j]? = some t → args[j]? = some v → Value.okWide Try.prog W .any base t v)
    (hW : DataW.Whole enc Try.prog Try.f3.params.toList Rows.backlogSettingsSpec.vars false W args.toList ds gs before) :
    Calls Try.prog 3 args W fun e W' => ∃ v, e = .returned v ∧ Rows.backlogSettingsSpec.post enc Try.prog Try.f3 false true false false W args v W' := by
  have hW' := hW
  obtain ⟨p, q, hA0, hV, rfl, hfz, hnd⟩ := hW
  have hA : DataW.TrodAll enc Try.prog W 0 (fun _ => true) true Try.f3.params.toList args.toList ds p := hA0
  rw [Try.params3] at hA hval
  obtain ⟨v0, vs0, d0, ds0, p0, q0, hargs, rfl, rfl, h0, r0⟩ := trodAll_cons hA
  obtain ⟨v1, vs1, d1, ds1, p1, q1, rfl, rfl, rfl, h1, r1⟩ := trodAll_cons r0
  obtain ⟨v2, vs2, d2, ds2, p2, q2, rfl, rfl, rfl, h2, r2⟩ := trodAll_cons r1
  obtain ⟨v3, vs3, d3, ds3, p3, q3, rfl, rfl, rfl, h3, r3⟩ := trodAll_cons r2
  obtain ⟨rfl, rfl, rfl⟩ := trodAll_nil r3
  obtain rfl : args = #[v0, v1, v2, v3] := by cases args; simp_all
  obtain ⟨rfl, rfl⟩ := trodVars_none hV
  obtain ⟨z0, w0, g0⟩ := rep_of_int Try.underlying3 (hval 0 3 v0 rfl rfl) h0
  obtain ⟨z1, w1, g1⟩ := rep_of_int Try.underlying3 (hval 1 3 v1 rfl rfl) h1
  obtain ⟨z2, w2, g2⟩ := rep_of_int Try.underlying3 (hval 2 3 v2 rfl rfl) h2
  obtain ⟨z3, w3, l3, g3⟩ := rep_of_nums Try.underlying22 Try.underlying3 (by kernel_rfl) (hval 3 22 v3 rfl rfl) h3
  have hrun := law_settings z0 z1 z2 z3 (Nat.le_trans l3 (by decide)) (inI_of w3)
  simp only [List.append_nil] at hW'
  refine (law_calls progOk mix hrun (RepAs.cons g0 (RepAs.cons g1 (RepAs.cons g2 (RepAs.cons g3 (RepAs.nil _ _)))))).mono fun e W' ⟨he, hk⟩ => ?_
  exact ⟨_, he, law_post kids full (fun t ht => rowish (by rw [Try.params3] at ht; simp at ht; rcases ht with rfl | rfl <;> kernel_rfl)) rfl hW' rfl Try.underlying4 rfl hk⟩
set_option maxRecDepth 100000 in
theorem lifted (os : Os) (started : os.Started) (H : Type) (enc : TypeId × Value → H) :
    ReturnsInHanded {} Try.checked os 3 .any (Rows.backlogSettingsSpec.pre6 enc Try.prog Try.f3 Rows.backlogSettingsRow.domain false) (Rows.backlogSettingsSpec.post enc Try.prog Try.f3 false true false false) := by
  refine returnsInHanded_of_change (C := Try.checked) own started (by kernel_rfl) Try.func3
    (ChangeSpec.witness6 (enc := enc) (C := Try.checked) false ⟨#[], #[.int .i64 0, .int .i64 0, .int .i64 0, .slice none 0 0], []⟩ 8 (by kernel_rfl) (by kernel_rfl) (by kernel_rfl) (by kernel_rfl)) ?_
  intro W base args ds gs before hval hW _ _
  exact contract H enc W base args ds gs before hval hW
theorem proved : Rows.BacklogSettingsSaid :=
  OpenClaim.holds_of_wide 3 Try.f3 rfl rfl rfl rfl rfl rfl rfl ⟨rfl, rfl, rfl, rfl, rfl⟩ rfl rfl rfl rfl rfl (by kernel_rfl) Try.func3 (by kernel_rfl)
    (of_decide_eq_true (by kernel_rfl)) (by unfold Func.isWrapper; first | (rw [if_pos (by decide +kernel)]; kernel_rfl) | (rw [if_neg (by decide +kernel)]; exact ⟨rfl, rfl⟩))
    (fun os started H enc _ => lifted os started H enc)
end backlogSettings
end Go.Proofs.Ytnihjdfbiddggaa
