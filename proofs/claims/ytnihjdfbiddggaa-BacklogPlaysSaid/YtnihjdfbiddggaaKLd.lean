/- A part of the proof of BacklogPlaysSaid: YtnihjdfbiddggaaLd. -/
import Derived.Test.YtnihjdfbiddggaaKFgg
import Derived.Test.YtnihjdfbiddggaaKOk
import Derived.Test.YtnihjdfbiddggaaRows
import Derived.Test.YtnihjdfbiddggaaKV8
import Derived.WalkKit
import Derived.ProofKit
import Derived.OpenShut
import Derived.Handed
import Derived.JoinedOf
/- What the laws come to, over the program. -/
set_option linter.unusedVariables false
namespace Go.Proofs.Ytnihjdfbiddggaa
open Go.ChangeShapes Go.WideShapes Go.ChangeAt Go.RowKit Go.Vm Go.Vm.Bk
theorem own : ownKnob Try.prog.godebug = none := by kernel_rfl
theorem laid : laidOutB Try.prog = true := by kernel_rfl
theorem rowed : mapsRowed Try.prog = true := by kernel_rfl
theorem kids : Kids Try.prog (fun t => ∃ d, Rowish Try.prog d t) := kids_rowish laid rowed
theorem full : ∀ t e, (∃ d, Rowish Try.prog d t) → Try.prog.underlying t = some (.slice e) → 0 < Try.prog.cellsOf e := full_of (by kernel_rfl)
theorem rowish {t : TypeId} (h : decide (t < Try.prog.types.size) = true) : ∃ d, Rowish Try.prog d t := ⟨0, (of_decide_eq_true h : t < Try.prog.types.size)⟩
theorem inI_of {zs : List Int} (h : ∀ n ∈ zs, (Lit.int .i64 n).wf = true) : ∀ n ∈ zs, InI n := by
  intro n hn
  have := h n hn
  simpa [InI, Lit.wf, IntKind.min, IntKind.max, IntKind.signed, IntKind.bits] using this
namespace backlogPlays
set_option maxRecDepth 100000 in
theorem contract (H : Type) (enc : TypeId × Value → H) (W : World) (base : Nat) (args : Array Value) (ds gs : List (DataW H)) (before : List MemPlace)
    (hval : ∀ (j : Nat) t v, Try.f4.params[j]? = some t → args[j]? = some v → Value.okWide Try.prog W .any base t v)
    (hW : DataW.Whole enc Try.prog Try.f4.params.toList Rows.backlogPlaysSpec.vars false W args.toList ds gs before) :
    Calls Try.prog 4 args W fun e W' => ∃ v, e = .returned v ∧ Rows.backlogPlaysSpec.post enc Try.prog Try.f4 false true false false W args v W' := by
  have hW' := hW
  obtain ⟨p, q, hA0, hV, rfl, hfz, hnd⟩ := hW
  have hA : DataW.TrodAll enc Try.prog W 0 (fun _ => true) true Try.f4.params.toList args.toList ds p := hA0
  rw [Try.params4] at hA hval
  obtain ⟨v0, vs0, d0, ds0, p0, q0, hargs, rfl, rfl, h0, r0⟩ := trodAll_cons hA
  obtain ⟨rfl, rfl, rfl⟩ := trodAll_nil r0
  obtain rfl : args = #[v0] := by cases args; simp_all
  obtain ⟨rfl, rfl⟩ := trodVars_none hV
  obtain ⟨z0, w0, l0, g0⟩ := rep_of_nums Try.underlying22 Try.underlying3 (by kernel_rfl) (hval 0 22 v0 rfl rfl) h0
  have hrun := law_plays z0 (Nat.le_trans l0 (by decide)) (inI_of w0)
  simp only [List.append_nil] at hW'
  refine (law_calls progOk mix hrun (RepAs.cons g0 (RepAs.nil _ _))).mono fun e W' ⟨he, hk⟩ => ?_
  exact ⟨_, he, law_post kids full (fun t ht => rowish (by rw [Try.params4] at ht; simp at ht; rcases ht with rfl <;> kernel_rfl)) rfl hW' rfl Try.underlying4 rfl hk⟩
set_option maxRecDepth 100000 in
theorem lifted (os : Os) (started : os.Started) (H : Type) (enc : TypeId × Value → H) :
    ReturnsInHanded {} Try.checked os 4 .any (Rows.backlogPlaysSpec.pre6 enc Try.prog Try.f4 Rows.backlogPlaysRow.domain false) (Rows.backlogPlaysSpec.post enc Try.prog Try.f4 false true false false) := by
  refine returnsInHanded_of_change (C := Try.checked) own started (by kernel_rfl) Try.func4
    (ChangeSpec.witness6 (enc := enc) (C := Try.checked) false ⟨#[], #[.slice none 0 0], []⟩ 8 (by kernel_rfl) (by kernel_rfl) (by kernel_rfl) (by kernel_rfl)) ?_
  intro W base args ds gs before hval hW _ _
  exact contract H enc W base args ds gs before hval hW
theorem proved : Rows.BacklogPlaysSaid :=
  OpenClaim.holds_of_wide 4 Try.f4 rfl rfl rfl rfl rfl rfl rfl ⟨rfl, rfl, rfl, rfl, rfl⟩ rfl rfl rfl rfl rfl (by kernel_rfl) Try.func4 (by kernel_rfl)
    (of_decide_eq_true (by kernel_rfl)) (by unfold Func.isWrapper; first | (rw [if_pos (by decide +kernel)]; kernel_rfl) | (rw [if_neg (by decide +kernel)]; exact ⟨rfl, rfl⟩))
    (fun os started H enc _ => lifted os started H enc)
end backlogPlays
end Go.Proofs.Ytnihjdfbiddggaa
