/- A part of the proof of WireBackUptoSaid: YthojpjhnhipfpaaLd. -/
import Derived.Test.YthojpjhnhipfpaaKFab
import Derived.Test.YthojpjhnhipfpaaKOk
import Derived.Test.YthojpjhnhipfpaaRows
import Derived.Test.YthojpjhnhipfpaaKVmGlueS
import Derived.WalkKit
import Derived.ProofKit
import Derived.OpenShut
import Derived.Handed
import Derived.JoinedOf
import Derived.JoinedCond
/- What the laws come to, over the program. -/
set_option linter.unusedVariables false
namespace Go.Proofs.Ythojpjhnhipfpaa
open Go.ChangeShapes Go.WideShapes Go.ChangeAt Go.RowKit Go.Vm Go.Vm.Wr
theorem own : ownKnob Try.prog.godebug = none := by kernel_rfl
theorem laid : laidOutB Try.prog = true := by kernel_rfl
theorem rowed : mapsRowed Try.prog = true := by kernel_rfl
theorem kids : Kids Try.prog (fun t => ∃ d, Rowish Try.prog d t) := kids_rowish laid rowed
theorem full : ∀ t e, (∃ d, Rowish Try.prog d t) → Try.prog.underlying t = some (.slice e) → 0 < Try.prog.cellsOf e := full_of (by kernel_rfl)
theorem rowish {t : TypeId} (h : decide (t < Try.prog.types.size) = true) : ∃ d, Rowish Try.prog d t := ⟨0, (of_decide_eq_true h : t < Try.prog.types.size)⟩
theorem bulk_lits {H : Type} (k : IntKind) : ∀ zs : List Int, zs.length ≤ Rows.uptoBulkAll (lits (H := H) k zs)
  | [] => Nat.zero_le _
  | z :: zs => by
    have := bulk_lits (H := H) k zs
    simp only [lits, List.map_cons, Rows.uptoBulkAll, Rows.uptoBulk, List.length_cons] at this ⊢
    omega
theorem bulk_nums {H : Type} {k : IntKind} {d : DataW H} {zs : List Int} (h : (d = .nil ∧ zs = []) ∨ ∃ sp, d = .slice (lits k zs) sp) : zs.length ≤ Rows.uptoBulk d := by
  rcases h with ⟨rfl, rfl⟩ | ⟨sp, rfl⟩
  · exact Nat.zero_le _
  · have := bulk_lits (H := H) k zs
    simp only [Rows.uptoBulk]; omega
namespace wireBack
set_option maxRecDepth 100000 in
theorem contract (H : Type) (enc : TypeId × Value → H) (W : World) (base : Nat) (args : Array Value) (ds gs : List (DataW H)) (before : List MemPlace)
    (hval : ∀ (j : Nat) t v, Try.f8.params[j]? = some t → args[j]? = some v → Value.okWide Try.prog W .any base t v)
    (hW : DataW.Whole enc Try.prog Try.f8.params.toList Rows.wireBackSpec.vars false W args.toList ds gs before) (hk : Rows.uptoSmall H (ds ++ gs) = true) :
    Calls Try.prog 8 args W fun e W' => ∃ v, e = .returned v ∧ Rows.wireBackSpec.post enc Try.prog Try.f8 false true false false W args v W' := by
  have hW' := hW
  obtain ⟨p, q, hA0, hV, rfl, hfz, hnd⟩ := hW
  have hA : DataW.TrodAll enc Try.prog W 0 (fun _ => true) true Try.f8.params.toList args.toList ds p := hA0
  rw [Try.params8] at hA hval
  obtain ⟨v0, vs0, d0, ds0, p0, q0, hargs, rfl, rfl, h0, r0⟩ := trodAll_cons hA
  obtain ⟨v1, vs1, d1, ds1, p1, q1, rfl, rfl, rfl, h1, r1⟩ := trodAll_cons r0
  obtain ⟨rfl, rfl, rfl⟩ := trodAll_nil r1
  obtain rfl : args = #[v0, v1] := by cases args; simp_all
  obtain ⟨rfl, rfl⟩ := trodVars_none hV
  obtain ⟨z0, e0, w0, l0, g0⟩ := rep_of_numsD Try.underlying22 Try.underlying5 (by kernel_rfl) (hval 0 22 v0 rfl rfl) h0
  rw [u8_of_nums w0] at g0
  obtain ⟨z1, e1, w1, l1, g1⟩ := rep_of_numsD Try.underlying22 Try.underlying5 (by kernel_rfl) (hval 1 22 v1 rfl rfl) h1
  rw [u8_of_nums w1] at g1
  have hb0 : Rows.uptoBulkAll _ ≤ 1048576 := of_decide_eq_true hk
  simp only [List.append_nil, Rows.uptoBulkAll] at hb0
  have b0 := bulk_nums e0
  have b1 := bulk_nums e1
  have hrun := law_wback (z0.map toB) (z1.map toB) (by rw [List.length_map]; omega)
  simp only [List.append_nil] at hW'
  refine (law_calls progOk mix hrun (RepAs.cons g0 (RepAs.cons g1 (RepAs.nil _ _)))).mono fun e W' ⟨he, hk⟩ => ?_
  exact ⟨_, he, law_post kids full (fun t ht => rowish (by rw [Try.params8] at ht; simp at ht; rcases ht with rfl <;> kernel_rfl)) rfl hW' rfl Try.underlying4 rfl hk⟩
set_option maxRecDepth 100000 in
theorem lifted (os : Os) (started : os.Started) (H : Type) (enc : TypeId × Value → H) (F : Stop.Interp) :
    ReturnsInHanded {} Try.checked os 8 .any ((Rows.OpenSpec.upto Rows.wireBackSpec).pre6 enc Try.prog Try.f8 Rows.wireBackUptoRow.domain false) (((Rows.OpenSpec.upto Rows.wireBackSpec).at F).post enc Try.prog Try.f8 false true false false) := by
  refine returnsInHanded_of_cond (C := Try.checked) (s := Rows.OpenSpec.upto Rows.wireBackSpec) (k := Rows.uptoSmall) rfl own started (by kernel_rfl) Try.func8
    (OpenSpec.witness (enc := enc) (C := Try.checked) (s := Rows.OpenSpec.upto Rows.wireBackSpec) (k := Rows.uptoSmall) rfl false ⟨#[], #[.slice none 0 0, .slice none 0 0], []⟩ 8 (by kernel_rfl) (by kernel_rfl) (by kernel_rfl)
      (x := ([.nil, .nil], [], [])) (by kernel_rfl) rfl (by kernel_rfl)) ?_
  intro W base args ds gs before hval hW _ hk _
  exact contract H enc W base args ds gs before hval hW hk
theorem proved : Rows.WireBackUptoSaid :=
  OpenClaim.holds_of_cond 8 Try.f8 rfl rfl rfl rfl rfl rfl rfl ⟨rfl, rfl, rfl, rfl, rfl⟩ rfl rfl rfl rfl rfl (by kernel_rfl) Try.func8 (by kernel_rfl)
    (of_decide_eq_true (by kernel_rfl)) (by unfold Func.isWrapper; first | (rw [if_pos (by decide +kernel)]; kernel_rfl) | (rw [if_neg (by decide +kernel)]; exact ⟨rfl, rfl⟩))
    (fun os started H enc _ F => lifted os started H enc F)
end wireBack
end Go.Proofs.Ythojpjhnhipfpaa
