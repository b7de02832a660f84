/- A part of the proof of PackRunsSaid: YtkjbflnddfehpaaOk. -/
import Derived.Test.YtkjbflnddfehpaaKCode
import Derived.Test.YtkjbflnddfehpaaRows
import Derived.Test.YtkjbflnddfehpaaKV8
import Derived.KernelRfl
/- PRINTED BY mkseat.py of this repository: the compiled functions are those of the program. -/
set_option linter.unusedVariables false
namespace Go.Vm.Pk
open Go.Proofs
theorem ok3 : FnOk Try.prog 3 c3 := ⟨Try.f3, _, Try.func3, by kernel_rfl, rfl, by kernel_rfl, by kernel_rfl⟩
theorem ok4 : FnOk Try.prog 4 c4 := ⟨Try.f4, _, Try.func4, by kernel_rfl, rfl, by kernel_rfl, by kernel_rfl⟩
theorem ok5 : FnOk Try.prog 5 c5 := ⟨Try.f5, _, Try.func5, by kernel_rfl, rfl, by kernel_rfl, by kernel_rfl⟩
theorem ok6 : FnOk Try.prog 6 c6 := ⟨Try.f6, _, Try.func6, by kernel_rfl, rfl, by kernel_rfl, by kernel_rfl⟩
theorem ok7 : FnOk Try.prog 7 c7 := ⟨Try.f7, _, Try.func7, by kernel_rfl, rfl, by kernel_rfl, by kernel_rfl⟩
theorem ok8 : FnOk Try.prog 8 c8 := ⟨Try.f8, _, Try.func8, by kernel_rfl, rfl, by kernel_rfl, by kernel_rfl⟩
theorem ok9 : FnOk Try.prog 9 c9 := ⟨Try.f9, _, Try.func9, by kernel_rfl, rfl, by kernel_rfl, by kernel_rfl⟩
theorem ok10 : FnOk Try.prog 10 c10 := ⟨Try.f10, _, Try.func10, by kernel_rfl, rfl, by kernel_rfl, by kernel_rfl⟩
theorem ok11 : FnOk Try.prog 11 c11 := ⟨Try.f11, _, Try.func11, by kernel_rfl, rfl, by kernel_rfl, by kernel_rfl⟩
theorem ok12 : FnOk Try.prog 12 c12 := ⟨Try.f12, _, Try.func12, by kernel_rfl, rfl, by kernel_rfl, by kernel_rfl⟩
theorem ok13 : FnOk Try.prog 13 c13 := ⟨Try.f13, _, Try.func13, by kernel_rfl, rfl, by kernel_rfl, by kernel_rfl⟩
theorem ok14 : FnOk Try.prog 14 c14 := ⟨Try.f14, _, Try.func14, by kernel_rfl, rfl, by kernel_rfl, by kernel_rfl⟩
theorem ok15 : FnOk Try.prog 15 c15 := ⟨Try.f15, _, Try.func15, by kernel_rfl, rfl, by kernel_rfl, by kernel_rfl⟩
theorem ok16 : FnOk Try.prog 16 c16 := ⟨Try.f16, _, Try.func16, by kernel_rfl, rfl, by kernel_rfl, by kernel_rfl⟩
theorem ok17 : FnOk Try.prog 17 c17 := ⟨Try.f17, _, Try.func17, by kernel_rfl, rfl, by kernel_rfl, by kernel_rfl⟩
theorem ok18 : FnOk Try.prog 18 c18 := ⟨Try.f18, _, Try.func18, by kernel_rfl, rfl, by kernel_rfl, by kernel_rfl⟩
theorem ok19 : FnOk Try.prog 19 c19 := ⟨Try.f19, _, Try.func19, by kernel_rfl, rfl, by kernel_rfl, by kernel_rfl⟩
theorem ok20 : FnOk Try.prog 20 c20 := ⟨Try.f20, _, Try.func20, by kernel_rfl, rfl, by kernel_rfl, by kernel_rfl⟩
theorem ok21 : FnOk Try.prog 21 c21 := ⟨Try.f21, _, Try.func21, by kernel_rfl, rfl, by kernel_rfl, by kernel_rfl⟩
theorem ok22 : FnOk Try.prog 22 c22 := ⟨Try.f22, _, Try.func22, by kernel_rfl, rfl, by kernel_rfl, by kernel_rfl⟩
theorem ok23 : FnOk Try.prog 23 c23 := ⟨Try.f23, _, Try.func23, by kernel_rfl, rfl, by kernel_rfl, by kernel_rfl⟩
theorem ok24 : FnOk Try.prog 24 c24 := ⟨Try.f24, _, Try.func24, by kernel_rfl, rfl, by kernel_rfl, by kernel_rfl⟩
theorem ok25 : FnOk Try.prog 25 c25 := ⟨Try.f25, _, Try.func25, by kernel_rfl, rfl, by kernel_rfl, by kernel_rfl⟩
theorem ok26 : FnOk Try.prog 26 c26 := ⟨Try.f26, _, Try.func26, by kernel_rfl, rfl, by kernel_rfl, by kernel_rfl⟩
theorem mix : Try.prog.follows .mixedOrders = true := by kernel_rfl
theorem progOk (w0 : World) : ProgOk Try.prog w0 prog := by
  intro g cf h
  unfold prog at h
  split at h
  · cases h; exact ⟨ok3, fun sz hs => by cases hs⟩
  · cases h; exact ⟨ok4, fun sz hs => by cases hs⟩
  · cases h; exact ⟨ok5, fun sz hs => by cases hs⟩
  · cases h; exact ⟨ok6, fun sz hs => by cases hs⟩
  · cases h; exact ⟨ok7, fun sz hs => by cases hs⟩
  · cases h; exact ⟨ok8, fun sz hs => by cases hs⟩
  · cases h; exact ⟨ok9, fun sz hs => by cases hs⟩
  · cases h; exact ⟨ok10, fun sz hs => by cases hs⟩
  · cases h; exact ⟨ok11, fun sz hs => by cases hs⟩
  · cases h; exact ⟨ok12, fun sz hs => by cases hs⟩
  · cases h; exact ⟨ok13, fun sz hs => by cases hs⟩
  · cases h; exact ⟨ok14, fun sz hs => by cases hs⟩
  · cases h; exact ⟨ok15, fun sz hs => by cases hs⟩
  · cases h; exact ⟨ok16, fun sz hs => by cases hs⟩
  · cases h; exact ⟨ok17, fun sz hs => by cases hs⟩
  · cases h; exact ⟨ok18, fun sz hs => by cases hs⟩
  · cases h; exact ⟨ok19, fun sz hs => by cases hs⟩
  · cases h; exact ⟨ok20, fun sz hs => by cases hs⟩
  · cases h; exact ⟨ok21, fun sz hs => by cases hs⟩
  · cases h; exact ⟨ok22, fun sz hs => by cases hs⟩
  · cases h; exact ⟨ok23, fun sz hs => by cases hs⟩
  · cases h; exact ⟨ok24, fun sz hs => by cases hs⟩
  · cases h; exact ⟨ok25, fun sz hs => by cases hs⟩
  · cases h; exact ⟨ok26, fun sz hs => by cases hs⟩
  · cases h
end Go.Vm.Pk
