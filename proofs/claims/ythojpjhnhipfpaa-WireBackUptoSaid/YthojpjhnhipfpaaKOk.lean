/- A part of the proof of WireBackUptoSaid: YthojpjhnhipfpaaOk. -/
import Derived.Test.YthojpjhnhipfpaaKCode
import Derived.Test.YthojpjhnhipfpaaRows
import Derived.Test.YthojpjhnhipfpaaKV8
import Derived.Test.YthojpjhnhipfpaaKCl
import Derived.KernelRfl
/- PRINTED BY mkseat.py of this repository: the compiled functions are those of the program. -/
set_option linter.unusedVariables false
namespace Go.Vm.Wr
open Go.Proofs
theorem ok7 : FnOk Try.prog 7 c7 := ⟨Try.f7, _, Try.func7, by kernel_rfl, rfl, by kernel_rfl, by kernel_rfl⟩
theorem ok8 : FnOk Try.prog 8 c8 := ⟨Try.f8, _, Try.func8, by kernel_rfl, rfl, by kernel_rfl, by kernel_rfl⟩
theorem ok9 : FnOk Try.prog 9 c9 := ⟨Try.f9, _, Try.func9, by kernel_rfl, rfl, by kernel_rfl, by kernel_rfl⟩
theorem ok11 : FnOk Try.prog 11 c11 := ⟨Try.f11, _, Try.func11, by kernel_rfl, rfl, by kernel_rfl, by kernel_rfl⟩
theorem ok16 : FnOk Try.prog 16 c16 := ⟨Try.f16, _, Try.func16, by kernel_rfl, rfl, by kernel_rfl, by kernel_rfl⟩
theorem ok17 : FnOk Try.prog 17 c17 := ⟨Try.f17, _, Try.func17, by kernel_rfl, rfl, by kernel_rfl, by kernel_rfl⟩
theorem ok22 : FnOk Try.prog 22 c22 := ⟨Try.f22, _, Try.func22, by kernel_rfl, rfl, by kernel_rfl, by kernel_rfl⟩
theorem ok23 : FnOk Try.prog 23 c23 := ⟨Try.f23, _, Try.func23, by kernel_rfl, rfl, by kernel_rfl, by kernel_rfl⟩
theorem ok24 : FnOk Try.prog 24 c24 := ⟨Try.f24, _, Try.func24, by kernel_rfl, rfl, by kernel_rfl, by kernel_rfl⟩
theorem ok25 : FnOk Try.prog 25 c25 := ⟨Try.f25, _, Try.func25, by kernel_rfl, rfl, by kernel_rfl, by kernel_rfl⟩
theorem ok26 : FnOk Try.prog 26 c26 := ⟨Try.f26, _, Try.func26, by kernel_rfl, rfl, by kernel_rfl, by kernel_rfl⟩
theorem ok27 : FnOk Try.prog 27 c27 := ⟨Try.f27, _, Try.func27, by kernel_rfl, rfl, by kernel_rfl, by kernel_rfl⟩
theorem ok28 : FnOk Try.prog 28 c28 := ⟨Try.f28, _, Try.func28, by kernel_rfl, rfl, by kernel_rfl, by kernel_rfl⟩
theorem ok29 : FnOk Try.prog 29 c29 := ⟨Try.f29, _, Try.func29, by kernel_rfl, rfl, by kernel_rfl, by kernel_rfl⟩
theorem ok30 : FnOk Try.prog 30 c30 := ⟨Try.f30, _, Try.func30, by kernel_rfl, rfl, by kernel_rfl, by kernel_rfl⟩
theorem ok31 : FnOk Try.prog 31 c31 := ⟨Try.f31, _, Try.func31, by kernel_rfl, rfl, by kernel_rfl, by kernel_rfl⟩
theorem ok32 : FnOk Try.prog 32 c32 := ⟨Try.f32, _, Try.func32, by kernel_rfl, rfl, by kernel_rfl, by kernel_rfl⟩
theorem ok33 : FnOk Try.prog 33 c33 := ⟨Try.f33, _, Try.func33, by kernel_rfl, rfl, by kernel_rfl, by kernel_rfl⟩
theorem ok34 : FnOk Try.prog 34 c34 := ⟨Try.f34, _, Try.func34, by kernel_rfl, rfl, by kernel_rfl, by kernel_rfl⟩
theorem ok36 : FnOk Try.prog 36 c36 := ⟨Try.f36, _, Try.func36, by kernel_rfl, rfl, by kernel_rfl, by kernel_rfl⟩
theorem ok44 : FnOk Try.prog 44 c44 := ⟨Try.f44, _, Try.func44, by kernel_rfl, rfl, by kernel_rfl, by kernel_rfl⟩
theorem ok45 : FnOk Try.prog 45 c45 := ⟨Try.f45, _, Try.func45, by kernel_rfl, rfl, by kernel_rfl, by kernel_rfl⟩
theorem ok46 : FnOk Try.prog 46 c46 := ⟨Try.f46, _, Try.func46, by kernel_rfl, rfl, by kernel_rfl, by kernel_rfl⟩
theorem ok51 : FnOk Try.prog 51 c51 := ⟨Try.f51, _, Try.func51, by kernel_rfl, rfl, by kernel_rfl, by kernel_rfl⟩
theorem ok52 : FnOk Try.prog 52 c52 := ⟨Try.f52, _, Try.func52, by kernel_rfl, rfl, by kernel_rfl, by kernel_rfl⟩
theorem ok53 : FnOk Try.prog 53 c53 := ⟨Try.f53, _, Try.func53, by kernel_rfl, rfl, by kernel_rfl, by kernel_rfl⟩
theorem ok54 : FnOk Try.prog 54 c54 := ⟨Try.f54, _, Try.func54, by kernel_rfl, rfl, by kernel_rfl, by kernel_rfl⟩
theorem ok55 : FnOk Try.prog 55 c55 := ⟨Try.f55, _, Try.func55, by kernel_rfl, rfl, by kernel_rfl, by kernel_rfl⟩
theorem ok56 : FnOk Try.prog 56 c56 := ⟨Try.f56, _, Try.func56, by kernel_rfl, rfl, by kernel_rfl, by kernel_rfl⟩
theorem ok57 : FnOk Try.prog 57 c57 := ⟨Try.f57, _, Try.func57, by kernel_rfl, rfl, by kernel_rfl, by kernel_rfl⟩
theorem ok58 : FnOk Try.prog 58 c58 := ⟨Try.f58, _, Try.func58, by kernel_rfl, rfl, by kernel_rfl, by kernel_rfl⟩
theorem ok59 : FnOk Try.prog 59 c59 := ⟨Try.f59, _, Try.func59, by kernel_rfl, rfl, by kernel_rfl, by kernel_rfl⟩
theorem ok61 : FnOk Try.prog 61 c61 := ⟨Try.f61, _, Try.func61, by kernel_rfl, rfl, by kernel_rfl, by kernel_rfl⟩
theorem ok63 : FnOk Try.prog 63 c63 := ⟨Try.f63, _, Try.func63, by kernel_rfl, rfl, by kernel_rfl, by kernel_rfl⟩
theorem ok64 : FnOk Try.prog 64 c64 := ⟨Try.f64, _, Try.func64, by kernel_rfl, rfl, by kernel_rfl, by kernel_rfl⟩
theorem ok65 : FnOk Try.prog 65 c65 := ⟨Try.f65, _, Try.func65, by kernel_rfl, rfl, by kernel_rfl, by kernel_rfl⟩
theorem ok66 : FnOk Try.prog 66 c66 := ⟨Try.f66, _, Try.func66, by kernel_rfl, rfl, by kernel_rfl, by kernel_rfl⟩
theorem mix : Try.prog.follows .mixedOrders = true := by kernel_rfl
theorem progOk (w0 : World) : ProgOk Try.prog w0 prog := by
  intro g cf h
  unfold prog at h
  split at h
  · cases h; exact ⟨ok7, fun sz hs => by cases hs⟩
  · cases h; exact ⟨ok8, fun sz hs => by cases hs⟩
  · cases h; exact ⟨ok9, fun sz hs => by cases hs⟩
  · cases h; exact ⟨ok11, fun sz hs => by cases hs⟩
  · cases h; exact ⟨ok16, fun sz hs => by cases hs⟩
  · cases h; exact ⟨ok17, fun sz hs => by cases hs⟩
  · cases h; exact ⟨ok22, fun sz hs => by cases hs⟩
  · cases h; exact ⟨ok23, fun sz hs => by cases hs⟩
  · cases h; exact ⟨ok24, fun sz hs => by cases hs⟩
  · cases h; exact ⟨ok25, fun sz hs => by cases hs⟩
  · cases h; exact ⟨ok26, fun sz hs => by cases hs⟩
  · cases h; exact ⟨ok27, fun sz hs => by cases hs⟩
  · cases h; exact ⟨ok28, fun sz hs => by cases hs⟩
  · cases h; exact ⟨ok29, fun sz hs => by cases hs⟩
  · cases h; exact ⟨ok30, fun sz hs => by cases hs⟩
  · cases h; exact ⟨ok31, fun sz hs => by cases hs⟩
  · cases h; exact ⟨ok32, fun sz hs => by cases hs⟩
  · cases h; exact ⟨ok33, fun sz hs => by cases hs⟩
  · cases h; exact ⟨ok34, fun sz hs => by cases hs⟩
  · cases h; exact ⟨ok36, fun sz hs => by cases hs⟩
  · cases h; exact ⟨ok44, fun sz hs => by cases hs⟩
  · cases h; exact ⟨ok45, fun sz hs => by cases hs⟩
  · cases h; exact ⟨ok46, fun sz hs => by cases hs⟩
  · cases h; exact ⟨ok51, fun sz hs => by cases hs⟩
  · cases h; exact ⟨ok52, fun sz hs => by cases hs⟩
  · cases h; exact ⟨ok53, fun sz hs => by cases hs⟩
  · cases h; exact ⟨ok54, fun sz hs => by cases hs⟩
  · cases h; exact ⟨ok55, fun sz hs => by cases hs⟩
  · cases h; exact ⟨ok56, fun sz hs => by cases hs⟩
  · cases h; exact ⟨ok57, fun sz hs => by cases hs⟩
  · cases h; exact ⟨ok58, fun sz hs => by cases hs; exact clone58 w0⟩
  · cases h; exact ⟨ok59, fun sz hs => by cases hs⟩
  · cases h; exact ⟨ok61, fun sz hs => by cases hs⟩
  · cases h; exact ⟨ok63, fun sz hs => by cases hs⟩
  · cases h; exact ⟨ok64, fun sz hs => by cases hs⟩
  · cases h; exact ⟨ok65, fun sz hs => by cases hs⟩
  · cases h; exact ⟨ok66, fun sz hs => by cases hs⟩
  · cases h
end Go.Vm.Wr
