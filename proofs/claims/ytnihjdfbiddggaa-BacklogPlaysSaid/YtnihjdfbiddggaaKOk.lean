/- A part of the proof of BacklogPlaysSaid: YtnihjdfbiddggaaOk. -/
import Derived.Test.YtnihjdfbiddggaaKCode
import Derived.Test.YtnihjdfbiddggaaRows
import Derived.Test.YtnihjdfbiddggaaKV8
import Derived.Test.YtnihjdfbiddggaaKCl
import Derived.KernelRfl
/- PRINTED BY mkseat.py of this repository: the compiled functions are those of the program. -/
set_option linter.unusedVariables false
namespace Go.Vm.Bk
open Go.Proofs
theorem ok3 : FnOk Try.prog 3 c3 := ⟨Try.f3, _, Try.func3, by kernel_rfl, rfl, by kernel_rfl, by kernel_rfl⟩
theorem ok4 : FnOk Try.prog 4 c4 := ⟨Try.f4, _, Try.func4, by kernel_rfl, rfl, by kernel_rfl, by kernel_rfl⟩
theorem ok10 : FnOk Try.prog 10 c10 := ⟨Try.f10, _, Try.func10, by kernel_rfl, rfl, by kernel_rfl, by kernel_rfl⟩
theorem ok11 : FnOk Try.prog 11 c11 := ⟨Try.f11, _, Try.func11, by kernel_rfl, rfl, by kernel_rfl, by kernel_rfl⟩
theorem ok12 : FnOk Try.prog 12 c12 := ⟨Try.f12, _, Try.func12, by kernel_rfl, rfl, by kernel_rfl, by kernel_rfl⟩
theorem ok13 : FnOk Try.prog 13 c13 := ⟨Try.f13, _, Try.func13, by kernel_rfl, rfl, by kernel_rfl, by kernel_rfl⟩
theorem ok14 : FnOk Try.prog 14 c14 := ⟨Try.f14, _, Try.func14, by kernel_rfl, rfl, by kernel_rfl, by kernel_rfl⟩
theorem ok15 : FnOk Try.prog 15 c15 := ⟨Try.f15, _, Try.func15, by kernel_rfl, rfl, by kernel_rfl, by kernel_rfl⟩
theorem ok16 : FnOk Try.prog 16 c16 := ⟨Try.f16, _, Try.func16, by kernel_rfl, rfl, by kernel_rfl, by kernel_rfl⟩
theorem ok17 : FnOk Try.prog 17 c17 := ⟨Try.f17, _, Try.func17, by kernel_rfl, rfl, by kernel_rfl, by kernel_rfl⟩
theorem ok18 : FnOk Try.prog 18 c18 := ⟨Try.f18, _, Try.func18, by kernel_rfl, rfl, by kernel_rfl, by kernel_rfl⟩
theorem ok19 : FnOk Try.prog 19 c19 := ⟨Try.f19, _, Try.func19, by kernel_rfl, rfl, by kernel_rfl, by kernel_rfl⟩
theorem ok20 : FnOk Try.prog 20 c20 := ⟨Try.f20, _, Try.func20, by kernel_rfl, rfl, by kernel_rfl, by kernel_rfl⟩
theorem ok21 : FnOk Try.prog 21 c21 := ⟨Try.f21, _, Try.func21, by kernel_rfl, rfl, by kernel_rfl, by kernel_rfl⟩
theorem ok24 : FnOk Try.prog 24 c24 := ⟨Try.f24, _, Try.func24, by kernel_rfl, rfl, by kernel_rfl, by kernel_rfl⟩
theorem ok25 : FnOk Try.prog 25 c25 := ⟨Try.f25, _, Try.func25, by kernel_rfl, rfl, by kernel_rfl, by kernel_rfl⟩
theorem ok26 : FnOk Try.prog 26 c26 := ⟨Try.f26, _, Try.func26, by kernel_rfl, rfl, by kernel_rfl, by kernel_rfl⟩
theorem ok27 : FnOk Try.prog 27 c27 := ⟨Try.f27, _, Try.func27, by kernel_rfl, rfl, by kernel_rfl, by kernel_rfl⟩
theorem ok28 : FnOk Try.prog 28 c28 := ⟨Try.f28, _, Try.func28, by kernel_rfl, rfl, by kernel_rfl, by kernel_rfl⟩
theorem ok29 : FnOk Try.prog 29 c29 := ⟨Try.f29, _, Try.func29, by kernel_rfl, rfl, by kernel_rfl, by kernel_rfl⟩
theorem ok30 : FnOk Try.prog 30 c30 := ⟨Try.f30, _, Try.func30, by kernel_rfl, rfl, by kernel_rfl, by kernel_rfl⟩
theorem ok31 : FnOk Try.prog 31 c31 := ⟨Try.f31, _, Try.func31, by kernel_rfl, rfl, by kernel_rfl, by kernel_rfl⟩
theorem ok32 : FnOk Try.prog 32 c32 := ⟨Try.f32, _, Try.func32, by kernel_rfl, rfl, by kernel_rfl, by kernel_rfl⟩
theorem ok33 : FnOk Try.prog 33 c33 := ⟨Try.f33, _, Try.func33, by kernel_rfl, rfl, by kernel_rfl, by kernel_rfl⟩
theorem ok34 : FnOk Try.prog 34 c34 := ⟨Try.f34, _, Try.func34, by kernel_rfl, rfl, by kernel_rfl, by kernel_rfl⟩
theorem ok35 : FnOk Try.prog 35 c35 := ⟨Try.f35, _, Try.func35, by kernel_rfl, rfl, by kernel_rfl, by kernel_rfl⟩
theorem ok36 : FnOk Try.prog 36 c36 := ⟨Try.f36, _, Try.func36, by kernel_rfl, rfl, by kernel_rfl, by kernel_rfl⟩
theorem ok37 : FnOk Try.prog 37 c37 := ⟨Try.f37, _, Try.func37, by kernel_rfl, rfl, by kernel_rfl, by kernel_rfl⟩
theorem ok38 : FnOk Try.prog 38 c38 := ⟨Try.f38, _, Try.func38, by kernel_rfl, rfl, by kernel_rfl, by kernel_rfl⟩
theorem ok39 : FnOk Try.prog 39 c39 := ⟨Try.f39, _, Try.func39, by kernel_rfl, rfl, by kernel_rfl, by kernel_rfl⟩
theorem ok40 : FnOk Try.prog 40 c40 := ⟨Try.f40, _, Try.func40, by kernel_rfl, rfl, by kernel_rfl, by kernel_rfl⟩
theorem ok41 : FnOk Try.prog 41 c41 := ⟨Try.f41, _, Try.func41, by kernel_rfl, rfl, by kernel_rfl, by kernel_rfl⟩
theorem ok42 : FnOk Try.prog 42 c42 := ⟨Try.f42, _, Try.func42, by kernel_rfl, rfl, by kernel_rfl, by kernel_rfl⟩
theorem ok43 : FnOk Try.prog 43 c43 := ⟨Try.f43, _, Try.func43, by kernel_rfl, rfl, by kernel_rfl, by kernel_rfl⟩
theorem ok44 : FnOk Try.prog 44 c44 := ⟨Try.f44, _, Try.func44, by kernel_rfl, rfl, by kernel_rfl, by kernel_rfl⟩
theorem ok45 : FnOk Try.prog 45 c45 := ⟨Try.f45, _, Try.func45, by kernel_rfl, rfl, by kernel_rfl, by kernel_rfl⟩
theorem ok46 : FnOk Try.prog 46 c46 := ⟨Try.f46, _, Try.func46, by kernel_rfl, rfl, by kernel_rfl, by kernel_rfl⟩
theorem ok47 : FnOk Try.prog 47 c47 := ⟨Try.f47, _, Try.func47, by kernel_rfl, rfl, by kernel_rfl, by kernel_rfl⟩
theorem ok48 : FnOk Try.prog 48 c48 := ⟨Try.f48, _, Try.func48, by kernel_rfl, rfl, by kernel_rfl, by kernel_rfl⟩
theorem ok49 : FnOk Try.prog 49 c49 := ⟨Try.f49, _, Try.func49, by kernel_rfl, rfl, by kernel_rfl, by kernel_rfl⟩
theorem ok50 : FnOk Try.prog 50 c50 := ⟨Try.f50, _, Try.func50, by kernel_rfl, rfl, by kernel_rfl, by kernel_rfl⟩
theorem ok51 : FnOk Try.prog 51 c51 := ⟨Try.f51, _, Try.func51, by kernel_rfl, rfl, by kernel_rfl, by kernel_rfl⟩
theorem ok52 : FnOk Try.prog 52 c52 := ⟨Try.f52, _, Try.func52, by kernel_rfl, rfl, by kernel_rfl, by kernel_rfl⟩
theorem ok53 : FnOk Try.prog 53 c53 := ⟨Try.f53, _, Try.func53, by kernel_rfl, rfl, by kernel_rfl, by kernel_rfl⟩
theorem ok54 : FnOk Try.prog 54 c54 := ⟨Try.f54, _, Try.func54, by kernel_rfl, rfl, by kernel_rfl, by kernel_rfl⟩
theorem ok55 : FnOk Try.prog 55 c55 := ⟨Try.f55, _, Try.func55, by kernel_rfl, rfl, by kernel_rfl, by kernel_rfl⟩
theorem ok56 : FnOk Try.prog 56 c56 := ⟨Try.f56, _, Try.func56, by kernel_rfl, rfl, by kernel_rfl, by kernel_rfl⟩
theorem ok57 : FnOk Try.prog 57 c57 := ⟨Try.f57, _, Try.func57, by kernel_rfl, rfl, by kernel_rfl, by kernel_rfl⟩
theorem ok58 : FnOk Try.prog 58 c58 := ⟨Try.f58, _, Try.func58, by kernel_rfl, rfl, by kernel_rfl, by kernel_rfl⟩
theorem ok59 : FnOk Try.prog 59 c59 := ⟨Try.f59, _, Try.func59, by kernel_rfl, rfl, by kernel_rfl, by kernel_rfl⟩
theorem ok60 : FnOk Try.prog 60 c60 := ⟨Try.f60, _, Try.func60, by kernel_rfl, rfl, by kernel_rfl, by kernel_rfl⟩
theorem ok61 : FnOk Try.prog 61 c61 := ⟨Try.f61, _, Try.func61, by kernel_rfl, rfl, by kernel_rfl, by kernel_rfl⟩
theorem ok62 : FnOk Try.prog 62 c62 := ⟨Try.f62, _, Try.func62, by kernel_rfl, rfl, by kernel_rfl, by kernel_rfl⟩
theorem ok63 : FnOk Try.prog 63 c63 := ⟨Try.f63, _, Try.func63, by kernel_rfl, rfl, by kernel_rfl, by kernel_rfl⟩
theorem ok64 : FnOk Try.prog 64 c64 := ⟨Try.f64, _, Try.func64, by kernel_rfl, rfl, by kernel_rfl, by kernel_rfl⟩
theorem ok65 : FnOk Try.prog 65 c65 := ⟨Try.f65, _, Try.func65, by kernel_rfl, rfl, by kernel_rfl, by kernel_rfl⟩
theorem ok66 : FnOk Try.prog 66 c66 := ⟨Try.f66, _, Try.func66, by kernel_rfl, rfl, by kernel_rfl, by kernel_rfl⟩
theorem ok67 : FnOk Try.prog 67 c67 := ⟨Try.f67, _, Try.func67, by kernel_rfl, rfl, by kernel_rfl, by kernel_rfl⟩
theorem ok68 : FnOk Try.prog 68 c68 := ⟨Try.f68, _, Try.func68, by kernel_rfl, rfl, by kernel_rfl, by kernel_rfl⟩
theorem ok69 : FnOk Try.prog 69 c69 := ⟨Try.f69, _, Try.func69, by kernel_rfl, rfl, by kernel_rfl, by kernel_rfl⟩
theorem ok70 : FnOk Try.prog 70 c70 := ⟨Try.f70, _, Try.func70, by kernel_rfl, rfl, by kernel_rfl, by kernel_rfl⟩
theorem ok71 : FnOk Try.prog 71 c71 := ⟨Try.f71, _, Try.func71, by kernel_rfl, rfl, by kernel_rfl, by kernel_rfl⟩
theorem ok72 : FnOk Try.prog 72 c72 := ⟨Try.f72, _, Try.func72, by kernel_rfl, rfl, by kernel_rfl, by kernel_rfl⟩
theorem ok73 : FnOk Try.prog 73 c73 := ⟨Try.f73, _, Try.func73, by kernel_rfl, rfl, by kernel_rfl, by kernel_rfl⟩
theorem ok74 : FnOk Try.prog 74 c74 := ⟨Try.f74, _, Try.func74, by kernel_rfl, rfl, by kernel_rfl, by kernel_rfl⟩
theorem ok75 : FnOk Try.prog 75 c75 := ⟨Try.f75, _, Try.func75, by kernel_rfl, rfl, by kernel_rfl, by kernel_rfl⟩
theorem ok76 : FnOk Try.prog 76 c76 := ⟨Try.f76, _, Try.func76, by kernel_rfl, rfl, by kernel_rfl, by kernel_rfl⟩
theorem ok77 : FnOk Try.prog 77 c77 := ⟨Try.f77, _, Try.func77, by kernel_rfl, rfl, by kernel_rfl, by kernel_rfl⟩
theorem mix : Try.prog.follows .mixedOrders = true := by kernel_rfl
theorem progOk (w0 : World) : ProgOk Try.prog w0 prog := by
  intro g cf h
  unfold prog at h
  split at h
  · cases h; exact ⟨ok3, fun sz hs => by cases hs⟩
  · cases h; exact ⟨ok4, fun sz hs => by cases hs⟩
  · cases h; exact ⟨ok10, fun sz hs => by cases hs⟩
  · cases h; exact ⟨ok11, fun sz hs => by cases hs⟩
  · cases h; exact ⟨ok12, fun sz hs => by cases hs⟩
  · cases h; exact ⟨ok13, fun sz hs => by cases hs⟩
  · cases h; exact ⟨ok14, fun sz hs => by cases hs⟩
  · cases h; exact ⟨ok15, fun sz hs => by cases hs⟩
  · cases h; exact ⟨ok16, fun sz hs => by cases hs⟩
  · cases h; exact ⟨ok17, fun sz hs => by cases hs⟩
  · cases h; exact ⟨ok18, fun sz hs => by cases hs⟩
  · cases h; exact ⟨ok19, fun sz hs => by cases hs⟩
  · cases h; exact ⟨ok20, fun sz hs => by cases hs⟩
  · cases h; exact ⟨ok21, fun sz hs => by cases hs⟩
  · cases h; exact ⟨ok24, fun sz hs => by cases hs⟩
  · cases h; exact ⟨ok25, fun sz hs => by cases hs⟩
  · cases h; exact ⟨ok26, fun sz hs => by cases hs⟩
  · cases h; exact ⟨ok27, fun sz hs => by cases hs⟩
  · cases h; exact ⟨ok28, fun sz hs => by cases hs⟩
  · cases h; exact ⟨ok29, fun sz hs => by cases hs⟩
  · cases h; exact ⟨ok30, fun sz hs => by cases hs⟩
  · cases h; exact ⟨ok31, fun sz hs => by cases hs⟩
  · cases h; exact ⟨ok32, fun sz hs => by cases hs⟩
  · cases h; exact ⟨ok33, fun sz hs => by cases hs⟩
  · cases h; exact ⟨ok34, fun sz hs => by cases hs⟩
  · cases h; exact ⟨ok35, fun sz hs => by cases hs⟩
  · cases h; exact ⟨ok36, fun sz hs => by cases hs⟩
  · cases h; exact ⟨ok37, fun sz hs => by cases hs⟩
  · cases h; exact ⟨ok38, fun sz hs => by cases hs⟩
  · cases h; exact ⟨ok39, fun sz hs => by cases hs⟩
  · cases h; exact ⟨ok40, fun sz hs => by cases hs⟩
  · cases h; exact ⟨ok41, fun sz hs => by cases hs⟩
  · cases h; exact ⟨ok42, fun sz hs => by cases hs⟩
  · cases h; exact ⟨ok43, fun sz hs => by cases hs⟩
  · cases h; exact ⟨ok44, fun sz hs => by cases hs⟩
  · cases h; exact ⟨ok45, fun sz hs => by cases hs⟩
  · cases h; exact ⟨ok46, fun sz hs => by cases hs⟩
  · cases h; exact ⟨ok47, fun sz hs => by cases hs⟩
  · cases h; exact ⟨ok48, fun sz hs => by cases hs⟩
  · cases h; exact ⟨ok49, fun sz hs => by cases hs⟩
  · cases h; exact ⟨ok50, fun sz hs => by cases hs⟩
  · cases h; exact ⟨ok51, fun sz hs => by cases hs⟩
  · cases h; exact ⟨ok52, fun sz hs => by cases hs⟩
  · cases h; exact ⟨ok53, fun sz hs => by cases hs⟩
  · cases h; exact ⟨ok54, fun sz hs => by cases hs⟩
  · cases h; exact ⟨ok55, fun sz hs => by cases hs⟩
  · cases h; exact ⟨ok56, fun sz hs => by cases hs⟩
  · cases h; exact ⟨ok57, fun sz hs => by cases hs⟩
  · cases h; exact ⟨ok58, fun sz hs => by cases hs⟩
  · cases h; exact ⟨ok59, fun sz hs => by cases hs⟩
  · cases h; exact ⟨ok60, fun sz hs => by cases hs⟩
  · cases h; exact ⟨ok61, fun sz hs => by cases hs⟩
  · cases h; exact ⟨ok62, fun sz hs => by cases hs⟩
  · cases h; exact ⟨ok63, fun sz hs => by cases hs⟩
  · cases h; exact ⟨ok64, fun sz hs => by cases hs⟩
  · cases h; exact ⟨ok65, fun sz hs => by cases hs⟩
  · cases h; exact ⟨ok66, fun sz hs => by cases hs⟩
  · cases h; exact ⟨ok67, fun sz hs => by cases hs⟩
  · cases h; exact ⟨ok68, fun sz hs => by cases hs⟩
  · cases h; exact ⟨ok69, fun sz hs => by cases hs⟩
  · cases h; exact ⟨ok70, fun sz hs => by cases hs⟩
  · cases h; exact ⟨ok71, fun sz hs => by cases hs⟩
  · cases h; exact ⟨ok72, fun sz hs => by cases hs; exact clone72 w0⟩
  · cases h; exact ⟨ok73, fun sz hs => by cases hs; exact clone73 w0⟩
  · cases h; exact ⟨ok74, fun sz hs => by cases hs⟩
  · cases h; exact ⟨ok75, fun sz hs => by cases hs⟩
  · cases h; exact ⟨ok76, fun sz hs => by cases hs⟩
  · cases h; exact ⟨ok77, fun sz hs => by cases hs; exact clone77 w0⟩
  · cases h
end Go.Vm.Bk
