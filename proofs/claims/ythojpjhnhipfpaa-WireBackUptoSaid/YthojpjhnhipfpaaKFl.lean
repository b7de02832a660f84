/- A part of the proof of WireBackUptoSaid: YthojpjhnhipfpaaFl. -/
import Derived.Test.YthojpjhnhipfpaaKFk
/- Messages made of numbers. -/
set_option linter.unusedVariables false
set_option linter.unusedSimpArgs false
set_option maxHeartbeats 1000000
namespace Go.Vm.Wr
def strs (ws : List (List UInt8)) : List (List D) := ws.map fun w => [.str ⟨w.toArray⟩]
theorem strs_len (ws : List (List UInt8)) : (strs ws).length = ws.length := by simp [strs]
theorem strs_at (ws : List (List UInt8)) {i : Nat} (h : i < ws.length) : (strs ws)[i]? = some [.str ⟨(ws.getD i []).toArray⟩] := by
  simp [strs, h, List.getD_eq_getElem?_getD]
theorem word_eq (l : List UInt8) (a : Nat) (ws : List (List UInt8)) (hw : 0 < ws.length) (hw2 : ws.length ≤ 1000) (ha : a ≤ 100000) (hl : l.length ≤ 100000) : runW false prog 34 [.ptr 0 0, .d (.sl .any 1 (strs ws))] [cs l a] = some (.d (.str ⟨(ws.getD (cI l a ws.length) []).toArray⟩), [cs l (cN l a ws.length)], [0]) := by
  refine run_of rfl ?_
  have h1 := Int_eq l a ws.length ha hl (by omega)
  have hx := cI_lt l a ws.length hw
  generalize cI l a ws.length = x at h1 hx ⊢
  generalize cN l a ws.length = a1 at h1 ⊢
  simp only [cs] at h1
  simp -dsimp (disch := first | rfl | omega) only [cs, r34_0, r34_1, callW_fn pgI, h1, strs_len, strs_at, ↓vmP, vm0, vm1, vm2, vm3, vm4, vm5, vm6, vm7, vm8, vm9, vm10, vm11, vm12, vm13, vm14, vm15, vmC, vmN, Nat.reduceAdd, Nat.reduceMul, Nat.reduceSub, Nat.reduceEqDiff, Nat.reduceLT, Nat.reduceLeDiff, ↓reduceIte, Tg.isFull, Int.reduceToNat]
theorem pgWord : prog 34 = some c34 := rfl
def hosts : List (List UInt8) := [[97], [98], [99, 57], [104, 111, 115, 116, 110, 97, 109, 101, 49, 54, 98, 121, 116, 101, 115, 48]]
theorem hosts_c : [[D.str ⟨⟨[97]⟩⟩], [D.str ⟨⟨[98]⟩⟩], [D.str ⟨⟨[99, 57]⟩⟩], [D.str ⟨⟨[104, 111, 115, 116, 110, 97, 109, 101, 49, 54, 98, 121, 116, 101, 115, 48]⟩⟩]] = strs hosts := rfl
theorem Host_eq (l : List UInt8) (a : Nat) (ha : a ≤ 100000) (hl : l.length ≤ 100000) : runW false prog 11 [.ptr 0 0] [cs l a] = some (.d (.str ⟨(hosts.getD (cI l a 4) []).toArray⟩), [cs l (cN l a 4)], [0]) := by
  refine run_of rfl ?_
  have h1 := word_eq l a hosts (by simp [hosts]) (by simp [hosts]) ha hl
  rw [show hosts.length = 4 from rfl] at h1
  simp only [cs] at h1
  simp -dsimp (disch := first | rfl | omega) only [cs, r11_0, r11_1, callW_fn pgWord, hosts_c, h1, ↓vmP, vm0, vm1, vm2, vm3, vm4, vm5, vm6, vm7, vm8, vm9, vm10, vm11, vm12, vm13, vm14, vm15, vmC, vmN, Nat.reduceAdd, Nat.reduceMul, Nat.reduceSub, Nat.reduceEqDiff, Nat.reduceLT, Nat.reduceLeDiff, ↓reduceIte, Tg.isFull, Int.reduceToNat]
end Go.Vm.Wr
