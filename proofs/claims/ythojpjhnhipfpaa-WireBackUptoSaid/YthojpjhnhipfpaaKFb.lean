/- A part of the proof of WireBackUptoSaid: YthojpjhnhipfpaaFb. -/
import Derived.Test.YthojpjhnhipfpaaKFa
/- Bytes and texts that are made of numbers. -/
set_option linter.unusedVariables false
set_option linter.unusedSimpArgs false
set_option maxHeartbeats 1000000
namespace Go.Vm.Wr
theorem pgPick : prog 51 = some c51 := rfl
theorem By_loop {Q : Ex → St → Prop} (l : List UInt8) (hl : l.length ≤ 1000) : ∀ (k a : Nat) (out : List UInt8) (f : Bool) (s : St), a ≤ l.length → out.length + k ≤ 100000 →
    gc [(0, none), (5, some 1), (6, none)] s = ⟨gS [(0, .ptr 0 0), (5, .row 1), (6, .d (.int .i64 k))], gH [(0, cs l a), (1, .row 1 f (u8s out))], 2, 1, [0]⟩ →
    (∀ a' out' f', a ≤ a' → a' ≤ l.length → out'.length ≤ out.length + k → Q (.exit 0) ⟨gS [(0, .ptr 0 0), (5, .row 1), (6, .d (.int .i64 (0 : Nat))), (12, .d (.bool false))], gH [(0, cs l a'), (1, .row 1 f' (u8s out'))], 18, 1, [0]⟩) →
    wpW false prog (.loop [(0, none), (5, some 1), (6, none)] l36_6) s Q := by
  intro k
  induction k with
  | zero =>
    intro a out f s ha ho hg hQ
    refine wp_loop1 ?_
    rw [hg]
    generalize hJ : (fun s' => wpW false prog (.loop [(0, none), (5, some 1), (6, none)] l36_6) s' Q) = J
    unfold l36_6
    have e : (0 < ((0 : Nat) : Int)) = False := eq_false (by omega)
    simp -dsimp (disch := first | rfl | omega) only [r36_3, e, ↓vmP, vm0, vm1, vm2, vm3, vm4, vm5, vm6, vm7, vm8, vm9, vm10, vm11, vm12, vm13, vm14, vm15, vmC, vmN, Nat.reduceAdd, Nat.reduceMul, Nat.reduceSub, Nat.reduceEqDiff, Nat.reduceLT, Nat.reduceLeDiff, ↓reduceIte, Tg.isFull, Int.reduceToNat]
    exact hQ a out f (Nat.le_refl _) ha (by omega)
  | succ k ih =>
    intro a out f s ha ho hg hQ
    refine wp_loop1 ?_
    rw [hg]
    generalize hJ : (fun s' => wpW false prog (.loop [(0, none), (5, some 1), (6, none)] l36_6) s' Q) = J
    unfold l36_6
    have e : (0 < ((k + 1 : Nat) : Int)) = True := eq_true (by omega)
    have e3 : (((k + 1 : Nat) : Int) - 1) = (k : Nat) := by omega
    have h1 := Int_eq l a 256 (by omega) (by omega) (by omega)
    rw [show ((256 : Nat) : Int) = 256 from rfl] at h1
    have ha1 := cN_le l a 256
    have ha2 := cN_len l a 256 ha
    generalize cN l a 256 = a1 at h1 ha1 ha2
    generalize cI l a 256 = x1 at h1
    have h2 := Pick_eq l a1 [97, 98, 97, 0, 255, (x1 : Int)] (by simp) (by simp) (by omega) (by omega)
    have ha3 := cN_le l a1 6
    have ha4 := cN_len l a1 6 ha2
    simp only [List.length_cons, List.length_nil, List.map_cons, List.map_nil, Nat.zero_add, Nat.reduceAdd] at h2
    generalize cN l a1 6 = a2 at h2 ha3 ha4
    generalize ([97, 98, 97, 0, 255, (x1 : Int)] : List Int).getD (cI l a1 6) 0 = v at h2
    simp only [cs] at h1 h2
    simp -dsimp (disch := first | rfl | omega) only [cs, r36_3, r36_4, r36_5, e, e3, callW_fn pgI, callW_fn pgPick, h1, h2, w_toB, ↓vmP, vm0, vm1, vm2, vm3, vm4, vm5, vm6, vm7, vm8, vm9, vm10, vm11, vm12, vm13, vm14, vm15, vmC, vmN, Nat.reduceAdd, Nat.reduceMul, Nat.reduceSub, Nat.reduceEqDiff, Nat.reduceLT, Nat.reduceLeDiff, ↓reduceIte, Tg.isFull, Int.reduceToNat]
    rw [← hJ]
    refine ih a2 (out ++ [toB v]) false _ ha4 (by simp; omega) (by simp -dsimp (disch := first | rfl | omega) only [cs, ↓vmP, vm0, vm1, vm2, vm3, vm4, vm5, vm6, vm7, vm8, vm9, vm10, vm11, vm12, vm13, vm14, vm15, vmC, vmN, Nat.reduceAdd, Nat.reduceMul, Nat.reduceSub, Nat.reduceEqDiff, Nat.reduceLT, Nat.reduceLeDiff, ↓reduceIte, Tg.isFull, Int.reduceToNat]) (fun a' out' f' q1 q2 q3 => hQ a' out' f' (by omega) q2 (by simp at q3; omega))
theorem Bytes_ex (l : List UInt8) (a n : Nat) (hl : l.length ≤ 1000) (ha : a ≤ l.length) (hn : n ≤ 10000) : ∃ (bs : List UInt8) (a' : Nat), bs.length ≤ n ∧ a ≤ a' ∧ a' ≤ l.length ∧ runW false prog 36 [.ptr 0 0, .d (.int .i64 n)] [cs l a] = some (.d (.sl .any 1 (u8s bs)), [cs l a'], [0]) := by
  have key : ∃ R, (∃ (bs : List UInt8) (a' : Nat), bs.length ≤ n ∧ a ≤ a' ∧ a' ≤ l.length ∧ R = (A.d (.sl .any 1 (u8s bs)), [cs l a'], [0])) ∧ runW false prog 36 [.ptr 0 0, .d (.int .i64 n)] [cs l a] = some R := by
    refine run_ex rfl ?_
    generalize hQ : (fun (e : Ex) (s : St) => _ : Ex → St → Prop) = Q
    have h1 := Int_eq l a (n + 1) (by omega) (by omega) (by omega)
    have ha1 := cN_le l a (n + 1)
    have ha2 := cN_len l a (n + 1) ha
    have hx := cI_lt l a (n + 1) (by omega)
    generalize cN l a (n + 1) = a1 at h1 ha1 ha2
    generalize cI l a (n + 1) = x1 at h1 hx
    have en : (n : Int) + 1 = ((n + 1 : Nat) : Int) := by omega
    simp only [cs] at h1
    simp -dsimp (disch := first | rfl | omega) only [cs, r36_0, r36_1, r36_2, callW_fn pgI, en, h1, ↓vmP, vm0, vm1, vm2, vm3, vm4, vm5, vm6, vm7, vm8, vm9, vm10, vm11, vm12, vm13, vm14, vm15, vmC, vmN, Nat.reduceAdd, Nat.reduceMul, Nat.reduceSub, Nat.reduceEqDiff, Nat.reduceLT, Nat.reduceLeDiff, ↓reduceIte, Tg.isFull, Int.reduceToNat]
    refine By_loop l hl x1 a1 [] true _ ha2 (by simp; omega) (by simp -dsimp (disch := first | rfl | omega) only [cs, ↓vmP, vm0, vm1, vm2, vm3, vm4, vm5, vm6, vm7, vm8, vm9, vm10, vm11, vm12, vm13, vm14, vm15, vmC, vmN, Nat.reduceAdd, Nat.reduceMul, Nat.reduceSub, Nat.reduceEqDiff, Nat.reduceLT, Nat.reduceLeDiff, ↓reduceIte, Tg.isFull, Int.reduceToNat]; rfl) (fun a' out' f' q1 q2 q3 => ?_)
    simp -dsimp (disch := first | rfl | omega) only [cs, r36_7, ↓vmP, vm0, vm1, vm2, vm3, vm4, vm5, vm6, vm7, vm8, vm9, vm10, vm11, vm12, vm13, vm14, vm15, vmC, vmN, Nat.reduceAdd, Nat.reduceMul, Nat.reduceSub, Nat.reduceEqDiff, Nat.reduceLT, Nat.reduceLeDiff, ↓reduceIte, Tg.isFull, Int.reduceToNat]
    rw [← hQ]
    refine ⟨_, ⟨out', a', by simp at q3; omega, by omega, q2, rfl⟩, ?_⟩
    simp -dsimp (disch := first | rfl | omega) only [cs, ↓vmP, vm0, vm1, vm2, vm3, vm4, vm5, vm6, vm7, vm8, vm9, vm10, vm11, vm12, vm13, vm14, vm15, vmC, vmN, Nat.reduceAdd, Nat.reduceMul, Nat.reduceSub, Nat.reduceEqDiff, Nat.reduceLT, Nat.reduceLeDiff, ↓reduceIte, Tg.isFull, Int.reduceToNat]
  obtain ⟨R, ⟨bs, a', h1, h2, h3, rfl⟩, h⟩ := key
  exact ⟨bs, a', h1, h2, h3, h⟩
theorem pgBytes : prog 36 = some c36 := rfl
theorem nc1 (x : Nat) : ((x : Nat) : Int) = (x : Int) := rfl
end Go.Vm.Wr
