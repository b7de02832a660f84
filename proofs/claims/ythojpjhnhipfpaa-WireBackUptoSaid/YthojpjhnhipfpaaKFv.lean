/- A part of the proof of WireBackUptoSaid: YthojpjhnhipfpaaFv. -/
import Derived.Test.YthojpjhnhipfpaaKFu
/- Messages that are equal; the example; streams of messages. -/
set_option linter.unusedVariables false
set_option linter.unusedSimpArgs false
set_option maxHeartbeats 400000
namespace Go.Vm.Wr
theorem Same_self (m : Msg) (t1 t2 : Tg) (z1 z2 : Nat) : runW false prog 32 [.agg (mC { m with tg := t1, bz := z1 }), .agg (mC { m with tg := t2, bz := z2 })] [] = some (.d (.bool true), [], []) := by
  refine run_of rfl ?_
  have h1 := fun t1 t2 z1 z2 => SameBytes_eq m.body m.body t1 t2 z1 z2
  simp only [decide_true] at h1
  simp -dsimp (disch := first | rfl | omega) only [mC, r32_0, r32_1, callW_fn pgSame, h1, ↓vmP, vm0, vm1, vm2, vm3, vm4, vm5, vm6, vm7, vm8, vm9, vm10, vm11, vm12, vm13, vm14, vm15, vmC, vmN, Nat.reduceAdd, Nat.reduceMul, Nat.reduceSub, Nat.reduceEqDiff, Nat.reduceLT, Nat.reduceLeDiff, ↓reduceIte, Tg.isFull, Int.reduceToNat]
theorem pgSameM : prog 32 = some c32 := rfl
theorem pgSameL : prog 31 = some c31 := rfl
def dMsg : Msg := ⟨0, [], 0, 0, 0, [], .any, 0⟩
theorem msD_at (l : List Msg) {i : Nat} (h : i < l.length) : (msD l)[i]? = some (mD (l.getD i dMsg)) := by
  simp [msD, h, List.getD_eq_getElem?_getD]
theorem sl_loop {Q : Ex → St → Prop} (l : List Msg) (hl : l.length ≤ 9223372036854775807) (t1 t2 : Tg) (z : Nat) (hz : l ≠ [] → z = 6) (z2 : Nat) (hz2 : l ≠ [] → z2 = 6) : ∀ (k j : Nat) (s : St), j + k = l.length →
    gc [(0, none), (1, none), (12, none), (13, none)] s = ⟨gS [(0, .d (.sl t1 z (msD l))), (1, .d (.sl t2 z2 (msD l))), (12, .d (.int .i64 l.length)), (13, .d (.int .i64 j))], gH [], 0, 0, []⟩ →
    (∀ L, Q (.exit 0) ⟨gS L, gH [], 8, 0, []⟩) → wpW false prog (.loop [(0, none), (1, none), (12, none), (13, none)] l31_9) s Q := by
  intro k
  induction k with
  | zero =>
    intro j s hj hg hQ
    refine wp_loop1 ?_
    rw [hg]
    generalize hJ : (fun s' => wpW false prog (.loop [(0, none), (1, none), (12, none), (13, none)] l31_9) s' Q) = J
    unfold l31_9
    have e0 : ((j : Int) < l.length) = False := eq_false (by omega)
    simp -dsimp (disch := first | rfl | omega) only [r31_4, e0, ↓vmP, vm0, vm1, vm2, vm3, vm4, vm5, vm6, vm7, vm8, vm9, vm10, vm11, vm12, vm13, vm14, vm15, vmC, vmN, Nat.reduceAdd, Nat.reduceMul, Nat.reduceSub, Nat.reduceEqDiff, Nat.reduceLT, Nat.reduceLeDiff, ↓reduceIte, Tg.isFull, Int.reduceToNat]
    exact hQ _
  | succ k ih =>
    intro j s hj hg hQ
    refine wp_loop1 ?_
    rw [hg]
    generalize hJ : (fun s' => wpW false prog (.loop [(0, none), (1, none), (12, none), (13, none)] l31_9) s' Q) = J
    unfold l31_9
    have hne : l ≠ [] := fun h => by rw [h] at hj; simp at hj
    have hz' := hz hne
    have hz2' := hz2 hne
    subst hz' hz2'
    have e0 : ((j : Int) < l.length) = True := eq_true (by omega)
    have ej : ((j : Int) + 1) = ((j + 1 : Nat) : Int) := by omega
    have hat := msD_at l (show j < l.length by omega)
    generalize l.getD j dMsg = m at hat
    have hS := Same_self m .any .any m.bz m.bz
    simp only [mD] at hat
    simp only [mC] at hS
    have hml := msD_len l
    simp -dsimp (disch := first | rfl | omega) only [r31_4, r31_5, r31_6, r31_8, callW_fn pgSameM, hS, hat, e0, ej, ↓vmP, vm0, vm1, vm2, vm3, vm4, vm5, vm6, vm7, vm8, vm9, vm10, vm11, vm12, vm13, vm14, vm15, vmC, vmN, Nat.reduceAdd, Nat.reduceMul, Nat.reduceSub, Nat.reduceEqDiff, Nat.reduceLT, Nat.reduceLeDiff, ↓reduceIte, Tg.isFull, Int.reduceToNat]
    refine regD_of (by kernel_rfl) ?_
    simp -dsimp (disch := first | rfl | omega) only [r31_8, ej, ↓vmP, vm0, vm1, vm2, vm3, vm4, vm5, vm6, vm7, vm8, vm9, vm10, vm11, vm12, vm13, vm14, vm15, vmC, vmN, Nat.reduceAdd, Nat.reduceMul, Nat.reduceSub, Nat.reduceEqDiff, Nat.reduceLT, Nat.reduceLeDiff, ↓reduceIte, Tg.isFull, Int.reduceToNat]
    rw [← hJ]
    exact ih (j + 1) _ (by omega) (by simp -dsimp (disch := first | rfl | omega) only [↓vmP, vm0, vm1, vm2, vm3, vm4, vm5, vm6, vm7, vm8, vm9, vm10, vm11, vm12, vm13, vm14, vm15, vmC, vmN, Nat.reduceAdd, Nat.reduceMul, Nat.reduceSub, Nat.reduceEqDiff, Nat.reduceLT, Nat.reduceLeDiff, ↓reduceIte, Tg.isFull, Int.reduceToNat]) hQ
theorem SameList_self (l : List Msg) (hl : l.length ≤ 9223372036854775807) (t1 t2 : Tg) (z z2 : Nat) (hz : l ≠ [] → z = 6) (hz2 : l ≠ [] → z2 = 6) : runW false prog 31 [.d (.sl t1 z (msD l)), .d (.sl t2 z2 (msD l))] [] = some (.d (.bool true), [], []) := by
  refine run_of rfl ?_
  have hml := msD_len l
  simp -dsimp (disch := first | rfl | omega) only [r31_0, r31_1, r31_3, hml, ne_eq, not_true_eq_false, ↓vmP, vm0, vm1, vm2, vm3, vm4, vm5, vm6, vm7, vm8, vm9, vm10, vm11, vm12, vm13, vm14, vm15, vmC, vmN, Nat.reduceAdd, Nat.reduceMul, Nat.reduceSub, Nat.reduceEqDiff, Nat.reduceLT, Nat.reduceLeDiff, ↓reduceIte, Tg.isFull, Int.reduceToNat]
  refine sl_loop l hl t1 t2 z hz z2 hz2 l.length 0 _ (by omega) (by simp -dsimp (disch := first | rfl | omega) only [hml, ↓vmP, vm0, vm1, vm2, vm3, vm4, vm5, vm6, vm7, vm8, vm9, vm10, vm11, vm12, vm13, vm14, vm15, vmC, vmN, Nat.reduceAdd, Nat.reduceMul, Nat.reduceSub, Nat.reduceEqDiff, Nat.reduceLT, Nat.reduceLeDiff, ↓reduceIte, Tg.isFull, Int.reduceToNat]; rfl) (fun L => ?_)
  simp -dsimp (disch := first | rfl | omega) only [r31_10, ↓vmP, vm0, vm1, vm2, vm3, vm4, vm5, vm6, vm7, vm8, vm9, vm10, vm11, vm12, vm13, vm14, vm15, vmC, vmN, Nat.reduceAdd, Nat.reduceMul, Nat.reduceSub, Nat.reduceEqDiff, Nat.reduceLT, Nat.reduceLeDiff, ↓reduceIte, Tg.isFull, Int.reduceToNat]
theorem pgFeed : prog 30 = some c30 := rfl
theorem pgRFeed : prog 16 = some c16 := rfl
def bM : Msg := ⟨6, [], 0, 0, 0, [], .any, 0⟩
theorem bM_enc : enc bM = [0, 0, 0, 1, 6] := rfl
theorem bM_vld : vld bM = true := rfl
theorem bM_fd : fdF 7 [0, 0, 0, 1, 6, 0] [] = ([noM bM], [0], true) := by
  have h1 : dR [0, 0, 0, 1, 6] = (noM bM, true) := by rw [← bM_enc]; exact dR_enc bM bM_vld
  have h2 : n4 [0, 0, 0, 1, 6, 0] = 1 := rfl
  unfold fdF
  rw [h2]
  simp only [List.length_cons, List.length_nil, Nat.reduceAdd, Nat.reduceLT, if_false, Nat.reduceEqDiff, false_or, Nat.one_ne_zero, List.take_succ_cons, List.take_zero, List.drop_succ_cons, List.drop_zero, h1, if_true, List.nil_append]
  rfl
theorem e5 : [[D.int .u8 0], [D.int .u8 0], [D.int .u8 0], [D.int .u8 1], [D.int .u8 6]] = u8s [0, 0, 0, 1, 6] := rfl
theorem e1 : [[D.int .u8 0]] = u8s [0] := rfl
theorem begun_eq : runW false prog 28 [] [] = some (.d (.bool true), [], []) := by
  refine run_of rfl ?_
  have h1 := Enc_all bM ⟨by simp [bM], by simp [bM], rfl⟩
  rw [bM_vld, bM_enc, if_pos rfl] at h1
  simp only [mC, bM, u8s_nil] at h1
  have h2 := Feed_eq [0, 0, 0, 1, 6] [0] .any .any 1 1 rfl rfl (by decide)
  rw [show ([0, 0, 0, 1, 6] ++ [0] : List UInt8) = [0, 0, 0, 1, 6, 0] from rfl, show ([0, 0, 0, 1, 6, 0] : List UInt8).length + 1 = 7 from rfl, bM_fd] at h2
  simp only [fdR, msD, mD, List.map_cons, List.map_nil, noM, bM] at h2
  have h3 := fun t1 t2 z1 z2 => SameBytes_eq [0, 0, 0, 1, 6] [0, 0, 0, 1, 6] t1 t2 z1 z2
  simp only [decide_true] at h3
  simp -dsimp (disch := first | rfl | omega) only [r28_0, r28_1, r28_2, r28_3, callW_fn pgEnc, callW_fn pgFeed, callW_fn pgSame, h1, e1, e5, h2, h3, u8s_nil, show (((1 : Nat) : Int)) = 1 from rfl, ↓vmP, vm0, vm1, vm2, vm3, vm4, vm5, vm6, vm7, vm8, vm9, vm10, vm11, vm12, vm13, vm14, vm15, vmC, vmN, Nat.reduceAdd, Nat.reduceMul, Nat.reduceSub, Nat.reduceEqDiff, Nat.reduceLT, Nat.reduceLeDiff, ↓reduceIte, Tg.isFull, Int.reduceToNat]
theorem pgBegun : prog 28 = some c28 := rfl
end Go.Vm.Wr
