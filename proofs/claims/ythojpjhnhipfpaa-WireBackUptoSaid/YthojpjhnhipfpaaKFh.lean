/- A part of the proof of WireBackUptoSaid: YthojpjhnhipfpaaFh. -/
import Derived.Test.YthojpjhnhipfpaaKFg
/- Numbers behind bytes. -/
set_option linter.unusedVariables false
set_option linter.unusedSimpArgs false
set_option maxHeartbeats 1000000
namespace Go.Vm.Wr
theorem AN_loop1 {Q : Ex → St → Prop} : ∀ (k n : Nat) (ys : List UInt8) (f : Bool) (s : St), n < k → n < 2 ^ 63 → ys.length + (vb n).length ≤ 1000000000 →
    gc [(0, some 1), (1, none)] s = ⟨gS [(0, .row 1), (1, .d (.int .i64 n))], gH [(0, .dead), (1, .row 1 f (u8s ys))], 2, 1, [0]⟩ →
    (∀ (m : Nat) (zs : List UInt8) (f : Bool), zs ++ [UInt8.ofNat m] = ys ++ vb n → Q (.exit 0) ⟨gS [(0, .row 1), (1, .d (.int .i64 m)), (6, .d (.bool false))], gH [(0, .dead), (1, .row 1 f (u8s zs))], 18, 1, [0]⟩) → wpW false prog (.loop [(0, some 1), (1, none)] l46_4) s Q := by
  intro k
  induction k with
  | zero => intro n ys f s h; omega
  | succ k ih =>
    intro n ys f s hk hn hl hg hQ
    refine wp_loop1 ?_
    rw [hg]
    generalize hJ : (fun s' => wpW false prog (.loop [(0, some 1), (1, none)] l46_4) s' Q) = J
    by_cases h : 128 ≤ n
    · have h' : (128 : Int) ≤ n := by omega
      rw [vb_ge h] at hl hQ
      simp only [List.length_cons] at hl
      unfold l46_4
      simp -dsimp (disch := first | rfl | omega) only [r46_1, r46_2, r46_3, h', shr7, ↓vmP, vm0, vm1, vm2, vm3, vm4, vm5, vm6, vm7, vm8, vm9, vm10, vm11, vm12, vm13, vm14, vm15, vmC, vmN, Nat.reduceAdd, Nat.reduceMul, Nat.reduceSub, Nat.reduceEqDiff, Nat.reduceLT, Nat.reduceLeDiff, ↓reduceIte, Tg.isFull, Int.reduceToNat]
      rw [← hJ]
      refine ih (n / 128) (ys ++ [UInt8.ofNat n ||| 128]) false _ (by omega) (by omega) (by simp; omega) (by simp -dsimp (disch := first | rfl | omega) only [↓vmP, vm0, vm1, vm2, vm3, vm4, vm5, vm6, vm7, vm8, vm9, vm10, vm11, vm12, vm13, vm14, vm15, vmC, vmN, Nat.reduceAdd, Nat.reduceMul, Nat.reduceSub, Nat.reduceEqDiff, Nat.reduceLT, Nat.reduceLeDiff, ↓reduceIte, Tg.isFull, Int.reduceToNat]) (fun m zs f e => hQ m zs f (by rw [e]; simp))
    · have h' : ¬ (128 : Int) ≤ n := by omega
      unfold l46_4
      simp -dsimp (disch := first | rfl | omega) only [r46_1, h', ↓vmP, vm0, vm1, vm2, vm3, vm4, vm5, vm6, vm7, vm8, vm9, vm10, vm11, vm12, vm13, vm14, vm15, vmC, vmN, Nat.reduceAdd, Nat.reduceMul, Nat.reduceSub, Nat.reduceEqDiff, Nat.reduceLT, Nat.reduceLeDiff, ↓reduceIte, Tg.isFull, Int.reduceToNat]
      exact hQ n ys f (by rw [vb_lt (by omega)])
theorem AN_row (n : Nat) (hn : n < 2 ^ 63) (ys : List UInt8) (hy : ys.length ≤ 1000000) (f : Bool) : runW false prog 46 [.row 0, .d (.int .i64 n)] [.row 1 f (u8s ys)] = some (.row 1, [.dead, .row 1 false (u8s (ys ++ vb n))], [0]) := by
  refine run_of rfl ?_
  simp -dsimp (disch := first | rfl | omega) only [r46_0, ↓vmP, vm0, vm1, vm2, vm3, vm4, vm5, vm6, vm7, vm8, vm9, vm10, vm11, vm12, vm13, vm14, vm15, vmC, vmN, Nat.reduceAdd, Nat.reduceMul, Nat.reduceSub, Nat.reduceEqDiff, Nat.reduceLT, Nat.reduceLeDiff, ↓reduceIte, Tg.isFull, Int.reduceToNat]
  have hv := vb_len n hn
  refine wp_loop1 ?_
  generalize hJ : (fun s' => wpW false prog (.loop [(0, some 1), (1, none)] l46_4) s' _) = J
  by_cases h : 128 ≤ n
  · have h' : (128 : Int) ≤ n := by omega
    unfold l46_4
    simp -dsimp (disch := first | rfl | omega) only [r46_1, r46_2, r46_3, h', shr7, ↓vmP, vm0, vm1, vm2, vm3, vm4, vm5, vm6, vm7, vm8, vm9, vm10, vm11, vm12, vm13, vm14, vm15, vmC, vmN, Nat.reduceAdd, Nat.reduceMul, Nat.reduceSub, Nat.reduceEqDiff, Nat.reduceLT, Nat.reduceLeDiff, ↓reduceIte, Tg.isFull, Int.reduceToNat]
    rw [← hJ]
    rw [vb_ge h] at hv ⊢
    simp only [List.length_cons] at hv
    refine AN_loop1 (n / 128 + 1) (n / 128) (ys ++ [UInt8.ofNat n ||| 128]) false _ (by omega) (by omega) (by simp; omega) (by simp -dsimp (disch := first | rfl | omega) only [↓vmP, vm0, vm1, vm2, vm3, vm4, vm5, vm6, vm7, vm8, vm9, vm10, vm11, vm12, vm13, vm14, vm15, vmC, vmN, Nat.reduceAdd, Nat.reduceMul, Nat.reduceSub, Nat.reduceEqDiff, Nat.reduceLT, Nat.reduceLeDiff, ↓reduceIte, Tg.isFull, Int.reduceToNat]) (fun m zs f e => ?_)
    have hz : zs.length ≤ 1000020 := by have := congrArg List.length e; simp at this; omega
    have e' : zs ++ [UInt8.ofNat m] = ys ++ ((UInt8.ofNat n ||| 128) :: vb (n / 128)) := by rw [e]; simp
    simp -dsimp (disch := first | rfl | omega) only [r46_5, e', ↓vmP, vm0, vm1, vm2, vm3, vm4, vm5, vm6, vm7, vm8, vm9, vm10, vm11, vm12, vm13, vm14, vm15, vmC, vmN, Nat.reduceAdd, Nat.reduceMul, Nat.reduceSub, Nat.reduceEqDiff, Nat.reduceLT, Nat.reduceLeDiff, ↓reduceIte, Tg.isFull, Int.reduceToNat]
  · have h' : ¬ (128 : Int) ≤ n := by omega
    unfold l46_4
    rw [vb_lt (by omega)]
    simp -dsimp (disch := first | rfl | omega) only [r46_1, r46_5, h', ↓vmP, vm0, vm1, vm2, vm3, vm4, vm5, vm6, vm7, vm8, vm9, vm10, vm11, vm12, vm13, vm14, vm15, vmC, vmN, Nat.reduceAdd, Nat.reduceMul, Nat.reduceSub, Nat.reduceEqDiff, Nat.reduceLT, Nat.reduceLeDiff, ↓reduceIte, Tg.isFull, Int.reduceToNat]
theorem Put_loop1 {Q : Ex → St → Prop} : ∀ (k n : Nat) (ys : List UInt8) (f : Bool) (s : St), n < k → n < 2 ^ 63 → ys.length + (vb n).length ≤ 1000000000 →
    gc [(0, some 1), (1, none)] s = ⟨gS [(0, .row 1), (1, .d (.int .i64 n))], gH [(0, .dead), (1, .row 1 f (u8s ys))], 2, 1, [0]⟩ →
    (∀ (m : Nat) (zs : List UInt8) (f : Bool), zs ++ [UInt8.ofNat m] = ys ++ vb n → Q (.exit 0) ⟨gS [(0, .row 1), (1, .d (.int .i64 m)), (6, .d (.bool false))], gH [(0, .dead), (1, .row 1 f (u8s zs))], 18, 1, [0]⟩) → wpW false prog (.loop [(0, some 1), (1, none)] l54_4) s Q := by
  intro k
  induction k with
  | zero => intro n ys f s h; omega
  | succ k ih =>
    intro n ys f s hk hn hl hg hQ
    refine wp_loop1 ?_
    rw [hg]
    generalize hJ : (fun s' => wpW false prog (.loop [(0, some 1), (1, none)] l54_4) s' Q) = J
    by_cases h : 128 ≤ n
    · have h' : (128 : Int) ≤ n := by omega
      rw [vb_ge h] at hl hQ
      simp only [List.length_cons] at hl
      unfold l54_4
      simp -dsimp (disch := first | rfl | omega) only [r54_1, r54_2, r54_3, h', mod128, w_sum, fdiv128, ↓vmP, vm0, vm1, vm2, vm3, vm4, vm5, vm6, vm7, vm8, vm9, vm10, vm11, vm12, vm13, vm14, vm15, vmC, vmN, Nat.reduceAdd, Nat.reduceMul, Nat.reduceSub, Nat.reduceEqDiff, Nat.reduceLT, Nat.reduceLeDiff, ↓reduceIte, Tg.isFull, Int.reduceToNat]
      rw [← hJ]
      refine ih (n / 128) (ys ++ [UInt8.ofNat n ||| 128]) false _ (by omega) (by omega) (by simp; omega) (by simp -dsimp (disch := first | rfl | omega) only [↓vmP, vm0, vm1, vm2, vm3, vm4, vm5, vm6, vm7, vm8, vm9, vm10, vm11, vm12, vm13, vm14, vm15, vmC, vmN, Nat.reduceAdd, Nat.reduceMul, Nat.reduceSub, Nat.reduceEqDiff, Nat.reduceLT, Nat.reduceLeDiff, ↓reduceIte, Tg.isFull, Int.reduceToNat]) (fun m zs f e => hQ m zs f (by rw [e]; simp))
    · have h' : ¬ (128 : Int) ≤ n := by omega
      unfold l54_4
      simp -dsimp (disch := first | rfl | omega) only [r54_1, h', ↓vmP, vm0, vm1, vm2, vm3, vm4, vm5, vm6, vm7, vm8, vm9, vm10, vm11, vm12, vm13, vm14, vm15, vmC, vmN, Nat.reduceAdd, Nat.reduceMul, Nat.reduceSub, Nat.reduceEqDiff, Nat.reduceLT, Nat.reduceLeDiff, ↓reduceIte, Tg.isFull, Int.reduceToNat]
      exact hQ n ys f (by rw [vb_lt (by omega)])
theorem Put_row (n : Nat) (hn : n < 2 ^ 63) (ys : List UInt8) (hy : ys.length ≤ 1000000) (f : Bool) : runW false prog 54 [.row 0, .d (.int .i64 n)] [.row 1 f (u8s ys)] = some (.row 1, [.dead, .row 1 false (u8s (ys ++ vb n))], [0]) := by
  refine run_of rfl ?_
  simp -dsimp (disch := first | rfl | omega) only [r54_0, ↓vmP, vm0, vm1, vm2, vm3, vm4, vm5, vm6, vm7, vm8, vm9, vm10, vm11, vm12, vm13, vm14, vm15, vmC, vmN, Nat.reduceAdd, Nat.reduceMul, Nat.reduceSub, Nat.reduceEqDiff, Nat.reduceLT, Nat.reduceLeDiff, ↓reduceIte, Tg.isFull, Int.reduceToNat]
  have hv := vb_len n hn
  refine wp_loop1 ?_
  generalize hJ : (fun s' => wpW false prog (.loop [(0, some 1), (1, none)] l54_4) s' _) = J
  by_cases h : 128 ≤ n
  · have h' : (128 : Int) ≤ n := by omega
    unfold l54_4
    simp -dsimp (disch := first | rfl | omega) only [r54_1, r54_2, r54_3, h', mod128, w_sum, fdiv128, ↓vmP, vm0, vm1, vm2, vm3, vm4, vm5, vm6, vm7, vm8, vm9, vm10, vm11, vm12, vm13, vm14, vm15, vmC, vmN, Nat.reduceAdd, Nat.reduceMul, Nat.reduceSub, Nat.reduceEqDiff, Nat.reduceLT, Nat.reduceLeDiff, ↓reduceIte, Tg.isFull, Int.reduceToNat]
    rw [← hJ]
    rw [vb_ge h] at hv ⊢
    simp only [List.length_cons] at hv
    refine Put_loop1 (n / 128 + 1) (n / 128) (ys ++ [UInt8.ofNat n ||| 128]) false _ (by omega) (by omega) (by simp; omega) (by simp -dsimp (disch := first | rfl | omega) only [↓vmP, vm0, vm1, vm2, vm3, vm4, vm5, vm6, vm7, vm8, vm9, vm10, vm11, vm12, vm13, vm14, vm15, vmC, vmN, Nat.reduceAdd, Nat.reduceMul, Nat.reduceSub, Nat.reduceEqDiff, Nat.reduceLT, Nat.reduceLeDiff, ↓reduceIte, Tg.isFull, Int.reduceToNat]) (fun m zs f e => ?_)
    have hz : zs.length ≤ 1000020 := by have := congrArg List.length e; simp at this; omega
    have e' : zs ++ [UInt8.ofNat m] = ys ++ ((UInt8.ofNat n ||| 128) :: vb (n / 128)) := by rw [e]; simp
    simp -dsimp (disch := first | rfl | omega) only [r54_5, e', ↓vmP, vm0, vm1, vm2, vm3, vm4, vm5, vm6, vm7, vm8, vm9, vm10, vm11, vm12, vm13, vm14, vm15, vmC, vmN, Nat.reduceAdd, Nat.reduceMul, Nat.reduceSub, Nat.reduceEqDiff, Nat.reduceLT, Nat.reduceLeDiff, ↓reduceIte, Tg.isFull, Int.reduceToNat]
  · have h' : ¬ (128 : Int) ≤ n := by omega
    unfold l54_4
    rw [vb_lt (by omega)]
    simp -dsimp (disch := first | rfl | omega) only [r54_1, r54_5, h', ↓vmP, vm0, vm1, vm2, vm3, vm4, vm5, vm6, vm7, vm8, vm9, vm10, vm11, vm12, vm13, vm14, vm15, vmC, vmN, Nat.reduceAdd, Nat.reduceMul, Nat.reduceSub, Nat.reduceEqDiff, Nat.reduceLT, Nat.reduceLeDiff, ↓reduceIte, Tg.isFull, Int.reduceToNat]
end Go.Vm.Wr
