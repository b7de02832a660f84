/- A part of the proof of WireBackUptoSaid: YthojpjhnhipfpaaFa. -/
import Derived.Test.YthojpjhnhipfpaaKCode
import Derived.KernelRfl
/- The functions that make values of numbers, varints, bytes. -/
set_option linter.unusedVariables false
set_option linter.unusedSimpArgs false
set_option maxHeartbeats 1000000
namespace Go.Vm.Wr
theorem SameBytes_eq (a b : List UInt8) (t1 t2 : Tg) (z1 z2 : Nat) : runW false prog 22 [.d (.sl t1 z1 (u8s a)), .d (.sl t2 z2 (u8s b))] [] = some (.d (.bool (decide (a = b))), [], []) := by
  refine run_of rfl ?_
  simp -dsimp (disch := first | rfl | omega) only [r22_0, r22_1, ↓vmP, vm0, vm1, vm2, vm3, vm4, vm5, vm6, vm7, vm8, vm9, vm10, vm11, vm12, vm13, vm14, vm15, vmC, vmN, Nat.reduceAdd, Nat.reduceMul, Nat.reduceSub, Nat.reduceEqDiff, Nat.reduceLT, Nat.reduceLeDiff, ↓reduceIte, Tg.isFull, Int.reduceToNat]
  have : (({ data := a.toArray } : ByteArray) = { data := b.toArray }) = (a = b) := by simp
  simp only [this]
/-! numbers of a list of numbers -/
def cI (l : List UInt8) (a n : Nat) : Nat := if n < 2 ∨ l.length ≤ a then 0 else (l.getD a 0).toNat % n
def cN (l : List UInt8) (a n : Nat) : Nat := if n < 2 ∨ l.length ≤ a then a else a + 1
theorem tmod_nat (a b : Nat) : ((a : Int).tmod (b : Int)) = ((a % b : Nat) : Int) := by
  rw [Int.tmod_eq_emod_of_nonneg (by omega)]; exact (Int.natCast_emod _ _).symm
theorem ij {k : IntKind} {a b : Int} (h : a = b) : D.int k a = D.int k b := by rw [h]
/-- A list of numbers and the place in it. -/
def cs (l : List UInt8) (a : Nat) : Chunk := .box [.d (.sl .any 1 (u8s l)), .d (.int .i64 a)]
theorem New_eq (l : List UInt8) (n : Nat) (hn : n ≤ 100000) : runW false prog 9 [.d (.sl .any 1 (u8s l)), .d (.int .i64 n)] [] = some (.ptr 0 0, [cs (l.take n) 0], []) := by
  refine run_of rfl ?_
  by_cases h : n < l.length
  · have h' : (n : Int) < l.length := by omega
    simp -dsimp (disch := first | rfl | omega) only [r9_0, r9_1, r9_2, r9_3, cs, h', ↓vmP, vm0, vm1, vm2, vm3, vm4, vm5, vm6, vm7, vm8, vm9, vm10, vm11, vm12, vm13, vm14, vm15, vmC, vmN, Nat.reduceAdd, Nat.reduceMul, Nat.reduceSub, Nat.reduceEqDiff, Nat.reduceLT, Nat.reduceLeDiff, ↓reduceIte, Tg.isFull, Int.reduceToNat]
    rfl
  · have h' : ¬ (n : Int) < l.length := by omega
    simp -dsimp (disch := first | rfl | omega) only [r9_0, r9_1, r9_2, r9_3, cs, h', ↓vmP, vm0, vm1, vm2, vm3, vm4, vm5, vm6, vm7, vm8, vm9, vm10, vm11, vm12, vm13, vm14, vm15, vmC, vmN, Nat.reduceAdd, Nat.reduceMul, Nat.reduceSub, Nat.reduceEqDiff, Nat.reduceLT, Nat.reduceLeDiff, ↓reduceIte, Tg.isFull, Int.reduceToNat]
    rw [List.take_of_length_le (by omega)]
    rfl
theorem Int_eq (l : List UInt8) (a n : Nat) (ha : a ≤ 100000) (hl : l.length ≤ 100000) (hn : n < 1000000000000) : runW false prog 33 [.ptr 0 0, .d (.int .i64 n)] [cs l a] = some (.d (.int .i64 (cI l a n)), [cs l (cN l a n)], [0]) := by
  refine run_of rfl ?_
  by_cases h : n < 2
  · have h' : (n : Int) < 2 := by omega
    simp -dsimp (disch := first | rfl | omega) only [cs, r33_0, r33_1, h', ↓vmP, vm0, vm1, vm2, vm3, vm4, vm5, vm6, vm7, vm8, vm9, vm10, vm11, vm12, vm13, vm14, vm15, vmC, vmN, Nat.reduceAdd, Nat.reduceMul, Nat.reduceSub, Nat.reduceEqDiff, Nat.reduceLT, Nat.reduceLeDiff, ↓reduceIte, Tg.isFull, Int.reduceToNat]
    refine regD_of (by kernel_rfl) ?_
    simp -dsimp (disch := first | rfl | omega) only [r33_2, ↓vmP, vm0, vm1, vm2, vm3, vm4, vm5, vm6, vm7, vm8, vm9, vm10, vm11, vm12, vm13, vm14, vm15, vmC, vmN, Nat.reduceAdd, Nat.reduceMul, Nat.reduceSub, Nat.reduceEqDiff, Nat.reduceLT, Nat.reduceLeDiff, ↓reduceIte, Tg.isFull, Int.reduceToNat]
    simp [cI, cN, h]
  · have h' : ¬ (n : Int) < 2 := by omega
    by_cases h2 : l.length ≤ a
    · have h2' : (l.length : Int) ≤ a := by omega
      simp -dsimp (disch := first | rfl | omega) only [cs, r33_0, r33_1, h', h2', ↓vmP, vm0, vm1, vm2, vm3, vm4, vm5, vm6, vm7, vm8, vm9, vm10, vm11, vm12, vm13, vm14, vm15, vmC, vmN, Nat.reduceAdd, Nat.reduceMul, Nat.reduceSub, Nat.reduceEqDiff, Nat.reduceLT, Nat.reduceLeDiff, ↓reduceIte, Tg.isFull, Int.reduceToNat]
      refine regD_of (by kernel_rfl) ?_
      simp -dsimp (disch := first | rfl | omega) only [r33_2, ↓vmP, vm0, vm1, vm2, vm3, vm4, vm5, vm6, vm7, vm8, vm9, vm10, vm11, vm12, vm13, vm14, vm15, vmC, vmN, Nat.reduceAdd, Nat.reduceMul, Nat.reduceSub, Nat.reduceEqDiff, Nat.reduceLT, Nat.reduceLeDiff, ↓reduceIte, Tg.isFull, Int.reduceToNat]
      simp [cI, cN, h, h2]
    · have h2' : ¬ (l.length : Int) ≤ a := by omega
      have e1 : (a : Int) + 1 - 1 = a := by omega
      simp -dsimp (disch := first | rfl | omega) only [cs, r33_0, r33_1, h', h2', ↓vmP, vm0, vm1, vm2, vm3, vm4, vm5, vm6, vm7, vm8, vm9, vm10, vm11, vm12, vm13, vm14, vm15, vmC, vmN, Nat.reduceAdd, Nat.reduceMul, Nat.reduceSub, Nat.reduceEqDiff, Nat.reduceLT, Nat.reduceLeDiff, ↓reduceIte, Tg.isFull, Int.reduceToNat]
      refine regD_of (by kernel_rfl) ?_
      simp -dsimp (disch := first | rfl | omega) only [r33_3, r33_4, e1, ↓vmP, vm0, vm1, vm2, vm3, vm4, vm5, vm6, vm7, vm8, vm9, vm10, vm11, vm12, vm13, vm14, vm15, vmC, vmN, Nat.reduceAdd, Nat.reduceMul, Nat.reduceSub, Nat.reduceEqDiff, Nat.reduceLT, Nat.reduceLeDiff, ↓reduceIte, Tg.isFull, Int.reduceToNat]
      refine regD_of (by kernel_rfl) ?_
      simp -dsimp (disch := first | rfl | omega) only [tmod_nat, ↓vmP, vm0, vm1, vm2, vm3, vm4, vm5, vm6, vm7, vm8, vm9, vm10, vm11, vm12, vm13, vm14, vm15, vmC, vmN, Nat.reduceAdd, Nat.reduceMul, Nat.reduceSub, Nat.reduceEqDiff, Nat.reduceLT, Nat.reduceLeDiff, ↓reduceIte, Tg.isFull, Int.reduceToNat]
      simp [cI, cN, h, h2]
theorem cN_le (l : List UInt8) (a n : Nat) : a ≤ cN l a n ∧ cN l a n ≤ a + 1 := by unfold cN; split <;> omega
theorem cN_len (l : List UInt8) (a n : Nat) (h : a ≤ l.length) : cN l a n ≤ l.length := by unfold cN; split <;> omega
theorem cI_lt (l : List UInt8) (a n : Nat) (h : 0 < n) : cI l a n < n := by
  unfold cI; split
  · exact h
  · exact Nat.mod_lt _ h
theorem pgI : prog 33 = some c33 := rfl
/-- One of some numbers. -/
theorem Pick_eq (l : List UInt8) (a : Nat) (xs : List Int) (hx : 0 < xs.length) (hx2 : xs.length < 1000) (ha : a ≤ 100000) (hl : l.length ≤ 100000) : runW false prog 51 [.ptr 0 0, .d (.sl .any 1 (xs.map fun n => [.int .i64 n]))] [cs l a] =
    some (.d (.int .i64 (xs.getD (cI l a xs.length) 0)), [cs l (cN l a xs.length)], [0]) := by
  refine run_of rfl ?_
  have hI := Int_eq l a xs.length ha hl (by omega)
  have hlt := cI_lt l a xs.length hx
  have e : (xs.map fun n => [D.int .i64 n])[cI l a xs.length]? = some [.int .i64 (xs.getD (cI l a xs.length) 0)] := by
    simp [hlt, List.getD_eq_getElem?_getD]
  simp only [cs] at hI
  simp -dsimp (disch := first | rfl | omega) only [cs, r51_0, r51_1, callW_fn pgI, hI, List.length_map, e, ↓vmP, vm0, vm1, vm2, vm3, vm4, vm5, vm6, vm7, vm8, vm9, vm10, vm11, vm12, vm13, vm14, vm15, vmC, vmN, Nat.reduceAdd, Nat.reduceMul, Nat.reduceSub, Nat.reduceEqDiff, Nat.reduceLT, Nat.reduceLeDiff, ↓reduceIte, Tg.isFull, Int.reduceToNat]
/-! varints -/
def vb (n : Nat) : List UInt8 := if n < 128 then [UInt8.ofNat n] else (UInt8.ofNat n ||| 128) :: vb (n / 128)
theorem vb_lt {n : Nat} (h : n < 128) : vb n = [UInt8.ofNat n] := by rw [vb, if_pos h]
theorem vb_ge {n : Nat} (h : 128 ≤ n) : vb n = (UInt8.ofNat n ||| 128) :: vb (n / 128) := by rw [vb, if_neg (by omega)]
theorem vb_len (n : Nat) (h : n < 2 ^ 63) : (vb n).length ≤ 9 := by
  have key : ∀ k n, n < 128 ^ k → (vb n).length ≤ max k 1 := by
    intro k
    induction k with
    | zero => intro n h; simp at h; subst h; rw [vb_lt (by omega)]; simp
    | succ k ih =>
      intro n h
      by_cases h1 : n < 128
      · rw [vb_lt h1]; simp only [List.length_cons, List.length_nil]; omega
      · rw [vb_ge (by omega)]
        have := ih (n / 128) (by rw [Nat.pow_succ] at h; omega)
        have : k ≠ 0 := by intro e; subst e; simp at h; omega
        simp only [List.length_cons]; omega
  have := key 9 n (by omega)
  omega
theorem vb_pos (n : Nat) : 0 < (vb n).length := by rw [vb]; split <;> simp
theorem shr7 (n : Nat) : (n : Int).fdiv (2 ^ (Nat.min 7 IntKind.i64.bits)) = ((n / 128 : Nat) : Int) := shr_nat n 7
theorem AN_loop {Q : Ex → St → Prop} : ∀ (k n : Nat) (ys : List UInt8) (f : Bool) (s : St), n < k → n < 2 ^ 63 → ys.length + (vb n).length ≤ 1000000000 →
    gc [(0, some 1), (1, none)] s = ⟨gS [(0, .row 0), (1, .d (.int .i64 n))], gH [(0, .row 1 f (u8s ys))], 1, 0, []⟩ →
    (∀ (m : Nat) (zs : List UInt8) (f : Bool), zs ++ [UInt8.ofNat m] = ys ++ vb n → Q (.exit 0) ⟨gS [(0, .row 0), (1, .d (.int .i64 m)), (6, .d (.bool false))], gH [(0, .row 1 f (u8s zs))], 17, 0, []⟩) → wpW false prog (.loop [(0, some 1), (1, none)] l46_4) s Q := by
  intro k
  induction k with
  | zero => intro n ys f s h; omega
  | succ k ih =>
    intro n ys f s hk hn hl hg hQ
    refine wp_loop1 ?_
    rw [hg]
    generalize hJ : (fun s' => wpW false prog (.loop [(0, some 1), (1, none)] l46_4) s' Q) = J
    by_cases h : 128 ≤ n
    · have h' : (128 : Int) ≤ n := by omega
      rw [vb_ge h] at hl hQ
      simp only [List.length_cons] at hl
      unfold l46_4
      simp -dsimp (disch := first | rfl | omega) only [r46_1, r46_2, r46_3, h', shr7, ↓vmP, vm0, vm1, vm2, vm3, vm4, vm5, vm6, vm7, vm8, vm9, vm10, vm11, vm12, vm13, vm14, vm15, vmC, vmN, Nat.reduceAdd, Nat.reduceMul, Nat.reduceSub, Nat.reduceEqDiff, Nat.reduceLT, Nat.reduceLeDiff, ↓reduceIte, Tg.isFull, Int.reduceToNat]
      rw [← hJ]
      refine ih (n / 128) (ys ++ [UInt8.ofNat n ||| 128]) false _ (by omega) (by omega) (by simp; omega) (by simp -dsimp (disch := first | rfl | omega) only [↓vmP, vm0, vm1, vm2, vm3, vm4, vm5, vm6, vm7, vm8, vm9, vm10, vm11, vm12, vm13, vm14, vm15, vmC, vmN, Nat.reduceAdd, Nat.reduceMul, Nat.reduceSub, Nat.reduceEqDiff, Nat.reduceLT, Nat.reduceLeDiff, ↓reduceIte, Tg.isFull, Int.reduceToNat]) (fun m zs f e => hQ m zs f (by rw [e]; simp))
    · have h' : ¬ (128 : Int) ≤ n := by omega
      unfold l46_4
      simp -dsimp (disch := first | rfl | omega) only [r46_1, h', ↓vmP, vm0, vm1, vm2, vm3, vm4, vm5, vm6, vm7, vm8, vm9, vm10, vm11, vm12, vm13, vm14, vm15, vmC, vmN, Nat.reduceAdd, Nat.reduceMul, Nat.reduceSub, Nat.reduceEqDiff, Nat.reduceLT, Nat.reduceLeDiff, ↓reduceIte, Tg.isFull, Int.reduceToNat]
      exact hQ n ys f (by rw [vb_lt (by omega)])
/-- A number behind nothing. -/
theorem AN_nil (n z : Nat) (hn : n < 2 ^ 63) : runW false prog 46 [.d (.sl .nil z []), .d (.int .i64 n)] [] = some (.row 0, [.row 1 false (u8s (vb n))], []) := by
  refine run_of rfl ?_
  simp -dsimp (disch := first | rfl | omega) only [r46_0, ↓vmP, vm0, vm1, vm2, vm3, vm4, vm5, vm6, vm7, vm8, vm9, vm10, vm11, vm12, vm13, vm14, vm15, vmC, vmN, Nat.reduceAdd, Nat.reduceMul, Nat.reduceSub, Nat.reduceEqDiff, Nat.reduceLT, Nat.reduceLeDiff, ↓reduceIte, Tg.isFull, Int.reduceToNat]
  have hv := vb_len n hn
  refine AN_loop (n + 1) n [] true _ (by omega) hn (by simp; omega) (by simp -dsimp (disch := first | rfl | omega) only [↓vmP, vm0, vm1, vm2, vm3, vm4, vm5, vm6, vm7, vm8, vm9, vm10, vm11, vm12, vm13, vm14, vm15, vmC, vmN, Nat.reduceAdd, Nat.reduceMul, Nat.reduceSub, Nat.reduceEqDiff, Nat.reduceLT, Nat.reduceLeDiff, ↓reduceIte, Tg.isFull, Int.reduceToNat]; rfl) (fun m zs f e => ?_)
  have hz : zs.length ≤ 10 := by have := congrArg List.length e; simp at this; omega
  simp -dsimp (disch := first | rfl | omega) only [r46_5, e, ↓vmP, vm0, vm1, vm2, vm3, vm4, vm5, vm6, vm7, vm8, vm9, vm10, vm11, vm12, vm13, vm14, vm15, vmC, vmN, Nat.reduceAdd, Nat.reduceMul, Nat.reduceSub, Nat.reduceEqDiff, Nat.reduceLT, Nat.reduceLeDiff, ↓reduceIte, Tg.isFull, Int.reduceToNat]
theorem put128 (n : Nat) : UInt8.ofNat (n % 128 + 128) = UInt8.ofNat n ||| 128 := by
  apply UInt8.toNat_inj.1
  rw [UInt8.toNat_or, UInt8.toNat_ofNat', UInt8.toNat_ofNat']
  have h : ∀ m : Nat, m < 256 → (m % 128 + 128) % 256 = m ||| 128 := by decide +kernel
  have e : (n % 128 + 128) % 2 ^ 8 = ((n % 256) % 128 + 128) % 256 := by omega
  rw [e, h (n % 256) (Nat.mod_lt _ (by omega))]
  rfl
theorem fdiv128 (n : Nat) : (n : Int).tdiv 128 = ((n / 128 : Nat) : Int) := by
  rw [Int.tdiv_eq_ediv_of_nonneg (by omega)]; exact (Int.natCast_ediv n 128).symm
theorem w_sum (n : Nat) : IntKind.u8.wrap (((UInt8.ofNat (n % 128)).toNat : Int) + 128) = ((UInt8.ofNat n ||| 128).toNat : Int) := by
  have e : ((UInt8.ofNat (n % 128)).toNat : Int) + 128 = ((n % 128 + 128 : Nat) : Int) := by
    rw [UInt8.toNat_ofNat']; omega
  rw [e, w_byte, put128]
theorem mod128 (n : Nat) : (n : Int).tmod 128 = ((n % 128 : Nat) : Int) := tmod_nat n 128
theorem Put_loop {Q : Ex → St → Prop} : ∀ (k n : Nat) (ys : List UInt8) (f : Bool) (s : St), n < k → n < 2 ^ 63 → ys.length + (vb n).length ≤ 1000000000 →
    gc [(0, some 1), (1, none)] s = ⟨gS [(0, .row 0), (1, .d (.int .i64 n))], gH [(0, .row 1 f (u8s ys))], 1, 0, []⟩ →
    (∀ (m : Nat) (zs : List UInt8) (f : Bool), zs ++ [UInt8.ofNat m] = ys ++ vb n → Q (.exit 0) ⟨gS [(0, .row 0), (1, .d (.int .i64 m)), (6, .d (.bool false))], gH [(0, .row 1 f (u8s zs))], 17, 0, []⟩) → wpW false prog (.loop [(0, some 1), (1, none)] l54_4) s Q := by
  intro k
  induction k with
  | zero => intro n ys f s h; omega
  | succ k ih =>
    intro n ys f s hk hn hl hg hQ
    refine wp_loop1 ?_
    rw [hg]
    generalize hJ : (fun s' => wpW false prog (.loop [(0, some 1), (1, none)] l54_4) s' Q) = J
    by_cases h : 128 ≤ n
    · have h' : (128 : Int) ≤ n := by omega
      rw [vb_ge h] at hl hQ
      simp only [List.length_cons] at hl
      unfold l54_4
      simp -dsimp (disch := first | rfl | omega) only [r54_1, r54_2, r54_3, h', mod128, w_sum, fdiv128, ↓vmP, vm0, vm1, vm2, vm3, vm4, vm5, vm6, vm7, vm8, vm9, vm10, vm11, vm12, vm13, vm14, vm15, vmC, vmN, Nat.reduceAdd, Nat.reduceMul, Nat.reduceSub, Nat.reduceEqDiff, Nat.reduceLT, Nat.reduceLeDiff, ↓reduceIte, Tg.isFull, Int.reduceToNat]
      rw [← hJ]
      refine ih (n / 128) (ys ++ [UInt8.ofNat n ||| 128]) false _ (by omega) (by omega) (by simp; omega) (by simp -dsimp (disch := first | rfl | omega) only [↓vmP, vm0, vm1, vm2, vm3, vm4, vm5, vm6, vm7, vm8, vm9, vm10, vm11, vm12, vm13, vm14, vm15, vmC, vmN, Nat.reduceAdd, Nat.reduceMul, Nat.reduceSub, Nat.reduceEqDiff, Nat.reduceLT, Nat.reduceLeDiff, ↓reduceIte, Tg.isFull, Int.reduceToNat]) (fun m zs f e => hQ m zs f (by rw [e]; simp))
    · have h' : ¬ (128 : Int) ≤ n := by omega
      unfold l54_4
      simp -dsimp (disch := first | rfl | omega) only [r54_1, h', ↓vmP, vm0, vm1, vm2, vm3, vm4, vm5, vm6, vm7, vm8, vm9, vm10, vm11, vm12, vm13, vm14, vm15, vmC, vmN, Nat.reduceAdd, Nat.reduceMul, Nat.reduceSub, Nat.reduceEqDiff, Nat.reduceLT, Nat.reduceLeDiff, ↓reduceIte, Tg.isFull, Int.reduceToNat]
      exact hQ n ys f (by rw [vb_lt (by omega)])
theorem Put_nil (n z : Nat) (hn : n < 2 ^ 63) : runW false prog 54 [.d (.sl .nil z []), .d (.int .i64 n)] [] = some (.row 0, [.row 1 false (u8s (vb n))], []) := by
  refine run_of rfl ?_
  simp -dsimp (disch := first | rfl | omega) only [r54_0, ↓vmP, vm0, vm1, vm2, vm3, vm4, vm5, vm6, vm7, vm8, vm9, vm10, vm11, vm12, vm13, vm14, vm15, vmC, vmN, Nat.reduceAdd, Nat.reduceMul, Nat.reduceSub, Nat.reduceEqDiff, Nat.reduceLT, Nat.reduceLeDiff, ↓reduceIte, Tg.isFull, Int.reduceToNat]
  have hv := vb_len n hn
  refine Put_loop (n + 1) n [] true _ (by omega) hn (by simp; omega) (by simp -dsimp (disch := first | rfl | omega) only [↓vmP, vm0, vm1, vm2, vm3, vm4, vm5, vm6, vm7, vm8, vm9, vm10, vm11, vm12, vm13, vm14, vm15, vmC, vmN, Nat.reduceAdd, Nat.reduceMul, Nat.reduceSub, Nat.reduceEqDiff, Nat.reduceLT, Nat.reduceLeDiff, ↓reduceIte, Tg.isFull, Int.reduceToNat]; rfl) (fun m zs f e => ?_)
  have hz : zs.length ≤ 10 := by have := congrArg List.length e; simp at this; omega
  simp -dsimp (disch := first | rfl | omega) only [r54_5, e, ↓vmP, vm0, vm1, vm2, vm3, vm4, vm5, vm6, vm7, vm8, vm9, vm10, vm11, vm12, vm13, vm14, vm15, vmC, vmN, Nat.reduceAdd, Nat.reduceMul, Nat.reduceSub, Nat.reduceEqDiff, Nat.reduceLT, Nat.reduceLeDiff, ↓reduceIte, Tg.isFull, Int.reduceToNat]
/-- The varint at the beginning: the number, its bytes. -/
def rd : List UInt8 → Nat → Nat → Option (Nat × Nat)
  | [], _, _ => none
  | c :: l, i, acc => if i = 9 ∨ (0 < i ∧ c = 0) then none else if c < 128 then some (acc ||| ((c &&& 127).toNat * 128 ^ i), i + 1) else rd l (i + 1) (acc ||| ((c &&& 127).toNat * 128 ^ i))
def rdR : Option (Nat × Nat) → A
  | some (n, k) => .tup [.d (.int .i64 n), .d (.int .i64 k), .d (.bool true)]
  | none => .tup [.d (.int .i64 0), .d (.int .i64 0), .d (.bool false)]
theorem drop_cons' (l : List UInt8) (i : Nat) (h : i < l.length) : l.drop i = l.getD i 0 :: l.drop (i + 1) := by
  rw [List.drop_eq_getElem_cons h, List.getD_eq_getElem?_getD, List.getElem?_eq_getElem h]; rfl
theorem u8_zero (c : UInt8) : ((c.toNat : Int) = 0) = (c = 0) := by
  rw [eq_iff_iff]
  constructor
  · intro h; apply UInt8.toNat_inj.1; simpa using h
  · intro h; subst h; rfl
theorem u8_128 (c : UInt8) : ((c.toNat : Int) < 128) = (c < 128) := by
  rw [eq_iff_iff, UInt8.lt_iff_toNat_lt]
  have : (128 : UInt8).toNat = 128 := rfl
  omega
theorem Num_loop (l : List UInt8) (hl : l.length ≤ 9223372036854775807) {Q : Ex → St → Prop} : ∀ (k i acc : Nat) (s : St), l.length - i < k → i ≤ 9 → acc < 9223372036854775808 →
    gc [(5, none), (8, none), (9, none), (10, none)] s = ⟨gS [(5, .d (.int .u64 acc)), (8, .d (.sl .any 1 (u8s l))), (9, .d (.int .i64 l.length)), (10, .d (.int .i64 i))], gH [], 0, 0, []⟩ →
    (∀ n k nx H, rd (l.drop i) i acc = some (n, k) → n < 9223372036854775808 → Q .ret ⟨gS [(2, .d (.int .i64 n)), (3, .d (.int .i64 k)), (4, .d (.bool true))], gH H, nx, 0, []⟩) →
    (rd (l.drop i) i acc = none → (∀ nx H, Q .ret ⟨gS [(2, .d (.int .i64 0)), (3, .d (.int .i64 0)), (4, .d (.bool false))], gH H, nx, 0, []⟩) ∧ ∀ L H nx, Q (.exit 0) ⟨gS L, gH H, nx, 0, []⟩) →
    wpW false prog (.loop [(5, none), (8, none), (9, none), (10, none)] l66_11) s Q := by
  intro k
  induction k with
  | zero => intro i acc s h; omega
  | succ k ih =>
    intro i acc s hk hi hacc hg hQ1 hQ2
    refine wp_loop1 ?_
    rw [hg]
    generalize hJ : (fun s' => wpW false prog (.loop [(5, none), (8, none), (9, none), (10, none)] l66_11) s' Q) = J
    unfold l66_11
    by_cases h : i < l.length
    · have h' : (i : Int) < l.length := by omega
      rw [drop_cons' l i h] at hQ1 hQ2
      simp only [rd] at hQ1 hQ2
      generalize hc : l.getD i 0 = c at hQ1 hQ2
      have hcl := and_lt c
      by_cases h9 : i = 9
      · have e9 : ((i : Int) = 9) = True := eq_true (by omega)
        simp -dsimp (disch := first | rfl | omega) only [r66_3, r66_4, r66_5, r66_6, h', hc, e9, ↓vmP, vm0, vm1, vm2, vm3, vm4, vm5, vm6, vm7, vm8, vm9, vm10, vm11, vm12, vm13, vm14, vm15, vmC, vmN, Nat.reduceAdd, Nat.reduceMul, Nat.reduceSub, Nat.reduceEqDiff, Nat.reduceLT, Nat.reduceLeDiff, ↓reduceIte, Tg.isFull, Int.reduceToNat]
        rw [if_pos (.inl h9)] at hQ2
        exact (hQ2 rfl).1 _ _
      · have e9 : ((i : Int) = 9) = False := eq_false (by omega)
        by_cases hz : 0 < i ∧ c = 0
        · have e0 : (0 < (i : Int)) = True := eq_true (by omega)
          have ez : (c = 0) = True := eq_true hz.2
          simp -dsimp (disch := first | rfl | omega) only [r66_3, r66_4, r66_5, r66_6, h', hc, e9, e0, u8_zero, ez, ↓vmP, vm0, vm1, vm2, vm3, vm4, vm5, vm6, vm7, vm8, vm9, vm10, vm11, vm12, vm13, vm14, vm15, vmC, vmN, Nat.reduceAdd, Nat.reduceMul, Nat.reduceSub, Nat.reduceEqDiff, Nat.reduceLT, Nat.reduceLeDiff, ↓reduceIte, Tg.isFull, Int.reduceToNat]
          rw [if_pos (.inr hz)] at hQ2
          exact (hQ2 rfl).1 _ _
        · rw [if_neg (fun h => h.elim h9 hz)] at hQ1 hQ2
          have hsh := sh7_lt _ i hcl (by omega)
          have e7 : IntKind.i64.wrap (7 * (i : Int)) = 7 * (i : Int) := w_i64 (by omega)
          have hor : acc ||| (c &&& 127).toNat * 128 ^ i < 9223372036854775808 := Nat.or_lt_two_pow (n := 63) hacc hsh
          have hw : IntKind.u64.wrap (((c &&& 127).toNat * 128 ^ i : Nat) : Int) = (((c &&& 127).toNat * 128 ^ i : Nat) : Int) := w_u64 (by omega)
          have hor2 := or_u64 acc _ hacc hsh
          have hw2 : IntKind.i64.wrap ((acc ||| (c &&& 127).toNat * 128 ^ i : Nat) : Int) = ((acc ||| (c &&& 127).toNat * 128 ^ i : Nat) : Int) := w_i64 (by omega)
          have hs := sh7 _ i hcl (by omega) .u64 rfl
          have split0 : ((0 < (i : Int)) = True ∧ (c = 0) = False) ∨ (0 < (i : Int)) = False := by
            by_cases hi0 : 0 < i
            · exact .inl ⟨eq_true (by omega), eq_false (fun h => hz ⟨hi0, h⟩)⟩
            · exact .inr (eq_false (by omega))
          by_cases hc8 : c < 128
          · rw [if_pos hc8] at hQ1
            have e8 : (c < 128) = True := eq_true hc8
            rcases split0 with ⟨e0, ez⟩ | e0
            · simp -dsimp (disch := first | rfl | omega) only [r66_3, r66_4, r66_5, r66_7, r66_8, r66_9, h', hc, e9, e0, u8_zero, ez, and_127, and_127', w_bu64, e7, hs, hw, hor2, u8_128, e8, hw2, ↓vmP, vm0, vm1, vm2, vm3, vm4, vm5, vm6, vm7, vm8, vm9, vm10, vm11, vm12, vm13, vm14, vm15, vmC, vmN, Nat.reduceAdd, Nat.reduceMul, Nat.reduceSub, Nat.reduceEqDiff, Nat.reduceLT, Nat.reduceLeDiff, ↓reduceIte, Tg.isFull, Int.reduceToNat]
              exact hQ1 _ _ _ _ rfl hor
            · simp -dsimp (disch := first | rfl | omega) only [r66_3, r66_4, r66_5, r66_7, r66_8, r66_9, h', hc, e9, e0, and_127, and_127', w_bu64, e7, hs, hw, hor2, u8_128, e8, hw2, ↓vmP, vm0, vm1, vm2, vm3, vm4, vm5, vm6, vm7, vm8, vm9, vm10, vm11, vm12, vm13, vm14, vm15, vmC, vmN, Nat.reduceAdd, Nat.reduceMul, Nat.reduceSub, Nat.reduceEqDiff, Nat.reduceLT, Nat.reduceLeDiff, ↓reduceIte, Tg.isFull, Int.reduceToNat]
              exact hQ1 _ _ _ _ rfl hor
          · rw [if_neg hc8] at hQ1 hQ2
            have e8 : (c < 128) = False := eq_false hc8
            have fin : ∀ s, gc [(5, none), (8, none), (9, none), (10, none)] s = ⟨gS [(5, .d (.int .u64 ((acc ||| (c &&& 127).toNat * 128 ^ i : Nat) : Int))), (8, .d (.sl .any 1 (u8s l))), (9, .d (.int .i64 l.length)), (10, .d (.int .i64 (i + 1 : Nat)))], gH [], 0, 0, []⟩ → J s := fun s hs => by
              rw [← hJ]
              exact ih (i + 1) _ s (by omega) (by omega) hor hs hQ1 hQ2
            rcases split0 with ⟨e0, ez⟩ | e0
            · simp -dsimp (disch := first | rfl | omega) only [r66_3, r66_4, r66_5, r66_7, r66_8, r66_10, h', hc, e9, e0, u8_zero, ez, and_127, and_127', w_bu64, e7, hs, hw, hor2, u8_128, e8, hw2, ↓vmP, vm0, vm1, vm2, vm3, vm4, vm5, vm6, vm7, vm8, vm9, vm10, vm11, vm12, vm13, vm14, vm15, vmC, vmN, Nat.reduceAdd, Nat.reduceMul, Nat.reduceSub, Nat.reduceEqDiff, Nat.reduceLT, Nat.reduceLeDiff, ↓reduceIte, Tg.isFull, Int.reduceToNat]
              exact fin _ (by simp -dsimp (disch := first | rfl | omega) only [↓vmP, vm0, vm1, vm2, vm3, vm4, vm5, vm6, vm7, vm8, vm9, vm10, vm11, vm12, vm13, vm14, vm15, vmC, vmN, Nat.reduceAdd, Nat.reduceMul, Nat.reduceSub, Nat.reduceEqDiff, Nat.reduceLT, Nat.reduceLeDiff, ↓reduceIte, Tg.isFull, Int.reduceToNat]; rfl)
            · simp -dsimp (disch := first | rfl | omega) only [r66_3, r66_4, r66_5, r66_7, r66_8, r66_10, h', hc, e9, e0, and_127, and_127', w_bu64, e7, hs, hw, hor2, u8_128, e8, hw2, ↓vmP, vm0, vm1, vm2, vm3, vm4, vm5, vm6, vm7, vm8, vm9, vm10, vm11, vm12, vm13, vm14, vm15, vmC, vmN, Nat.reduceAdd, Nat.reduceMul, Nat.reduceSub, Nat.reduceEqDiff, Nat.reduceLT, Nat.reduceLeDiff, ↓reduceIte, Tg.isFull, Int.reduceToNat]
              exact fin _ (by simp -dsimp (disch := first | rfl | omega) only [↓vmP, vm0, vm1, vm2, vm3, vm4, vm5, vm6, vm7, vm8, vm9, vm10, vm11, vm12, vm13, vm14, vm15, vmC, vmN, Nat.reduceAdd, Nat.reduceMul, Nat.reduceSub, Nat.reduceEqDiff, Nat.reduceLT, Nat.reduceLeDiff, ↓reduceIte, Tg.isFull, Int.reduceToNat]; rfl)
    · have h' : ¬ (i : Int) < l.length := by omega
      simp -dsimp (disch := first | rfl | omega) only [r66_3, h', ↓vmP, vm0, vm1, vm2, vm3, vm4, vm5, vm6, vm7, vm8, vm9, vm10, vm11, vm12, vm13, vm14, vm15, vmC, vmN, Nat.reduceAdd, Nat.reduceMul, Nat.reduceSub, Nat.reduceEqDiff, Nat.reduceLT, Nat.reduceLeDiff, ↓reduceIte, Tg.isFull, Int.reduceToNat]
      rw [List.drop_eq_nil_of_le (by omega)] at hQ2
      exact (hQ2 rfl).2 _ _ _
theorem Num_eq (l : List UInt8) (hl : l.length ≤ 9223372036854775807) : runW false prog 66 [.d (.sl .any 1 (u8s l))] [] = some (rdR (rd l 0 0), [], []) := by
  refine run_of rfl ?_
  simp -dsimp (disch := first | rfl | omega) only [r66_0, r66_1, r66_2, ↓vmP, vm0, vm1, vm2, vm3, vm4, vm5, vm6, vm7, vm8, vm9, vm10, vm11, vm12, vm13, vm14, vm15, vmC, vmN, Nat.reduceAdd, Nat.reduceMul, Nat.reduceSub, Nat.reduceEqDiff, Nat.reduceLT, Nat.reduceLeDiff, ↓reduceIte, Tg.isFull, Int.reduceToNat]
  refine Num_loop l hl (l.length + 1) 0 0 _ (by omega) (by omega) (by omega) (by simp -dsimp (disch := first | rfl | omega) only [↓vmP, vm0, vm1, vm2, vm3, vm4, vm5, vm6, vm7, vm8, vm9, vm10, vm11, vm12, vm13, vm14, vm15, vmC, vmN, Nat.reduceAdd, Nat.reduceMul, Nat.reduceSub, Nat.reduceEqDiff, Nat.reduceLT, Nat.reduceLeDiff, ↓reduceIte, Tg.isFull, Int.reduceToNat]; rfl) (fun n k nx H h hn => ?_) (fun h => ⟨fun nx H => ?_, fun L H nx => ?_⟩)
  · rw [List.drop_zero] at h
    rw [h]
    simp -dsimp (disch := first | rfl | omega) only [rdR, ↓vmP, vm0, vm1, vm2, vm3, vm4, vm5, vm6, vm7, vm8, vm9, vm10, vm11, vm12, vm13, vm14, vm15, vmC, vmN, Nat.reduceAdd, Nat.reduceMul, Nat.reduceSub, Nat.reduceEqDiff, Nat.reduceLT, Nat.reduceLeDiff, ↓reduceIte, Tg.isFull, Int.reduceToNat]
  · rw [List.drop_zero] at h
    rw [h]
    simp -dsimp (disch := first | rfl | omega) only [rdR, ↓vmP, vm0, vm1, vm2, vm3, vm4, vm5, vm6, vm7, vm8, vm9, vm10, vm11, vm12, vm13, vm14, vm15, vmC, vmN, Nat.reduceAdd, Nat.reduceMul, Nat.reduceSub, Nat.reduceEqDiff, Nat.reduceLT, Nat.reduceLeDiff, ↓reduceIte, Tg.isFull, Int.reduceToNat]
  · rw [List.drop_zero] at h
    rw [h]
    simp -dsimp (disch := first | rfl | omega) only [r66_12, rdR, ↓vmP, vm0, vm1, vm2, vm3, vm4, vm5, vm6, vm7, vm8, vm9, vm10, vm11, vm12, vm13, vm14, vm15, vmC, vmN, Nat.reduceAdd, Nat.reduceMul, Nat.reduceSub, Nat.reduceEqDiff, Nat.reduceLT, Nat.reduceLeDiff, ↓reduceIte, Tg.isFull, Int.reduceToNat]
theorem Take_loop (l : List UInt8) (hl : l.length ≤ 9223372036854775807) {Q : Ex → St → Prop} : ∀ (k i acc : Nat) (s : St), l.length - i < k → i ≤ 9 → acc < 9223372036854775808 →
    gc [(0, none), (5, none), (6, none)] s = ⟨gS [(0, .d (.sl .any 1 (u8s l))), (5, .d (.int .i64 acc)), (6, .d (.int .i64 i))], gH [], 0, 0, []⟩ →
    (∀ n k nx H, rd (l.drop i) i acc = some (n, k) → n < 9223372036854775808 → Q .ret ⟨gS [(2, .d (.int .i64 n)), (3, .d (.int .i64 k)), (4, .d (.bool true))], gH H, nx, 0, []⟩) →
    (rd (l.drop i) i acc = none → (∀ (n k : Int) nx H, Q .ret ⟨gS [(2, .d (.int .i64 n)), (3, .d (.int .i64 k)), (4, .d (.bool false))], gH H, nx, 0, []⟩) ∧ ∀ L H nx, Q (.exit 0) ⟨gS L, gH H, nx, 0, []⟩) →
    wpW false prog (.loop [(0, none), (5, none), (6, none)] l65_8) s Q := by
  intro k
  induction k with
  | zero => intro i acc s h; omega
  | succ k ih =>
    intro i acc s hk hi hacc hg hQ1 hQ2
    refine wp_loop1 ?_
    rw [hg]
    generalize hJ : (fun s' => wpW false prog (.loop [(0, none), (5, none), (6, none)] l65_8) s' Q) = J
    unfold l65_8
    by_cases h : i < l.length
    · have h' : ((i : Int) < l.length) = True := eq_true (by omega)
      rw [drop_cons' l i h] at hQ1 hQ2
      simp only [rd] at hQ1 hQ2
      generalize hc : l.getD i 0 = c at hQ1 hQ2
      have hcl := and_lt c
      by_cases h9 : i = 9
      · have e9 : ((i : Int) < 9) = False := eq_false (by omega)
        simp -dsimp (disch := first | rfl | omega) only [r65_3, h', e9, ↓vmP, vm0, vm1, vm2, vm3, vm4, vm5, vm6, vm7, vm8, vm9, vm10, vm11, vm12, vm13, vm14, vm15, vmC, vmN, Nat.reduceAdd, Nat.reduceMul, Nat.reduceSub, Nat.reduceEqDiff, Nat.reduceLT, Nat.reduceLeDiff, ↓reduceIte, Tg.isFull, Int.reduceToNat]
        rw [if_pos (.inl h9)] at hQ2
        exact (hQ2 rfl).2 _ _ _
      · have e9 : ((i : Int) < 9) = True := eq_true (by omega)
        have hsh := sh7_lt _ i hcl (by omega)
        have e7 : IntKind.i64.wrap (7 * (i : Int)) = 7 * (i : Int) := w_i64 (by omega)
        have hor : acc ||| (c &&& 127).toNat * 128 ^ i < 9223372036854775808 := Nat.or_lt_two_pow (n := 63) hacc hsh
        have hw : IntKind.i64.wrap (((c &&& 127).toNat * 128 ^ i : Nat) : Int) = (((c &&& 127).toNat * 128 ^ i : Nat) : Int) := w_i64 (by omega)
        have hor2 := or_i64 acc _ hacc hsh
        have hs := sh7 _ i hcl (by omega) .i64 rfl
        by_cases hc8 : c < 128
        · have e8 : (c < 128) = True := eq_true hc8
          simp -dsimp (disch := first | rfl | omega) only [r65_3, r65_4, r65_5, h', e9, hc, and_127, and_127', e7, hs, hw, hor2, u8_128, e8, ↓vmP, vm0, vm1, vm2, vm3, vm4, vm5, vm6, vm7, vm8, vm9, vm10, vm11, vm12, vm13, vm14, vm15, vmC, vmN, Nat.reduceAdd, Nat.reduceMul, Nat.reduceSub, Nat.reduceEqDiff, Nat.reduceLT, Nat.reduceLeDiff, ↓reduceIte, Tg.isFull, Int.reduceToNat]
          by_cases hi0 : i = 0
          · have ei : ((i : Int) = 0) = True := eq_true (by omega)
            simp -dsimp (disch := first | rfl | omega) only [r65_6, ei, ↓vmP, vm0, vm1, vm2, vm3, vm4, vm5, vm6, vm7, vm8, vm9, vm10, vm11, vm12, vm13, vm14, vm15, vmC, vmN, Nat.reduceAdd, Nat.reduceMul, Nat.reduceSub, Nat.reduceEqDiff, Nat.reduceLT, Nat.reduceLeDiff, ↓reduceIte, Tg.isFull, Int.reduceToNat]
            refine regD_of (by kernel_rfl) ?_
            simp -dsimp (disch := first | rfl | omega) only [↓vmP, vm0, vm1, vm2, vm3, vm4, vm5, vm6, vm7, vm8, vm9, vm10, vm11, vm12, vm13, vm14, vm15, vmC, vmN, Nat.reduceAdd, Nat.reduceMul, Nat.reduceSub, Nat.reduceEqDiff, Nat.reduceLT, Nat.reduceLeDiff, ↓reduceIte, Tg.isFull, Int.reduceToNat]
            rw [if_neg (by omega), if_pos hc8] at hQ1
            exact hQ1 _ _ _ _ rfl hor
          · have ei : ((i : Int) = 0) = False := eq_false (by omega)
            by_cases hz : c = 0
            · have ez : (0 < (c.toNat : Int)) = False := eq_false (by subst hz; simp)
              simp -dsimp (disch := first | rfl | omega) only [r65_6, ei, hc, ez, ↓vmP, vm0, vm1, vm2, vm3, vm4, vm5, vm6, vm7, vm8, vm9, vm10, vm11, vm12, vm13, vm14, vm15, vmC, vmN, Nat.reduceAdd, Nat.reduceMul, Nat.reduceSub, Nat.reduceEqDiff, Nat.reduceLT, Nat.reduceLeDiff, ↓reduceIte, Tg.isFull, Int.reduceToNat]
              refine regD_of (by kernel_rfl) ?_
              simp -dsimp (disch := first | rfl | omega) only [↓vmP, vm0, vm1, vm2, vm3, vm4, vm5, vm6, vm7, vm8, vm9, vm10, vm11, vm12, vm13, vm14, vm15, vmC, vmN, Nat.reduceAdd, Nat.reduceMul, Nat.reduceSub, Nat.reduceEqDiff, Nat.reduceLT, Nat.reduceLeDiff, ↓reduceIte, Tg.isFull, Int.reduceToNat]
              rw [if_pos (.inr ⟨by omega, hz⟩)] at hQ2
              exact (hQ2 rfl).1 _ _ _ _
            · have ez : (0 < (c.toNat : Int)) = True := eq_true (by
                have : c.toNat ≠ 0 := fun h => hz (by apply UInt8.toNat_inj.1; simpa using h)
                omega)
              simp -dsimp (disch := first | rfl | omega) only [r65_6, ei, hc, ez, ↓vmP, vm0, vm1, vm2, vm3, vm4, vm5, vm6, vm7, vm8, vm9, vm10, vm11, vm12, vm13, vm14, vm15, vmC, vmN, Nat.reduceAdd, Nat.reduceMul, Nat.reduceSub, Nat.reduceEqDiff, Nat.reduceLT, Nat.reduceLeDiff, ↓reduceIte, Tg.isFull, Int.reduceToNat]
              refine regD_of (by kernel_rfl) ?_
              simp -dsimp (disch := first | rfl | omega) only [↓vmP, vm0, vm1, vm2, vm3, vm4, vm5, vm6, vm7, vm8, vm9, vm10, vm11, vm12, vm13, vm14, vm15, vmC, vmN, Nat.reduceAdd, Nat.reduceMul, Nat.reduceSub, Nat.reduceEqDiff, Nat.reduceLT, Nat.reduceLeDiff, ↓reduceIte, Tg.isFull, Int.reduceToNat]
              rw [if_neg (fun h => h.elim h9 (fun h => hz h.2)), if_pos hc8] at hQ1
              exact hQ1 _ _ _ _ rfl hor
        · have e8 : (c < 128) = False := eq_false hc8
          have hz : ¬ (i = 9 ∨ 0 < i ∧ c = 0) := fun h => h.elim h9 (fun h => hc8 (by rw [h.2]; decide))
          rw [if_neg hz, if_neg hc8] at hQ1 hQ2
          simp -dsimp (disch := first | rfl | omega) only [r65_3, r65_4, r65_5, r65_7, h', e9, hc, and_127, and_127', e7, hs, hw, hor2, u8_128, e8, ↓vmP, vm0, vm1, vm2, vm3, vm4, vm5, vm6, vm7, vm8, vm9, vm10, vm11, vm12, vm13, vm14, vm15, vmC, vmN, Nat.reduceAdd, Nat.reduceMul, Nat.reduceSub, Nat.reduceEqDiff, Nat.reduceLT, Nat.reduceLeDiff, ↓reduceIte, Tg.isFull, Int.reduceToNat]
          rw [← hJ]
          exact ih (i + 1) _ _ (by omega) (by omega) hor (by simp -dsimp (disch := first | rfl | omega) only [↓vmP, vm0, vm1, vm2, vm3, vm4, vm5, vm6, vm7, vm8, vm9, vm10, vm11, vm12, vm13, vm14, vm15, vmC, vmN, Nat.reduceAdd, Nat.reduceMul, Nat.reduceSub, Nat.reduceEqDiff, Nat.reduceLT, Nat.reduceLeDiff, ↓reduceIte, Tg.isFull, Int.reduceToNat]; rfl) hQ1 hQ2
    · have h' : ((i : Int) < l.length) = False := eq_false (by omega)
      simp -dsimp (disch := first | rfl | omega) only [r65_3, h', ↓vmP, vm0, vm1, vm2, vm3, vm4, vm5, vm6, vm7, vm8, vm9, vm10, vm11, vm12, vm13, vm14, vm15, vmC, vmN, Nat.reduceAdd, Nat.reduceMul, Nat.reduceSub, Nat.reduceEqDiff, Nat.reduceLT, Nat.reduceLeDiff, ↓reduceIte, Tg.isFull, Int.reduceToNat]
      rw [List.drop_eq_nil_of_le (by omega)] at hQ2
      exact (hQ2 rfl).2 _ _ _
theorem Take_some (l : List UInt8) (hl : l.length ≤ 9223372036854775807) {n k : Nat} (h : rd l 0 0 = some (n, k)) : runW false prog 65 [.d (.sl .any 1 (u8s l))] [] = some (.tup [.d (.int .i64 n), .d (.int .i64 k), .d (.bool true)], [], []) := by
  refine run_of rfl ?_
  simp -dsimp (disch := first | rfl | omega) only [r65_0, r65_1, r65_2, ↓vmP, vm0, vm1, vm2, vm3, vm4, vm5, vm6, vm7, vm8, vm9, vm10, vm11, vm12, vm13, vm14, vm15, vmC, vmN, Nat.reduceAdd, Nat.reduceMul, Nat.reduceSub, Nat.reduceEqDiff, Nat.reduceLT, Nat.reduceLeDiff, ↓reduceIte, Tg.isFull, Int.reduceToNat]
  refine Take_loop l hl (l.length + 1) 0 0 _ (by omega) (by omega) (by omega) (by simp -dsimp (disch := first | rfl | omega) only [↓vmP, vm0, vm1, vm2, vm3, vm4, vm5, vm6, vm7, vm8, vm9, vm10, vm11, vm12, vm13, vm14, vm15, vmC, vmN, Nat.reduceAdd, Nat.reduceMul, Nat.reduceSub, Nat.reduceEqDiff, Nat.reduceLT, Nat.reduceLeDiff, ↓reduceIte, Tg.isFull, Int.reduceToNat]; rfl) (fun n' k' nx H h' hn => ?_) (fun h' => ?_)
  · rw [List.drop_zero, h] at h'
    cases h'
    simp -dsimp (disch := first | rfl | omega) only [↓vmP, vm0, vm1, vm2, vm3, vm4, vm5, vm6, vm7, vm8, vm9, vm10, vm11, vm12, vm13, vm14, vm15, vmC, vmN, Nat.reduceAdd, Nat.reduceMul, Nat.reduceSub, Nat.reduceEqDiff, Nat.reduceLT, Nat.reduceLeDiff, ↓reduceIte, Tg.isFull, Int.reduceToNat]
  · rw [List.drop_zero, h] at h'; cases h'
theorem Take_none (l : List UInt8) (hl : l.length ≤ 9223372036854775807) (h : rd l 0 0 = none) : ∃ n k : Int, runW false prog 65 [.d (.sl .any 1 (u8s l))] [] = some (.tup [.d (.int .i64 n), .d (.int .i64 k), .d (.bool false)], [], []) := by
  have key : ∃ R, (∃ n k : Int, R = (A.tup [.d (.int .i64 n), .d (.int .i64 k), .d (.bool false)], [], [])) ∧ runW false prog 65 [.d (.sl .any 1 (u8s l))] [] = some R := by
    refine run_ex rfl ?_
    generalize hQ : (fun (e : Ex) (s : St) => _ : Ex → St → Prop) = Q
    simp -dsimp (disch := first | rfl | omega) only [r65_0, r65_1, r65_2, ↓vmP, vm0, vm1, vm2, vm3, vm4, vm5, vm6, vm7, vm8, vm9, vm10, vm11, vm12, vm13, vm14, vm15, vmC, vmN, Nat.reduceAdd, Nat.reduceMul, Nat.reduceSub, Nat.reduceEqDiff, Nat.reduceLT, Nat.reduceLeDiff, ↓reduceIte, Tg.isFull, Int.reduceToNat]
    refine Take_loop l hl (l.length + 1) 0 0 _ (by omega) (by omega) (by omega) (by simp -dsimp (disch := first | rfl | omega) only [↓vmP, vm0, vm1, vm2, vm3, vm4, vm5, vm6, vm7, vm8, vm9, vm10, vm11, vm12, vm13, vm14, vm15, vmC, vmN, Nat.reduceAdd, Nat.reduceMul, Nat.reduceSub, Nat.reduceEqDiff, Nat.reduceLT, Nat.reduceLeDiff, ↓reduceIte, Tg.isFull, Int.reduceToNat]; rfl) (fun n' k' nx H h' hn => ?_) (fun h' => ⟨fun n k nx H => ?_, fun L H nx => ?_⟩)
    · rw [List.drop_zero, h] at h'; cases h'
    · simp -dsimp (disch := first | rfl | omega) only [↓vmP, vm0, vm1, vm2, vm3, vm4, vm5, vm6, vm7, vm8, vm9, vm10, vm11, vm12, vm13, vm14, vm15, vmC, vmN, Nat.reduceAdd, Nat.reduceMul, Nat.reduceSub, Nat.reduceEqDiff, Nat.reduceLT, Nat.reduceLeDiff, ↓reduceIte, Tg.isFull, Int.reduceToNat]
      rw [← hQ]
      refine ⟨_, ⟨n, k, rfl⟩, ?_⟩
      simp -dsimp (disch := first | rfl | omega) only [↓vmP, vm0, vm1, vm2, vm3, vm4, vm5, vm6, vm7, vm8, vm9, vm10, vm11, vm12, vm13, vm14, vm15, vmC, vmN, Nat.reduceAdd, Nat.reduceMul, Nat.reduceSub, Nat.reduceEqDiff, Nat.reduceLT, Nat.reduceLeDiff, ↓reduceIte, Tg.isFull, Int.reduceToNat]
    · simp -dsimp (disch := first | rfl | omega) only [r65_9, ↓vmP, vm0, vm1, vm2, vm3, vm4, vm5, vm6, vm7, vm8, vm9, vm10, vm11, vm12, vm13, vm14, vm15, vmC, vmN, Nat.reduceAdd, Nat.reduceMul, Nat.reduceSub, Nat.reduceEqDiff, Nat.reduceLT, Nat.reduceLeDiff, ↓reduceIte, Tg.isFull, Int.reduceToNat]
      rw [← hQ]
      refine ⟨_, ⟨0, 0, rfl⟩, ?_⟩
      simp -dsimp (disch := first | rfl | omega) only [↓vmP, vm0, vm1, vm2, vm3, vm4, vm5, vm6, vm7, vm8, vm9, vm10, vm11, vm12, vm13, vm14, vm15, vmC, vmN, Nat.reduceAdd, Nat.reduceMul, Nat.reduceSub, Nat.reduceEqDiff, Nat.reduceLT, Nat.reduceLeDiff, ↓reduceIte, Tg.isFull, Int.reduceToNat]
  obtain ⟨R, ⟨n, k, rfl⟩, h⟩ := key
  exact ⟨n, k, h⟩
end Go.Vm.Wr
