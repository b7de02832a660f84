/- A part of the proof of BacklogPlaysSaid: YtnihjdfbiddggaaFj. -/
import Derived.Test.YtnihjdfbiddggaaKFi
/- Backlogs: the program's offer. -/
set_option linter.unusedVariables false
set_option linter.unusedSimpArgs false
set_option maxHeartbeats 1000000
namespace Go.Vm.Bk
theorem pgEnds' : prog 44 = some c44 := rfl
theorem pgRef : prog 50 = some c50 := rfl
theorem pgTell : prog 51 = some c51 := rfl
def fzB (kf : Bool) (x : A) (id off len sz : Nat) : Chunk → A × Writes
  | .box cs => match allD cs with
    | some ds => if off + len * sz ≤ ds.length then (.d (.sl .any sz (chunks sz len (ds.drop off))), [(id, .dead)]) else (x, [])
    | none => (x, [])
  | _ => (x, [])
theorem f1_bs (kf : Bool) (hp : Heap) (id off len sz : Nat) : freeze1 kf hp (.bs id off len sz) = fzB kf (.bs id off len sz) id off len sz (hp id) := by
  simp only [freeze1, toD1, fzB]
  cases hp id <;> try rfl
  rename_i cs
  dsimp only
  cases allD cs with
  | none => rfl
  | some ds => by_cases h : off + len * sz ≤ ds.length <;> simp [h]
theorem fz_bs (kf : Bool) (hp : Heap) (id off len sz : Nat) : freezeA kf hp (.bs id off len sz) = fzB kf (.bs id off len sz) id off len sz (hp id) := f1_bs kf hp id off len sz
theorem fzB_fn (kf : Bool) (x : A) (id off len sz : Nat) (g : FuncId) (cs r : List A) : fzB kf x id off len sz (.box (.fn g cs :: r)) = (x, []) := rfl
theorem fzB_box (kf : Bool) (x : A) (id off len sz : Nat) (cs : List A) (ds : List D) (h : allD cs = some ds) (hl : off + len * sz ≤ ds.length) : fzB kf x id off len sz (.box cs) = (.d (.sl .any sz (chunks sz len (ds.drop off))), [(id, .dead)]) := by
  simp only [fzB, h, hl, if_true]
def okOff (t n : Int) : Bool := decide (1 ≤ n ∧ n ≤ 64) && !late t
def nextS (b : Bk) : Int := b.serial + 1 + (if pend b then 1 else 0)
/-- An event that was taken. -/
def accB (b : Bk) (t n s : Int) : Bk := { b with serial := s, reserved := b.reserved + n, op := b.op ++ [s], window := t.tdiv 1000, used := (if t.tdiv 1000 = b.window then b.used else 0) + 1 }
def told (b : Bk) (t : Int) : Bk := if pend b then tellB b t else b
def offerB (b : Bk) (t n : Int) : Bk × Int × Bool :=
  if okOff t n then
    if 0 ≤ why b t n (nextS b) then (loseB b t (why b t n (nextS b)), b.serial + 1, false) else (accB (told b t) t n (nextS b), nextS b, true)
  else (b, 0, false)
def offR (r : Bk × Int × Bool) : A := .tup [.agg (bA r.1 1 4 2), .d (.int .i64 r.2.1), .d (.bool r.2.2)]
set_option maxRecDepth 20000 in
theorem Offer_bad (b : Bk) (z1 z2 z3 : Nat) (hz : Zk b z1 z2 z3) (hs : Sm b) (t n : Int) (hb : okOff t n = false) : runW false prog 24 [.agg (bA b z1 z2 z3), .d (.int .i64 t), .d (.int .i64 n)] [] = some (offR (b, 0, false), [], []) := by
  simp only [offR]
  refine run_of rfl ?_
  have h1 := ownB_eq b z1 z2 z3 hz hs
  have he := fun f1 f2 f3 => Ends_eq b hs f1 f2 f3 t
  simp only [bA, bC, bH] at h1 he
  by_cases c1 : n < 1
  · have e1 : (n < 1) = True := eq_true c1
    simp -dsimp (disch := first | rfl | omega) only [bA, bC, bH, r24_0, r24_1, r24_2, callW_fn pgOwnB, h1, e1, r24_3, ↓vmP, vm0, vm1, vm2, vm3, vm4, vm5, vm6, vm7, vm8, vm9, vm10, vm11, vm12, vm13, vm14, vm15, vmC, vmN, Nat.reduceAdd, Nat.reduceMul, Nat.reduceSub, Nat.reduceEqDiff, Nat.reduceLT, Nat.reduceLeDiff, ↓reduceIte, Tg.isFull, Int.reduceToNat]
  · have e1 : (n < 1) = False := eq_false c1
    by_cases c2 : 64 < n
    · have e2 : (64 < n) = True := eq_true c2
      simp -dsimp (disch := first | rfl | omega) only [bA, bC, bH, r24_0, r24_1, r24_2, callW_fn pgOwnB, h1, e1, e2, r24_3, ↓vmP, vm0, vm1, vm2, vm3, vm4, vm5, vm6, vm7, vm8, vm9, vm10, vm11, vm12, vm13, vm14, vm15, vmC, vmN, Nat.reduceAdd, Nat.reduceMul, Nat.reduceSub, Nat.reduceEqDiff, Nat.reduceLT, Nat.reduceLeDiff, ↓reduceIte, Tg.isFull, Int.reduceToNat]
    · have e2 : (64 < n) = False := eq_false c2
      have hl : late t = true := by
        simp only [okOff] at hb
        cases h : late t with
        | true => rfl
        | false => rw [h] at hb; simp at hb; omega
      rw [hl] at he
      simp -dsimp (disch := first | rfl | omega) only [bA, bC, bH, r24_0, r24_1, r24_2, callW_fn pgOwnB, callW_fn pgEnds, h1, he, e1, e2, r24_3, vmK, ↓vmP, vm0, vm1, vm2, vm3, vm4, vm5, vm6, vm7, vm8, vm9, vm10, vm11, vm12, vm13, vm14, vm15, vmC, vmN, Nat.reduceAdd, Nat.reduceMul, Nat.reduceSub, Nat.reduceEqDiff, Nat.reduceLT, Nat.reduceLeDiff, ↓reduceIte, Tg.isFull, Int.reduceToNat]
theorem ok_t {t n : Int} (h : okOff t n = true) : (1 ≤ n ∧ n ≤ 64) ∧ (0 ≤ t ∧ t ≤ 1099511627776) ∧ late t = false := by
  simp only [okOff, late, Bool.and_eq_true, decide_eq_true_eq, Bool.not_eq_true', decide_eq_false_iff_not] at h ⊢
  omega
theorem nextS_b (b : Bk) (hs : Sm b) : 0 ≤ nextS b ∧ nextS b ≤ 2000000 := by
  have := hs.s
  unfold nextS; split <;> omega
theorem tdiv_b {t : Int} (h : 0 ≤ t ∧ t ≤ 1099511627776) : 0 ≤ t.tdiv 1000 ∧ t.tdiv 1000 ≤ 1099511627776 := by
  rw [Int.tdiv_eq_ediv_of_nonneg h.1]; omega
theorem why_b (b : Bk) (t n s : Int) : -1 ≤ why b t n s ∧ why b t n s ≤ 2 := by
  unfold why; repeat' split
  all_goals omega
set_option maxRecDepth 20000 in
theorem Offer_lost (b : Bk) (z1 z2 z3 : Nat) (hz : Zk b z1 z2 z3) (hs : Sm b) (t n : Int) (hb : okOff t n = true) (hw : 0 ≤ why b t n (nextS b)) (hf : b.fail ≠ 2) : runW false prog 24 [.agg (bA b z1 z2 z3), .d (.int .i64 t), .d (.int .i64 n)] [] = some (offR (loseB b t (why b t n (nextS b)), b.serial + 1, false), [], []) := by
  simp only [offR]
  refine run_of rfl ?_
  have h1 := ownB_eq b z1 z2 z3 hz hs
  obtain ⟨hn, ht, hl⟩ := ok_t hb
  have he := fun f1 f2 f3 => Ends_eq b hs f1 f2 f3 t
  rw [hl] at he
  have hns := nextS_b b hs
  have hp := fun f1 f2 f3 => Pend_eq b f1 f2 f3
  have ho := One_eq (pend b)
  have hx := fun f1 f2 f3 => Idx_eq b hs f1 f2 f3 t n (nextS b) ht (by omega) hns
  have hn1 : b.serial + 1 + (if pend b then 1 else 0) = nextS b := rfl
  have hob : (0 : Int) ≤ (if pend b then 1 else 0) ∧ (if pend b then (1 : Int) else 0) ≤ 1 := by split <;> omega
  have hwb := why_b b t n (nextS b)
  have hser := hs.s
  simp only [bA, bC, bH, bP, bF] at h1 he hp hx
  have e1 : (n < 1) = False := eq_false (by omega)
  have e2 : (64 < n) = False := eq_false (by omega)
  have e3 : (0 ≤ why b t n (nextS b)) = True := eq_true hw
  have hr := fun f1 f2 f3 => Ref_other b hs f1 f2 f3 t (why b t n (nextS b)) hf
  generalize why b t n (nextS b) = w at hx hwb hw e3 hr ⊢
  generalize nextS b = s at hx hns hn1
  generalize (if pend b then (1 : Int) else 0) = v at ho hn1 hob
  have g1 : (loseB b t w).op = b.op := rfl
  have g2 : (loseB b t w).queue = b.queue := rfl
  have g3 : (loseB b t w).serial = b.serial + 1 := rfl
  have g4 : (loseB b t w).nts = b.nts := by simp [loseB, hf]
  generalize loseB b t w = b' at hr g1 g2 g3 g4 ⊢
  simp only [bP, bC] at hr
  simp -dsimp (disch := first | rfl | omega) only [bA, bC, bH, r24_0, r24_1, r24_2, r24_4, callW_fn pgOwnB, callW_fn pgEnds, callW_fn pgPend, callW_fn pgOne, h1, he, hp, ho, e1, e2, vmK, hn1, ↓vmP, vm0, vm1, vm2, vm3, vm4, vm5, vm6, vm7, vm8, vm9, vm10, vm11, vm12, vm13, vm14, vm15, vmC, vmN, Nat.reduceAdd, Nat.reduceMul, Nat.reduceSub, Nat.reduceEqDiff, Nat.reduceLT, Nat.reduceLeDiff, ↓reduceIte, Tg.isFull, Int.reduceToNat]
  refine regD_of (by kernel_rfl) ?_
  simp -dsimp (disch := first | rfl | omega) only [bA, bC, bH, r24_5, r24_6, r24_7, r24_8, r24_9, callW_fn pgPend, callW_fn pgOne, callW_fn pgReasons, callW_fn pgIdx, callW_fn pgRef, f1_bs, fz_bs, fzB_fn, vmK, hp, ho, hn1, reasons_eq, hx, hr, e3, ↓vmP, vm0, vm1, vm2, vm3, vm4, vm5, vm6, vm7, vm8, vm9, vm10, vm11, vm12, vm13, vm14, vm15, vmC, vmN, Nat.reduceAdd, Nat.reduceMul, Nat.reduceSub, Nat.reduceEqDiff, Nat.reduceLT, Nat.reduceLeDiff, ↓reduceIte, Tg.isFull, Int.reduceToNat]
  refine regD_of (by kernel_rfl) ?_
  simp -dsimp (disch := first | rfl | omega) only [bA, bC, bH, r24_9, g1, g2, g3, g4, ↓vmP, vm0, vm1, vm2, vm3, vm4, vm5, vm6, vm7, vm8, vm9, vm10, vm11, vm12, vm13, vm14, vm15, vmC, vmN, Nat.reduceAdd, Nat.reduceMul, Nat.reduceSub, Nat.reduceEqDiff, Nat.reduceLT, Nat.reduceLeDiff, ↓reduceIte, Tg.isFull, Int.reduceToNat]
set_option maxRecDepth 20000 in
theorem Offer_lost2 (b : Bk) (z1 z2 z3 : Nat) (hz : Zk b z1 z2 z3) (hs : Sm b) (h16 : b.nts.length ≤ 16) (t n : Int) (hb : okOff t n = true) (hw : 0 ≤ why b t n (nextS b)) (hf : b.fail = 2) : runW false prog 24 [.agg (bA b z1 z2 z3), .d (.int .i64 t), .d (.int .i64 n)] [] = some (offR (loseB b t (why b t n (nextS b)), b.serial + 1, false), [], []) := by
  simp only [offR]
  refine run_of rfl ?_
  have h1 := ownB_eq b z1 z2 z3 hz hs
  obtain ⟨hn, ht, hl⟩ := ok_t hb
  have he := fun f1 f2 f3 => Ends_eq b hs f1 f2 f3 t
  rw [hl] at he
  have hns := nextS_b b hs
  have hp := fun f1 f2 f3 => Pend_eq b f1 f2 f3
  have ho := One_eq (pend b)
  have hx := fun f1 f2 f3 => Idx_eq b hs f1 f2 f3 t n (nextS b) ht (by omega) hns
  have hn1 : b.serial + 1 + (if pend b then 1 else 0) = nextS b := rfl
  have hob : (0 : Int) ≤ (if pend b then 1 else 0) ∧ (if pend b then (1 : Int) else 0) ≤ 1 := by split <;> omega
  have hwb := why_b b t n (nextS b)
  have hser := hs.s
  simp only [bA, bC, bH, bP, bF] at h1 he hp hx
  have e1 : (n < 1) = False := eq_false (by omega)
  have e2 : (64 < n) = False := eq_false (by omega)
  have e3 : (0 ≤ why b t n (nextS b)) = True := eq_true hw
  have hr := fun f1 f2 f3 => Ref_two b hs h16 f1 f2 f3 t (why b t n (nextS b)) hf
  generalize why b t n (nextS b) = w at hx hwb hw e3 hr ⊢
  generalize nextS b = s at hx hns hn1
  generalize (if pend b then (1 : Int) else 0) = v at ho hn1 hob
  have g1 : (loseB b t w).op = b.op := rfl
  have g2 : (loseB b t w).queue = b.queue := rfl
  have g3 : (loseB b t w).serial = b.serial + 1 := rfl
  have g4 : notes (kept b ++ [(t, b.serial + 1)]) = notes (loseB b t w).nts := by simp only [loseB, hf, if_true, kept]
  have hal := arr_all (kept b ++ [(t, b.serial + 1)])
  have hll : (kept b ++ [(t, b.serial + 1)]).length = (kept b).length + 1 := by simp
  have hch := arr_chunks (kept b ++ [(t, b.serial + 1)]) (List.replicate (32 - 2 * (kept b ++ [(t, b.serial + 1)]).length) (.int .i64 0))
  have hfz := fun x i => fzB_box false x i 0 ((kept b).length + 1) 2 _ _ hal (by simp only [List.length_append, List.length_replicate, fl_len, hll]; have : (kept b).length ≤ 15 := (by simp only [kept, List.length_drop]; omega); omega)
  have hrD := reach_D _ _ hal
  have hrN := renL_D _ _ hal
  simp only [List.drop_zero, hll] at hfz hch
  rw [hch, g4] at hfz
  generalize arr (kept b ++ [(t, b.serial + 1)]) = AR at hr hfz hrD hrN
  generalize (kept b).length = kl at hr hfz
  clear hch hal hll
  generalize loseB b t w = b' at hr hfz g1 g2 g3 g4 ⊢
  simp only [bP, bC] at hr
  simp -dsimp (disch := first | rfl | omega) only [bA, bC, bH, r24_0, r24_1, r24_2, r24_4, callW_fn pgOwnB, callW_fn pgEnds, callW_fn pgPend, callW_fn pgOne, h1, he, hp, ho, e1, e2, vmK, hn1, ↓vmP, vm0, vm1, vm2, vm3, vm4, vm5, vm6, vm7, vm8, vm9, vm10, vm11, vm12, vm13, vm14, vm15, vmC, vmN, Nat.reduceAdd, Nat.reduceMul, Nat.reduceSub, Nat.reduceEqDiff, Nat.reduceLT, Nat.reduceLeDiff, ↓reduceIte, Tg.isFull, Int.reduceToNat]
  refine regD_of (by kernel_rfl) ?_
  simp -dsimp (disch := first | rfl | omega) only [bA, bC, bH, r24_5, r24_6, r24_7, r24_8, r24_9, callW_fn pgPend, callW_fn pgOne, callW_fn pgReasons, callW_fn pgIdx, callW_fn pgRef, f1_bs, fz_bs, fzB_fn, vmK, hp, ho, hn1, reasons_eq, hx, hr, e3, hrN, hrD, ↓vmP, vm0, vm1, vm2, vm3, vm4, vm5, vm6, vm7, vm8, vm9, vm10, vm11, vm12, vm13, vm14, vm15, vmC, vmN, Nat.reduceAdd, Nat.reduceMul, Nat.reduceSub, Nat.reduceEqDiff, Nat.reduceLT, Nat.reduceLeDiff, ↓reduceIte, Tg.isFull, Int.reduceToNat]
  refine regD_of (by kernel_rfl) ?_
  simp -dsimp (disch := first | rfl | omega) only [bA, bC, bH, r24_9, g1, g2, g3, g4, f1_bs, fz_bs, hfz, hrN, hrD, ↓vmP, vm0, vm1, vm2, vm3, vm4, vm5, vm6, vm7, vm8, vm9, vm10, vm11, vm12, vm13, vm14, vm15, vmC, vmN, Nat.reduceAdd, Nat.reduceMul, Nat.reduceSub, Nat.reduceEqDiff, Nat.reduceLT, Nat.reduceLeDiff, ↓reduceIte, Tg.isFull, Int.reduceToNat]
theorem told_len (b : Bk) (t : Int) : True := trivial
set_option maxRecDepth 20000 in
theorem Offer_acc (b : Bk) (z1 z2 z3 : Nat) (hz : Zk b z1 z2 z3) (hs : Sm b) (t n : Int) (hb : okOff t n = true) (hw : ¬ 0 ≤ why b t n (nextS b)) : runW false prog 24 [.agg (bA b z1 z2 z3), .d (.int .i64 t), .d (.int .i64 n)] [] = some (offR (accB (told b t) t n (nextS b), nextS b, true), [], []) := by
  rcases Bool.eq_false_or_eq_true (pend b) with hpe | hpe
  · simp only [offR, accB, told, tellB, hpe, if_true, if_false, Bool.false_eq_true]
    refine run_of rfl ?_
    have h1 := ownB_eq b z1 z2 z3 hz hs
    obtain ⟨hn, ht, hl⟩ := ok_t hb
    have he := fun f1 f2 f3 => Ends_eq b hs f1 f2 f3 t
    rw [hl] at he
    have hns := nextS_b b hs
    have hp := fun f1 f2 f3 => Pend_eq b f1 f2 f3
    have ho := One_eq (pend b)
    have hx := fun f1 f2 f3 => Idx_eq b hs f1 f2 f3 t n (nextS b) ht (by omega) hns
    have hn1 : b.serial + 1 + (if pend b then 1 else 0) = nextS b := rfl
    have hob : (0 : Int) ≤ (if pend b then 1 else 0) ∧ (if pend b then (1 : Int) else 0) ≤ 1 := by split <;> omega
    have hwb := why_b b t n (nextS b)
    have hser := hs.s
    simp only [bA, bC, bH, bP, bF] at h1 he hp hx
    have e1 : (n < 1) = False := eq_false (by omega)
    have e2 : (64 < n) = False := eq_false (by omega)
    have e3 : (0 ≤ why b t n (nextS b)) = False := eq_false hw
    generalize why b t n (nextS b) = w at hx hwb hw e3
    have hq := tdiv_b ht
    have hres := hs.r
    have hus := hs.u
    have hil := i64s_len b.op
    have hlo := hs.lo
    have hap := i64s_app b.op [nextS b]
    have hone : i64s [nextS b] = [[.int .i64 (nextS b)]] := rfl
    rw [hone] at hap
    have hte := fun f1 f2 f3 => Tell_eq b hs f1 f2 f3 t
    simp only [bP, bC] at hte
    rw [hpe] at hp ho hn1 hob
    simp only [if_true, if_false, Bool.false_eq_true] at ho hn1 hob
    by_cases hwin : t.tdiv 1000 = b.window
    · have e4 : (t.tdiv 1000 = b.window) = True := eq_true hwin
      generalize nextS b = s at hx hns hn1 hap ⊢
      generalize hOP : i64s (b.op ++ [s]) = OP at hap
      generalize hqq : t.tdiv 1000 = q at e4 hq hwin ⊢
      have hwr : IntKind.i64.wrap q = q := w_i64 (by omega)
      simp -dsimp (disch := first | rfl | omega) only [bA, bC, bH, r24_0, r24_1, r24_2, r24_4, callW_fn pgOwnB, callW_fn pgEnds, callW_fn pgPend, callW_fn pgOne, h1, he, hp, ho, e1, e2, vmK, hn1, ↓vmP, vm0, vm1, vm2, vm3, vm4, vm5, vm6, vm7, vm8, vm9, vm10, vm11, vm12, vm13, vm14, vm15, vmC, vmN, Nat.reduceAdd, Nat.reduceMul, Nat.reduceSub, Nat.reduceEqDiff, Nat.reduceLT, Nat.reduceLeDiff, ↓reduceIte, Tg.isFull, Int.reduceToNat]
      refine regD_of (by kernel_rfl) ?_
      simp -dsimp (disch := first | rfl | omega) only [bA, bC, bH, tellB, r24_5, r24_6, r24_7, r24_10, r24_11, r24_12, r24_13, r24_14, r24_15, r24_16, r24_17, r24_18, callW_fn pgPend, callW_fn pgOne, callW_fn pgReasons, callW_fn pgIdx, callW_fn pgTell, hte, f1_bs, fz_bs, fzB_fn, vmK, hp, ho, hn1, reasons_eq, hx, e3, e4, hqq, hwr, hap, ne_eq, not_true_eq_false, not_false_eq_true, if_true, if_false, Int.reduceEq, ↓vmP, vm0, vm1, vm2, vm3, vm4, vm5, vm6, vm7, vm8, vm9, vm10, vm11, vm12, vm13, vm14, vm15, vmC, vmN, Nat.reduceAdd, Nat.reduceMul, Nat.reduceSub, Nat.reduceEqDiff, Nat.reduceLT, Nat.reduceLeDiff, ↓reduceIte, Tg.isFull, Int.reduceToNat]
      refine regD_of (by kernel_rfl) ?_
      simp -dsimp (disch := first | rfl | omega) only [bA, bC, bH, tellB, r24_18, if_true, if_false, e4, hOP, hwin, ↓vmP, vm0, vm1, vm2, vm3, vm4, vm5, vm6, vm7, vm8, vm9, vm10, vm11, vm12, vm13, vm14, vm15, vmC, vmN, Nat.reduceAdd, Nat.reduceMul, Nat.reduceSub, Nat.reduceEqDiff, Nat.reduceLT, Nat.reduceLeDiff, ↓reduceIte, Tg.isFull, Int.reduceToNat]
    · have e4 : (t.tdiv 1000 = b.window) = False := eq_false hwin
      generalize nextS b = s at hx hns hn1 hap ⊢
      generalize hOP : i64s (b.op ++ [s]) = OP at hap
      generalize hqq : t.tdiv 1000 = q at e4 hq hwin ⊢
      have hwr : IntKind.i64.wrap q = q := w_i64 (by omega)
      simp -dsimp (disch := first | rfl | omega) only [bA, bC, bH, r24_0, r24_1, r24_2, r24_4, callW_fn pgOwnB, callW_fn pgEnds, callW_fn pgPend, callW_fn pgOne, h1, he, hp, ho, e1, e2, vmK, hn1, ↓vmP, vm0, vm1, vm2, vm3, vm4, vm5, vm6, vm7, vm8, vm9, vm10, vm11, vm12, vm13, vm14, vm15, vmC, vmN, Nat.reduceAdd, Nat.reduceMul, Nat.reduceSub, Nat.reduceEqDiff, Nat.reduceLT, Nat.reduceLeDiff, ↓reduceIte, Tg.isFull, Int.reduceToNat]
      refine regD_of (by kernel_rfl) ?_
      simp -dsimp (disch := first | rfl | omega) only [bA, bC, bH, tellB, r24_5, r24_6, r24_7, r24_10, r24_11, r24_12, r24_13, r24_14, r24_15, r24_16, r24_17, r24_18, callW_fn pgPend, callW_fn pgOne, callW_fn pgReasons, callW_fn pgIdx, callW_fn pgTell, hte, f1_bs, fz_bs, fzB_fn, vmK, hp, ho, hn1, reasons_eq, hx, e3, e4, hqq, hwr, hap, ne_eq, not_true_eq_false, not_false_eq_true, if_true, if_false, Int.reduceEq, ↓vmP, vm0, vm1, vm2, vm3, vm4, vm5, vm6, vm7, vm8, vm9, vm10, vm11, vm12, vm13, vm14, vm15, vmC, vmN, Nat.reduceAdd, Nat.reduceMul, Nat.reduceSub, Nat.reduceEqDiff, Nat.reduceLT, Nat.reduceLeDiff, ↓reduceIte, Tg.isFull, Int.reduceToNat]
      refine regD_of (by kernel_rfl) ?_
      simp -dsimp (disch := first | rfl | omega) only [bA, bC, bH, tellB, r24_18, if_true, if_false, e4, hOP, ↓vmP, vm0, vm1, vm2, vm3, vm4, vm5, vm6, vm7, vm8, vm9, vm10, vm11, vm12, vm13, vm14, vm15, vmC, vmN, Nat.reduceAdd, Nat.reduceMul, Nat.reduceSub, Nat.reduceEqDiff, Nat.reduceLT, Nat.reduceLeDiff, ↓reduceIte, Tg.isFull, Int.reduceToNat]
  · simp only [offR, accB, told, tellB, hpe, if_true, if_false, Bool.false_eq_true]
    refine run_of rfl ?_
    have h1 := ownB_eq b z1 z2 z3 hz hs
    obtain ⟨hn, ht, hl⟩ := ok_t hb
    have he := fun f1 f2 f3 => Ends_eq b hs f1 f2 f3 t
    rw [hl] at he
    have hns := nextS_b b hs
    have hp := fun f1 f2 f3 => Pend_eq b f1 f2 f3
    have ho := One_eq (pend b)
    have hx := fun f1 f2 f3 => Idx_eq b hs f1 f2 f3 t n (nextS b) ht (by omega) hns
    have hn1 : b.serial + 1 + (if pend b then 1 else 0) = nextS b := rfl
    have hob : (0 : Int) ≤ (if pend b then 1 else 0) ∧ (if pend b then (1 : Int) else 0) ≤ 1 := by split <;> omega
    have hwb := why_b b t n (nextS b)
    have hser := hs.s
    simp only [bA, bC, bH, bP, bF] at h1 he hp hx
    have e1 : (n < 1) = False := eq_false (by omega)
    have e2 : (64 < n) = False := eq_false (by omega)
    have e3 : (0 ≤ why b t n (nextS b)) = False := eq_false hw
    generalize why b t n (nextS b) = w at hx hwb hw e3
    have hq := tdiv_b ht
    have hres := hs.r
    have hus := hs.u
    have hil := i64s_len b.op
    have hlo := hs.lo
    have hap := i64s_app b.op [nextS b]
    have hone : i64s [nextS b] = [[.int .i64 (nextS b)]] := rfl
    rw [hone] at hap
    have hte := fun f1 f2 f3 => Tell_eq b hs f1 f2 f3 t
    simp only [bP, bC] at hte
    rw [hpe] at hp ho hn1 hob
    simp only [if_true, if_false, Bool.false_eq_true] at ho hn1 hob
    by_cases hwin : t.tdiv 1000 = b.window
    · have e4 : (t.tdiv 1000 = b.window) = True := eq_true hwin
      generalize nextS b = s at hx hns hn1 hap ⊢
      generalize hOP : i64s (b.op ++ [s]) = OP at hap
      generalize hqq : t.tdiv 1000 = q at e4 hq hwin ⊢
      have hwr : IntKind.i64.wrap q = q := w_i64 (by omega)
      simp -dsimp (disch := first | rfl | omega) only [bA, bC, bH, r24_0, r24_1, r24_2, r24_4, callW_fn pgOwnB, callW_fn pgEnds, callW_fn pgPend, callW_fn pgOne, h1, he, hp, ho, e1, e2, vmK, hn1, ↓vmP, vm0, vm1, vm2, vm3, vm4, vm5, vm6, vm7, vm8, vm9, vm10, vm11, vm12, vm13, vm14, vm15, vmC, vmN, Nat.reduceAdd, Nat.reduceMul, Nat.reduceSub, Nat.reduceEqDiff, Nat.reduceLT, Nat.reduceLeDiff, ↓reduceIte, Tg.isFull, Int.reduceToNat]
      refine regD_of (by kernel_rfl) ?_
      simp -dsimp (disch := first | rfl | omega) only [bA, bC, bH, tellB, r24_5, r24_6, r24_7, r24_10, r24_11, r24_12, r24_13, r24_14, r24_15, r24_16, r24_17, r24_18, callW_fn pgPend, callW_fn pgOne, callW_fn pgReasons, callW_fn pgIdx, callW_fn pgTell, hte, f1_bs, fz_bs, fzB_fn, vmK, hp, ho, hn1, reasons_eq, hx, e3, e4, hqq, hwr, hap, ne_eq, not_true_eq_false, not_false_eq_true, if_true, if_false, Int.reduceEq, ↓vmP, vm0, vm1, vm2, vm3, vm4, vm5, vm6, vm7, vm8, vm9, vm10, vm11, vm12, vm13, vm14, vm15, vmC, vmN, Nat.reduceAdd, Nat.reduceMul, Nat.reduceSub, Nat.reduceEqDiff, Nat.reduceLT, Nat.reduceLeDiff, ↓reduceIte, Tg.isFull, Int.reduceToNat]
      refine regD_of (by kernel_rfl) ?_
      simp -dsimp (disch := first | rfl | omega) only [bA, bC, bH, tellB, r24_18, if_true, if_false, e4, hOP, hwin, ↓vmP, vm0, vm1, vm2, vm3, vm4, vm5, vm6, vm7, vm8, vm9, vm10, vm11, vm12, vm13, vm14, vm15, vmC, vmN, Nat.reduceAdd, Nat.reduceMul, Nat.reduceSub, Nat.reduceEqDiff, Nat.reduceLT, Nat.reduceLeDiff, ↓reduceIte, Tg.isFull, Int.reduceToNat]
    · have e4 : (t.tdiv 1000 = b.window) = False := eq_false hwin
      generalize nextS b = s at hx hns hn1 hap ⊢
      generalize hOP : i64s (b.op ++ [s]) = OP at hap
      generalize hqq : t.tdiv 1000 = q at e4 hq hwin ⊢
      have hwr : IntKind.i64.wrap q = q := w_i64 (by omega)
      simp -dsimp (disch := first | rfl | omega) only [bA, bC, bH, r24_0, r24_1, r24_2, r24_4, callW_fn pgOwnB, callW_fn pgEnds, callW_fn pgPend, callW_fn pgOne, h1, he, hp, ho, e1, e2, vmK, hn1, ↓vmP, vm0, vm1, vm2, vm3, vm4, vm5, vm6, vm7, vm8, vm9, vm10, vm11, vm12, vm13, vm14, vm15, vmC, vmN, Nat.reduceAdd, Nat.reduceMul, Nat.reduceSub, Nat.reduceEqDiff, Nat.reduceLT, Nat.reduceLeDiff, ↓reduceIte, Tg.isFull, Int.reduceToNat]
      refine regD_of (by kernel_rfl) ?_
      simp -dsimp (disch := first | rfl | omega) only [bA, bC, bH, tellB, r24_5, r24_6, r24_7, r24_10, r24_11, r24_12, r24_13, r24_14, r24_15, r24_16, r24_17, r24_18, callW_fn pgPend, callW_fn pgOne, callW_fn pgReasons, callW_fn pgIdx, callW_fn pgTell, hte, f1_bs, fz_bs, fzB_fn, vmK, hp, ho, hn1, reasons_eq, hx, e3, e4, hqq, hwr, hap, ne_eq, not_true_eq_false, not_false_eq_true, if_true, if_false, Int.reduceEq, ↓vmP, vm0, vm1, vm2, vm3, vm4, vm5, vm6, vm7, vm8, vm9, vm10, vm11, vm12, vm13, vm14, vm15, vmC, vmN, Nat.reduceAdd, Nat.reduceMul, Nat.reduceSub, Nat.reduceEqDiff, Nat.reduceLT, Nat.reduceLeDiff, ↓reduceIte, Tg.isFull, Int.reduceToNat]
      refine regD_of (by kernel_rfl) ?_
      simp -dsimp (disch := first | rfl | omega) only [bA, bC, bH, tellB, r24_18, if_true, if_false, e4, hOP, ↓vmP, vm0, vm1, vm2, vm3, vm4, vm5, vm6, vm7, vm8, vm9, vm10, vm11, vm12, vm13, vm14, vm15, vmC, vmN, Nat.reduceAdd, Nat.reduceMul, Nat.reduceSub, Nat.reduceEqDiff, Nat.reduceLT, Nat.reduceLeDiff, ↓reduceIte, Tg.isFull, Int.reduceToNat]
theorem Offer_eq (b : Bk) (z1 z2 z3 : Nat) (hz : Zk b z1 z2 z3) (hs : Sm b) (h16 : b.nts.length ≤ 16) (t n : Int) : runW false prog 24 [.agg (bA b z1 z2 z3), .d (.int .i64 t), .d (.int .i64 n)] [] = some (offR (offerB b t n), [], []) := by
  cases hb : okOff t n with
  | false => rw [Offer_bad b z1 z2 z3 hz hs t n hb]; simp only [offerB, hb, Bool.false_eq_true, if_false]
  | true =>
    by_cases hw : 0 ≤ why b t n (nextS b)
    · simp only [offerB, hb, hw, if_true]
      by_cases hf : b.fail = 2
      · exact Offer_lost2 b z1 z2 z3 hz hs h16 t n hb hw hf
      · exact Offer_lost b z1 z2 z3 hz hs t n hb hw hf
    · simp only [offerB, hb, hw, if_true, if_false]
      exact Offer_acc b z1 z2 z3 hz hs t n hb hw
end Go.Vm.Bk
