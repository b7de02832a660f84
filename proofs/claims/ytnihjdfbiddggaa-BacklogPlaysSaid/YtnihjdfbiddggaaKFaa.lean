/- A part of the proof of BacklogPlaysSaid: YtnihjdfbiddggaaFaa. -/
import Derived.Test.YtnihjdfbiddggaaKFv
import Derived.Test.YtnihjdfbiddggaaKFn
/- Backlogs: a play; events offered to both. -/
set_option linter.unusedVariables false
set_option linter.unusedSimpArgs false
set_option maxHeartbeats 1000000
namespace Go.Vm.Bk
structure Ply where
  b : Bk
  z1 : Nat
  z2 : Nat
  z3 : Nat
  op : List (List Rec)
  time : Int
  tk : List Rec
  gv : List Int
def opD (l : List (List Rec)) : List (List D) := l.map fun e => [.sl .any 4 (recs e)]
theorem opD_len (l : List (List Rec)) : (opD l).length = l.length := by simp [opD]
theorem opD_app (a b : List (List Rec)) : opD a ++ opD b = opD (a ++ b) := by simp [opD]
def plC (x : Ply) (o t g : A) : List A := bA x.b 1 4 2 ++ (bA x.b x.z1 x.z2 x.z3 ++ [o, .d (.int .i64 x.time), t, g])
/-- In memory: nothing open, or a row of what is open. -/
def PLN (x : Ply) (f2 f3 : Bool) : List Chunk := [.box (plC x (.d (.sl .nil 0 [])) (.row 1) (.row 2)), .row 4 f2 (recs x.tk), .row 1 f3 (i64s x.gv)]
def PLR (x : Ply) (f1 f2 f3 : Bool) : List Chunk := [.box (plC x (.row 1) (.row 2) (.row 3)), .row 1 f1 (opD x.op), .row 4 f2 (recs x.tk), .row 1 f3 (i64s x.gv)]
structure Pk (k : Nat) (x : Ply) : Prop where
  i : Inv k x.b
  z : Zk x.b x.z1 x.z2 x.z3
  t : 0 ≤ x.time ∧ x.time ≤ 1000 * k
  o : x.op.length ≤ k
  e : ∀ l ∈ x.op, l ≠ [] ∧ l.length ≤ 64 ∧ ∀ r ∈ l, r.pairs.length ≤ 1
  tk : x.tk.length ≤ k * k
  gv : x.gv.length ≤ k
theorem plC_def (x : Ply) (o t g : A) : plC x o t g = bA x.b 1 4 2 ++ (bA x.b x.z1 x.z2 x.z3 ++ [o, .d (.int .i64 x.time), t, g]) := rfl
def itP (i : Int) : Par := ⟨[105, 116, 101, 109], 1, i, []⟩
def itR (t s i : Int) : Rec := ⟨1302, t, s, [itP i]⟩
def items (n : Nat) (t s : Int) : List Rec := (List.range n).map fun i : Nat => itR t s (i : Int)
theorem items_succ (n : Nat) (t s : Int) : items (n + 1) t s = items n t s ++ [itR t s n] := by simp [items, List.range_succ]
theorem items_len (n : Nat) (t s : Int) : (items n t s).length = n := by simp [items]
theorem items_zero (t s : Int) : items 0 t s = [] := rfl
theorem itP_eq (i : Int) : [[D.str ⟨⟨[105, 116, 101, 109]⟩⟩, .int .i64 1, .int .i64 i, .str ⟨⟨[]⟩⟩]] = psD [itP i] := rfl
theorem itR_eq (t s i : Int) : [[D.int .i64 1302, .int .i64 t, .int .i64 s, .sl .any 4 (psD [itP i])]] = recs [itR t s i] := rfl
set_option maxRecDepth 20000 in
theorem of_loopN {Q : Ex → St → Prop} (x : Ply) (f1 f2 f3 : Bool) (n : Nat) (hn : n ≤ 64) (s : Int) : ∀ (k j : Nat) (f : Bool) (st : St), j + k = n →
    gc [(0, none), (1, none), (9, none), (11, some 4), (12, none)] st = ⟨gS [(0, .ptr 0 0), (1, .d (.int .i64 n)), (9, .d (.int .i64 s)), (11, .row 3), (12, .d (.int .i64 j))], gH [(0, .box (plC x (.d (.sl .nil 0 [])) (.row 1) (.row 2))), (1, .row 4 f2 (recs x.tk)), (2, .row 1 f3 (i64s x.gv)), (3, .row 4 f (recs (items j x.time s)))], 4, 3, [0]⟩ →
    (∀ f T, Q (.exit 0) ⟨gS ((0, .ptr 0 0) :: (1, .d (.int .i64 n)) :: (9, .d (.int .i64 s)) :: (11, .row 3) :: T), gH [(0, .box (plC x (.d (.sl .nil 0 [])) (.row 1) (.row 2))), (1, .row 4 f2 (recs x.tk)), (2, .row 1 f3 (i64s x.gv)), (3, .row 4 f (recs (items n x.time s)))], 4 + 24, 3, [0]⟩) →
    wpW false prog (.loop [(0, none), (1, none), (9, none), (11, some 4), (12, none)] l31_12) st Q := by
  intro k
  induction k with
  | zero =>
    intro j f st hj hg hQ
    refine wp_loop1 ?_
    rw [hg]
    generalize hJ : (fun s' => wpW false prog (.loop [(0, none), (1, none), (9, none), (11, some 4), (12, none)] l31_12) s' Q) = J
    unfold l31_12
    obtain rfl : j = n := by omega
    have e0 : ((j : Int) < (j : Int)) = False := eq_false (by omega)
    have hh := hQ f
    simp only [plC, bA, bC, List.cons_append, List.nil_append] at hh ⊢
    simp -dsimp (disch := first | rfl | omega) only [r31_9, e0, ↓vmP, vm0, vm1, vm2, vm3, vm4, vm5, vm6, vm7, vm8, vm9, vm10, vm11, vm12, vm13, vm14, vm15, vmC, vmN, Nat.reduceAdd, Nat.reduceMul, Nat.reduceSub, Nat.reduceEqDiff, Nat.reduceLT, Nat.reduceLeDiff, ↓reduceIte, Tg.isFull, Int.reduceToNat]
    exact hh _
  | succ k ih =>
    intro j f st hj hg hQ
    refine wp_loop1 ?_
    rw [hg]
    generalize hJ : (fun s' => wpW false prog (.loop [(0, none), (1, none), (9, none), (11, some 4), (12, none)] l31_12) s' Q) = J
    unfold l31_12
    have e0 : ((j : Int) < (n : Int)) = True := eq_true (by omega)
    have ej : ((j : Int) + 1) = ((j + 1 : Nat) : Int) := by omega
    have h1 := itP_eq j
    have h2 := itR_eq x.time s j
    have h3 := recs_app (items j x.time s) [itR x.time s j]
    rw [← items_succ] at h3
    have h4 := recs_len (items j x.time s)
    rw [items_len] at h4
    have h5 : (recs [itR x.time s j]).length = 1 := rfl
    have ihh := fun st => ih (j + 1) false st (by omega)
    generalize psD [itP j] = X1 at h1 h2
    generalize recs [itR x.time s j] = X2 at h2 h3 h5
    generalize recs (items (j + 1) x.time s) = X3 at h3 ihh
    generalize recs (items j x.time s) = X4 at h3 h4 ⊢
    simp only [plC, bA, bC, List.cons_append, List.nil_append] at ihh ⊢
    simp -dsimp (disch := first | rfl | omega) only [r31_9, r31_10, r31_11, e0, h1, h2, h3, h4, h5, ej, ↓vmP, vm0, vm1, vm2, vm3, vm4, vm5, vm6, vm7, vm8, vm9, vm10, vm11, vm12, vm13, vm14, vm15, vmC, vmN, Nat.reduceAdd, Nat.reduceMul, Nat.reduceSub, Nat.reduceEqDiff, Nat.reduceLT, Nat.reduceLeDiff, ↓reduceIte, Tg.isFull, Int.reduceToNat]
    rw [← hJ]
    simp only [plC, bA, bC, List.cons_append, List.nil_append] at hQ
    exact ihh _ (by simp -dsimp (disch := first | rfl | omega) only [bA, ↓vmP, vm0, vm1, vm2, vm3, vm4, vm5, vm6, vm7, vm8, vm9, vm10, vm11, vm12, vm13, vm14, vm15, vmC, vmN, Nat.reduceAdd, Nat.reduceMul, Nat.reduceSub, Nat.reduceEqDiff, Nat.reduceLT, Nat.reduceLeDiff, ↓reduceIte, Tg.isFull, Int.reduceToNat]) hQ
set_option maxRecDepth 20000 in
theorem of_loopR {Q : Ex → St → Prop} (x : Ply) (f1 f2 f3 : Bool) (n : Nat) (hn : n ≤ 64) (s : Int) : ∀ (k j : Nat) (f : Bool) (st : St), j + k = n →
    gc [(0, none), (1, none), (9, none), (11, some 4), (12, none)] st = ⟨gS [(0, .ptr 0 0), (1, .d (.int .i64 n)), (9, .d (.int .i64 s)), (11, .row 4), (12, .d (.int .i64 j))], gH [(0, .box (plC x (.row 1) (.row 2) (.row 3))), (1, .row 1 f1 (opD x.op)), (2, .row 4 f2 (recs x.tk)), (3, .row 1 f3 (i64s x.gv)), (4, .row 4 f (recs (items j x.time s)))], 5, 4, [0]⟩ →
    (∀ f T, Q (.exit 0) ⟨gS ((0, .ptr 0 0) :: (1, .d (.int .i64 n)) :: (9, .d (.int .i64 s)) :: (11, .row 4) :: T), gH [(0, .box (plC x (.row 1) (.row 2) (.row 3))), (1, .row 1 f1 (opD x.op)), (2, .row 4 f2 (recs x.tk)), (3, .row 1 f3 (i64s x.gv)), (4, .row 4 f (recs (items n x.time s)))], 5 + 24, 4, [0]⟩) →
    wpW false prog (.loop [(0, none), (1, none), (9, none), (11, some 4), (12, none)] l31_12) st Q := by
  intro k
  induction k with
  | zero =>
    intro j f st hj hg hQ
    refine wp_loop1 ?_
    rw [hg]
    generalize hJ : (fun s' => wpW false prog (.loop [(0, none), (1, none), (9, none), (11, some 4), (12, none)] l31_12) s' Q) = J
    unfold l31_12
    obtain rfl : j = n := by omega
    have e0 : ((j : Int) < (j : Int)) = False := eq_false (by omega)
    have hh := hQ f
    simp only [plC, bA, bC, List.cons_append, List.nil_append] at hh ⊢
    simp -dsimp (disch := first | rfl | omega) only [r31_9, e0, ↓vmP, vm0, vm1, vm2, vm3, vm4, vm5, vm6, vm7, vm8, vm9, vm10, vm11, vm12, vm13, vm14, vm15, vmC, vmN, Nat.reduceAdd, Nat.reduceMul, Nat.reduceSub, Nat.reduceEqDiff, Nat.reduceLT, Nat.reduceLeDiff, ↓reduceIte, Tg.isFull, Int.reduceToNat]
    exact hh _
  | succ k ih =>
    intro j f st hj hg hQ
    refine wp_loop1 ?_
    rw [hg]
    generalize hJ : (fun s' => wpW false prog (.loop [(0, none), (1, none), (9, none), (11, some 4), (12, none)] l31_12) s' Q) = J
    unfold l31_12
    have e0 : ((j : Int) < (n : Int)) = True := eq_true (by omega)
    have ej : ((j : Int) + 1) = ((j + 1 : Nat) : Int) := by omega
    have h1 := itP_eq j
    have h2 := itR_eq x.time s j
    have h3 := recs_app (items j x.time s) [itR x.time s j]
    rw [← items_succ] at h3
    have h4 := recs_len (items j x.time s)
    rw [items_len] at h4
    have h5 : (recs [itR x.time s j]).length = 1 := rfl
    have ihh := fun st => ih (j + 1) false st (by omega)
    generalize psD [itP j] = X1 at h1 h2
    generalize recs [itR x.time s j] = X2 at h2 h3 h5
    generalize recs (items (j + 1) x.time s) = X3 at h3 ihh
    generalize recs (items j x.time s) = X4 at h3 h4 ⊢
    simp only [plC, bA, bC, List.cons_append, List.nil_append] at ihh ⊢
    simp -dsimp (disch := first | rfl | omega) only [r31_9, r31_10, r31_11, e0, h1, h2, h3, h4, h5, ej, ↓vmP, vm0, vm1, vm2, vm3, vm4, vm5, vm6, vm7, vm8, vm9, vm10, vm11, vm12, vm13, vm14, vm15, vmC, vmN, Nat.reduceAdd, Nat.reduceMul, Nat.reduceSub, Nat.reduceEqDiff, Nat.reduceLT, Nat.reduceLeDiff, ↓reduceIte, Tg.isFull, Int.reduceToNat]
    rw [← hJ]
    simp only [plC, bA, bC, List.cons_append, List.nil_append] at hQ
    exact ihh _ (by simp -dsimp (disch := first | rfl | omega) only [bA, ↓vmP, vm0, vm1, vm2, vm3, vm4, vm5, vm6, vm7, vm8, vm9, vm10, vm11, vm12, vm13, vm14, vm15, vmC, vmN, Nat.reduceAdd, Nat.reduceMul, Nat.reduceSub, Nat.reduceEqDiff, Nat.reduceLT, Nat.reduceLeDiff, ↓reduceIte, Tg.isFull, Int.reduceToNat]) hQ
def setB (x : Ply) (b : Bk) (z1 z2 z3 : Nat) : Ply := { x with b := b, z1 := z1, z2 := z2, z3 := z3 }
def accP (x : Ply) (b : Bk) (n : Nat) (s : Int) : Ply := { x with b := b, z1 := 1, z2 := 4, z3 := 2, op := x.op ++ [items n x.time s], gv := x.gv ++ [s] }
def offerP (x : Ply) (n : Int) : Ply := if (offerB x.b x.time n).2.2 then accP x (offerB x.b x.time n).1 n.toNat (offerB x.b x.time n).2.1 else setB x (offerB x.b x.time n).1 1 4 2
theorem opD_one (l : List Rec) : [[D.sl .any 4 (recs l)]] = opD [l] := rfl
theorem i64_one (s : Int) : [[D.int .i64 s]] = i64s [s] := rfl
set_option maxRecDepth 20000 in
theorem off_lostN (x : Ply) (k : Nat) (hk : k ≤ 9000) (h : Pk k x) (f1 f2 f3 : Bool) (n : Int) (hl : (offerB x.b x.time n).2.2 = false) : runW false prog 31 [.ptr 0 0, .d (.int .i64 n)] (PLN x f2 f3) = some (.d (.bool true), PLN (offerP x n) f2 f3, [0]) := by
  have hO := Offer_eq x.b 1 4 2 (zk_of _) (h.i.sm (by omega)) h.i.ln x.time n
  have hR := ROffer_eq x.b x.z1 x.z2 x.z3 h.z (h.i.sm (by omega)) h.i.pp h.i.ln x.time n
  have hbt : (true == true) = true := rfl
  have hbf : (false == false) = true := rfl
  have ht := h.t
  have hx : offerP x n = setB x (offerB x.b x.time n).1 1 4 2 := by unfold offerP; rw [hl]; rfl
  simp only [offR, hl] at hO hR
  simp only [PLN, plC]
  rw [hx]
  simp only [setB]
  generalize (offerB x.b x.time n).2.1 = s at hO hR
  generalize (offerB x.b x.time n).1 = c at hO hR ⊢
  simp only [bA, bC, List.cons_append, List.nil_append] at hO hR ⊢
  refine run_of rfl ?_
  simp -dsimp (disch := first | rfl | omega) only [r31_0, r31_1, callW_fn pgOffer, hO, ↓vmP, vm0, vm1, vm2, vm3, vm4, vm5, vm6, vm7, vm8, vm9, vm10, vm11, vm12, vm13, vm14, vm15, vmC, vmN, Nat.reduceAdd, Nat.reduceMul, Nat.reduceSub, Nat.reduceEqDiff, Nat.reduceLT, Nat.reduceLeDiff, ↓reduceIte, Tg.isFull, Int.reduceToNat]
  refine regD_of (by kernel_rfl) ?_
  simp -dsimp (disch := first | rfl | omega) only [r31_2, callW_fn pgROffer, hR, ↓vmP, vm0, vm1, vm2, vm3, vm4, vm5, vm6, vm7, vm8, vm9, vm10, vm11, vm12, vm13, vm14, vm15, vmC, vmN, Nat.reduceAdd, Nat.reduceMul, Nat.reduceSub, Nat.reduceEqDiff, Nat.reduceLT, Nat.reduceLeDiff, ↓reduceIte, Tg.isFull, Int.reduceToNat]
  refine regD_of (by kernel_rfl) ?_
  simp -dsimp (disch := first | rfl | omega) only [r31_3, ↓vmP, vm0, vm1, vm2, vm3, vm4, vm5, vm6, vm7, vm8, vm9, vm10, vm11, vm12, vm13, vm14, vm15, vmC, vmN, Nat.reduceAdd, Nat.reduceMul, Nat.reduceSub, Nat.reduceEqDiff, Nat.reduceLT, Nat.reduceLeDiff, ↓reduceIte, Tg.isFull, Int.reduceToNat]
  refine regD_of (by kernel_rfl) ?_
  simp -dsimp (disch := first | rfl | omega) only [r31_4, r31_6, r31_15, hbt, hbf, Bool.not_true, ne_eq, not_true_eq_false, ↓vmP, vm0, vm1, vm2, vm3, vm4, vm5, vm6, vm7, vm8, vm9, vm10, vm11, vm12, vm13, vm14, vm15, vmC, vmN, Nat.reduceAdd, Nat.reduceMul, Nat.reduceSub, Nat.reduceEqDiff, Nat.reduceLT, Nat.reduceLeDiff, ↓reduceIte, Tg.isFull, Int.reduceToNat]
set_option maxRecDepth 20000 in
theorem off_accN (x : Ply) (k : Nat) (hk : k ≤ 9000) (h : Pk k x) (hop : x.op = []) (f1 f2 f3 : Bool) (n : Int) (hl : (offerB x.b x.time n).2.2 = true) : runW false prog 31 [.ptr 0 0, .d (.int .i64 n)] (PLN x f2 f3) = some (.d (.bool true), [.box (plC (offerP x n) (.row 3) (.row 1) (.row 4)), .row 4 f2 (recs x.tk), .dead, .row 1 false (opD (offerP x n).op), .row 1 false (i64s (offerP x n).gv)], [0, 2]) := by
  have hO := Offer_eq x.b 1 4 2 (zk_of _) (h.i.sm (by omega)) h.i.ln x.time n
  have hR := ROffer_eq x.b x.z1 x.z2 x.z3 h.z (h.i.sm (by omega)) h.i.pp h.i.ln x.time n
  have hbt : (true == true) = true := rfl
  have hbf : (false == false) = true := rfl
  have ht := h.t
  have hx : offerP x n = accP x (offerB x.b x.time n).1 n.toNat (offerB x.b x.time n).2.1 := by unfold offerP; rw [hl]; rfl
  have hn : (n.toNat : Int) = n ∧ n.toNat ≤ 64 := by
    have : okOff x.time n = true := by
      unfold offerB at hl
      split at hl
      · assumption
      · cases hl
    obtain ⟨hn, _⟩ := ok_t this
    omega
  simp only [offR, hl] at hO hR
  have hgl := i64s_len x.gv
  have hgb := h.gv
  have hol := opD_len x.op
  have hob := h.o
  generalize hS : (offerB x.b x.time n).2.1 = s at hO hR hx
  generalize hC : (offerB x.b x.time n).1 = c at hO hR hx
  rw [hx]
  have hlp := fun Q st => of_loopN (Q := Q) (setB x c 1 4 2) f1 f2 f3 n.toNat hn.2 s n.toNat 0 true st (by omega)
  have h1 := opD_one (items n.toNat x.time s)
  have h2 := opD_app x.op [items n.toNat x.time s]
  have h3 := i64s_app x.gv [s]
  have h4 := i64_one s
  have h5 : (opD [items n.toNat x.time s]).length = 1 := rfl
  have h6 : (i64s [s]).length = 1 := rfl
  have h7 : (opD [items n.toNat x.time s]).isEmpty = false := rfl
  replace h2 : opD [items n.toNat x.time s] = opD (x.op ++ [items n.toNat x.time s]) := by rw [hop]; rfl
  rw [hn.1] at hlp
  simp only [accP, plC, PLN]
  simp only [setB, plC] at hlp
  rw [items_zero, recs_nil] at hlp
  generalize recs (items n.toNat x.time s) = I at h1 hlp
  generalize opD [items n.toNat x.time s] = X1 at h1 h2 h5 h7
  generalize opD (x.op ++ [items n.toNat x.time s]) = X2 at h2 ⊢
  generalize i64s [s] = X3 at h3 h4 h6
  generalize i64s (x.gv ++ [s]) = X4 at h3 ⊢
  simp only [bA, bC, List.cons_append, List.nil_append] at hO hR hlp ⊢
  refine run_of rfl ?_
  simp -dsimp (disch := first | rfl | omega) only [r31_0, r31_1, callW_fn pgOffer, hO, ↓vmP, vm0, vm1, vm2, vm3, vm4, vm5, vm6, vm7, vm8, vm9, vm10, vm11, vm12, vm13, vm14, vm15, vmC, vmN, Nat.reduceAdd, Nat.reduceMul, Nat.reduceSub, Nat.reduceEqDiff, Nat.reduceLT, Nat.reduceLeDiff, ↓reduceIte, Tg.isFull, Int.reduceToNat]
  refine regD_of (by kernel_rfl) ?_
  simp -dsimp (disch := first | rfl | omega) only [r31_2, callW_fn pgROffer, hR, ↓vmP, vm0, vm1, vm2, vm3, vm4, vm5, vm6, vm7, vm8, vm9, vm10, vm11, vm12, vm13, vm14, vm15, vmC, vmN, Nat.reduceAdd, Nat.reduceMul, Nat.reduceSub, Nat.reduceEqDiff, Nat.reduceLT, Nat.reduceLeDiff, ↓reduceIte, Tg.isFull, Int.reduceToNat]
  refine regD_of (by kernel_rfl) ?_
  simp -dsimp (disch := first | rfl | omega) only [r31_3, ↓vmP, vm0, vm1, vm2, vm3, vm4, vm5, vm6, vm7, vm8, vm9, vm10, vm11, vm12, vm13, vm14, vm15, vmC, vmN, Nat.reduceAdd, Nat.reduceMul, Nat.reduceSub, Nat.reduceEqDiff, Nat.reduceLT, Nat.reduceLeDiff, ↓reduceIte, Tg.isFull, Int.reduceToNat]
  refine regD_of (by kernel_rfl) ?_
  simp -dsimp (disch := first | rfl | omega) only [r31_4, r31_6, r31_15, r31_7, r31_8, hbt, hbf, Bool.not_true, ne_eq, not_true_eq_false, ↓vmP, vm0, vm1, vm2, vm3, vm4, vm5, vm6, vm7, vm8, vm9, vm10, vm11, vm12, vm13, vm14, vm15, vmC, vmN, Nat.reduceAdd, Nat.reduceMul, Nat.reduceSub, Nat.reduceEqDiff, Nat.reduceLT, Nat.reduceLeDiff, ↓reduceIte, Tg.isFull, Int.reduceToNat]
  refine hlp _ _ (by simp -dsimp (disch := first | rfl | omega) only [bA, ↓vmP, vm0, vm1, vm2, vm3, vm4, vm5, vm6, vm7, vm8, vm9, vm10, vm11, vm12, vm13, vm14, vm15, vmC, vmN, Nat.reduceAdd, Nat.reduceMul, Nat.reduceSub, Nat.reduceEqDiff, Nat.reduceLT, Nat.reduceLeDiff, ↓reduceIte, Tg.isFull, Int.reduceToNat]; rfl) (fun f T => ?_)
  simp -dsimp (disch := first | rfl | omega) only [r31_13, r31_14, r31_15, h1, h3, h4, h5, h6, h7, hol, hgl, ↓vmP, vm0, vm1, vm2, vm3, vm4, vm5, vm6, vm7, vm8, vm9, vm10, vm11, vm12, vm13, vm14, vm15, vmC, vmN, Nat.reduceAdd, Nat.reduceMul, Nat.reduceSub, Nat.reduceEqDiff, Nat.reduceLT, Nat.reduceLeDiff, ↓reduceIte, Tg.isFull, Int.reduceToNat]
  rw [h2]
set_option maxRecDepth 20000 in
theorem off_lostR (x : Ply) (k : Nat) (hk : k ≤ 9000) (h : Pk k x) (f1 f2 f3 : Bool) (n : Int) (hl : (offerB x.b x.time n).2.2 = false) : runW false prog 31 [.ptr 0 0, .d (.int .i64 n)] (PLR x f1 f2 f3) = some (.d (.bool true), PLR (offerP x n) f1 f2 f3, [0]) := by
  have hO := Offer_eq x.b 1 4 2 (zk_of _) (h.i.sm (by omega)) h.i.ln x.time n
  have hR := ROffer_eq x.b x.z1 x.z2 x.z3 h.z (h.i.sm (by omega)) h.i.pp h.i.ln x.time n
  have hbt : (true == true) = true := rfl
  have hbf : (false == false) = true := rfl
  have ht := h.t
  have hx : offerP x n = setB x (offerB x.b x.time n).1 1 4 2 := by unfold offerP; rw [hl]; rfl
  simp only [offR, hl] at hO hR
  simp only [PLR, plC]
  rw [hx]
  simp only [setB]
  generalize (offerB x.b x.time n).2.1 = s at hO hR
  generalize (offerB x.b x.time n).1 = c at hO hR ⊢
  simp only [bA, bC, List.cons_append, List.nil_append] at hO hR ⊢
  refine run_of rfl ?_
  simp -dsimp (disch := first | rfl | omega) only [r31_0, r31_1, callW_fn pgOffer, hO, ↓vmP, vm0, vm1, vm2, vm3, vm4, vm5, vm6, vm7, vm8, vm9, vm10, vm11, vm12, vm13, vm14, vm15, vmC, vmN, Nat.reduceAdd, Nat.reduceMul, Nat.reduceSub, Nat.reduceEqDiff, Nat.reduceLT, Nat.reduceLeDiff, ↓reduceIte, Tg.isFull, Int.reduceToNat]
  refine regD_of (by kernel_rfl) ?_
  simp -dsimp (disch := first | rfl | omega) only [r31_2, callW_fn pgROffer, hR, ↓vmP, vm0, vm1, vm2, vm3, vm4, vm5, vm6, vm7, vm8, vm9, vm10, vm11, vm12, vm13, vm14, vm15, vmC, vmN, Nat.reduceAdd, Nat.reduceMul, Nat.reduceSub, Nat.reduceEqDiff, Nat.reduceLT, Nat.reduceLeDiff, ↓reduceIte, Tg.isFull, Int.reduceToNat]
  refine regD_of (by kernel_rfl) ?_
  simp -dsimp (disch := first | rfl | omega) only [r31_3, ↓vmP, vm0, vm1, vm2, vm3, vm4, vm5, vm6, vm7, vm8, vm9, vm10, vm11, vm12, vm13, vm14, vm15, vmC, vmN, Nat.reduceAdd, Nat.reduceMul, Nat.reduceSub, Nat.reduceEqDiff, Nat.reduceLT, Nat.reduceLeDiff, ↓reduceIte, Tg.isFull, Int.reduceToNat]
  refine regD_of (by kernel_rfl) ?_
  simp -dsimp (disch := first | rfl | omega) only [r31_4, r31_6, r31_15, hbt, hbf, Bool.not_true, ne_eq, not_true_eq_false, ↓vmP, vm0, vm1, vm2, vm3, vm4, vm5, vm6, vm7, vm8, vm9, vm10, vm11, vm12, vm13, vm14, vm15, vmC, vmN, Nat.reduceAdd, Nat.reduceMul, Nat.reduceSub, Nat.reduceEqDiff, Nat.reduceLT, Nat.reduceLeDiff, ↓reduceIte, Tg.isFull, Int.reduceToNat]
set_option maxRecDepth 20000 in
theorem off_accR (x : Ply) (k : Nat) (hk : k ≤ 9000) (h : Pk k x) (f1 f2 f3 : Bool) (n : Int) (hl : (offerB x.b x.time n).2.2 = true) : runW false prog 31 [.ptr 0 0, .d (.int .i64 n)] (PLR x f1 f2 f3) = some (.d (.bool true), [.box (plC (offerP x n) (.row 4) (.row 2) (.row 5)), .dead, .row 4 f2 (recs x.tk), .dead, .row 1 false (opD (offerP x n).op), .row 1 false (i64s (offerP x n).gv)], [0, 1, 3]) := by
  have hO := Offer_eq x.b 1 4 2 (zk_of _) (h.i.sm (by omega)) h.i.ln x.time n
  have hR := ROffer_eq x.b x.z1 x.z2 x.z3 h.z (h.i.sm (by omega)) h.i.pp h.i.ln x.time n
  have hbt : (true == true) = true := rfl
  have hbf : (false == false) = true := rfl
  have ht := h.t
  have hx : offerP x n = accP x (offerB x.b x.time n).1 n.toNat (offerB x.b x.time n).2.1 := by unfold offerP; rw [hl]; rfl
  have hn : (n.toNat : Int) = n ∧ n.toNat ≤ 64 := by
    have : okOff x.time n = true := by
      unfold offerB at hl
      split at hl
      · assumption
      · cases hl
    obtain ⟨hn, _⟩ := ok_t this
    omega
  simp only [offR, hl] at hO hR
  have hgl := i64s_len x.gv
  have hgb := h.gv
  have hol := opD_len x.op
  have hob := h.o
  generalize hS : (offerB x.b x.time n).2.1 = s at hO hR hx
  generalize hC : (offerB x.b x.time n).1 = c at hO hR hx
  rw [hx]
  have hlp := fun Q st => of_loopR (Q := Q) (setB x c 1 4 2) f1 f2 f3 n.toNat hn.2 s n.toNat 0 true st (by omega)
  have h1 := opD_one (items n.toNat x.time s)
  have h2 := opD_app x.op [items n.toNat x.time s]
  have h3 := i64s_app x.gv [s]
  have h4 := i64_one s
  have h5 : (opD [items n.toNat x.time s]).length = 1 := rfl
  have h6 : (i64s [s]).length = 1 := rfl
  have h7 : (opD [items n.toNat x.time s]).isEmpty = false := rfl
  skip
  rw [hn.1] at hlp
  simp only [accP, plC, PLR]
  simp only [setB, plC] at hlp
  rw [items_zero, recs_nil] at hlp
  generalize recs (items n.toNat x.time s) = I at h1 hlp
  generalize opD [items n.toNat x.time s] = X1 at h1 h2 h5 h7
  generalize opD (x.op ++ [items n.toNat x.time s]) = X2 at h2 ⊢
  generalize i64s [s] = X3 at h3 h4 h6
  generalize i64s (x.gv ++ [s]) = X4 at h3 ⊢
  simp only [bA, bC, List.cons_append, List.nil_append] at hO hR hlp ⊢
  refine run_of rfl ?_
  simp -dsimp (disch := first | rfl | omega) only [r31_0, r31_1, callW_fn pgOffer, hO, ↓vmP, vm0, vm1, vm2, vm3, vm4, vm5, vm6, vm7, vm8, vm9, vm10, vm11, vm12, vm13, vm14, vm15, vmC, vmN, Nat.reduceAdd, Nat.reduceMul, Nat.reduceSub, Nat.reduceEqDiff, Nat.reduceLT, Nat.reduceLeDiff, ↓reduceIte, Tg.isFull, Int.reduceToNat]
  refine regD_of (by kernel_rfl) ?_
  simp -dsimp (disch := first | rfl | omega) only [r31_2, callW_fn pgROffer, hR, ↓vmP, vm0, vm1, vm2, vm3, vm4, vm5, vm6, vm7, vm8, vm9, vm10, vm11, vm12, vm13, vm14, vm15, vmC, vmN, Nat.reduceAdd, Nat.reduceMul, Nat.reduceSub, Nat.reduceEqDiff, Nat.reduceLT, Nat.reduceLeDiff, ↓reduceIte, Tg.isFull, Int.reduceToNat]
  refine regD_of (by kernel_rfl) ?_
  simp -dsimp (disch := first | rfl | omega) only [r31_3, ↓vmP, vm0, vm1, vm2, vm3, vm4, vm5, vm6, vm7, vm8, vm9, vm10, vm11, vm12, vm13, vm14, vm15, vmC, vmN, Nat.reduceAdd, Nat.reduceMul, Nat.reduceSub, Nat.reduceEqDiff, Nat.reduceLT, Nat.reduceLeDiff, ↓reduceIte, Tg.isFull, Int.reduceToNat]
  refine regD_of (by kernel_rfl) ?_
  simp -dsimp (disch := first | rfl | omega) only [r31_4, r31_6, r31_15, r31_7, r31_8, hbt, hbf, Bool.not_true, ne_eq, not_true_eq_false, ↓vmP, vm0, vm1, vm2, vm3, vm4, vm5, vm6, vm7, vm8, vm9, vm10, vm11, vm12, vm13, vm14, vm15, vmC, vmN, Nat.reduceAdd, Nat.reduceMul, Nat.reduceSub, Nat.reduceEqDiff, Nat.reduceLT, Nat.reduceLeDiff, ↓reduceIte, Tg.isFull, Int.reduceToNat]
  refine hlp _ _ (by simp -dsimp (disch := first | rfl | omega) only [bA, ↓vmP, vm0, vm1, vm2, vm3, vm4, vm5, vm6, vm7, vm8, vm9, vm10, vm11, vm12, vm13, vm14, vm15, vmC, vmN, Nat.reduceAdd, Nat.reduceMul, Nat.reduceSub, Nat.reduceEqDiff, Nat.reduceLT, Nat.reduceLeDiff, ↓reduceIte, Tg.isFull, Int.reduceToNat]; rfl) (fun f T => ?_)
  simp -dsimp (disch := first | rfl | omega) only [r31_13, r31_14, r31_15, h1, h2, h3, h4, h5, h6, h7, hol, hgl, ↓vmP, vm0, vm1, vm2, vm3, vm4, vm5, vm6, vm7, vm8, vm9, vm10, vm11, vm12, vm13, vm14, vm15, vmC, vmN, Nat.reduceAdd, Nat.reduceMul, Nat.reduceSub, Nat.reduceEqDiff, Nat.reduceLT, Nat.reduceLeDiff, ↓reduceIte, Tg.isFull, Int.reduceToNat]
end Go.Vm.Bk
