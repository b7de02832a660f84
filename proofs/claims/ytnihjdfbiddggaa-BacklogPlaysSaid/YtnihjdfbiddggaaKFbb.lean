/- A part of the proof of BacklogPlaysSaid: YtnihjdfbiddggaaFbb. -/
import Derived.Test.YtnihjdfbiddggaaKFaa
/- Backlogs: a play; records put. -/
set_option linter.unusedVariables false
set_option linter.unusedSimpArgs false
set_option maxHeartbeats 1000000
namespace Go.Vm.Bk
theorem opD_at (l : List (List Rec)) {i : Nat} {e : List Rec} (h : l[i]? = some e) : (opD l)[i]? = some [.sl .any 4 (recs e)] := by simp [opD, h]
theorem opD_set (l : List (List Rec)) (i : Nat) (e : List Rec) : (opD l).set i [.sl .any 4 (recs e)] = opD (l.set i e) := by simp [opD, List.map_set]
theorem opD_set_at (l : List (List Rec)) {i : Nat} (e : List Rec) (h : i < l.length) : (opD (l.set i e))[i]? = some [.sl .any 4 (recs e)] := opD_at _ (by simp [h])
def putP (x : Ply) (i : Nat) (r : Rec) (l : List Rec) : Ply := { x with b := putB x.b r l.isEmpty, z1 := 1, z2 := 4, z3 := 2, op := if l.isEmpty then x.op.take i ++ x.op.drop (i + 1) else x.op.set i l }
theorem set_take (l : List (List Rec)) (i : Nat) (e : List Rec) : (opD (l.set i e)).take i = opD (l.take i) := by
  unfold opD; rw [← List.map_take, List.take_set_of_le (Nat.le_refl _)]
theorem set_drop (l : List (List Rec)) (i : Nat) (e : List Rec) : (opD (l.set i e)).drop (i + 1) = opD (l.drop (i + 1)) := by
  unfold opD; rw [← List.map_drop, List.drop_set_of_lt (Nat.lt_succ_self _)]
set_option maxRecDepth 20000 in
theorem put_more (x : Ply) (k : Nat) (hk : k ≤ 9000) (h : Pk k x) (f1 f2 f3 : Bool) (i : Nat) (r : Rec) (l : List Rec) (hi : x.op[i]? = some (r :: l)) (hl : l.isEmpty = false) : runW false prog 32 [.ptr 0 0, .d (.int .i64 i)] (PLR x f1 f2 f3) = some (.tup [], PLR (putP x i r l) f1 f2 f3, [1, 0]) := by
  have hil : i < x.op.length := by
    rcases Nat.lt_or_ge i x.op.length with hlt | hge
    · exact hlt
    · rw [List.getElem?_eq_none hge] at hi; cases hi
  have hmem : r :: l ∈ x.op := List.mem_of_getElem? hi
  have hrp : r.pairs.length ≤ 1 := (h.e _ hmem).2.2 r (List.mem_cons_self ..)
  have hll : (r :: l).length ≤ 64 := (h.e _ hmem).2.1
  rw [List.length_cons] at hll
  have hP := Put_eq x.b 1 4 2 (zk_of _) (h.i.sm (by omega)) r (by omega) l.isEmpty
  have hR := RPut_eq x.b x.z1 x.z2 x.z3 h.z (h.i.sm (by omega)) r (by omega) l.isEmpty
  have hol := opD_len x.op
  have hob := h.o
  have hat := opD_at x.op hi
  have hat2 := opD_set_at x.op l hil
  have hsl : (opD (x.op.set i l)).length = x.op.length := by rw [opD_len, List.length_set]
  have hst := opD_set x.op i l
  have hrl : (recs (r :: l)).length = l.length + 1 := by rw [recs_len, List.length_cons]
  have hrl2 := recs_len l
  have h0 : (recs (r :: l))[0]? = some (recC r) := rfl
  have hdr : (recs (r :: l)).drop 1 = recs l := rfl
  have htk : (recs l).take l.length = recs l := List.take_of_length_le (by rw [recs_len]; omega)
  rw [hl] at hP hR
  have hl0 : ((l.length : Int) = 0) = False := eq_false (by cases l <;> simp_all; omega)
  simp only [putP, PLR, plC, hl, Bool.false_eq_true, if_false]
  generalize putB x.b r false = c at hP hR ⊢
  generalize opD (x.op.set i l) = X2 at hat2 hsl hst ⊢
  generalize recs l = X4 at hdr hst hat2 hrl2 htk
  generalize recs (r :: l) = X3 at hat hrl h0 hdr
  generalize opD x.op = X1 at hat hst hol ⊢
  simp only [recA] at hP hR
  simp only [recC] at h0
  simp only [bA, bC, List.cons_append, List.nil_append] at hP hR ⊢
  refine run_of rfl ?_
  simp -dsimp (disch := first | rfl | omega) only [r32_0, r32_1, hat, h0, hol, hdr, hst, hrl, htk, ↓vmP, vm0, vm1, vm2, vm3, vm4, vm5, vm6, vm7, vm8, vm9, vm10, vm11, vm12, vm13, vm14, vm15, vmC, vmN, Nat.reduceAdd, Nat.reduceMul, Nat.reduceSub, Nat.reduceEqDiff, Nat.reduceLT, Nat.reduceLeDiff, ↓reduceIte, Tg.isFull, Int.reduceToNat]
  refine regD_of (by kernel_rfl) ?_
  simp -dsimp (disch := first | rfl | omega) only [hdr, hst, hrl, htk, r32_2, r32_3, hat2, hrl2, hsl, hl0, callW_fn pgPut, callW_fn pgRPut, hP, hR, ↓vmP, vm0, vm1, vm2, vm3, vm4, vm5, vm6, vm7, vm8, vm9, vm10, vm11, vm12, vm13, vm14, vm15, vmC, vmN, Nat.reduceAdd, Nat.reduceMul, Nat.reduceSub, Nat.reduceEqDiff, Nat.reduceLT, Nat.reduceLeDiff, ↓reduceIte, Tg.isFull, Int.reduceToNat]
  refine regD_of (by kernel_rfl) ?_
  simp -dsimp (disch := first | rfl | omega) only [r32_4, ↓vmP, vm0, vm1, vm2, vm3, vm4, vm5, vm6, vm7, vm8, vm9, vm10, vm11, vm12, vm13, vm14, vm15, vmC, vmN, Nat.reduceAdd, Nat.reduceMul, Nat.reduceSub, Nat.reduceEqDiff, Nat.reduceLT, Nat.reduceLeDiff, ↓reduceIte, Tg.isFull, Int.reduceToNat]
theorem sub_take (X : List (List D)) (i : Nat) : (X.drop 0).take (i - 0) = X.take i := rfl
set_option maxRecDepth 20000 in
theorem put_one (x : Ply) (k : Nat) (hk : k ≤ 9000) (h : Pk k x) (f1 f2 f3 : Bool) (i : Nat) (r : Rec) (hi : x.op[i]? = some [r]) (hl1 : x.op.length = 1) : runW false prog 32 [.ptr 0 0, .d (.int .i64 i)] (PLR x f1 f2 f3) = some (.tup [], [.box (plC (putP x i r []) (.d (.sl .nil 0 [])) (.row 2) (.row 3)), .row 1 f1 (opD (x.op.set i [])), .row 4 f2 (recs x.tk), .row 1 f3 (i64s x.gv)], [1, 0]) := by
  have hil : i < x.op.length := by
    rcases Nat.lt_or_ge i x.op.length with hlt | hge
    · exact hlt
    · rw [List.getElem?_eq_none hge] at hi; cases hi
  have hmem : [r] ∈ x.op := List.mem_of_getElem? hi
  have hrp : r.pairs.length ≤ 1 := (h.e _ hmem).2.2 r (List.mem_cons_self ..)
  have hll : ([r] : List Rec).length ≤ 64 := (h.e _ hmem).2.1
  have hP := Put_eq x.b 1 4 2 (zk_of _) (h.i.sm (by omega)) r (by omega) ([] : List Rec).isEmpty
  have hR := RPut_eq x.b x.z1 x.z2 x.z3 h.z (h.i.sm (by omega)) r (by omega) ([] : List Rec).isEmpty
  have hol := opD_len x.op
  have hob := h.o
  have hat := opD_at x.op hi
  have hat2 := opD_set_at x.op [] hil
  have hsl : (opD (x.op.set i [])).length = x.op.length := by rw [opD_len, List.length_set]
  have hst := opD_set x.op i []
  have hrl : (recs ([r])).length = 0 + 1 := by rfl
  have hrl2 := recs_len []
  have h0 : (recs ([r]))[0]? = some (recC r) := rfl
  have hdr : (recs ([r])).drop 1 = recs [] := rfl
  have htk : (recs []).take 0 = recs [] := rfl
  obtain rfl : i = 0 := by omega
  have hnil : x.op.drop 1 = [] := List.drop_of_length_le (by omega)
  have hd1 : (opD (x.op.set 0 [])).drop 1 = [] := by rw [set_drop, hnil]; rfl
  have i0 : ((0 : Nat) : Int) = 0 := rfl
  have hl0 : ((0 : Nat) : Int) = 0 := rfl
  have hem : (([] : List Rec).isEmpty) = true := rfl
  rw [hem] at hP hR
  simp only [putP, PLR, plC, hem, if_true]
  generalize opD (x.op.set 0 []) = X2 at hat2 hsl hst hd1 ⊢
  generalize putB x.b r true = c at hP hR ⊢
  generalize recs [] = X4 at hdr hst hat2 hrl2 htk
  generalize recs [r] = X3 at hat hrl h0 hdr
  generalize opD x.op = X1 at hat hst hol ⊢
  simp only [recA] at hP hR
  simp only [recC] at h0
  simp only [bA, bC, List.cons_append, List.nil_append] at hP hR ⊢
  refine run_of rfl ?_
  simp -dsimp (disch := first | rfl | omega) only [r32_0, r32_1, hat, h0, hol, hdr, hst, hrl, htk, hl0, ↓vmP, vm0, vm1, vm2, vm3, vm4, vm5, vm6, vm7, vm8, vm9, vm10, vm11, vm12, vm13, vm14, vm15, vmC, vmN, Nat.reduceAdd, Nat.reduceMul, Nat.reduceSub, Nat.reduceEqDiff, Nat.reduceLT, Nat.reduceLeDiff, ↓reduceIte, Tg.isFull, Int.reduceToNat]
  refine regD_of (by kernel_rfl) ?_
  simp -dsimp (disch := first | rfl | omega) only [hdr, hst, hrl, htk, r32_2, r32_3, hat2, hrl2, hsl, hl0, callW_fn pgPut, callW_fn pgRPut, hP, hR, ↓vmP, vm0, vm1, vm2, vm3, vm4, vm5, vm6, vm7, vm8, vm9, vm10, vm11, vm12, vm13, vm14, vm15, vmC, vmN, Nat.reduceAdd, Nat.reduceMul, Nat.reduceSub, Nat.reduceEqDiff, Nat.reduceLT, Nat.reduceLeDiff, ↓reduceIte, Tg.isFull, Int.reduceToNat]
  refine regD_of (by kernel_rfl) ?_
  simp -dsimp (disch := first | rfl | omega) only [r32_4, r32_5, hsl, hd1, i0, Int.zero_add, Int.toNat_one, ↓vmP, vm0, vm1, vm2, vm3, vm4, vm5, vm6, vm7, vm8, vm9, vm10, vm11, vm12, vm13, vm14, vm15, vmC, vmN, Nat.reduceAdd, Nat.reduceMul, Nat.reduceSub, Nat.reduceEqDiff, Nat.reduceLT, Nat.reduceLeDiff, ↓reduceIte, Tg.isFull, Int.reduceToNat]
  refine regD_of (by kernel_rfl) ?_
  simp -dsimp (disch := first | rfl | omega) only [hsl, ↓vmP, vm0, vm1, vm2, vm3, vm4, vm5, vm6, vm7, vm8, vm9, vm10, vm11, vm12, vm13, vm14, vm15, vmC, vmN, Nat.reduceAdd, Nat.reduceMul, Nat.reduceSub, Nat.reduceEqDiff, Nat.reduceLT, Nat.reduceLeDiff, ↓reduceIte, Tg.isFull, Int.reduceToNat]
set_option maxRecDepth 20000 in
theorem put_first (x : Ply) (k : Nat) (hk : k ≤ 9000) (h : Pk k x) (f1 f2 f3 : Bool) (i : Nat) (r : Rec) (hi : x.op[i]? = some [r]) (hi0 : i = 0) (hl1 : 1 < x.op.length) : runW false prog 32 [.ptr 0 0, .d (.int .i64 i)] (PLR x f1 f2 f3) = some (.tup [], [.box (plC (putP x i r []) (.row 4) (.row 2) (.row 3)), .row 1 f1 (opD (x.op.set i [])), .row 4 f2 (recs x.tk), .row 1 f3 (i64s x.gv), .row 1 false (opD (putP x i r []).op)], [1, 0]) := by
  have hil : i < x.op.length := by
    rcases Nat.lt_or_ge i x.op.length with hlt | hge
    · exact hlt
    · rw [List.getElem?_eq_none hge] at hi; cases hi
  have hmem : [r] ∈ x.op := List.mem_of_getElem? hi
  have hrp : r.pairs.length ≤ 1 := (h.e _ hmem).2.2 r (List.mem_cons_self ..)
  have hll : ([r] : List Rec).length ≤ 64 := (h.e _ hmem).2.1
  have hP := Put_eq x.b 1 4 2 (zk_of _) (h.i.sm (by omega)) r (by omega) ([] : List Rec).isEmpty
  have hR := RPut_eq x.b x.z1 x.z2 x.z3 h.z (h.i.sm (by omega)) r (by omega) ([] : List Rec).isEmpty
  have hol := opD_len x.op
  have hob := h.o
  have hat := opD_at x.op hi
  have hat2 := opD_set_at x.op [] hil
  have hsl : (opD (x.op.set i [])).length = x.op.length := by rw [opD_len, List.length_set]
  have hst := opD_set x.op i []
  have hrl : (recs ([r])).length = 0 + 1 := by rfl
  have hrl2 := recs_len []
  have h0 : (recs ([r]))[0]? = some (recC r) := rfl
  have hdr : (recs ([r])).drop 1 = recs [] := rfl
  have htk : (recs []).take 0 = recs [] := rfl
  subst hi0
  have hd1 : (opD (x.op.set 0 [])).drop 1 = opD (x.op.drop 1) := set_drop ..
  have hdl : (opD (x.op.drop 1)).length = x.op.length - 1 := by rw [opD_len, List.length_drop]
  have htk1 : (opD (x.op.drop 1)).take (x.op.length - 1) = opD (x.op.drop 1) := List.take_of_length_le (by omega)
  have hde : (opD (x.op.drop 1)).isEmpty = false := by
    cases hc : opD (x.op.drop 1) with
    | nil => rw [hc] at hdl; simp at hdl; omega
    | cons a b => rfl
  have i0 : ((0 : Nat) : Int) = 0 := rfl
  have hl0 : ((0 : Nat) : Int) = 0 := rfl
  have hem : (([] : List Rec).isEmpty) = true := rfl
  rw [hem] at hP hR
  simp only [putP, PLR, plC, hem, if_true]
  rw [show x.op.take 0 ++ x.op.drop (0 + 1) = x.op.drop 1 from rfl]
  generalize opD (x.op.set 0 []) = X2 at hat2 hsl hst hd1 ⊢
  generalize opD (x.op.drop 1) = X5 at hd1 hdl htk1 hde ⊢
  generalize putB x.b r true = c at hP hR ⊢
  generalize recs [] = X4 at hdr hst hat2 hrl2 htk
  generalize recs [r] = X3 at hat hrl h0 hdr
  generalize opD x.op = X1 at hat hst hol ⊢
  simp only [recA] at hP hR
  simp only [recC] at h0
  simp only [bA, bC, List.cons_append, List.nil_append] at hP hR ⊢
  refine run_of rfl ?_
  simp -dsimp (disch := first | rfl | omega) only [r32_0, r32_1, hat, h0, hol, hdr, hst, hrl, htk, hl0, ↓vmP, vm0, vm1, vm2, vm3, vm4, vm5, vm6, vm7, vm8, vm9, vm10, vm11, vm12, vm13, vm14, vm15, vmC, vmN, Nat.reduceAdd, Nat.reduceMul, Nat.reduceSub, Nat.reduceEqDiff, Nat.reduceLT, Nat.reduceLeDiff, ↓reduceIte, Tg.isFull, Int.reduceToNat]
  refine regD_of (by kernel_rfl) ?_
  simp -dsimp (disch := first | rfl | omega) only [hdr, hst, hrl, htk, r32_2, r32_3, hat2, hrl2, hsl, hl0, callW_fn pgPut, callW_fn pgRPut, hP, hR, ↓vmP, vm0, vm1, vm2, vm3, vm4, vm5, vm6, vm7, vm8, vm9, vm10, vm11, vm12, vm13, vm14, vm15, vmC, vmN, Nat.reduceAdd, Nat.reduceMul, Nat.reduceSub, Nat.reduceEqDiff, Nat.reduceLT, Nat.reduceLeDiff, ↓reduceIte, Tg.isFull, Int.reduceToNat]
  refine regD_of (by kernel_rfl) ?_
  simp -dsimp (disch := first | rfl | omega) only [r32_4, r32_5, hsl, hd1, hdl, htk1, hde, i0, Int.zero_add, Int.toNat_one, ↓vmP, vm0, vm1, vm2, vm3, vm4, vm5, vm6, vm7, vm8, vm9, vm10, vm11, vm12, vm13, vm14, vm15, vmC, vmN, Nat.reduceAdd, Nat.reduceMul, Nat.reduceSub, Nat.reduceEqDiff, Nat.reduceLT, Nat.reduceLeDiff, ↓reduceIte, Tg.isFull, Int.reduceToNat]
  refine regD_of (by kernel_rfl) ?_
  simp -dsimp (disch := first | rfl | omega) only [hsl, ↓vmP, vm0, vm1, vm2, vm3, vm4, vm5, vm6, vm7, vm8, vm9, vm10, vm11, vm12, vm13, vm14, vm15, vmC, vmN, Nat.reduceAdd, Nat.reduceMul, Nat.reduceSub, Nat.reduceEqDiff, Nat.reduceLT, Nat.reduceLeDiff, ↓reduceIte, Tg.isFull, Int.reduceToNat]
set_option maxRecDepth 20000 in
theorem put_some (x : Ply) (k : Nat) (hk : k ≤ 9000) (h : Pk k x) (f1 f2 f3 : Bool) (i : Nat) (r : Rec) (hi : x.op[i]? = some [r]) (hi0 : 0 < i) : runW false prog 32 [.ptr 0 0, .d (.int .i64 i)] (PLR x f1 f2 f3) = some (.tup [], [.box (plC (putP x i r []) (.row 4) (.row 2) (.row 3)), .row 1 f1 (opD (x.op.set i [])), .row 4 f2 (recs x.tk), .row 1 f3 (i64s x.gv), .row 1 false (opD (putP x i r []).op)], [1, 0]) := by
  have hil : i < x.op.length := by
    rcases Nat.lt_or_ge i x.op.length with hlt | hge
    · exact hlt
    · rw [List.getElem?_eq_none hge] at hi; cases hi
  have hmem : [r] ∈ x.op := List.mem_of_getElem? hi
  have hrp : r.pairs.length ≤ 1 := (h.e _ hmem).2.2 r (List.mem_cons_self ..)
  have hll : ([r] : List Rec).length ≤ 64 := (h.e _ hmem).2.1
  have hP := Put_eq x.b 1 4 2 (zk_of _) (h.i.sm (by omega)) r (by omega) ([] : List Rec).isEmpty
  have hR := RPut_eq x.b x.z1 x.z2 x.z3 h.z (h.i.sm (by omega)) r (by omega) ([] : List Rec).isEmpty
  have hol := opD_len x.op
  have hob := h.o
  have hat := opD_at x.op hi
  have hat2 := opD_set_at x.op [] hil
  have hsl : (opD (x.op.set i [])).length = x.op.length := by rw [opD_len, List.length_set]
  have hst := opD_set x.op i []
  have hrl : (recs ([r])).length = 0 + 1 := by rfl
  have hrl2 := recs_len []
  have h0 : (recs ([r]))[0]? = some (recC r) := rfl
  have hdr : (recs ([r])).drop 1 = recs [] := rfl
  have htk : (recs []).take 0 = recs [] := rfl
  have hd1 : (opD (x.op.set i [])).drop (i + 1) = opD (x.op.drop (i + 1)) := set_drop ..
  have hdl : (opD (x.op.drop (i + 1))).length = x.op.length - (i + 1) := by rw [opD_len, List.length_drop]
  have htk1 : (opD (x.op.drop (i + 1))).take (x.op.length - (i + 1)) = opD (x.op.drop (i + 1)) := List.take_of_length_le (by omega)
  have ht1 : (opD (x.op.set i [])).take i = opD (x.op.take i) := set_take ..
  have htl : (opD (x.op.take i)).length = i := by rw [opD_len, List.length_take]; omega
  have hte : (opD (x.op.take i)).isEmpty = false := by
    cases hc : opD (x.op.take i) with
    | nil => rw [hc] at htl; simp at htl; omega
    | cons a b => rfl
  have hap := opD_app (x.op.take i) (x.op.drop (i + 1))
  have ei : ((i : Int) + 1) = ((i + 1 : Nat) : Int) := by omega
  have hl0 : ((0 : Nat) : Int) = 0 := rfl
  have hem : (([] : List Rec).isEmpty) = true := rfl
  rw [hem] at hP hR
  simp only [putP, PLR, plC, hem, if_true]
  generalize opD (x.op.set i []) = X2 at hat2 hsl hst hd1 ht1 ⊢
  generalize opD (x.op.take i ++ x.op.drop (i + 1)) = X7 at hap ⊢
  generalize opD (x.op.drop (i + 1)) = X5 at hd1 hdl htk1 hap
  generalize opD (x.op.take i) = X6 at ht1 htl hte hap
  generalize putB x.b r true = c at hP hR ⊢
  generalize recs [] = X4 at hdr hst hat2 hrl2 htk
  generalize recs [r] = X3 at hat hrl h0 hdr
  generalize opD x.op = X1 at hat hst hol ⊢
  simp only [recA] at hP hR
  simp only [recC] at h0
  simp only [bA, bC, List.cons_append, List.nil_append] at hP hR ⊢
  refine run_of rfl ?_
  simp -dsimp (disch := first | rfl | omega) only [r32_0, r32_1, hat, h0, hol, hdr, hst, hrl, htk, hl0, ↓vmP, vm0, vm1, vm2, vm3, vm4, vm5, vm6, vm7, vm8, vm9, vm10, vm11, vm12, vm13, vm14, vm15, vmC, vmN, Nat.reduceAdd, Nat.reduceMul, Nat.reduceSub, Nat.reduceEqDiff, Nat.reduceLT, Nat.reduceLeDiff, ↓reduceIte, Tg.isFull, Int.reduceToNat]
  refine regD_of (by kernel_rfl) ?_
  simp -dsimp (disch := first | rfl | omega) only [hdr, hst, hrl, htk, r32_2, r32_3, hat2, hrl2, hsl, hl0, callW_fn pgPut, callW_fn pgRPut, hP, hR, ↓vmP, vm0, vm1, vm2, vm3, vm4, vm5, vm6, vm7, vm8, vm9, vm10, vm11, vm12, vm13, vm14, vm15, vmC, vmN, Nat.reduceAdd, Nat.reduceMul, Nat.reduceSub, Nat.reduceEqDiff, Nat.reduceLT, Nat.reduceLeDiff, ↓reduceIte, Tg.isFull, Int.reduceToNat]
  refine regD_of (by kernel_rfl) ?_
  simp -dsimp (disch := first | rfl | omega) only [r32_4, r32_5, hsl, hd1, hdl, htk1, ht1, htl, hte, hap, ei, Int.zero_add, Int.toNat_one, ↓vmP, vm0, vm1, vm2, vm3, vm4, vm5, vm6, vm7, vm8, vm9, vm10, vm11, vm12, vm13, vm14, vm15, vmC, vmN, Nat.reduceAdd, Nat.reduceMul, Nat.reduceSub, Nat.reduceEqDiff, Nat.reduceLT, Nat.reduceLeDiff, ↓reduceIte, Tg.isFull, Int.reduceToNat]
  refine regD_of (by kernel_rfl) ?_
  simp -dsimp (disch := first | rfl | omega) only [hsl, ↓vmP, vm0, vm1, vm2, vm3, vm4, vm5, vm6, vm7, vm8, vm9, vm10, vm11, vm12, vm13, vm14, vm15, vmC, vmN, Nat.reduceAdd, Nat.reduceMul, Nat.reduceSub, Nat.reduceEqDiff, Nat.reduceLT, Nat.reduceLeDiff, ↓reduceIte, Tg.isFull, Int.reduceToNat]
end Go.Vm.Bk
