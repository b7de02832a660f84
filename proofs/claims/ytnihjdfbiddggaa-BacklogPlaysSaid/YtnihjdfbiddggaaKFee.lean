/- A part of the proof of BacklogPlaysSaid: YtnihjdfbiddggaaFee. -/
import Derived.Test.YtnihjdfbiddggaaKFdd
/- Backlogs: a play; steps in the machine. -/
set_option linter.unusedVariables false
set_option linter.unusedSimpArgs false
set_option maxHeartbeats 1000000
namespace Go.Vm.Bk
theorem getD_b (L : List Int) (lo hi : Int) (h : ∀ x ∈ L, lo ≤ x ∧ x ≤ hi) (h0 : lo ≤ 0 ∧ 0 ≤ hi) (i : Nat) : lo ≤ L.getD i 0 ∧ L.getD i 0 ≤ hi := by
  rcases Nat.lt_or_ge i L.length with hlt | hge
  · rw [List.getD_eq_getElem?_getD, List.getElem?_eq_getElem hlt]; exact h _ (List.getElem_mem _)
  · rw [List.getD_eq_getElem?_getD, List.getElem?_eq_none hge]; exact h0
set_option maxRecDepth 20000 in
theorem stp_N_lost (l : List Int) (hl : l.length ≤ 9223372036854775807) (hv : ∀ v ∈ l, InI v) (a : Nat) (ha : a ≤ 900000) (x : Ply) (k : Nat) (hk : k ≤ 8000) (h : Pk k x) (f1 f2 f3 : Bool) (hk0 : 0 ≤ sN l a 9 ∧ sN l a 9 < 3) (hb : (offerB x.b x.time (ofs.getD (sN l (a + 1) ofs.length) 0)).2.2 = false) : runW false prog 21 [.ptr 0 0, .ptr 3 0] (PLN x f2 f3 ++ [src l a]) = some (.d (.bool true), PLN (offerP x (ofs.getD (sN l (a + 1) ofs.length) 0)) f2 f3 ++ [src l (a + 1 + 1)], [3, 0]) := by
  have hN := N_eq l a 9 (by omega) hl (by decide) (by decide) hv
  rw [show ((9 : Nat) : Int) = 9 from rfl] at hN
  generalize hkk : sN l a 9 = kk at hN hk0
  have e3 : ((kk : Int) < 3) = True := eq_true (by omega)
  have hq := Pick_eq l (a + 1) ofs (by omega) hl hv (by decide) (by decide)
  rw [show i64s ofs = [[.int .i64 1], [.int .i64 1], [.int .i64 2], [.int .i64 4], [.int .i64 5], [.int .i64 0], [.int .i64 65]] from rfl] at hq
  have hO := off_lostN x k (by omega) h f1 f2 f3 (ofs.getD (sN l (a + 1) ofs.length) 0) hb
  have hpk := pk_offer h (ofs.getD (sN l (a + 1) ofs.length) 0)
  have hSm := Same_eq (offerP x (ofs.getD (sN l (a + 1) ofs.length) 0)).b 1 4 2 (offerP x (ofs.getD (sN l (a + 1) ofs.length) 0)).z1 (offerP x (ofs.getD (sN l (a + 1) ofs.length) 0)).z2 (offerP x (ofs.getD (sN l (a + 1) ofs.length) 0)).z3 (zk_of _) hpk.z (hpk.i.sm (by omega))
  clear hpk
  have hxx : offerP x (ofs.getD (sN l (a + 1) ofs.length) 0) = setB x (offerB x.b x.time (ofs.getD (sN l (a + 1) ofs.length) 0)).1 1 4 2 := by unfold offerP; rw [hb]; rfl
  have g1 : (offerP x (ofs.getD (sN l (a + 1) ofs.length) 0)).tk = x.tk := by rw [hxx]; rfl
  have g2 : (offerP x (ofs.getD (sN l (a + 1) ofs.length) 0)).gv = x.gv := by rw [hxx]; rfl
  have g3 : (offerP x (ofs.getD (sN l (a + 1) ofs.length) 0)).op = x.op := by rw [hxx]; rfl
  clear hxx
  generalize offerP x (ofs.getD (sN l (a + 1) ofs.length) 0) = x' at hO hSm g1 g2 g3 ⊢
  generalize ofs.getD (sN l (a + 1) ofs.length) 0 = n at hq hO
  simp only [PLN, PLR, plC, src, bA, bC, List.cons_append, List.nil_append] at hN hq hO hSm ⊢
  refine run_of rfl ?_
  simp -dsimp (disch := first | rfl | omega) only [r21_0, r21_1, r21_2, r21_3, r21_19, callW_fn pgN, hN, e3, callW_fn pgPick, callW_fn pgPOff, hq, hO, g1, g2, g3, callW_fn pgSame, hSm, ↓vmP, vm0, vm1, vm2, vm3, vm4, vm5, vm6, vm7, vm8, vm9, vm10, vm11, vm12, vm13, vm14, vm15, vmC, vmN, Nat.reduceAdd, Nat.reduceMul, Nat.reduceSub, Nat.reduceEqDiff, Nat.reduceLT, Nat.reduceLeDiff, ↓reduceIte, Tg.isFull, Int.reduceToNat]
  refine regD_of (by kernel_rfl) ?_
  simp -dsimp (disch := first | rfl | omega) only [r21_19, callW_fn pgPick, callW_fn pgPOff, hq, hO, g1, g2, g3, callW_fn pgSame, hSm, ↓vmP, vm0, vm1, vm2, vm3, vm4, vm5, vm6, vm7, vm8, vm9, vm10, vm11, vm12, vm13, vm14, vm15, vmC, vmN, Nat.reduceAdd, Nat.reduceMul, Nat.reduceSub, Nat.reduceEqDiff, Nat.reduceLT, Nat.reduceLeDiff, ↓reduceIte, Tg.isFull, Int.reduceToNat]
set_option maxRecDepth 20000 in
theorem stp_N_acc (l : List Int) (hl : l.length ≤ 9223372036854775807) (hv : ∀ v ∈ l, InI v) (a : Nat) (ha : a ≤ 900000) (x : Ply) (k : Nat) (hk : k ≤ 8000) (h : Pk k x) (f1 f2 f3 : Bool) (hk0 : 0 ≤ sN l a 9 ∧ sN l a 9 < 3) (hb : (offerB x.b x.time (ofs.getD (sN l (a + 1) ofs.length) 0)).2.2 = true) (hop : x.op = []) : runW false prog 21 [.ptr 0 0, .ptr 3 0] (PLN x f2 f3 ++ [src l a]) = some (.d (.bool true), [.box (plC (offerP x (ofs.getD (sN l (a + 1) ofs.length) 0)) (.row 4) (.row 1) (.row 5)), .row 4 f2 (recs x.tk), .dead, src l (a + 1 + 1), .row 1 false (opD (offerP x (ofs.getD (sN l (a + 1) ofs.length) 0)).op), .row 1 false (i64s (offerP x (ofs.getD (sN l (a + 1) ofs.length) 0)).gv)], [3, 0, 2]) := by
  have hN := N_eq l a 9 (by omega) hl (by decide) (by decide) hv
  rw [show ((9 : Nat) : Int) = 9 from rfl] at hN
  generalize hkk : sN l a 9 = kk at hN hk0
  have e3 : ((kk : Int) < 3) = True := eq_true (by omega)
  have hq := Pick_eq l (a + 1) ofs (by omega) hl hv (by decide) (by decide)
  rw [show i64s ofs = [[.int .i64 1], [.int .i64 1], [.int .i64 2], [.int .i64 4], [.int .i64 5], [.int .i64 0], [.int .i64 65]] from rfl] at hq
  have hO := off_accN x k (by omega) h hop f1 f2 f3 (ofs.getD (sN l (a + 1) ofs.length) 0) hb
  have hpk := pk_offer h (ofs.getD (sN l (a + 1) ofs.length) 0)
  have hSm := Same_eq (offerP x (ofs.getD (sN l (a + 1) ofs.length) 0)).b 1 4 2 (offerP x (ofs.getD (sN l (a + 1) ofs.length) 0)).z1 (offerP x (ofs.getD (sN l (a + 1) ofs.length) 0)).z2 (offerP x (ofs.getD (sN l (a + 1) ofs.length) 0)).z3 (zk_of _) hpk.z (hpk.i.sm (by omega))
  clear hpk
  generalize offerP x (ofs.getD (sN l (a + 1) ofs.length) 0) = x' at hO hSm ⊢
  generalize ofs.getD (sN l (a + 1) ofs.length) 0 = n at hq hO
  simp only [PLN, PLR, plC, src, bA, bC, List.cons_append, List.nil_append] at hN hq hO hSm ⊢
  refine run_of rfl ?_
  simp -dsimp (disch := first | rfl | omega) only [r21_0, r21_1, r21_2, r21_3, r21_19, callW_fn pgN, hN, e3, callW_fn pgPick, callW_fn pgPOff, hq, hO, callW_fn pgSame, hSm, ↓vmP, vm0, vm1, vm2, vm3, vm4, vm5, vm6, vm7, vm8, vm9, vm10, vm11, vm12, vm13, vm14, vm15, vmC, vmN, Nat.reduceAdd, Nat.reduceMul, Nat.reduceSub, Nat.reduceEqDiff, Nat.reduceLT, Nat.reduceLeDiff, ↓reduceIte, Tg.isFull, Int.reduceToNat]
  refine regD_of (by kernel_rfl) ?_
  simp -dsimp (disch := first | rfl | omega) only [r21_19, callW_fn pgPick, callW_fn pgPOff, hq, hO, callW_fn pgSame, hSm, ↓vmP, vm0, vm1, vm2, vm3, vm4, vm5, vm6, vm7, vm8, vm9, vm10, vm11, vm12, vm13, vm14, vm15, vmC, vmN, Nat.reduceAdd, Nat.reduceMul, Nat.reduceSub, Nat.reduceEqDiff, Nat.reduceLT, Nat.reduceLeDiff, ↓reduceIte, Tg.isFull, Int.reduceToNat]
set_option maxRecDepth 20000 in
theorem stp_N_skip (l : List Int) (hl : l.length ≤ 9223372036854775807) (hv : ∀ v ∈ l, InI v) (a : Nat) (ha : a ≤ 900000) (x : Ply) (k : Nat) (hk : k ≤ 8000) (h : Pk k x) (f1 f2 f3 : Bool) (hk0 : 3 ≤ sN l a 9 ∧ sN l a 9 < 6) (hop : x.op = []) : runW false prog 21 [.ptr 0 0, .ptr 3 0] (PLN x f2 f3 ++ [src l a]) = some (.d (.bool true), PLN (x) f2 f3 ++ [src l (a + 1)], [3]) := by
  have hN := N_eq l a 9 (by omega) hl (by decide) (by decide) hv
  rw [show ((9 : Nat) : Int) = 9 from rfl] at hN
  generalize hkk : sN l a 9 = kk at hN hk0
  have e3 : ((kk : Int) < 3) = False := eq_false (by omega)
  have e6 : ((kk : Int) < 6) = True := eq_true (by omega)
  have hpk := h
  have hSm := Same_eq (x).b 1 4 2 (x).z1 (x).z2 (x).z3 (zk_of _) hpk.z (hpk.i.sm (by omega))
  clear hpk
  simp only [PLN, PLR, plC, src, bA, bC, List.cons_append, List.nil_append] at hN  hSm ⊢
  have i0 : ((0 : Nat) : Int) = 0 := rfl
  refine run_of rfl ?_
  simp -dsimp (disch := first | rfl | omega) only [r21_0, r21_1, r21_2, r21_5, r21_6, r21_19, callW_fn pgN, hN, e3, e6, i0, Int.reduceLT, Int.lt_irrefl, callW_fn pgSame, hSm, ↓vmP, vm0, vm1, vm2, vm3, vm4, vm5, vm6, vm7, vm8, vm9, vm10, vm11, vm12, vm13, vm14, vm15, vmC, vmN, Nat.reduceAdd, Nat.reduceMul, Nat.reduceSub, Nat.reduceEqDiff, Nat.reduceLT, Nat.reduceLeDiff, ↓reduceIte, Tg.isFull, Int.reduceToNat]
  refine regD_of (by kernel_rfl) ?_
  simp -dsimp (disch := first | rfl | omega) only [callW_fn pgSame, hSm, ↓vmP, vm0, vm1, vm2, vm3, vm4, vm5, vm6, vm7, vm8, vm9, vm10, vm11, vm12, vm13, vm14, vm15, vmC, vmN, Nat.reduceAdd, Nat.reduceMul, Nat.reduceSub, Nat.reduceEqDiff, Nat.reduceLT, Nat.reduceLeDiff, ↓reduceIte, Tg.isFull, Int.reduceToNat]
set_option maxRecDepth 20000 in
theorem stp_N_tak (l : List Int) (hl : l.length ≤ 9223372036854775807) (hv : ∀ v ∈ l, InI v) (a : Nat) (ha : a ≤ 900000) (x : Ply) (k : Nat) (hk : k ≤ 8000) (h : Pk k x) (f1 f2 f3 : Bool) (hk0 : 6 ≤ sN l a 9 ∧ sN l a 9 < 7) : runW false prog 21 [.ptr 0 0, .ptr 3 0] (PLN x f2 f3 ++ [src l a]) = some (.d (.bool true), [.box (plC (takP x (tks.getD (sN l (a + 1) tks.length) 0)) (.d (.sl .nil 0 [])) (.row 4) (.row 2)), .dead, .row 1 f3 (i64s x.gv), src l (a + 1 + 1), .row 4 false (recs (takP x (tks.getD (sN l (a + 1) tks.length) 0)).tk)], [3, 0, 1]) := by
  have hN := N_eq l a 9 (by omega) hl (by decide) (by decide) hv
  rw [show ((9 : Nat) : Int) = 9 from rfl] at hN
  generalize hkk : sN l a 9 = kk at hN hk0
  have e3 : ((kk : Int) < 3) = False := eq_false (by omega)
  have e6 : ((kk : Int) < 6) = False := eq_false (by omega)
  have e7 : ((kk : Int) < 7) = True := eq_true (by omega)
  have hq := Pick_eq l (a + 1) tks (by omega) hl hv (by decide) (by decide)
  rw [show i64s tks = [[.int .i64 0], [.int .i64 1], [.int .i64 2], [.int .i64 5], [.int .i64 64], [.int .i64 (-1)]] from rfl] at hq
  have hO := tak_N x k (by omega) h f1 f2 f3 (tks.getD (sN l (a + 1) tks.length) 0)
  have hpk := pk_tak h (tks.getD (sN l (a + 1) tks.length) 0)
  have hSm := Same_eq (takP x (tks.getD (sN l (a + 1) tks.length) 0)).b 1 4 2 (takP x (tks.getD (sN l (a + 1) tks.length) 0)).z1 (takP x (tks.getD (sN l (a + 1) tks.length) 0)).z2 (takP x (tks.getD (sN l (a + 1) tks.length) 0)).z3 (zk_of _) hpk.z (hpk.i.sm (by omega))
  clear hpk
  generalize takP x (tks.getD (sN l (a + 1) tks.length) 0) = x' at hO hSm ⊢
  generalize tks.getD (sN l (a + 1) tks.length) 0 = n at hq hO
  simp only [PLN, PLR, plC, src, bA, bC, List.cons_append, List.nil_append] at hN hq hO hSm ⊢
  refine run_of rfl ?_
  simp -dsimp (disch := first | rfl | omega) only [r21_0, r21_1, r21_2, r21_5, r21_8, r21_9, r21_19, callW_fn pgN, hN, e3, e6, e7, callW_fn pgPick, callW_fn pgPTak, hq, hO, callW_fn pgSame, hSm, ↓vmP, vm0, vm1, vm2, vm3, vm4, vm5, vm6, vm7, vm8, vm9, vm10, vm11, vm12, vm13, vm14, vm15, vmC, vmN, Nat.reduceAdd, Nat.reduceMul, Nat.reduceSub, Nat.reduceEqDiff, Nat.reduceLT, Nat.reduceLeDiff, ↓reduceIte, Tg.isFull, Int.reduceToNat]
  refine regD_of (by kernel_rfl) ?_
  simp -dsimp (disch := first | rfl | omega) only [r21_19, callW_fn pgPick, callW_fn pgPTak, hq, hO, callW_fn pgSame, hSm, ↓vmP, vm0, vm1, vm2, vm3, vm4, vm5, vm6, vm7, vm8, vm9, vm10, vm11, vm12, vm13, vm14, vm15, vmC, vmN, Nat.reduceAdd, Nat.reduceMul, Nat.reduceSub, Nat.reduceEqDiff, Nat.reduceLT, Nat.reduceLeDiff, ↓reduceIte, Tg.isFull, Int.reduceToNat]
set_option maxRecDepth 20000 in
theorem stp_N_tim (l : List Int) (hl : l.length ≤ 9223372036854775807) (hv : ∀ v ∈ l, InI v) (a : Nat) (ha : a ≤ 900000) (x : Ply) (k : Nat) (hk : k ≤ 8000) (h : Pk k x) (f1 f2 f3 : Bool) (hk0 : 7 ≤ sN l a 9 ∧ sN l a 9 < 8) : runW false prog 21 [.ptr 0 0, .ptr 3 0] (PLN x f2 f3 ++ [src l a]) = some (.d (.bool true), PLN (timP x (tms.getD (sN l (a + 1) tms.length) 0)) f2 f3 ++ [src l (a + 1 + 1)], [3, 0]) := by
  have hN := N_eq l a 9 (by omega) hl (by decide) (by decide) hv
  rw [show ((9 : Nat) : Int) = 9 from rfl] at hN
  generalize hkk : sN l a 9 = kk at hN hk0
  have e3 : ((kk : Int) < 3) = False := eq_false (by omega)
  have e6 : ((kk : Int) < 6) = False := eq_false (by omega)
  have e7 : ((kk : Int) < 7) = False := eq_false (by omega)
  have e8 : ((kk : Int) < 8) = True := eq_true (by omega)
  have hq := Pick_eq l (a + 1) tms (by omega) hl hv (by decide) (by decide)
  rw [show i64s tms = [[.int .i64 1], [.int .i64 400], [.int .i64 1000]] from rfl] at hq
  have hdb := getD_b tms 0 1000 (by decide) (by decide) (sN l (a + 1) tms.length)
  have htb := h.t
  have hpk := pk_tim h (tms.getD (sN l (a + 1) tms.length) 0) hdb
  have hSm := Same_eq (timP x (tms.getD (sN l (a + 1) tms.length) 0)).b 1 4 2 (timP x (tms.getD (sN l (a + 1) tms.length) 0)).z1 (timP x (tms.getD (sN l (a + 1) tms.length) 0)).z2 (timP x (tms.getD (sN l (a + 1) tms.length) 0)).z3 (zk_of _) hpk.z (hpk.i.sm (by omega))
  clear hpk
  generalize tms.getD (sN l (a + 1) tms.length) 0 = n at hq hSm hdb ⊢
  simp only [PLN, PLR, plC, src, timP, bA, bC, List.cons_append, List.nil_append] at hN hq hSm ⊢
  refine run_of rfl ?_
  simp -dsimp (disch := first | rfl | omega) only [r21_0, r21_1, r21_2, r21_5, r21_8, r21_11, r21_12, callW_fn pgN, hN, e3, e6, e7, e8, callW_fn pgPick, hq, callW_fn pgSame, hSm, ↓vmP, vm0, vm1, vm2, vm3, vm4, vm5, vm6, vm7, vm8, vm9, vm10, vm11, vm12, vm13, vm14, vm15, vmC, vmN, Nat.reduceAdd, Nat.reduceMul, Nat.reduceSub, Nat.reduceEqDiff, Nat.reduceLT, Nat.reduceLeDiff, ↓reduceIte, Tg.isFull, Int.reduceToNat]
  refine regD_of (by kernel_rfl) ?_
  simp -dsimp (disch := first | rfl | omega) only [r21_19, callW_fn pgPick, hq, callW_fn pgSame, hSm, ↓vmP, vm0, vm1, vm2, vm3, vm4, vm5, vm6, vm7, vm8, vm9, vm10, vm11, vm12, vm13, vm14, vm15, vmC, vmN, Nat.reduceAdd, Nat.reduceMul, Nat.reduceSub, Nat.reduceEqDiff, Nat.reduceLT, Nat.reduceLeDiff, ↓reduceIte, Tg.isFull, Int.reduceToNat]
  refine regD_of (by kernel_rfl) ?_
  simp -dsimp (disch := first | rfl | omega) only [callW_fn pgPick, hq, callW_fn pgSame, hSm, ↓vmP, vm0, vm1, vm2, vm3, vm4, vm5, vm6, vm7, vm8, vm9, vm10, vm11, vm12, vm13, vm14, vm15, vmC, vmN, Nat.reduceAdd, Nat.reduceMul, Nat.reduceSub, Nat.reduceEqDiff, Nat.reduceLT, Nat.reduceLeDiff, ↓reduceIte, Tg.isFull, Int.reduceToNat]
set_option maxRecDepth 20000 in
theorem stp_N_cnf (l : List Int) (hl : l.length ≤ 9223372036854775807) (hv : ∀ v ∈ l, InI v) (a : Nat) (ha : a ≤ 900000) (x : Ply) (k : Nat) (hk : k ≤ 8000) (h : Pk k x) (f1 f2 f3 : Bool) (hk0 : 8 ≤ sN l a 9 ∧ sN l a 9 < 9) : runW false prog 21 [.ptr 0 0, .ptr 3 0] (PLN x f2 f3 ++ [src l a]) = some (.d (.bool true), PLN (cnfP x (lms.getD (sN l (a + 1) lms.length) 0) (rts.getD (sN l (a + 2) rts.length) 0) (1 + (sN l (a + 3) 3 : Int))) f2 f3 ++ [src l (a + 1 + 1 + 1 + 1)], [3, 0]) := by
  have hN := N_eq l a 9 (by omega) hl (by decide) (by decide) hv
  rw [show ((9 : Nat) : Int) = 9 from rfl] at hN
  generalize hkk : sN l a 9 = kk at hN hk0
  have e3 : ((kk : Int) < 3) = False := eq_false (by omega)
  have e6 : ((kk : Int) < 6) = False := eq_false (by omega)
  have e7 : ((kk : Int) < 7) = False := eq_false (by omega)
  have e8 : ((kk : Int) < 8) = False := eq_false (by omega)
  have hq1 := Pick_eq l (a + 1) lms (by omega) hl hv (by decide) (by decide)
  rw [show i64s lms = [[.int .i64 64], [.int .i64 20], [.int .i64 6], [.int .i64 2]] from rfl] at hq1
  have hq2 := Pick_eq l (a + 2) rts (by omega) hl hv (by decide) (by decide)
  rw [show i64s rts = [[.int .i64 0], [.int .i64 3]] from rfl] at hq2
  have hq3 := Range_eq l (a + 3) 1 3 3 (by omega) hl hv (by decide) (by omega) (by omega) (by omega)
  have hb1 := getD_b lms 0 64 (by decide) (by decide) (sN l (a + 1) lms.length)
  have hb2 := getD_b rts 0 3 (by decide) (by decide) (sN l (a + 2) rts.length)
  have hb3 := sN_lt l (a + 3) 3 (by decide)
  have hb1' : 1 ≤ lms.getD (sN l (a + 1) lms.length) 0 := by
    have := sN_lt l (a + 1) lms.length (by decide)
    generalize sN l (a + 1) lms.length = q at this
    match q, this with
    | 0, _ => decide
    | 1, _ => decide
    | 2, _ => decide
    | 3, _ => decide
  have hC := Conf_eq x.b 1 4 2 (zk_of _) (h.i.sm (by omega)) (lms.getD (sN l (a + 1) lms.length) 0) (rts.getD (sN l (a + 2) rts.length) 0) (1 + (sN l (a + 3) 3 : Int))
  have hD := RConf_eq x.b x.z1 x.z2 x.z3 h.z (h.i.sm (by omega)) (lms.getD (sN l (a + 1) lms.length) 0) (rts.getD (sN l (a + 2) rts.length) 0) (1 + (sN l (a + 3) 3 : Int))
  have hok : setOk (lms.getD (sN l (a + 1) lms.length) 0) (rts.getD (sN l (a + 2) rts.length) 0) (1 + (sN l (a + 3) 3 : Int)) = true := by simp only [setOk, decide_eq_true_eq]; omega
  rw [hok, if_pos rfl] at hC hD
  have hpk := pk_cnf h (lms.getD (sN l (a + 1) lms.length) 0) (rts.getD (sN l (a + 2) rts.length) 0) (1 + (sN l (a + 3) 3 : Int))
  have hSm := Same_eq (cnfP x (lms.getD (sN l (a + 1) lms.length) 0) (rts.getD (sN l (a + 2) rts.length) 0) (1 + (sN l (a + 3) 3 : Int))).b 1 4 2 (cnfP x (lms.getD (sN l (a + 1) lms.length) 0) (rts.getD (sN l (a + 2) rts.length) 0) (1 + (sN l (a + 3) 3 : Int))).z1 (cnfP x (lms.getD (sN l (a + 1) lms.length) 0) (rts.getD (sN l (a + 2) rts.length) 0) (1 + (sN l (a + 3) 3 : Int))).z2 (cnfP x (lms.getD (sN l (a + 1) lms.length) 0) (rts.getD (sN l (a + 2) rts.length) 0) (1 + (sN l (a + 3) 3 : Int))).z3 (zk_of _) hpk.z (hpk.i.sm (by omega))
  clear hpk hok
  generalize lms.getD (sN l (a + 1) lms.length) 0 = n1 at hq1 hSm hC hD hb1 hb1' ⊢
  generalize rts.getD (sN l (a + 2) rts.length) 0 = n2 at hq2 hSm hC hD hb2 ⊢
  generalize (1 + (sN l (a + 3) 3 : Int)) = n3 at hq3 hSm hC hD ⊢
  simp only [PLN, PLR, plC, src, cnfP, conf, bA, bC, List.cons_append, List.nil_append] at hN hq1 hq2 hq3 hC hD hSm ⊢
  refine run_of rfl ?_
  simp -dsimp (disch := first | rfl | omega) only [r21_0, r21_1, r21_2, r21_5, r21_8, r21_11, r21_13, r21_14, r21_15, r21_16, r21_18, callW_fn pgN, hN, e3, e6, e7, e8, callW_fn pgPick, callW_fn pgRange, callW_fn pgConf, callW_fn pgRConf, hq1, hq2, hq3, hC, hD, ne_eq, not_true_eq_false, callW_fn pgSame, hSm, ↓vmP, vm0, vm1, vm2, vm3, vm4, vm5, vm6, vm7, vm8, vm9, vm10, vm11, vm12, vm13, vm14, vm15, vmC, vmN, Nat.reduceAdd, Nat.reduceMul, Nat.reduceSub, Nat.reduceEqDiff, Nat.reduceLT, Nat.reduceLeDiff, ↓reduceIte, Tg.isFull, Int.reduceToNat]
  refine regD_of (by kernel_rfl) ?_
  simp -dsimp (disch := first | rfl | omega) only [r21_18, r21_19, callW_fn pgPick, callW_fn pgRange, callW_fn pgConf, callW_fn pgRConf, hq1, hq2, hq3, hC, hD, ne_eq, not_true_eq_false, callW_fn pgSame, hSm, ↓vmP, vm0, vm1, vm2, vm3, vm4, vm5, vm6, vm7, vm8, vm9, vm10, vm11, vm12, vm13, vm14, vm15, vmC, vmN, Nat.reduceAdd, Nat.reduceMul, Nat.reduceSub, Nat.reduceEqDiff, Nat.reduceLT, Nat.reduceLeDiff, ↓reduceIte, Tg.isFull, Int.reduceToNat]
  refine regD_of (by kernel_rfl) ?_
  simp -dsimp (disch := first | rfl | omega) only [callW_fn pgPick, callW_fn pgRange, callW_fn pgConf, callW_fn pgRConf, hq1, hq2, hq3, hC, hD, ne_eq, not_true_eq_false, callW_fn pgSame, hSm, ↓vmP, vm0, vm1, vm2, vm3, vm4, vm5, vm6, vm7, vm8, vm9, vm10, vm11, vm12, vm13, vm14, vm15, vmC, vmN, Nat.reduceAdd, Nat.reduceMul, Nat.reduceSub, Nat.reduceEqDiff, Nat.reduceLT, Nat.reduceLeDiff, ↓reduceIte, Tg.isFull, Int.reduceToNat]
set_option maxRecDepth 20000 in
theorem stp_R_lost (l : List Int) (hl : l.length ≤ 9223372036854775807) (hv : ∀ v ∈ l, InI v) (a : Nat) (ha : a ≤ 900000) (x : Ply) (k : Nat) (hk : k ≤ 8000) (h : Pk k x) (f1 f2 f3 : Bool) (hk0 : 0 ≤ sN l a 9 ∧ sN l a 9 < 3) (hb : (offerB x.b x.time (ofs.getD (sN l (a + 1) ofs.length) 0)).2.2 = false) : runW false prog 21 [.ptr 0 0, .ptr 4 0] (PLR x f1 f2 f3 ++ [src l a]) = some (.d (.bool true), PLR (offerP x (ofs.getD (sN l (a + 1) ofs.length) 0)) f1 f2 f3 ++ [src l (a + 1 + 1)], [4, 0]) := by
  have hN := N_eq l a 9 (by omega) hl (by decide) (by decide) hv
  rw [show ((9 : Nat) : Int) = 9 from rfl] at hN
  generalize hkk : sN l a 9 = kk at hN hk0
  have e3 : ((kk : Int) < 3) = True := eq_true (by omega)
  have hq := Pick_eq l (a + 1) ofs (by omega) hl hv (by decide) (by decide)
  rw [show i64s ofs = [[.int .i64 1], [.int .i64 1], [.int .i64 2], [.int .i64 4], [.int .i64 5], [.int .i64 0], [.int .i64 65]] from rfl] at hq
  have hO := off_lostR x k (by omega) h f1 f2 f3 (ofs.getD (sN l (a + 1) ofs.length) 0) hb
  have hpk := pk_offer h (ofs.getD (sN l (a + 1) ofs.length) 0)
  have hSm := Same_eq (offerP x (ofs.getD (sN l (a + 1) ofs.length) 0)).b 1 4 2 (offerP x (ofs.getD (sN l (a + 1) ofs.length) 0)).z1 (offerP x (ofs.getD (sN l (a + 1) ofs.length) 0)).z2 (offerP x (ofs.getD (sN l (a + 1) ofs.length) 0)).z3 (zk_of _) hpk.z (hpk.i.sm (by omega))
  clear hpk
  have hxx : offerP x (ofs.getD (sN l (a + 1) ofs.length) 0) = setB x (offerB x.b x.time (ofs.getD (sN l (a + 1) ofs.length) 0)).1 1 4 2 := by unfold offerP; rw [hb]; rfl
  have g1 : (offerP x (ofs.getD (sN l (a + 1) ofs.length) 0)).tk = x.tk := by rw [hxx]; rfl
  have g2 : (offerP x (ofs.getD (sN l (a + 1) ofs.length) 0)).gv = x.gv := by rw [hxx]; rfl
  have g3 : (offerP x (ofs.getD (sN l (a + 1) ofs.length) 0)).op = x.op := by rw [hxx]; rfl
  clear hxx
  generalize offerP x (ofs.getD (sN l (a + 1) ofs.length) 0) = x' at hO hSm g1 g2 g3 ⊢
  generalize ofs.getD (sN l (a + 1) ofs.length) 0 = n at hq hO
  simp only [PLN, PLR, plC, src, bA, bC, List.cons_append, List.nil_append] at hN hq hO hSm ⊢
  refine run_of rfl ?_
  simp -dsimp (disch := first | rfl | omega) only [r21_0, r21_1, r21_2, r21_3, r21_19, callW_fn pgN, hN, e3, callW_fn pgPick, callW_fn pgPOff, hq, hO, g1, g2, g3, callW_fn pgSame, hSm, ↓vmP, vm0, vm1, vm2, vm3, vm4, vm5, vm6, vm7, vm8, vm9, vm10, vm11, vm12, vm13, vm14, vm15, vmC, vmN, Nat.reduceAdd, Nat.reduceMul, Nat.reduceSub, Nat.reduceEqDiff, Nat.reduceLT, Nat.reduceLeDiff, ↓reduceIte, Tg.isFull, Int.reduceToNat]
  refine regD_of (by kernel_rfl) ?_
  simp -dsimp (disch := first | rfl | omega) only [r21_19, callW_fn pgPick, callW_fn pgPOff, hq, hO, g1, g2, g3, callW_fn pgSame, hSm, ↓vmP, vm0, vm1, vm2, vm3, vm4, vm5, vm6, vm7, vm8, vm9, vm10, vm11, vm12, vm13, vm14, vm15, vmC, vmN, Nat.reduceAdd, Nat.reduceMul, Nat.reduceSub, Nat.reduceEqDiff, Nat.reduceLT, Nat.reduceLeDiff, ↓reduceIte, Tg.isFull, Int.reduceToNat]
set_option maxRecDepth 20000 in
theorem stp_R_acc (l : List Int) (hl : l.length ≤ 9223372036854775807) (hv : ∀ v ∈ l, InI v) (a : Nat) (ha : a ≤ 900000) (x : Ply) (k : Nat) (hk : k ≤ 8000) (h : Pk k x) (f1 f2 f3 : Bool) (hk0 : 0 ≤ sN l a 9 ∧ sN l a 9 < 3) (hb : (offerB x.b x.time (ofs.getD (sN l (a + 1) ofs.length) 0)).2.2 = true) : runW false prog 21 [.ptr 0 0, .ptr 4 0] (PLR x f1 f2 f3 ++ [src l a]) = some (.d (.bool true), [.box (plC (offerP x (ofs.getD (sN l (a + 1) ofs.length) 0)) (.row 5) (.row 2) (.row 6)), .dead, .row 4 f2 (recs x.tk), .dead, src l (a + 1 + 1), .row 1 false (opD (offerP x (ofs.getD (sN l (a + 1) ofs.length) 0)).op), .row 1 false (i64s (offerP x (ofs.getD (sN l (a + 1) ofs.length) 0)).gv)], [4, 0, 1, 3]) := by
  have hN := N_eq l a 9 (by omega) hl (by decide) (by decide) hv
  rw [show ((9 : Nat) : Int) = 9 from rfl] at hN
  generalize hkk : sN l a 9 = kk at hN hk0
  have e3 : ((kk : Int) < 3) = True := eq_true (by omega)
  have hq := Pick_eq l (a + 1) ofs (by omega) hl hv (by decide) (by decide)
  rw [show i64s ofs = [[.int .i64 1], [.int .i64 1], [.int .i64 2], [.int .i64 4], [.int .i64 5], [.int .i64 0], [.int .i64 65]] from rfl] at hq
  have hO := off_accR x k (by omega) h f1 f2 f3 (ofs.getD (sN l (a + 1) ofs.length) 0) hb
  have hpk := pk_offer h (ofs.getD (sN l (a + 1) ofs.length) 0)
  have hSm := Same_eq (offerP x (ofs.getD (sN l (a + 1) ofs.length) 0)).b 1 4 2 (offerP x (ofs.getD (sN l (a + 1) ofs.length) 0)).z1 (offerP x (ofs.getD (sN l (a + 1) ofs.length) 0)).z2 (offerP x (ofs.getD (sN l (a + 1) ofs.length) 0)).z3 (zk_of _) hpk.z (hpk.i.sm (by omega))
  clear hpk
  generalize offerP x (ofs.getD (sN l (a + 1) ofs.length) 0) = x' at hO hSm ⊢
  generalize ofs.getD (sN l (a + 1) ofs.length) 0 = n at hq hO
  simp only [PLN, PLR, plC, src, bA, bC, List.cons_append, List.nil_append] at hN hq hO hSm ⊢
  refine run_of rfl ?_
  simp -dsimp (disch := first | rfl | omega) only [r21_0, r21_1, r21_2, r21_3, r21_19, callW_fn pgN, hN, e3, callW_fn pgPick, callW_fn pgPOff, hq, hO, callW_fn pgSame, hSm, ↓vmP, vm0, vm1, vm2, vm3, vm4, vm5, vm6, vm7, vm8, vm9, vm10, vm11, vm12, vm13, vm14, vm15, vmC, vmN, Nat.reduceAdd, Nat.reduceMul, Nat.reduceSub, Nat.reduceEqDiff, Nat.reduceLT, Nat.reduceLeDiff, ↓reduceIte, Tg.isFull, Int.reduceToNat]
  refine regD_of (by kernel_rfl) ?_
  simp -dsimp (disch := first | rfl | omega) only [r21_19, callW_fn pgPick, callW_fn pgPOff, hq, hO, callW_fn pgSame, hSm, ↓vmP, vm0, vm1, vm2, vm3, vm4, vm5, vm6, vm7, vm8, vm9, vm10, vm11, vm12, vm13, vm14, vm15, vmC, vmN, Nat.reduceAdd, Nat.reduceMul, Nat.reduceSub, Nat.reduceEqDiff, Nat.reduceLT, Nat.reduceLeDiff, ↓reduceIte, Tg.isFull, Int.reduceToNat]
set_option maxRecDepth 20000 in
theorem stp_R_more (l : List Int) (hl : l.length ≤ 9223372036854775807) (hv : ∀ v ∈ l, InI v) (a : Nat) (ha : a ≤ 900000) (x : Ply) (k : Nat) (hk : k ≤ 8000) (h : Pk k x) (f1 f2 f3 : Bool) (hk0 : 3 ≤ sN l a 9 ∧ sN l a 9 < 6) (i : Nat) (hi0 : sN l (a + 1) x.op.length = i) (r : Rec) (l' : List Rec) (hi : x.op[i]? = some (r :: l')) (hle : l'.isEmpty = false) : runW false prog 21 [.ptr 0 0, .ptr 4 0] (PLR x f1 f2 f3 ++ [src l a]) = some (.d (.bool true), PLR (putP x i r l') f1 f2 f3 ++ [src l (a + 1 + 1)], [4, 0, 1]) := by
  have hN := N_eq l a 9 (by omega) hl (by decide) (by decide) hv
  rw [show ((9 : Nat) : Int) = 9 from rfl] at hN
  generalize hkk : sN l a 9 = kk at hN hk0
  have e3 : ((kk : Int) < 3) = False := eq_false (by omega)
  have e6 : ((kk : Int) < 6) = True := eq_true (by omega)
  have hne : 0 < x.op.length := by
    rcases Nat.eq_zero_or_pos x.op.length with h0 | h0
    · rw [List.length_eq_zero_iff.1 h0] at hi; simp at hi
    · exact h0
  have hq := N_eq l (a + 1) x.op.length (by omega) hl hne (by have := h.o; omega) hv
  rw [hi0] at hq
  have hO := put_more x k (by omega) h f1 f2 f3 i r l' hi hle
  have hol := opD_len x.op
  have e0 : (0 < (x.op.length : Int)) = True := eq_true (by omega)
  have hpk := pk_put h i r l' hi
  have hSm := Same_eq (putP x i r l').b 1 4 2 (putP x i r l').z1 (putP x i r l').z2 (putP x i r l').z3 (zk_of _) hpk.z (hpk.i.sm (by omega))
  clear hpk
  have g1 : (putP x i r l').tk = x.tk := rfl
  have g2 : (putP x i r l').gv = x.gv := rfl
  generalize opD (x.op.set i []) = J at *
  generalize putP x i r l' = x' at hO hSm g1 g2 ⊢
  simp only [PLN, PLR, plC, src, bA, bC, List.cons_append, List.nil_append] at hN hq hO hSm ⊢
  refine run_of rfl ?_
  simp -dsimp (disch := first | rfl | omega) only [r21_0, r21_1, r21_2, r21_5, r21_6, r21_7, r21_19, callW_fn pgN, hN, e3, e6, callW_fn pgPPut, hq, hO, hol, e0, g1, g2, callW_fn pgSame, hSm, ↓vmP, vm0, vm1, vm2, vm3, vm4, vm5, vm6, vm7, vm8, vm9, vm10, vm11, vm12, vm13, vm14, vm15, vmC, vmN, Nat.reduceAdd, Nat.reduceMul, Nat.reduceSub, Nat.reduceEqDiff, Nat.reduceLT, Nat.reduceLeDiff, ↓reduceIte, Tg.isFull, Int.reduceToNat]
  refine regD_of (by kernel_rfl) ?_
  simp -dsimp (disch := first | rfl | omega) only [r21_19, callW_fn pgPPut, hq, hO, hol, e0, g1, g2, callW_fn pgSame, hSm, ↓vmP, vm0, vm1, vm2, vm3, vm4, vm5, vm6, vm7, vm8, vm9, vm10, vm11, vm12, vm13, vm14, vm15, vmC, vmN, Nat.reduceAdd, Nat.reduceMul, Nat.reduceSub, Nat.reduceEqDiff, Nat.reduceLT, Nat.reduceLeDiff, ↓reduceIte, Tg.isFull, Int.reduceToNat]
set_option maxRecDepth 20000 in
theorem stp_R_one (l : List Int) (hl : l.length ≤ 9223372036854775807) (hv : ∀ v ∈ l, InI v) (a : Nat) (ha : a ≤ 900000) (x : Ply) (k : Nat) (hk : k ≤ 8000) (h : Pk k x) (f1 f2 f3 : Bool) (hk0 : 3 ≤ sN l a 9 ∧ sN l a 9 < 6) (i : Nat) (hi0 : sN l (a + 1) x.op.length = i) (r : Rec) (hi : x.op[i]? = some [r]) (hl1 : x.op.length = 1) : runW false prog 21 [.ptr 0 0, .ptr 4 0] (PLR x f1 f2 f3 ++ [src l a]) = some (.d (.bool true), [.box (plC (putP x i r []) (.d (.sl .nil 0 [])) (.row 2) (.row 3)), .row 1 f1 (opD (x.op.set i [])), .row 4 f2 (recs x.tk), .row 1 f3 (i64s x.gv), src l (a + 1 + 1)], [4, 0, 1]) := by
  have hN := N_eq l a 9 (by omega) hl (by decide) (by decide) hv
  rw [show ((9 : Nat) : Int) = 9 from rfl] at hN
  generalize hkk : sN l a 9 = kk at hN hk0
  have e3 : ((kk : Int) < 3) = False := eq_false (by omega)
  have e6 : ((kk : Int) < 6) = True := eq_true (by omega)
  have hne : 0 < x.op.length := by
    rcases Nat.eq_zero_or_pos x.op.length with h0 | h0
    · rw [List.length_eq_zero_iff.1 h0] at hi; simp at hi
    · exact h0
  have hq := N_eq l (a + 1) x.op.length (by omega) hl hne (by have := h.o; omega) hv
  rw [hi0] at hq
  have hO := put_one x k (by omega) h f1 f2 f3 i r hi hl1
  have hol := opD_len x.op
  have e0 : (0 < (x.op.length : Int)) = True := eq_true (by omega)
  have hpk := pk_put h i r [] hi
  have hSm := Same_eq (putP x i r []).b 1 4 2 (putP x i r []).z1 (putP x i r []).z2 (putP x i r []).z3 (zk_of _) hpk.z (hpk.i.sm (by omega))
  clear hpk
  have g1 : (putP x i r []).tk = x.tk := rfl
  have g2 : (putP x i r []).gv = x.gv := rfl
  generalize opD (x.op.set i []) = J at *
  generalize putP x i r [] = x' at hO hSm g1 g2 ⊢
  simp only [PLN, PLR, plC, src, bA, bC, List.cons_append, List.nil_append] at hN hq hO hSm ⊢
  refine run_of rfl ?_
  simp -dsimp (disch := first | rfl | omega) only [r21_0, r21_1, r21_2, r21_5, r21_6, r21_7, r21_19, callW_fn pgN, hN, e3, e6, callW_fn pgPPut, hq, hO, hol, e0, g1, g2, callW_fn pgSame, hSm, ↓vmP, vm0, vm1, vm2, vm3, vm4, vm5, vm6, vm7, vm8, vm9, vm10, vm11, vm12, vm13, vm14, vm15, vmC, vmN, Nat.reduceAdd, Nat.reduceMul, Nat.reduceSub, Nat.reduceEqDiff, Nat.reduceLT, Nat.reduceLeDiff, ↓reduceIte, Tg.isFull, Int.reduceToNat]
  refine regD_of (by kernel_rfl) ?_
  simp -dsimp (disch := first | rfl | omega) only [r21_19, callW_fn pgPPut, hq, hO, hol, e0, g1, g2, callW_fn pgSame, hSm, ↓vmP, vm0, vm1, vm2, vm3, vm4, vm5, vm6, vm7, vm8, vm9, vm10, vm11, vm12, vm13, vm14, vm15, vmC, vmN, Nat.reduceAdd, Nat.reduceMul, Nat.reduceSub, Nat.reduceEqDiff, Nat.reduceLT, Nat.reduceLeDiff, ↓reduceIte, Tg.isFull, Int.reduceToNat]
set_option maxRecDepth 20000 in
theorem stp_R_first (l : List Int) (hl : l.length ≤ 9223372036854775807) (hv : ∀ v ∈ l, InI v) (a : Nat) (ha : a ≤ 900000) (x : Ply) (k : Nat) (hk : k ≤ 8000) (h : Pk k x) (f1 f2 f3 : Bool) (hk0 : 3 ≤ sN l a 9 ∧ sN l a 9 < 6) (i : Nat) (hi0 : sN l (a + 1) x.op.length = i) (r : Rec) (hi : x.op[i]? = some [r]) (hz : i = 0) (hl1 : 1 < x.op.length) : runW false prog 21 [.ptr 0 0, .ptr 4 0] (PLR x f1 f2 f3 ++ [src l a]) = some (.d (.bool true), [.box (plC (putP x i r []) (.row 5) (.row 2) (.row 3)), .row 1 f1 (opD (x.op.set i [])), .row 4 f2 (recs x.tk), .row 1 f3 (i64s x.gv), src l (a + 1 + 1), .row 1 false (opD (putP x i r []).op)], [4, 0, 1]) := by
  have hN := N_eq l a 9 (by omega) hl (by decide) (by decide) hv
  rw [show ((9 : Nat) : Int) = 9 from rfl] at hN
  generalize hkk : sN l a 9 = kk at hN hk0
  have e3 : ((kk : Int) < 3) = False := eq_false (by omega)
  have e6 : ((kk : Int) < 6) = True := eq_true (by omega)
  have hne : 0 < x.op.length := by
    rcases Nat.eq_zero_or_pos x.op.length with h0 | h0
    · rw [List.length_eq_zero_iff.1 h0] at hi; simp at hi
    · exact h0
  have hq := N_eq l (a + 1) x.op.length (by omega) hl hne (by have := h.o; omega) hv
  rw [hi0] at hq
  have hO := put_first x k (by omega) h f1 f2 f3 i r hi hz hl1
  have hol := opD_len x.op
  have e0 : (0 < (x.op.length : Int)) = True := eq_true (by omega)
  have hpk := pk_put h i r [] hi
  have hSm := Same_eq (putP x i r []).b 1 4 2 (putP x i r []).z1 (putP x i r []).z2 (putP x i r []).z3 (zk_of _) hpk.z (hpk.i.sm (by omega))
  clear hpk
  have g1 : (putP x i r []).tk = x.tk := rfl
  have g2 : (putP x i r []).gv = x.gv := rfl
  generalize opD (x.op.set i []) = J at *
  generalize putP x i r [] = x' at hO hSm g1 g2 ⊢
  simp only [PLN, PLR, plC, src, bA, bC, List.cons_append, List.nil_append] at hN hq hO hSm ⊢
  refine run_of rfl ?_
  simp -dsimp (disch := first | rfl | omega) only [r21_0, r21_1, r21_2, r21_5, r21_6, r21_7, r21_19, callW_fn pgN, hN, e3, e6, callW_fn pgPPut, hq, hO, hol, e0, g1, g2, callW_fn pgSame, hSm, ↓vmP, vm0, vm1, vm2, vm3, vm4, vm5, vm6, vm7, vm8, vm9, vm10, vm11, vm12, vm13, vm14, vm15, vmC, vmN, Nat.reduceAdd, Nat.reduceMul, Nat.reduceSub, Nat.reduceEqDiff, Nat.reduceLT, Nat.reduceLeDiff, ↓reduceIte, Tg.isFull, Int.reduceToNat]
  refine regD_of (by kernel_rfl) ?_
  simp -dsimp (disch := first | rfl | omega) only [r21_19, callW_fn pgPPut, hq, hO, hol, e0, g1, g2, callW_fn pgSame, hSm, ↓vmP, vm0, vm1, vm2, vm3, vm4, vm5, vm6, vm7, vm8, vm9, vm10, vm11, vm12, vm13, vm14, vm15, vmC, vmN, Nat.reduceAdd, Nat.reduceMul, Nat.reduceSub, Nat.reduceEqDiff, Nat.reduceLT, Nat.reduceLeDiff, ↓reduceIte, Tg.isFull, Int.reduceToNat]
set_option maxRecDepth 20000 in
theorem stp_R_some (l : List Int) (hl : l.length ≤ 9223372036854775807) (hv : ∀ v ∈ l, InI v) (a : Nat) (ha : a ≤ 900000) (x : Ply) (k : Nat) (hk : k ≤ 8000) (h : Pk k x) (f1 f2 f3 : Bool) (hk0 : 3 ≤ sN l a 9 ∧ sN l a 9 < 6) (i : Nat) (hi0 : sN l (a + 1) x.op.length = i) (r : Rec) (hi : x.op[i]? = some [r]) (hz : 0 < i) : runW false prog 21 [.ptr 0 0, .ptr 4 0] (PLR x f1 f2 f3 ++ [src l a]) = some (.d (.bool true), [.box (plC (putP x i r []) (.row 5) (.row 2) (.row 3)), .row 1 f1 (opD (x.op.set i [])), .row 4 f2 (recs x.tk), .row 1 f3 (i64s x.gv), src l (a + 1 + 1), .row 1 false (opD (putP x i r []).op)], [4, 0, 1]) := by
  have hN := N_eq l a 9 (by omega) hl (by decide) (by decide) hv
  rw [show ((9 : Nat) : Int) = 9 from rfl] at hN
  generalize hkk : sN l a 9 = kk at hN hk0
  have e3 : ((kk : Int) < 3) = False := eq_false (by omega)
  have e6 : ((kk : Int) < 6) = True := eq_true (by omega)
  have hne : 0 < x.op.length := by
    rcases Nat.eq_zero_or_pos x.op.length with h0 | h0
    · rw [List.length_eq_zero_iff.1 h0] at hi; simp at hi
    · exact h0
  have hq := N_eq l (a + 1) x.op.length (by omega) hl hne (by have := h.o; omega) hv
  rw [hi0] at hq
  have hO := put_some x k (by omega) h f1 f2 f3 i r hi hz
  have hol := opD_len x.op
  have e0 : (0 < (x.op.length : Int)) = True := eq_true (by omega)
  have hpk := pk_put h i r [] hi
  have hSm := Same_eq (putP x i r []).b 1 4 2 (putP x i r []).z1 (putP x i r []).z2 (putP x i r []).z3 (zk_of _) hpk.z (hpk.i.sm (by omega))
  clear hpk
  have g1 : (putP x i r []).tk = x.tk := rfl
  have g2 : (putP x i r []).gv = x.gv := rfl
  generalize opD (x.op.set i []) = J at *
  generalize putP x i r [] = x' at hO hSm g1 g2 ⊢
  simp only [PLN, PLR, plC, src, bA, bC, List.cons_append, List.nil_append] at hN hq hO hSm ⊢
  refine run_of rfl ?_
  simp -dsimp (disch := first | rfl | omega) only [r21_0, r21_1, r21_2, r21_5, r21_6, r21_7, r21_19, callW_fn pgN, hN, e3, e6, callW_fn pgPPut, hq, hO, hol, e0, g1, g2, callW_fn pgSame, hSm, ↓vmP, vm0, vm1, vm2, vm3, vm4, vm5, vm6, vm7, vm8, vm9, vm10, vm11, vm12, vm13, vm14, vm15, vmC, vmN, Nat.reduceAdd, Nat.reduceMul, Nat.reduceSub, Nat.reduceEqDiff, Nat.reduceLT, Nat.reduceLeDiff, ↓reduceIte, Tg.isFull, Int.reduceToNat]
  refine regD_of (by kernel_rfl) ?_
  simp -dsimp (disch := first | rfl | omega) only [r21_19, callW_fn pgPPut, hq, hO, hol, e0, g1, g2, callW_fn pgSame, hSm, ↓vmP, vm0, vm1, vm2, vm3, vm4, vm5, vm6, vm7, vm8, vm9, vm10, vm11, vm12, vm13, vm14, vm15, vmC, vmN, Nat.reduceAdd, Nat.reduceMul, Nat.reduceSub, Nat.reduceEqDiff, Nat.reduceLT, Nat.reduceLeDiff, ↓reduceIte, Tg.isFull, Int.reduceToNat]
set_option maxRecDepth 20000 in
theorem stp_R_tak (l : List Int) (hl : l.length ≤ 9223372036854775807) (hv : ∀ v ∈ l, InI v) (a : Nat) (ha : a ≤ 900000) (x : Ply) (k : Nat) (hk : k ≤ 8000) (h : Pk k x) (f1 f2 f3 : Bool) (hk0 : 6 ≤ sN l a 9 ∧ sN l a 9 < 7) : runW false prog 21 [.ptr 0 0, .ptr 4 0] (PLR x f1 f2 f3 ++ [src l a]) = some (.d (.bool true), [.box (plC (takP x (tks.getD (sN l (a + 1) tks.length) 0)) (.row 1) (.row 5) (.row 3)), .row 1 f1 (opD x.op), .dead, .row 1 f3 (i64s x.gv), src l (a + 1 + 1), .row 4 false (recs (takP x (tks.getD (sN l (a + 1) tks.length) 0)).tk)], [4, 0, 2]) := by
  have hN := N_eq l a 9 (by omega) hl (by decide) (by decide) hv
  rw [show ((9 : Nat) : Int) = 9 from rfl] at hN
  generalize hkk : sN l a 9 = kk at hN hk0
  have e3 : ((kk : Int) < 3) = False := eq_false (by omega)
  have e6 : ((kk : Int) < 6) = False := eq_false (by omega)
  have e7 : ((kk : Int) < 7) = True := eq_true (by omega)
  have hq := Pick_eq l (a + 1) tks (by omega) hl hv (by decide) (by decide)
  rw [show i64s tks = [[.int .i64 0], [.int .i64 1], [.int .i64 2], [.int .i64 5], [.int .i64 64], [.int .i64 (-1)]] from rfl] at hq
  have hO := tak_R x k (by omega) h f1 f2 f3 (tks.getD (sN l (a + 1) tks.length) 0)
  have hpk := pk_tak h (tks.getD (sN l (a + 1) tks.length) 0)
  have hSm := Same_eq (takP x (tks.getD (sN l (a + 1) tks.length) 0)).b 1 4 2 (takP x (tks.getD (sN l (a + 1) tks.length) 0)).z1 (takP x (tks.getD (sN l (a + 1) tks.length) 0)).z2 (takP x (tks.getD (sN l (a + 1) tks.length) 0)).z3 (zk_of _) hpk.z (hpk.i.sm (by omega))
  clear hpk
  generalize takP x (tks.getD (sN l (a + 1) tks.length) 0) = x' at hO hSm ⊢
  generalize tks.getD (sN l (a + 1) tks.length) 0 = n at hq hO
  simp only [PLN, PLR, plC, src, bA, bC, List.cons_append, List.nil_append] at hN hq hO hSm ⊢
  refine run_of rfl ?_
  simp -dsimp (disch := first | rfl | omega) only [r21_0, r21_1, r21_2, r21_5, r21_8, r21_9, r21_19, callW_fn pgN, hN, e3, e6, e7, callW_fn pgPick, callW_fn pgPTak, hq, hO, callW_fn pgSame, hSm, ↓vmP, vm0, vm1, vm2, vm3, vm4, vm5, vm6, vm7, vm8, vm9, vm10, vm11, vm12, vm13, vm14, vm15, vmC, vmN, Nat.reduceAdd, Nat.reduceMul, Nat.reduceSub, Nat.reduceEqDiff, Nat.reduceLT, Nat.reduceLeDiff, ↓reduceIte, Tg.isFull, Int.reduceToNat]
  refine regD_of (by kernel_rfl) ?_
  simp -dsimp (disch := first | rfl | omega) only [r21_19, callW_fn pgPick, callW_fn pgPTak, hq, hO, callW_fn pgSame, hSm, ↓vmP, vm0, vm1, vm2, vm3, vm4, vm5, vm6, vm7, vm8, vm9, vm10, vm11, vm12, vm13, vm14, vm15, vmC, vmN, Nat.reduceAdd, Nat.reduceMul, Nat.reduceSub, Nat.reduceEqDiff, Nat.reduceLT, Nat.reduceLeDiff, ↓reduceIte, Tg.isFull, Int.reduceToNat]
set_option maxRecDepth 20000 in
theorem stp_R_tim (l : List Int) (hl : l.length ≤ 9223372036854775807) (hv : ∀ v ∈ l, InI v) (a : Nat) (ha : a ≤ 900000) (x : Ply) (k : Nat) (hk : k ≤ 8000) (h : Pk k x) (f1 f2 f3 : Bool) (hk0 : 7 ≤ sN l a 9 ∧ sN l a 9 < 8) : runW false prog 21 [.ptr 0 0, .ptr 4 0] (PLR x f1 f2 f3 ++ [src l a]) = some (.d (.bool true), PLR (timP x (tms.getD (sN l (a + 1) tms.length) 0)) f1 f2 f3 ++ [src l (a + 1 + 1)], [4, 0]) := by
  have hN := N_eq l a 9 (by omega) hl (by decide) (by decide) hv
  rw [show ((9 : Nat) : Int) = 9 from rfl] at hN
  generalize hkk : sN l a 9 = kk at hN hk0
  have e3 : ((kk : Int) < 3) = False := eq_false (by omega)
  have e6 : ((kk : Int) < 6) = False := eq_false (by omega)
  have e7 : ((kk : Int) < 7) = False := eq_false (by omega)
  have e8 : ((kk : Int) < 8) = True := eq_true (by omega)
  have hq := Pick_eq l (a + 1) tms (by omega) hl hv (by decide) (by decide)
  rw [show i64s tms = [[.int .i64 1], [.int .i64 400], [.int .i64 1000]] from rfl] at hq
  have hdb := getD_b tms 0 1000 (by decide) (by decide) (sN l (a + 1) tms.length)
  have htb := h.t
  have hpk := pk_tim h (tms.getD (sN l (a + 1) tms.length) 0) hdb
  have hSm := Same_eq (timP x (tms.getD (sN l (a + 1) tms.length) 0)).b 1 4 2 (timP x (tms.getD (sN l (a + 1) tms.length) 0)).z1 (timP x (tms.getD (sN l (a + 1) tms.length) 0)).z2 (timP x (tms.getD (sN l (a + 1) tms.length) 0)).z3 (zk_of _) hpk.z (hpk.i.sm (by omega))
  clear hpk
  generalize tms.getD (sN l (a + 1) tms.length) 0 = n at hq hSm hdb ⊢
  simp only [PLN, PLR, plC, src, timP, bA, bC, List.cons_append, List.nil_append] at hN hq hSm ⊢
  refine run_of rfl ?_
  simp -dsimp (disch := first | rfl | omega) only [r21_0, r21_1, r21_2, r21_5, r21_8, r21_11, r21_12, callW_fn pgN, hN, e3, e6, e7, e8, callW_fn pgPick, hq, callW_fn pgSame, hSm, ↓vmP, vm0, vm1, vm2, vm3, vm4, vm5, vm6, vm7, vm8, vm9, vm10, vm11, vm12, vm13, vm14, vm15, vmC, vmN, Nat.reduceAdd, Nat.reduceMul, Nat.reduceSub, Nat.reduceEqDiff, Nat.reduceLT, Nat.reduceLeDiff, ↓reduceIte, Tg.isFull, Int.reduceToNat]
  refine regD_of (by kernel_rfl) ?_
  simp -dsimp (disch := first | rfl | omega) only [r21_19, callW_fn pgPick, hq, callW_fn pgSame, hSm, ↓vmP, vm0, vm1, vm2, vm3, vm4, vm5, vm6, vm7, vm8, vm9, vm10, vm11, vm12, vm13, vm14, vm15, vmC, vmN, Nat.reduceAdd, Nat.reduceMul, Nat.reduceSub, Nat.reduceEqDiff, Nat.reduceLT, Nat.reduceLeDiff, ↓reduceIte, Tg.isFull, Int.reduceToNat]
  refine regD_of (by kernel_rfl) ?_
  simp -dsimp (disch := first | rfl | omega) only [callW_fn pgPick, hq, callW_fn pgSame, hSm, ↓vmP, vm0, vm1, vm2, vm3, vm4, vm5, vm6, vm7, vm8, vm9, vm10, vm11, vm12, vm13, vm14, vm15, vmC, vmN, Nat.reduceAdd, Nat.reduceMul, Nat.reduceSub, Nat.reduceEqDiff, Nat.reduceLT, Nat.reduceLeDiff, ↓reduceIte, Tg.isFull, Int.reduceToNat]
set_option maxRecDepth 20000 in
theorem stp_R_cnf (l : List Int) (hl : l.length ≤ 9223372036854775807) (hv : ∀ v ∈ l, InI v) (a : Nat) (ha : a ≤ 900000) (x : Ply) (k : Nat) (hk : k ≤ 8000) (h : Pk k x) (f1 f2 f3 : Bool) (hk0 : 8 ≤ sN l a 9 ∧ sN l a 9 < 9) : runW false prog 21 [.ptr 0 0, .ptr 4 0] (PLR x f1 f2 f3 ++ [src l a]) = some (.d (.bool true), PLR (cnfP x (lms.getD (sN l (a + 1) lms.length) 0) (rts.getD (sN l (a + 2) rts.length) 0) (1 + (sN l (a + 3) 3 : Int))) f1 f2 f3 ++ [src l (a + 1 + 1 + 1 + 1)], [4, 0]) := by
  have hN := N_eq l a 9 (by omega) hl (by decide) (by decide) hv
  rw [show ((9 : Nat) : Int) = 9 from rfl] at hN
  generalize hkk : sN l a 9 = kk at hN hk0
  have e3 : ((kk : Int) < 3) = False := eq_false (by omega)
  have e6 : ((kk : Int) < 6) = False := eq_false (by omega)
  have e7 : ((kk : Int) < 7) = False := eq_false (by omega)
  have e8 : ((kk : Int) < 8) = False := eq_false (by omega)
  have hq1 := Pick_eq l (a + 1) lms (by omega) hl hv (by decide) (by decide)
  rw [show i64s lms = [[.int .i64 64], [.int .i64 20], [.int .i64 6], [.int .i64 2]] from rfl] at hq1
  have hq2 := Pick_eq l (a + 2) rts (by omega) hl hv (by decide) (by decide)
  rw [show i64s rts = [[.int .i64 0], [.int .i64 3]] from rfl] at hq2
  have hq3 := Range_eq l (a + 3) 1 3 3 (by omega) hl hv (by decide) (by omega) (by omega) (by omega)
  have hb1 := getD_b lms 0 64 (by decide) (by decide) (sN l (a + 1) lms.length)
  have hb2 := getD_b rts 0 3 (by decide) (by decide) (sN l (a + 2) rts.length)
  have hb3 := sN_lt l (a + 3) 3 (by decide)
  have hb1' : 1 ≤ lms.getD (sN l (a + 1) lms.length) 0 := by
    have := sN_lt l (a + 1) lms.length (by decide)
    generalize sN l (a + 1) lms.length = q at this
    match q, this with
    | 0, _ => decide
    | 1, _ => decide
    | 2, _ => decide
    | 3, _ => decide
  have hC := Conf_eq x.b 1 4 2 (zk_of _) (h.i.sm (by omega)) (lms.getD (sN l (a + 1) lms.length) 0) (rts.getD (sN l (a + 2) rts.length) 0) (1 + (sN l (a + 3) 3 : Int))
  have hD := RConf_eq x.b x.z1 x.z2 x.z3 h.z (h.i.sm (by omega)) (lms.getD (sN l (a + 1) lms.length) 0) (rts.getD (sN l (a + 2) rts.length) 0) (1 + (sN l (a + 3) 3 : Int))
  have hok : setOk (lms.getD (sN l (a + 1) lms.length) 0) (rts.getD (sN l (a + 2) rts.length) 0) (1 + (sN l (a + 3) 3 : Int)) = true := by simp only [setOk, decide_eq_true_eq]; omega
  rw [hok, if_pos rfl] at hC hD
  have hpk := pk_cnf h (lms.getD (sN l (a + 1) lms.length) 0) (rts.getD (sN l (a + 2) rts.length) 0) (1 + (sN l (a + 3) 3 : Int))
  have hSm := Same_eq (cnfP x (lms.getD (sN l (a + 1) lms.length) 0) (rts.getD (sN l (a + 2) rts.length) 0) (1 + (sN l (a + 3) 3 : Int))).b 1 4 2 (cnfP x (lms.getD (sN l (a + 1) lms.length) 0) (rts.getD (sN l (a + 2) rts.length) 0) (1 + (sN l (a + 3) 3 : Int))).z1 (cnfP x (lms.getD (sN l (a + 1) lms.length) 0) (rts.getD (sN l (a + 2) rts.length) 0) (1 + (sN l (a + 3) 3 : Int))).z2 (cnfP x (lms.getD (sN l (a + 1) lms.length) 0) (rts.getD (sN l (a + 2) rts.length) 0) (1 + (sN l (a + 3) 3 : Int))).z3 (zk_of _) hpk.z (hpk.i.sm (by omega))
  clear hpk hok
  generalize lms.getD (sN l (a + 1) lms.length) 0 = n1 at hq1 hSm hC hD hb1 hb1' ⊢
  generalize rts.getD (sN l (a + 2) rts.length) 0 = n2 at hq2 hSm hC hD hb2 ⊢
  generalize (1 + (sN l (a + 3) 3 : Int)) = n3 at hq3 hSm hC hD ⊢
  simp only [PLN, PLR, plC, src, cnfP, conf, bA, bC, List.cons_append, List.nil_append] at hN hq1 hq2 hq3 hC hD hSm ⊢
  refine run_of rfl ?_
  simp -dsimp (disch := first | rfl | omega) only [r21_0, r21_1, r21_2, r21_5, r21_8, r21_11, r21_13, r21_14, r21_15, r21_16, r21_18, callW_fn pgN, hN, e3, e6, e7, e8, callW_fn pgPick, callW_fn pgRange, callW_fn pgConf, callW_fn pgRConf, hq1, hq2, hq3, hC, hD, ne_eq, not_true_eq_false, callW_fn pgSame, hSm, ↓vmP, vm0, vm1, vm2, vm3, vm4, vm5, vm6, vm7, vm8, vm9, vm10, vm11, vm12, vm13, vm14, vm15, vmC, vmN, Nat.reduceAdd, Nat.reduceMul, Nat.reduceSub, Nat.reduceEqDiff, Nat.reduceLT, Nat.reduceLeDiff, ↓reduceIte, Tg.isFull, Int.reduceToNat]
  refine regD_of (by kernel_rfl) ?_
  simp -dsimp (disch := first | rfl | omega) only [r21_18, r21_19, callW_fn pgPick, callW_fn pgRange, callW_fn pgConf, callW_fn pgRConf, hq1, hq2, hq3, hC, hD, ne_eq, not_true_eq_false, callW_fn pgSame, hSm, ↓vmP, vm0, vm1, vm2, vm3, vm4, vm5, vm6, vm7, vm8, vm9, vm10, vm11, vm12, vm13, vm14, vm15, vmC, vmN, Nat.reduceAdd, Nat.reduceMul, Nat.reduceSub, Nat.reduceEqDiff, Nat.reduceLT, Nat.reduceLeDiff, ↓reduceIte, Tg.isFull, Int.reduceToNat]
  refine regD_of (by kernel_rfl) ?_
  simp -dsimp (disch := first | rfl | omega) only [callW_fn pgPick, callW_fn pgRange, callW_fn pgConf, callW_fn pgRConf, hq1, hq2, hq3, hC, hD, ne_eq, not_true_eq_false, callW_fn pgSame, hSm, ↓vmP, vm0, vm1, vm2, vm3, vm4, vm5, vm6, vm7, vm8, vm9, vm10, vm11, vm12, vm13, vm14, vm15, vmC, vmN, Nat.reduceAdd, Nat.reduceMul, Nat.reduceSub, Nat.reduceEqDiff, Nat.reduceLT, Nat.reduceLeDiff, ↓reduceIte, Tg.isFull, Int.reduceToNat]
end Go.Vm.Bk
