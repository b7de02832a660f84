/- A part of the proof of WireFeedsUptoSaid: YthojpjhnhipfpaaFy. -/
import Derived.Test.YthojpjhnhipfpaaKFw
/- The statement on what is read, run. -/
set_option linter.unusedVariables false
set_option linter.unusedSimpArgs false
set_option maxHeartbeats 1000000
namespace Go.Vm.Wr
theorem pgNewF : prog 9 = some c9 := rfl
structure Pr where
  z : Nat
  a : List UInt8
  y : Nat
  b : List UInt8
def prD (ps : List Pr) : List (List D) := ps.map fun p => [.sl .any p.z (u8s p.a), .sl .any p.y (u8s p.b)]
def dPr : Pr := ⟨0, [], 0, []⟩
theorem prD_at (ps : List Pr) {i : Nat} (h : i < ps.length) : (prD ps)[i]? = some [.sl .any (ps.getD i dPr).z (u8s (ps.getD i dPr).a), .sl .any (ps.getD i dPr).y (u8s (ps.getD i dPr).b)] := by
  simp [prD, h, List.getD_eq_getElem?_getD]
theorem prD_len (ps : List Pr) : (prD ps).length = ps.length := by simp [prD]
structure PrOk (p : Pr) : Prop where
  z : okSz 1 p.z (u8s p.a) = true
  y : okSz 1 p.y (u8s p.b) = true
  l : p.a.length + p.b.length ≤ 4000000
theorem f_loop {Q : Ex → St → Prop} (ps : List Pr) (hp : ∀ p ∈ ps, PrOk p) (hl : ps.length ≤ 10) (f : Bool) : ∀ (k j : Nat) (s : St), j + k = ps.length →
    gc [(92, none), (93, none), (94, none)] s = ⟨gS [(92, .row 0), (93, .d (.int .i64 ps.length)), (94, .d (.int .i64 j))], gH [(0, .row 2 f (prD ps))], 1, 0, []⟩ →
    (∀ L H, Q (.exit 1) ⟨gS L, gH H, 9, 0, []⟩) → wpW false prog (.loop [(92, none), (93, none), (94, none)] l6_22) s Q := by
  intro k
  induction k with
  | zero =>
    intro j s hj hg hQ
    refine wp_loop1 ?_
    rw [hg]
    generalize hJ : (fun s' => wpW false prog (.loop [(92, none), (93, none), (94, none)] l6_22) s' Q) = J
    unfold l6_22
    have e0 : ((j : Int) < ps.length) = False := eq_false (by omega)
    simp -dsimp (disch := first | rfl | omega) only [r6_15, e0, ↓vmP, vm0, vm1, vm2, vm3, vm4, vm5, vm6, vm7, vm8, vm9, vm10, vm11, vm12, vm13, vm14, vm15, vmC, vmN, Nat.reduceAdd, Nat.reduceMul, Nat.reduceSub, Nat.reduceEqDiff, Nat.reduceLT, Nat.reduceLeDiff, ↓reduceIte, Tg.isFull, Int.reduceToNat]
    exact hQ _ _
  | succ k ih =>
    intro j s hj hg hQ
    refine wp_loop1 ?_
    rw [hg]
    generalize hJ : (fun s' => wpW false prog (.loop [(92, none), (93, none), (94, none)] l6_22) s' Q) = J
    unfold l6_22
    have e0 : ((j : Int) < ps.length) = True := eq_true (by omega)
    have ej : ((j : Int) + 1) = ((j + 1 : Nat) : Int) := by omega
    have hat := prD_at ps (show j < ps.length by omega)
    have hml := prD_len ps
    have hmem : ps.getD j dPr ∈ ps := by
      rw [List.getD_eq_getElem?_getD, List.getElem?_eq_getElem (by omega)]; exact List.getElem_mem _
    obtain ⟨p1, p2, p3⟩ := hp _ hmem
    generalize ps.getD j dPr = p at hat p1 p2 p3
    have h1 := Feed_eq p.a p.b .any .any p.z p.y p1 p2 p3
    have h2 := RFeed_eq p.a p.b .any .any p.z p.y p1 p2 p3
    have h3 := fdF_len ((p.a ++ p.b).length + 1) (p.a ++ p.b) []
    have hpl : (p.a ++ p.b).length ≤ 4000000 := by simp; omega
    generalize fdF ((p.a ++ p.b).length + 1) (p.a ++ p.b) [] = R at h1 h2 h3
    obtain ⟨out, b, ok⟩ := R
    have h4 := fun t1 t2 => SameList_self out (by simp at h3; simp at hpl; omega) t1 t2 6 6 (fun _ => rfl) (fun _ => rfl)
    have h5 := fun t1 t2 z1 z2 => SameBytes_eq b b t1 t2 z1 z2
    have h6 := fun t1 t2 z1 z2 => SameBytes_eq [] [] t1 t2 z1 z2
    simp only [decide_true, u8s_nil] at h5 h6
    cases ok
    all_goals
      simp only [fdR] at h1 h2
      simp -dsimp (disch := first | rfl | omega) only [r6_15, r6_16, r6_17, r6_18, r6_19, r6_21, callW_fn pgFeed, callW_fn pgRFeed, callW_fn pgSameL, callW_fn pgSame, h1, h2, h4, h5, h6, hat, e0, ej, ne_eq, not_true_eq_false, ↓vmP, vm0, vm1, vm2, vm3, vm4, vm5, vm6, vm7, vm8, vm9, vm10, vm11, vm12, vm13, vm14, vm15, vmC, vmN, Nat.reduceAdd, Nat.reduceMul, Nat.reduceSub, Nat.reduceEqDiff, Nat.reduceLT, Nat.reduceLeDiff, ↓reduceIte, Tg.isFull, Int.reduceToNat]
      rw [← hJ]
      exact ih (j + 1) _ (by omega) (by simp -dsimp (disch := first | rfl | omega) only [↓vmP, vm0, vm1, vm2, vm3, vm4, vm5, vm6, vm7, vm8, vm9, vm10, vm11, vm12, vm13, vm14, vm15, vmC, vmN, Nat.reduceAdd, Nat.reduceMul, Nat.reduceSub, Nat.reduceEqDiff, Nat.reduceLT, Nat.reduceLeDiff, ↓reduceIte, Tg.isFull, Int.reduceToNat]) hQ
theorem u8s_set (b : List UInt8) (i : Nat) (v : UInt8) : (u8s b).set i [.int .u8 v.toNat] = u8s (b.set i v) := by simp [u8s, List.map_set]
set_option maxRecDepth 20000 in
theorem law_feeds (codes raw rest : List UInt8) (hr : raw.length + rest.length ≤ 1048576) (at' : Nat) (ha : at' < 65536) (by' how : UInt8) : runW false prog 6 [.d (.sl .any 1 (u8s codes)), .d (.sl .any 1 (u8s raw)), .d (.sl .any 1 (u8s rest)), .d (.int .u16 at'), .d (.int .u8 by'.toNat), .d (.int .u8 how.toNat)] [] = some (.d (.bool true), [], []) := by
  refine run_of rfl ?_
  have h1 := New_eq codes 200 (by omega)
  rw [show ((200 : Nat) : Int) = 200 from rfl] at h1
  have hcl : (codes.take 200).length ≤ 1000 := by rw [List.length_take]; omega
  generalize codes.take 200 = l at h1 hcl
  obtain ⟨L, a1, hL, hLl, _, _, h2⟩ := Stream_ex l 0 hcl (by omega)
  have hel := encs_len hL
  generalize encs L = b at h2 hel
  have hbl : b.length ≤ 200000 := by omega
  simp only [cs] at h1 h2
  rw [show (((0 : Nat) : Int)) = 0 from rfl] at h1 h2
  have fin : ∀ (y : List UInt8) (f : Bool) (s : St), y.length ≤ 300000 → gc [(92, none), (93, none), (94, none)] s = ⟨gS [(92, .row 0), (93, .d (.int .i64 5)), (94, .d (.int .i64 0))], gH [(0, .row 2 f [[.sl .any 0 [], .sl .any 1 (u8s b)], [.sl .any 0 [], .sl .any 1 (u8s y)], [.sl .any 1 (u8s rest), .sl .any 1 (u8s raw)], [.sl .any 1 (u8s b), .sl .any 1 (u8s raw)], [.sl .any 1 (u8s rest), .sl .any 1 (u8s y)]])], 1, 0, []⟩ →
      wpW false prog (.loop [(92, none), (93, none), (94, none)] l6_22) s (blockK 1 (seqK false prog ((CCode.reg r6_23 false (some [12])).seq CCode.ret) (leaveK false [.tmp 12] false [] none 0 (.d (.bool true), [], [])))) := fun y f s hy hg => by
    refine f_loop [⟨0, [], 1, b⟩, ⟨0, [], 1, y⟩, ⟨1, rest, 1, raw⟩, ⟨1, b, 1, raw⟩, ⟨1, rest, 1, y⟩] (fun p hp => ?_) (by simp) f 5 0 s rfl hg (fun L H => ?_)
    · simp at hp
      rcases hp with rfl | rfl | rfl | rfl | rfl
      · exact ⟨rfl, rfl, by simp; omega⟩
      · exact ⟨rfl, rfl, by simp; omega⟩
      · exact ⟨rfl, rfl, by show rest.length + raw.length ≤ _; omega⟩
      · exact ⟨rfl, rfl, by show b.length + raw.length ≤ _; omega⟩
      · exact ⟨rfl, rfl, by show rest.length + y.length ≤ _; omega⟩
    · simp -dsimp (disch := first | rfl | omega) only [r6_23, callW_fn pgBegun, begun_eq, ↓vmP, vm0, vm1, vm2, vm3, vm4, vm5, vm6, vm7, vm8, vm9, vm10, vm11, vm12, vm13, vm14, vm15, vmC, vmN, Nat.reduceAdd, Nat.reduceMul, Nat.reduceSub, Nat.reduceEqDiff, Nat.reduceLT, Nat.reduceLeDiff, ↓reduceIte, Tg.isFull, Int.reduceToNat]
  have eb : (b = [] ∧ (u8s b).isEmpty = true) ∨ ((u8s b).isEmpty = false ∧ 0 < b.length) := by cases b; exact .inl ⟨rfl, rfl⟩; exact .inr ⟨rfl, by simp⟩
  have hul := u8s_len b
  rcases eb with ⟨rfl, eb⟩ | ⟨eb, hb0⟩
  · simp -dsimp (disch := first | rfl | omega) only [cs, r6_0, r6_1, r6_2, r6_3, r6_4, r6_14, callW_fn pgNewF, callW_fn pgStream, h1, h2, eb, u8s_nil, List.append_nil, show (((0 : Nat) : Int)) = 0 from rfl, Int.reduceLT, ↓vmP, vm0, vm1, vm2, vm3, vm4, vm5, vm6, vm7, vm8, vm9, vm10, vm11, vm12, vm13, vm14, vm15, vmC, vmN, Nat.reduceAdd, Nat.reduceMul, Nat.reduceSub, Nat.reduceEqDiff, Nat.reduceLT, Nat.reduceLeDiff, ↓reduceIte, Tg.isFull, Int.reduceToNat]
    refine fin [] _ _ (by simp) (by simp -dsimp (disch := first | rfl | omega) only [u8s_nil, ↓vmP, vm0, vm1, vm2, vm3, vm4, vm5, vm6, vm7, vm8, vm9, vm10, vm11, vm12, vm13, vm14, vm15, vmC, vmN, Nat.reduceAdd, Nat.reduceMul, Nat.reduceSub, Nat.reduceEqDiff, Nat.reduceLT, Nat.reduceLeDiff, ↓reduceIte, Tg.isFull, Int.reduceToNat]; rfl)
  · have e1 : (0 < (b.length : Int)) = True := eq_true (by omega)
    have em : ((at' : Int).tmod (b.length : Int)) = ((at' % b.length : Nat) : Int) := tmod_nat _ _
    have hi : at' % b.length < b.length := Nat.mod_lt _ hb0
    generalize at' % b.length = i at em hi
    have ea : IntKind.i64.wrap (at' : Int) = at' := w_i64 (by omega)
    have hne : ((b.length : Int) = 0) = False := eq_false (by omega)
    have e4 : ((how.toNat : Int).tmod 4) = ((how.toNat % 4 : Nat) : Int) := tmod_nat _ 4
    have hlt4 : how.toNat % 4 < 4 := Nat.mod_lt _ (by omega)
    generalize how.toNat % 4 = q at e4 hlt4
    have hq : q = 0 ∨ q = 1 ∨ q = 2 ∨ q = 3 := by omega
    have hat := u8s_at b hi
    rcases hq with rfl | rfl | rfl | rfl
    · simp -dsimp (disch := first | rfl | omega) only [cs, r6_0, r6_1, r6_2, r6_3, r6_4, r6_5, r6_6, r6_7, r6_8, r6_9, r6_10, r6_11, r6_12, r6_13, r6_14, callW_fn pgNewF, callW_fn pgStream, h1, h2, eb, e1, em, ea, hne, e4, hat, w_toB, u8s_set, show (((0 : Nat) : Int)) = 0 from rfl, ↓vmP, vm0, vm1, vm2, vm3, vm4, vm5, vm6, vm7, vm8, vm9, vm10, vm11, vm12, vm13, vm14, vm15, vmC, vmN, Nat.reduceAdd, Nat.reduceMul, Nat.reduceSub, Nat.reduceEqDiff, Nat.reduceLT, Nat.reduceLeDiff, ↓reduceIte, Tg.isFull, Int.reduceToNat]
      refine fin _ _ _ ?_ (by simp -dsimp (disch := first | rfl | omega) only [↓vmP, vm0, vm1, vm2, vm3, vm4, vm5, vm6, vm7, vm8, vm9, vm10, vm11, vm12, vm13, vm14, vm15, vmC, vmN, Nat.reduceAdd, Nat.reduceMul, Nat.reduceSub, Nat.reduceEqDiff, Nat.reduceLT, Nat.reduceLeDiff, ↓reduceIte, Tg.isFull, Int.reduceToNat]; rfl)
      simp; omega
    · simp -dsimp (disch := first | rfl | omega) only [cs, r6_0, r6_1, r6_2, r6_3, r6_4, r6_5, r6_6, r6_7, r6_8, r6_9, r6_10, r6_11, r6_12, r6_13, r6_14, callW_fn pgNewF, callW_fn pgStream, h1, h2, eb, e1, em, ea, hne, e4, show (((1 : Nat) : Int)) = 1 from rfl, Int.reduceEq, ↓vmP, vm0, vm1, vm2, vm3, vm4, vm5, vm6, vm7, vm8, vm9, vm10, vm11, vm12, vm13, vm14, vm15, vmC, vmN, Nat.reduceAdd, Nat.reduceMul, Nat.reduceSub, Nat.reduceEqDiff, Nat.reduceLT, Nat.reduceLeDiff, ↓reduceIte, Tg.isFull, Int.reduceToNat]
      refine fin (b.take i) _ _ (by simp; omega) (by simp -dsimp (disch := first | rfl | omega) only [↓vmP, vm0, vm1, vm2, vm3, vm4, vm5, vm6, vm7, vm8, vm9, vm10, vm11, vm12, vm13, vm14, vm15, vmC, vmN, Nat.reduceAdd, Nat.reduceMul, Nat.reduceSub, Nat.reduceEqDiff, Nat.reduceLT, Nat.reduceLeDiff, ↓reduceIte, Tg.isFull, Int.reduceToNat]; rfl)
    · simp -dsimp (disch := first | rfl | omega) only [cs, r6_0, r6_1, r6_2, r6_3, r6_4, r6_5, r6_6, r6_7, r6_8, r6_9, r6_10, r6_11, r6_12, r6_13, r6_14, callW_fn pgNewF, callW_fn pgStream, h1, h2, eb, e1, em, ea, hne, e4, show (((2 : Nat) : Int)) = 2 from rfl, Int.reduceEq, u8_cons, ↓vmP, vm0, vm1, vm2, vm3, vm4, vm5, vm6, vm7, vm8, vm9, vm10, vm11, vm12, vm13, vm14, vm15, vmC, vmN, Nat.reduceAdd, Nat.reduceMul, Nat.reduceSub, Nat.reduceEqDiff, Nat.reduceLT, Nat.reduceLeDiff, ↓reduceIte, Tg.isFull, Int.reduceToNat]
      refine fin (b ++ [by', by']) _ _ (by simp; omega) (by simp -dsimp (disch := first | rfl | omega) only [u8_cons, ↓vmP, vm0, vm1, vm2, vm3, vm4, vm5, vm6, vm7, vm8, vm9, vm10, vm11, vm12, vm13, vm14, vm15, vmC, vmN, Nat.reduceAdd, Nat.reduceMul, Nat.reduceSub, Nat.reduceEqDiff, Nat.reduceLT, Nat.reduceLeDiff, ↓reduceIte, Tg.isFull, Int.reduceToNat]; rfl)
    · have hib : (i = 0 ∧ (u8s (b.take i)).isEmpty = true) ∨ (u8s (b.take i)).isEmpty = false := by
        cases b with
        | nil => simp at hb0
        | cons c b => cases i with
          | zero => exact .inl ⟨rfl, rfl⟩
          | succ i => exact .inr rfl
      have hid : (u8s (b.drop i)).isEmpty = false := by
        rw [drop_cons' b i hi]; rfl
      have htl : (b.take i).length = i := by simp; omega
      have hdl : (b.drop i).length = b.length - i := by simp
      rcases hib with ⟨rfl, hib⟩ | hib
      · simp -dsimp (disch := first | rfl | omega) only [cs, r6_0, r6_1, r6_2, r6_3, r6_4, r6_5, r6_6, r6_7, r6_8, r6_9, r6_10, r6_11, r6_12, r6_13, r6_14, callW_fn pgNewF, callW_fn pgStream, h1, h2, eb, e1, em, ea, hne, e4, show (((3 : Nat) : Int)) = 3 from rfl, Int.reduceEq, hib, hid, List.take_length, ↓vmP, vm0, vm1, vm2, vm3, vm4, vm5, vm6, vm7, vm8, vm9, vm10, vm11, vm12, vm13, vm14, vm15, vmC, vmN, Nat.reduceAdd, Nat.reduceMul, Nat.reduceSub, Nat.reduceEqDiff, Nat.reduceLT, Nat.reduceLeDiff, ↓reduceIte, Tg.isFull, Int.reduceToNat]
        refine regD_of (by kernel_rfl) ?_
        simp -dsimp (disch := first | rfl | omega) only [↓vmP, vm0, vm1, vm2, vm3, vm4, vm5, vm6, vm7, vm8, vm9, vm10, vm11, vm12, vm13, vm14, vm15, vmC, vmN, Nat.reduceAdd, Nat.reduceMul, Nat.reduceSub, Nat.reduceEqDiff, Nat.reduceLT, Nat.reduceLeDiff, ↓reduceIte, Tg.isFull, Int.reduceToNat]
        refine fin ([by'] ++ b) _ _ (by simp; omega) (by simp -dsimp (disch := first | rfl | omega) only [↓vmP, vm0, vm1, vm2, vm3, vm4, vm5, vm6, vm7, vm8, vm9, vm10, vm11, vm12, vm13, vm14, vm15, vmC, vmN, Nat.reduceAdd, Nat.reduceMul, Nat.reduceSub, Nat.reduceEqDiff, Nat.reduceLT, Nat.reduceLeDiff, ↓reduceIte, Tg.isFull, Int.reduceToNat]; rfl)
      · simp -dsimp (disch := first | rfl | omega) only [cs, r6_0, r6_1, r6_2, r6_3, r6_4, r6_5, r6_6, r6_7, r6_8, r6_9, r6_10, r6_11, r6_12, r6_13, r6_14, callW_fn pgNewF, callW_fn pgStream, h1, h2, eb, e1, em, ea, hne, e4, show (((3 : Nat) : Int)) = 3 from rfl, Int.reduceEq, hib, hid, List.take_length, ↓vmP, vm0, vm1, vm2, vm3, vm4, vm5, vm6, vm7, vm8, vm9, vm10, vm11, vm12, vm13, vm14, vm15, vmC, vmN, Nat.reduceAdd, Nat.reduceMul, Nat.reduceSub, Nat.reduceEqDiff, Nat.reduceLT, Nat.reduceLeDiff, ↓reduceIte, Tg.isFull, Int.reduceToNat]
        refine regD_of (by kernel_rfl) ?_
        simp -dsimp (disch := first | rfl | omega) only [↓vmP, vm0, vm1, vm2, vm3, vm4, vm5, vm6, vm7, vm8, vm9, vm10, vm11, vm12, vm13, vm14, vm15, vmC, vmN, Nat.reduceAdd, Nat.reduceMul, Nat.reduceSub, Nat.reduceEqDiff, Nat.reduceLT, Nat.reduceLeDiff, ↓reduceIte, Tg.isFull, Int.reduceToNat]
        refine fin (b.take i ++ [by'] ++ b.drop i) _ _ (by simp; omega) (by simp -dsimp (disch := first | rfl | omega) only [↓vmP, vm0, vm1, vm2, vm3, vm4, vm5, vm6, vm7, vm8, vm9, vm10, vm11, vm12, vm13, vm14, vm15, vmC, vmN, Nat.reduceAdd, Nat.reduceMul, Nat.reduceSub, Nat.reduceEqDiff, Nat.reduceLT, Nat.reduceLeDiff, ↓reduceIte, Tg.isFull, Int.reduceToNat]; rfl)
end Go.Vm.Wr
