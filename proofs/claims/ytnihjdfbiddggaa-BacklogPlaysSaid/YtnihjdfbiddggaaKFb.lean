/- A part of the proof of BacklogPlaysSaid: YtnihjdfbiddggaaFb. -/
import Derived.Test.YtnihjdfbiddggaaKFa
import Derived.Test.YtnihjdfbiddggaaKVmKeep
/- Records: copies, stamps, losses. -/
set_option linter.unusedVariables false
set_option linter.unusedSimpArgs false
set_option maxHeartbeats 1000000
namespace Go.Vm.Bk
theorem lk1 : List.lookup 0 [(0, 1)] = some 1 := rfl
theorem lk2 : List.lookup 0 [(0, 2)] = some 2 := rfl
theorem lk4 : List.lookup 0 [(0, 4)] = some 4 := rfl
structure Par where
  name : List UInt8
  kind : Int
  num : Int
  text : List UInt8
def parC (p : Par) : List D := [.str ⟨p.name.toArray⟩, .int .i64 p.kind, .int .i64 p.num, .str ⟨p.text.toArray⟩]
def psD (l : List Par) : List (List D) := l.map parC
def pz (l : List Par) : Nat := if l.isEmpty then 0 else 4
theorem psD_len (l : List Par) : (psD l).length = l.length := by simp [psD]
structure Rec where
  ty : Int
  time : Int
  serial : Int
  pairs : List Par
def recC (r : Rec) : List D := [.int .i64 r.ty, .int .i64 r.time, .int .i64 r.serial, .sl .any (pz r.pairs) (psD r.pairs)]
def recA (r : Rec) : List A := [.d (.int .i64 r.ty), .d (.int .i64 r.time), .d (.int .i64 r.serial), .d (.sl .any (pz r.pairs) (psD r.pairs))]
def recs (l : List Rec) : List (List D) := l.map recC
theorem recs_len (l : List Rec) : (recs l).length = l.length := by simp [recs]
def zR : List D := [.int .i64 0, .int .i64 0, .int .i64 0, .sl .nil 0 []]
def dRec : Rec := ⟨0, 0, 0, []⟩
theorem recs_at (l : List Rec) {i : Nat} (h : i < l.length) : (recs l)[i]? = some (recC (l.getD i dRec)) := by
  simp [recs, h, List.getD_eq_getElem?_getD]
theorem recs_app (a b : List Rec) : recs a ++ recs b = recs (a ++ b) := by simp [recs]
def notes (l : List (Int × Int)) : List (List D) := l.map fun p => [.int .i64 p.1, .int .i64 p.2]
theorem notes_len (l : List (Int × Int)) : (notes l).length = l.length := by simp [notes]
theorem notes_app (a b : List (Int × Int)) : notes a ++ notes b = notes (a ++ b) := by simp [notes]
theorem pz_ok (l : List Par) : okSz 4 (pz l) (psD l) = true := by cases l <;> rfl
theorem pgCl1 : prog 72 = some c72 := rfl
theorem LI_eq0 (t : Tg) (z : Nat) : runW false prog 62 [.d (.sl t z [])] [] = some (.row 0, [.row 1 true []], []) := by
  refine run_of rfl ?_
  have e0 : ((0 : Nat) : Int) = 0 := rfl
  simp -dsimp (disch := first | rfl | omega) only [r62_0, r62_1, r62_2, e0, vmK, lk1, ↓vmP, vm0, vm1, vm2, vm3, vm4, vm5, vm6, vm7, vm8, vm9, vm10, vm11, vm12, vm13, vm14, vm15, vmC, vmN, Nat.reduceAdd, Nat.reduceMul, Nat.reduceSub, Nat.reduceEqDiff, Nat.reduceLT, Nat.reduceLeDiff, ↓reduceIte, Tg.isFull, Int.reduceToNat]
theorem LI_eq (l : List Int) (t : Tg) (z : Nat) (hz : okSz 1 z (i64s l) = true) (hl : l.length ≤ 1000000) : runW false prog 62 [.d (.sl t z (i64s l))] [] = some (.row 0, [.row 1 l.isEmpty (i64s l)], []) := by
  have hlen : (i64s l).length = l.length := by simp [i64s]
  cases l with
  | nil => exact LI_eq0 t z
  | cons x l =>
    refine run_of rfl ?_
    have e0 : (((x :: l).length : Int) = 0) = False := eq_false (by simp; omega)
    generalize hx : i64s (x :: l) = X at hz hlen
    have hie : (x :: l).isEmpty = false := rfl
    rw [hie]
    generalize (x :: l).length = n at hlen hl e0
    subst hlen
    simp -dsimp (disch := first | rfl | omega) only [r62_0, r62_1, r62_3, callW_cl pgCl1, hz, e0, vmK, ↓vmP, vm0, vm1, vm2, vm3, vm4, vm5, vm6, vm7, vm8, vm9, vm10, vm11, vm12, vm13, vm14, vm15, vmC, vmN, Nat.reduceAdd, Nat.reduceMul, Nat.reduceSub, Nat.reduceEqDiff, Nat.reduceLT, Nat.reduceLeDiff, ↓reduceIte, Tg.isFull, Int.reduceToNat]
theorem pgCl2 : prog 73 = some c73 := rfl
theorem LN_eq0 (t : Tg) (z : Nat) : runW false prog 63 [.d (.sl t z [])] [] = some (.row 0, [.row 2 true []], []) := by
  refine run_of rfl ?_
  have e0 : ((0 : Nat) : Int) = 0 := rfl
  simp -dsimp (disch := first | rfl | omega) only [r63_0, r63_1, r63_2, e0, vmK, lk2, ↓vmP, vm0, vm1, vm2, vm3, vm4, vm5, vm6, vm7, vm8, vm9, vm10, vm11, vm12, vm13, vm14, vm15, vmC, vmN, Nat.reduceAdd, Nat.reduceMul, Nat.reduceSub, Nat.reduceEqDiff, Nat.reduceLT, Nat.reduceLeDiff, ↓reduceIte, Tg.isFull, Int.reduceToNat]
theorem LN_eq (l : List (Int × Int)) (t : Tg) (z : Nat) (hz : okSz 2 z (notes l) = true) (hl : l.length ≤ 1000000) : runW false prog 63 [.d (.sl t z (notes l))] [] = some (.row 0, [.row 2 l.isEmpty (notes l)], []) := by
  have hlen : (notes l).length = l.length := by simp [notes]
  cases l with
  | nil => exact LN_eq0 t z
  | cons x l =>
    refine run_of rfl ?_
    have e0 : (((x :: l).length : Int) = 0) = False := eq_false (by simp; omega)
    generalize hx : notes (x :: l) = X at hz hlen
    have hie : (x :: l).isEmpty = false := rfl
    rw [hie]
    generalize (x :: l).length = n at hlen hl e0
    subst hlen
    simp -dsimp (disch := first | rfl | omega) only [r63_0, r63_1, r63_3, callW_cl pgCl2, hz, e0, vmK, ↓vmP, vm0, vm1, vm2, vm3, vm4, vm5, vm6, vm7, vm8, vm9, vm10, vm11, vm12, vm13, vm14, vm15, vmC, vmN, Nat.reduceAdd, Nat.reduceMul, Nat.reduceSub, Nat.reduceEqDiff, Nat.reduceLT, Nat.reduceLeDiff, ↓reduceIte, Tg.isFull, Int.reduceToNat]
theorem pgCl4 : prog 77 = some c77 := rfl
theorem LP_eq0 (t : Tg) : runW false prog 69 [.d (.sl t 0 [])] [] = some (.d (.sl .any 0 []), [], []) := by
  refine run_of rfl ?_
  have e0 : ((0 : Nat) : Int) = 0 := rfl
  simp -dsimp (disch := first | rfl | omega) only [r69_0, r69_1, r69_2, e0, ↓vmP, vm0, vm1, vm2, vm3, vm4, vm5, vm6, vm7, vm8, vm9, vm10, vm11, vm12, vm13, vm14, vm15, vmC, vmN, Nat.reduceAdd, Nat.reduceMul, Nat.reduceSub, Nat.reduceEqDiff, Nat.reduceLT, Nat.reduceLeDiff, ↓reduceIte, Tg.isFull, Int.reduceToNat]
  try rfl
theorem LP_eq (l : List Par) (t : Tg) (hl : l.length ≤ 1000000) : runW false prog 69 [.d (.sl t (pz l) (psD l))] [] = some (.d (.sl .any (pz l) (psD l)), [], []) := by
  have hz := pz_ok l
  have hlen := psD_len l
  cases l with
  | nil => exact LP_eq0 t
  | cons x l =>
    refine run_of rfl ?_
    have e0 : (((x :: l).length : Int) = 0) = False := eq_false (by simp; omega)
    have hp : pz (x :: l) = 4 := rfl
    rw [hp] at hz ⊢
    generalize hx : psD (x :: l) = X at hz hlen
    generalize (x :: l).length = n at hlen hl e0
    subst hlen
    simp -dsimp (disch := first | rfl | omega) only [r69_0, r69_1, r69_3, callW_cl pgCl4, hz, e0, ↓vmP, vm0, vm1, vm2, vm3, vm4, vm5, vm6, vm7, vm8, vm9, vm10, vm11, vm12, vm13, vm14, vm15, vmC, vmN, Nat.reduceAdd, Nat.reduceMul, Nat.reduceSub, Nat.reduceEqDiff, Nat.reduceLT, Nat.reduceLeDiff, ↓reduceIte, Tg.isFull, Int.reduceToNat]
theorem pgLP : prog 69 = some c69 := rfl
theorem Rec_eq (r : Rec) (hl : r.pairs.length ≤ 1000000) : runW false prog 52 [.agg (recA r)] [] = some (.agg (recA r), [], []) := by
  refine run_of rfl ?_
  have h1 := fun t => LP_eq r.pairs t hl
  simp -dsimp (disch := first | rfl | omega) only [recA, r52_0, r52_1, r52_2, callW_fn pgLP, h1, ↓vmP, vm0, vm1, vm2, vm3, vm4, vm5, vm6, vm7, vm8, vm9, vm10, vm11, vm12, vm13, vm14, vm15, vmC, vmN, Nat.reduceAdd, Nat.reduceMul, Nat.reduceSub, Nat.reduceEqDiff, Nat.reduceLT, Nat.reduceLeDiff, ↓reduceIte, Tg.isFull, Int.reduceToNat]
theorem pgRec : prog 52 = some c52 := rfl
def stp (s : Int) (r : Rec) : Rec := { r with serial := s }
theorem SF_eq (r : Rec) (s : Int) (hl : r.pairs.length ≤ 1000000) : runW false prog 74 [.agg (recA r), .ptr 0 0] [.box [.d (.int .i64 s)]] = some (.agg (recA (stp s r)), [.box [.d (.int .i64 s)]], []) := by
  refine run_of rfl ?_
  have h1 := Rec_eq r hl
  simp only [recA] at h1
  simp -dsimp (disch := first | rfl | omega) only [recA, stp, r74_0, r74_1, r74_2, r74_3, callW_fn pgRec, h1, ↓vmP, vm0, vm1, vm2, vm3, vm4, vm5, vm6, vm7, vm8, vm9, vm10, vm11, vm12, vm13, vm14, vm15, vmC, vmN, Nat.reduceAdd, Nat.reduceMul, Nat.reduceSub, Nat.reduceEqDiff, Nat.reduceLT, Nat.reduceLeDiff, ↓reduceIte, Tg.isFull, Int.reduceToNat]
theorem rnum_eq (n : ByteArray) (k : Int) : runW false prog 59 [.d (.str n), .d (.int .i64 k)] [] = some (.agg [.d (.str n), .d (.int .i64 1), .d (.int .i64 k), .d (.str ⟨⟨[]⟩⟩)], [], []) := by
  refine run_of rfl ?_
  simp -dsimp (disch := first | rfl | omega) only [r59_0, r59_1, ↓vmP, vm0, vm1, vm2, vm3, vm4, vm5, vm6, vm7, vm8, vm9, vm10, vm11, vm12, vm13, vm14, vm15, vmC, vmN, Nat.reduceAdd, Nat.reduceMul, Nat.reduceSub, Nat.reduceEqDiff, Nat.reduceLT, Nat.reduceLeDiff, ↓reduceIte, Tg.isFull, Int.reduceToNat]
theorem pg_rnum_eq : prog 59 = some c59 := rfl
theorem num_eq (n : ByteArray) (k : Int) : runW false prog 76 [.d (.str n), .d (.int .i64 k)] [] = some (.agg [.d (.str n), .d (.int .i64 1), .d (.int .i64 k), .d (.str ⟨⟨[]⟩⟩)], [], []) := by
  refine run_of rfl ?_
  simp -dsimp (disch := first | rfl | omega) only [r76_0, r76_1, ↓vmP, vm0, vm1, vm2, vm3, vm4, vm5, vm6, vm7, vm8, vm9, vm10, vm11, vm12, vm13, vm14, vm15, vmC, vmN, Nat.reduceAdd, Nat.reduceMul, Nat.reduceSub, Nat.reduceEqDiff, Nat.reduceLT, Nat.reduceLeDiff, ↓reduceIte, Tg.isFull, Int.reduceToNat]
theorem pg_num_eq : prog 76 = some c76 := rfl
def lossP (p0 p1 p2 p3 p4 : Int) : List Par := [⟨[102, 105, 114, 115, 116], 1, p0, []⟩, ⟨[108, 97, 115, 116], 1, p1, []⟩, ⟨[114, 97, 116, 101, 100], 1, p2, []⟩, ⟨[102, 117, 108, 108], 1, p3, []⟩, ⟨[115, 116, 97, 108, 108, 101, 100], 1, p4, []⟩]
def lossR (p0 p1 p2 p3 p4 time serial : Int) : Rec := ⟨1331, time, serial, lossP p0 p1 p2 p3 p4⟩
theorem recordE_eq (k t : Int) (p0 p1 p2 p3 p4 : Int) : runW false prog 75 [.d (.int .i64 k), .d (.int .i64 t), .d (.sl .any 4 (psD (lossP p0 p1 p2 p3 p4)))] [] = some (.agg (recA ⟨k, t, 0, lossP p0 p1 p2 p3 p4⟩), [], []) := by
  refine run_of rfl ?_
  generalize hx : psD (lossP p0 p1 p2 p3 p4) = X
  have hp : pz (lossP p0 p1 p2 p3 p4) = 4 := rfl
  simp -dsimp (disch := first | rfl | omega) only [recA, hp, hx, r75_0, r75_1, ↓vmP, vm0, vm1, vm2, vm3, vm4, vm5, vm6, vm7, vm8, vm9, vm10, vm11, vm12, vm13, vm14, vm15, vmC, vmN, Nat.reduceAdd, Nat.reduceMul, Nat.reduceSub, Nat.reduceEqDiff, Nat.reduceLT, Nat.reduceLeDiff, ↓reduceIte, Tg.isFull, Int.reduceToNat]
theorem pg_recordE : prog 75 = some c75 := rfl
theorem loss_c (p0 p1 p2 p3 p4 : Int) : [[D.str ⟨⟨[102, 105, 114, 115, 116]⟩⟩, D.int .i64 1, D.int .i64 p0, D.str ⟨⟨[]⟩⟩], [D.str ⟨⟨[108, 97, 115, 116]⟩⟩, D.int .i64 1, D.int .i64 p1, D.str ⟨⟨[]⟩⟩], [D.str ⟨⟨[114, 97, 116, 101, 100]⟩⟩, D.int .i64 1, D.int .i64 p2, D.str ⟨⟨[]⟩⟩], [D.str ⟨⟨[102, 117, 108, 108]⟩⟩, D.int .i64 1, D.int .i64 p3, D.str ⟨⟨[]⟩⟩], [D.str ⟨⟨[115, 116, 97, 108, 108, 101, 100]⟩⟩, D.int .i64 1, D.int .i64 p4, D.str ⟨⟨[]⟩⟩]] = psD (lossP p0 p1 p2 p3 p4) := rfl
set_option maxRecDepth 20000 in
theorem RLoss_eq (p0 p1 p2 p3 p4 t : Int) : runW false prog 29 [.agg [.d (.int .i64 p0), .d (.int .i64 p1), .d (.int .i64 p2), .d (.int .i64 p3), .d (.int .i64 p4)], .d (.int .i64 t)] [] = some (.agg (recA (lossR p0 p1 p2 p3 p4 t 0)), [], []) := by
  refine run_of rfl ?_
  have hr := recordE_eq 1331 t p0 p1 p2 p3 p4
  have hp : pz (lossP p0 p1 p2 p3 p4) = 4 := rfl
  simp only [recA] at hr
  simp -dsimp (disch := first | rfl | omega) only [recA, lossR, r29_0, r29_1, callW_fn pg_rnum_eq, rnum_eq, loss_c, ↓vmP, vm0, vm1, vm2, vm3, vm4, vm5, vm6, vm7, vm8, vm9, vm10, vm11, vm12, vm13, vm14, vm15, vmC, vmN, Nat.reduceAdd, Nat.reduceMul, Nat.reduceSub, Nat.reduceEqDiff, Nat.reduceLT, Nat.reduceLeDiff, ↓reduceIte, Tg.isFull, Int.reduceToNat]
  refine regD_of (by kernel_rfl) ?_
  simp -dsimp (disch := first | rfl | omega) only [recA, lossR, loss_c, hp, ↓vmP, vm0, vm1, vm2, vm3, vm4, vm5, vm6, vm7, vm8, vm9, vm10, vm11, vm12, vm13, vm14, vm15, vmC, vmN, Nat.reduceAdd, Nat.reduceMul, Nat.reduceSub, Nat.reduceEqDiff, Nat.reduceLT, Nat.reduceLeDiff, ↓reduceIte, Tg.isFull, Int.reduceToNat]
set_option maxRecDepth 20000 in
theorem Loss_eq (p0 p1 p2 p3 p4 t : Int) : runW false prog 68 [.agg [.d (.int .i64 p0), .d (.int .i64 p1), .d (.int .i64 p2), .d (.int .i64 p3), .d (.int .i64 p4)], .d (.int .i64 t)] [] = some (.agg (recA (lossR p0 p1 p2 p3 p4 t 0)), [], []) := by
  refine run_of rfl ?_
  have hr := recordE_eq 1331 t p0 p1 p2 p3 p4
  have hp : pz (lossP p0 p1 p2 p3 p4) = 4 := rfl
  simp only [recA] at hr
  simp -dsimp (disch := first | rfl | omega) only [recA, lossR, r68_0, r68_1, callW_fn pg_num_eq, num_eq, loss_c, callW_fn pg_recordE, hr, ↓vmP, vm0, vm1, vm2, vm3, vm4, vm5, vm6, vm7, vm8, vm9, vm10, vm11, vm12, vm13, vm14, vm15, vmC, vmN, Nat.reduceAdd, Nat.reduceMul, Nat.reduceSub, Nat.reduceEqDiff, Nat.reduceLT, Nat.reduceLeDiff, ↓reduceIte, Tg.isFull, Int.reduceToNat]
  refine regD_of (by kernel_rfl) ?_
  simp -dsimp (disch := first | rfl | omega) only [recA, lossR, loss_c, hp, ↓vmP, vm0, vm1, vm2, vm3, vm4, vm5, vm6, vm7, vm8, vm9, vm10, vm11, vm12, vm13, vm14, vm15, vmC, vmN, Nat.reduceAdd, Nat.reduceMul, Nat.reduceSub, Nat.reduceEqDiff, Nat.reduceLT, Nat.reduceLeDiff, ↓reduceIte, Tg.isFull, Int.reduceToNat]
set_option maxRecDepth 20000 in
theorem E52_loop {Q : Ex → St → Prop} (l : List Rec) (hl : l.length ≤ 1000000) (hp : ∀ r ∈ l, r.pairs.length ≤ 1000000) (z : Nat) (hz : l ≠ [] → z = 4) (pgG : prog 52 = some c52) : ∀ (k j : Nat) (s : St), j + k = l.length →
    gc [(1, none), (5, none), (14, none), (15, none), (16, none)] s = ⟨gS [(1, .fn 52 []), (5, .row 0), (14, .d (.sl .any z (recs l))), (15, .d (.int .i64 l.length)), (16, .d (.int .i64 j))], gH [(0, .row 4 false (recs ((l.take j).map (id)) ++ List.replicate k zR))], 1, 0, []⟩ →
    (∀ T, Q (.exit 0) ⟨gS ((1, .fn 52 []) :: (5, .row 0) :: T), gH [(0, .row 4 false (recs (l.map (id))))], 9, 0, []⟩) → wpW false prog (.loop [(1, none), (5, none), (14, none), (15, none), (16, none)] l71_9) s Q := by
  intro k
  induction k with
  | zero =>
    intro j s hj hg hQ
    refine wp_loop1 ?_
    rw [hg]
    generalize hJ : (fun s' => wpW false prog (.loop [(1, none), (5, none), (14, none), (15, none), (16, none)] l71_9) s' Q) = J
    unfold l71_9
    have e0 : ((j : Int) < l.length) = False := eq_false (by omega)
    rw [List.take_of_length_le (by omega), List.replicate_zero, List.append_nil]
    simp -dsimp (disch := first | rfl | omega) only [r71_5, e0, ↓vmP, vm0, vm1, vm2, vm3, vm4, vm5, vm6, vm7, vm8, vm9, vm10, vm11, vm12, vm13, vm14, vm15, vmC, vmN, Nat.reduceAdd, Nat.reduceMul, Nat.reduceSub, Nat.reduceEqDiff, Nat.reduceLT, Nat.reduceLeDiff, ↓reduceIte, Tg.isFull, Int.reduceToNat]
    exact hQ _
  | succ k ih =>
    intro j s hj hg hQ
    refine wp_loop1 ?_
    rw [hg]
    generalize hJ : (fun s' => wpW false prog (.loop [(1, none), (5, none), (14, none), (15, none), (16, none)] l71_9) s' Q) = J
    unfold l71_9
    have e0 : ((j : Int) < l.length) = True := eq_true (by omega)
    have ej : ((j : Int) + 1) = ((j + 1 : Nat) : Int) := by omega
    have hne : l ≠ [] := fun h => by rw [h] at hj; simp at hj
    have hz' := hz hne
    subst hz'
    have hat := recs_at l (show j < l.length by omega)
    have hmem : l.getD j dRec ∈ l := by
      rw [List.getD_eq_getElem?_getD, List.getElem?_eq_getElem (by omega)]; exact List.getElem_mem _
    have htk : l.take (j + 1) = l.take j ++ [l.getD j dRec] := by
      rw [List.take_add_one, List.getD_eq_getElem?_getD, List.getElem?_eq_getElem (by omega)]; rfl
    have hr := hp _ hmem
    generalize l.getD j dRec = r at hat htk hr
    have hlen0 : (recs ((l.take j).map (id))).length = j := by rw [recs_len, List.length_map, List.length_take]; omega
    rw [List.replicate_succ]
    have hYj : (recs ((l.take j).map (id)) ++ zR :: List.replicate k zR)[j]? = some zR := by rw [List.getElem?_append_right (by omega), hlen0, Nat.sub_self]; rfl
    have h1 : recs ((l.take (j + 1)).map (id)) = recs ((l.take j).map (id)) ++ [recC (id r)] := by rw [htk]; simp [recs]
    have hset : (recs ((l.take j).map (id)) ++ zR :: List.replicate k zR).set j (recC (id r)) = recs ((l.take (j + 1)).map (id)) ++ List.replicate k zR := by
      rw [h1, List.append_assoc, List.set_append_right _ _ (by omega), hlen0, Nat.sub_self]; rfl
    have hXl : (recs ((l.take j).map (id)) ++ zR :: List.replicate k zR).length = l.length := by rw [List.length_append, hlen0, List.length_cons, List.length_replicate]; omega
    have hrl := recs_len l
    have hF := Rec_eq r hr
    generalize recs ((l.take j).map (id)) ++ zR :: List.replicate k zR = Y at hset hXl hYj
    have hjY : j < Y.length := by omega
    simp only [recA, stp] at hF
    simp only [recC, stp, id] at hat hset
    simp only [zR] at hYj
    simp -dsimp (disch := first | rfl | omega) only [stp, r71_5, r71_6, r71_7, r71_8, callW_fn pgG, hF, hat, hYj, e0, ej, hset, ↓vmP, vm0, vm1, vm2, vm3, vm4, vm5, vm6, vm7, vm8, vm9, vm10, vm11, vm12, vm13, vm14, vm15, vmC, vmN, Nat.reduceAdd, Nat.reduceMul, Nat.reduceSub, Nat.reduceEqDiff, Nat.reduceLT, Nat.reduceLeDiff, ↓reduceIte, Tg.isFull, Int.reduceToNat]
    rw [← hJ]
    refine ih (j + 1) _ (by omega) (by simp -dsimp (disch := first | rfl | omega) only [↓vmP, vm0, vm1, vm2, vm3, vm4, vm5, vm6, vm7, vm8, vm9, vm10, vm11, vm12, vm13, vm14, vm15, vmC, vmN, Nat.reduceAdd, Nat.reduceMul, Nat.reduceSub, Nat.reduceEqDiff, Nat.reduceLT, Nat.reduceLeDiff, ↓reduceIte, Tg.isFull, Int.reduceToNat]) hQ
set_option maxRecDepth 20000 in
theorem E74_loop {Q : Ex → St → Prop} (sr : Int) (l : List Rec) (hl : l.length ≤ 1000000) (hp : ∀ r ∈ l, r.pairs.length ≤ 1000000) (z : Nat) (hz : l ≠ [] → z = 4) (pgG : prog 74 = some c74) : ∀ (k j : Nat) (s : St), j + k = l.length →
    gc [(1, none), (5, none), (14, none), (15, none), (16, none)] s = ⟨gS [(1, .fn 74 [.ptr 0 0]), (5, .row 1), (14, .d (.sl .any z (recs l))), (15, .d (.int .i64 l.length)), (16, .d (.int .i64 j))], gH [(0, .box [.d (.int .i64 sr)]), (1, .row 4 false (recs ((l.take j).map (stp sr)) ++ List.replicate k zR))], 2, 1, []⟩ →
    (∀ T, Q (.exit 0) ⟨gS ((1, .fn 74 [.ptr 0 0]) :: (5, .row 1) :: T), gH [(0, .box [.d (.int .i64 sr)]), (1, .row 4 false (recs (l.map (stp sr))))], 10, 1, []⟩) → wpW false prog (.loop [(1, none), (5, none), (14, none), (15, none), (16, none)] l71_9) s Q := by
  intro k
  induction k with
  | zero =>
    intro j s hj hg hQ
    refine wp_loop1 ?_
    rw [hg]
    generalize hJ : (fun s' => wpW false prog (.loop [(1, none), (5, none), (14, none), (15, none), (16, none)] l71_9) s' Q) = J
    unfold l71_9
    have e0 : ((j : Int) < l.length) = False := eq_false (by omega)
    rw [List.take_of_length_le (by omega), List.replicate_zero, List.append_nil]
    simp -dsimp (disch := first | rfl | omega) only [r71_5, e0, ↓vmP, vm0, vm1, vm2, vm3, vm4, vm5, vm6, vm7, vm8, vm9, vm10, vm11, vm12, vm13, vm14, vm15, vmC, vmN, Nat.reduceAdd, Nat.reduceMul, Nat.reduceSub, Nat.reduceEqDiff, Nat.reduceLT, Nat.reduceLeDiff, ↓reduceIte, Tg.isFull, Int.reduceToNat]
    exact hQ _
  | succ k ih =>
    intro j s hj hg hQ
    refine wp_loop1 ?_
    rw [hg]
    generalize hJ : (fun s' => wpW false prog (.loop [(1, none), (5, none), (14, none), (15, none), (16, none)] l71_9) s' Q) = J
    unfold l71_9
    have e0 : ((j : Int) < l.length) = True := eq_true (by omega)
    have ej : ((j : Int) + 1) = ((j + 1 : Nat) : Int) := by omega
    have hne : l ≠ [] := fun h => by rw [h] at hj; simp at hj
    have hz' := hz hne
    subst hz'
    have hat := recs_at l (show j < l.length by omega)
    have hmem : l.getD j dRec ∈ l := by
      rw [List.getD_eq_getElem?_getD, List.getElem?_eq_getElem (by omega)]; exact List.getElem_mem _
    have htk : l.take (j + 1) = l.take j ++ [l.getD j dRec] := by
      rw [List.take_add_one, List.getD_eq_getElem?_getD, List.getElem?_eq_getElem (by omega)]; rfl
    have hr := hp _ hmem
    generalize l.getD j dRec = r at hat htk hr
    have hlen0 : (recs ((l.take j).map (stp sr))).length = j := by rw [recs_len, List.length_map, List.length_take]; omega
    rw [List.replicate_succ]
    have hYj : (recs ((l.take j).map (stp sr)) ++ zR :: List.replicate k zR)[j]? = some zR := by rw [List.getElem?_append_right (by omega), hlen0, Nat.sub_self]; rfl
    have h1 : recs ((l.take (j + 1)).map (stp sr)) = recs ((l.take j).map (stp sr)) ++ [recC (stp sr r)] := by rw [htk]; simp [recs]
    have hset : (recs ((l.take j).map (stp sr)) ++ zR :: List.replicate k zR).set j (recC (stp sr r)) = recs ((l.take (j + 1)).map (stp sr)) ++ List.replicate k zR := by
      rw [h1, List.append_assoc, List.set_append_right _ _ (by omega), hlen0, Nat.sub_self]; rfl
    have hXl : (recs ((l.take j).map (stp sr)) ++ zR :: List.replicate k zR).length = l.length := by rw [List.length_append, hlen0, List.length_cons, List.length_replicate]; omega
    have hrl := recs_len l
    have hF := SF_eq r sr hr
    generalize recs ((l.take j).map (stp sr)) ++ zR :: List.replicate k zR = Y at hset hXl hYj
    have hjY : j < Y.length := by omega
    simp only [recA, stp] at hF
    simp only [recC, stp, id] at hat hset
    simp only [zR] at hYj
    simp -dsimp (disch := first | rfl | omega) only [stp, r71_5, r71_6, r71_7, r71_8, callW_fn pgG, hF, hat, hYj, e0, ej, hset, ↓vmP, vm0, vm1, vm2, vm3, vm4, vm5, vm6, vm7, vm8, vm9, vm10, vm11, vm12, vm13, vm14, vm15, vmC, vmN, Nat.reduceAdd, Nat.reduceMul, Nat.reduceSub, Nat.reduceEqDiff, Nat.reduceLT, Nat.reduceLeDiff, ↓reduceIte, Tg.isFull, Int.reduceToNat]
    rw [← hJ]
    refine ih (j + 1) _ (by omega) (by simp -dsimp (disch := first | rfl | omega) only [↓vmP, vm0, vm1, vm2, vm3, vm4, vm5, vm6, vm7, vm8, vm9, vm10, vm11, vm12, vm13, vm14, vm15, vmC, vmN, Nat.reduceAdd, Nat.reduceMul, Nat.reduceSub, Nat.reduceEqDiff, Nat.reduceLT, Nat.reduceLeDiff, ↓reduceIte, Tg.isFull, Int.reduceToNat]) hQ
set_option maxRecDepth 20000 in
theorem E52s_loop {Q : Ex → St → Prop} (q : List Rec) (fq : Bool) (n : Nat) (hn : n ≤ q.length) (hq : q.length ≤ 1000000) (l : List Rec) (hl : l.length ≤ 1000000) (hp : ∀ r ∈ l, r.pairs.length ≤ 1000000) (hlq : l = q.take n) (pgG : prog 52 = some c52) : ∀ (k j : Nat) (s : St), j + k = l.length →
    gc [(1, none), (5, none), (14, none), (15, none), (16, none)] s = ⟨gS [(1, .fn 52 []), (5, .row 1), (14, .sub 0 0 n true), (15, .d (.int .i64 n)), (16, .d (.int .i64 j))], gH [(0, .row 4 fq (recs q)), (1, .row 4 false (recs ((l.take j).map (id)) ++ List.replicate k zR))], 2, 1, []⟩ →
    (∀ T, Q (.exit 0) ⟨gS ((1, .fn 52 []) :: (5, .row 1) :: T), gH [(0, .row 4 fq (recs q)), (1, .row 4 false (recs (l.map (id))))], 10, 1, []⟩) → wpW false prog (.loop [(1, none), (5, none), (14, none), (15, none), (16, none)] l71_9) s Q := by
  intro k
  have hln : l.length = n := by rw [hlq, List.length_take]; omega
  induction k with
  | zero =>
    intro j s hj hg hQ
    refine wp_loop1 ?_
    rw [hg]
    generalize hJ : (fun s' => wpW false prog (.loop [(1, none), (5, none), (14, none), (15, none), (16, none)] l71_9) s' Q) = J
    unfold l71_9
    have e0 : ((j : Int) < n) = False := eq_false (by omega)
    rw [List.take_of_length_le (by omega), List.replicate_zero, List.append_nil]
    simp -dsimp (disch := first | rfl | omega) only [r71_5, e0, ↓vmP, vm0, vm1, vm2, vm3, vm4, vm5, vm6, vm7, vm8, vm9, vm10, vm11, vm12, vm13, vm14, vm15, vmC, vmN, Nat.reduceAdd, Nat.reduceMul, Nat.reduceSub, Nat.reduceEqDiff, Nat.reduceLT, Nat.reduceLeDiff, ↓reduceIte, Tg.isFull, Int.reduceToNat]
    exact hQ _
  | succ k ih =>
    intro j s hj hg hQ
    refine wp_loop1 ?_
    rw [hg]
    generalize hJ : (fun s' => wpW false prog (.loop [(1, none), (5, none), (14, none), (15, none), (16, none)] l71_9) s' Q) = J
    unfold l71_9
    have e0 : ((j : Int) < n) = True := eq_true (by omega)
    have ej : ((j : Int) + 1) = ((j + 1 : Nat) : Int) := by omega
    have hne : l ≠ [] := fun h => by rw [h] at hj; simp at hj
    have hat : (recs q)[j]? = some (recC (l.getD j dRec)) := by
      rw [recs_at q (show j < q.length by omega), hlq]
      congr 2
      simp only [List.getD_eq_getElem?_getD]
      rw [List.getElem?_take, if_pos (by omega)]
    have hmem : l.getD j dRec ∈ l := by
      rw [List.getD_eq_getElem?_getD, List.getElem?_eq_getElem (by omega)]; exact List.getElem_mem _
    have htk : l.take (j + 1) = l.take j ++ [l.getD j dRec] := by
      rw [List.take_add_one, List.getD_eq_getElem?_getD, List.getElem?_eq_getElem (by omega)]; rfl
    have hr := hp _ hmem
    generalize l.getD j dRec = r at hat htk hr
    have hlen0 : (recs ((l.take j).map (id))).length = j := by rw [recs_len, List.length_map, List.length_take]; omega
    rw [List.replicate_succ]
    have hYj : (recs ((l.take j).map (id)) ++ zR :: List.replicate k zR)[j]? = some zR := by rw [List.getElem?_append_right (by omega), hlen0, Nat.sub_self]; rfl
    have h1 : recs ((l.take (j + 1)).map (id)) = recs ((l.take j).map (id)) ++ [recC (id r)] := by rw [htk]; simp [recs]
    have hset : (recs ((l.take j).map (id)) ++ zR :: List.replicate k zR).set j (recC (id r)) = recs ((l.take (j + 1)).map (id)) ++ List.replicate k zR := by
      rw [h1, List.append_assoc, List.set_append_right _ _ (by omega), hlen0, Nat.sub_self]; rfl
    have hXl : (recs ((l.take j).map (id)) ++ zR :: List.replicate k zR).length = l.length := by rw [List.length_append, hlen0, List.length_cons, List.length_replicate]; omega
    have hrl := recs_len q
    have hF := Rec_eq r hr
    generalize recs ((l.take j).map (id)) ++ zR :: List.replicate k zR = Y at hset hXl hYj
    have hjY : j < Y.length := by omega
    simp only [recA, stp] at hF
    simp only [recC, stp, id] at hat hset
    simp only [zR] at hYj
    simp -dsimp (disch := first | rfl | omega) only [stp, r71_5, r71_6, r71_7, r71_8, callW_fn pgG, hF, hat, hYj, e0, ej, hset, ↓vmP, vm0, vm1, vm2, vm3, vm4, vm5, vm6, vm7, vm8, vm9, vm10, vm11, vm12, vm13, vm14, vm15, vmC, vmN, Nat.reduceAdd, Nat.reduceMul, Nat.reduceSub, Nat.reduceEqDiff, Nat.reduceLT, Nat.reduceLeDiff, ↓reduceIte, Tg.isFull, Int.reduceToNat]
    rw [← hJ]
    refine ih (j + 1) _ (by omega) (by simp -dsimp (disch := first | rfl | omega) only [↓vmP, vm0, vm1, vm2, vm3, vm4, vm5, vm6, vm7, vm8, vm9, vm10, vm11, vm12, vm13, vm14, vm15, vmC, vmN, Nat.reduceAdd, Nat.reduceMul, Nat.reduceSub, Nat.reduceEqDiff, Nat.reduceLT, Nat.reduceLeDiff, ↓reduceIte, Tg.isFull, Int.reduceToNat]) hQ
end Go.Vm.Bk
