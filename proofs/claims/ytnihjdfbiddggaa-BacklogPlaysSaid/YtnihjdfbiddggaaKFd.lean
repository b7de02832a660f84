/- A part of the proof of BacklogPlaysSaid: YtnihjdfbiddggaaFd. -/
import Derived.Test.YtnihjdfbiddggaaKFc
/- Backlogs: copies, settings, small questions. -/
set_option linter.unusedVariables false
set_option linter.unusedSimpArgs false
set_option maxHeartbeats 1000000
namespace Go.Vm.Bk
theorem lkb0 : List.lookup 0 [(5, 1), (6, 4), (16, 2)] = none := rfl
theorem lkb1 : List.lookup 1 [(5, 1), (6, 4), (16, 2)] = none := rfl
theorem lkb2 : List.lookup 2 [(5, 1), (6, 4), (16, 2)] = none := rfl
theorem lkb3 : List.lookup 3 [(5, 1), (6, 4), (16, 2)] = none := rfl
theorem lkb4 : List.lookup 4 [(5, 1), (6, 4), (16, 2)] = none := rfl
theorem lkb5 : List.lookup 5 [(5, 1), (6, 4), (16, 2)] = some 1 := rfl
theorem lkb6 : List.lookup 6 [(5, 1), (6, 4), (16, 2)] = some 4 := rfl
theorem lkb7 : List.lookup 7 [(5, 1), (6, 4), (16, 2)] = none := rfl
theorem lkb8 : List.lookup 8 [(5, 1), (6, 4), (16, 2)] = none := rfl
theorem lkb9 : List.lookup 9 [(5, 1), (6, 4), (16, 2)] = none := rfl
theorem lkb10 : List.lookup 10 [(5, 1), (6, 4), (16, 2)] = none := rfl
theorem lkb11 : List.lookup 11 [(5, 1), (6, 4), (16, 2)] = none := rfl
theorem lkb12 : List.lookup 12 [(5, 1), (6, 4), (16, 2)] = none := rfl
theorem lkb13 : List.lookup 13 [(5, 1), (6, 4), (16, 2)] = none := rfl
theorem lkb14 : List.lookup 14 [(5, 1), (6, 4), (16, 2)] = none := rfl
theorem lkb15 : List.lookup 15 [(5, 1), (6, 4), (16, 2)] = none := rfl
theorem lkb16 : List.lookup 16 [(5, 1), (6, 4), (16, 2)] = some 2 := rfl
structure Bk where
  limit : Int
  rate : Int
  fail : Int
  serial : Int
  reserved : Int
  op : List Int
  queue : List Rec
  p0 : Int
  p1 : Int
  p2 : Int
  p3 : Int
  p4 : Int
  window : Int
  used : Int
  lost : Int
  halted : Bool
  nts : List (Int × Int)
/-- The cells of a backlog; its three slices are given. -/
def bC (b : Bk) (x y z : A) : List A := [.d (.int .i64 b.limit), .d (.int .i64 b.rate), .d (.int .i64 b.fail), .d (.int .i64 b.serial), .d (.int .i64 b.reserved), x, y, .d (.int .i64 b.p0), .d (.int .i64 b.p1), .d (.int .i64 b.p2), .d (.int .i64 b.p3), .d (.int .i64 b.p4), .d (.int .i64 b.window), .d (.int .i64 b.used), .d (.int .i64 b.lost), .d (.bool b.halted), z]
/-- As data. -/
def bA (b : Bk) (z1 z2 z3 : Nat) : List A := bC b (.d (.sl .any z1 (i64s b.op))) (.d (.sl .any z2 (recs b.queue))) (.d (.sl .any z3 (notes b.nts)))
structure Zk (b : Bk) (z1 z2 z3 : Nat) : Prop where
  o : okSz 1 z1 (i64s b.op) = true
  q : okSz 4 z2 (recs b.queue) = true
  n : okSz 2 z3 (notes b.nts) = true
/-- No number is great. -/
structure Sm (b : Bk) : Prop where
  s : 0 ≤ b.serial ∧ b.serial ≤ 1000000
  r : -1000000 ≤ b.reserved ∧ b.reserved ≤ 1000000
  p : 0 ≤ b.p0 ∧ 0 ≤ b.p1 ∧ 0 ≤ b.p2 ∧ 0 ≤ b.p3 ∧ 0 ≤ b.p4 ∧ b.p0 ≤ 1000000 ∧ b.p1 ≤ 1000000 ∧ b.p2 ≤ 1000000 ∧ b.p3 ≤ 1000000 ∧ b.p4 ≤ 1000000
  u : 0 ≤ b.used ∧ b.used ≤ 1000000
  l : 0 ≤ b.lost ∧ b.lost ≤ 1000000
  lo : b.op.length ≤ 100000
  lq : b.queue.length ≤ 100000
  ln : b.nts.length ≤ 100000
  lp : ∀ r ∈ b.queue, r.pairs.length ≤ 100000
  oo : ∀ x ∈ b.op, 0 ≤ x ∧ x ≤ 1000000
theorem pgRecs : prog 55 = some c55 := rfl
theorem pgLI : prog 62 = some c62 := rfl
theorem pgLN : prog 63 = some c63 := rfl
def bH (b : Bk) : List Chunk := [.row 1 b.op.isEmpty (i64s b.op), .row 4 b.queue.isEmpty (recs b.queue), .row 2 b.nts.isEmpty (notes b.nts)]
set_option maxRecDepth 20000 in
theorem ownB_eq (b : Bk) (z1 z2 z3 : Nat) (hz : Zk b z1 z2 z3) (hs : Sm b) : runW false prog 40 [.agg (bA b z1 z2 z3)] [] = some (.agg (bC b (.row 0) (.row 1) (.row 2)), bH b, []) := by
  refine run_of rfl ?_
  have h1 := fun t => LI_eq b.op t z1 hz.o (by have := hs.lo; omega)
  have h2 := Recs_eq b.queue (by have := hs.lq; omega) (fun r hr => by have := hs.lp r hr; omega) z2 hz.q
  have h3 := fun t => LN_eq b.nts t z3 hz.n (by have := hs.ln; omega)
  simp -dsimp (disch := first | rfl | omega) only [bA, bC, bH, r40_0, r40_1, callW_fn pgRecs, callW_fn pgLI, callW_fn pgLN, h1, h2, h3, ↓vmP, vm0, vm1, vm2, vm3, vm4, vm5, vm6, vm7, vm8, vm9, vm10, vm11, vm12, vm13, vm14, vm15, vmC, vmN, Nat.reduceAdd, Nat.reduceMul, Nat.reduceSub, Nat.reduceEqDiff, Nat.reduceLT, Nat.reduceLeDiff, ↓reduceIte, Tg.isFull, Int.reduceToNat]
  refine regD_of (by kernel_rfl) ?_
  simp -dsimp (disch := first | rfl | omega) only [vmK, lkb5, lkb6, lkb16, r40_2, ↓vmP, vm0, vm1, vm2, vm3, vm4, vm5, vm6, vm7, vm8, vm9, vm10, vm11, vm12, vm13, vm14, vm15, vmC, vmN, Nat.reduceAdd, Nat.reduceMul, Nat.reduceSub, Nat.reduceEqDiff, Nat.reduceLT, Nat.reduceLeDiff, ↓reduceIte, Tg.isFull, Int.reduceToNat]
theorem pgStamp : prog 28 = some c28 := rfl
theorem i64s_iso (l : List Int) : (l = [] ∧ (i64s l).isEmpty = true) ∨ (l.isEmpty = false ∧ (i64s l).isEmpty = false) := by
  cases l
  · exact .inl ⟨rfl, rfl⟩
  · exact .inr ⟨rfl, rfl⟩
theorem notes_iso (l : List (Int × Int)) : (l = [] ∧ (notes l).isEmpty = true) ∨ (l.isEmpty = false ∧ (notes l).isEmpty = false) := by
  cases l
  · exact .inl ⟨rfl, rfl⟩
  · exact .inr ⟨rfl, rfl⟩
theorem i64s_nil : i64s [] = [] := rfl
theorem notes_nil : notes [] = [] := rfl
theorem stp_self (r : Rec) : stp r.serial r = r := rfl
end Go.Vm.Bk
