/- A part of the proof of BacklogPlaysSaid: YtnihjdfbiddggaaFm. -/
import Derived.Test.YtnihjdfbiddggaaKFl
/- Backlogs: a backlog is like itself; a small example. -/
set_option linter.unusedVariables false
set_option linter.unusedSimpArgs false
set_option maxHeartbeats 1000000
namespace Go.Vm.Bk
set_option maxRecDepth 20000 in
theorem Same_eq (b : Bk) (z1 z2 z3 y1 y2 y3 : Nat) (hz : Zk b z1 z2 z3) (hy : Zk b y1 y2 y3) (hs : Sm b) : runW false prog 18 [.agg (bA b z1 z2 z3), .agg (bA b y1 y2 y3)] [] = some (.d (.bool true), [], []) := by
  refine run_of rfl ?_
  have h1 := sInts_eq b.op (by have := hs.lo; omega) z1 y1 hz.o hy.o
  have h2 := sNotes_eq b.nts (by have := hs.ln; omega) z3 y3 hz.n hy.n
  have h3 := sRecs_eq b.queue (fun r hr => by have := hs.lp r hr; omega) (by have := hs.lq; omega) z2 y2 hz.q hy.q
  have he := eqs_5 b.p0 b.p1 b.p2 b.p3 b.p4
  have hb : (b.halted == b.halted) = true := by cases b.halted <;> rfl
  simp -dsimp (disch := first | rfl | omega) only [bA, bC, r18_0, r18_1, callW_fn pg_sInts, callW_fn pg_sNotes, callW_fn pg_sRecs, h1, h2, h3, he, hb, ↓vmP, vm0, vm1, vm2, vm3, vm4, vm5, vm6, vm7, vm8, vm9, vm10, vm11, vm12, vm13, vm14, vm15, vmC, vmN, Nat.reduceAdd, Nat.reduceMul, Nat.reduceSub, Nat.reduceEqDiff, Nat.reduceLT, Nat.reduceLeDiff, ↓reduceIte, Tg.isFull, Int.reduceToNat]
theorem pgSame : prog 18 = some c18 := rfl
theorem awake_eq : runW false prog 19 [] [] = some (.d (.bool true), [], []) := run_le 200 _ _ _ _ (by kernel_rfl)
theorem pgAwake : prog 19 = some c19 := rfl
end Go.Vm.Bk
