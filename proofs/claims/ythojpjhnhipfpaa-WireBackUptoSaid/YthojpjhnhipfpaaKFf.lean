/- A part of the proof of WireBackUptoSaid: YthojpjhnhipfpaaFf. -/
import Derived.Test.YthojpjhnhipfpaaKFe
/- Which messages are valid, by the program: whole. -/
set_option linter.unusedVariables false
set_option linter.unusedSimpArgs false
set_option maxHeartbeats 1000000
namespace Go.Vm.Wr
def lst (k : Int) : Option (List Int) := if k = 1 then some [1, 2, 3] else if k = 2 then some [3] else if k = 3 then some [3, 5] else if k = 4 then some [3, 4] else if k = 5 then some [3] else if k = 6 then some [] else if k = 7 then some [] else none
def lsz (fs : List Int) : Nat := if fs.isEmpty then 0 else 1
theorem kf_fk (k : Int) : kfind [.int] [.int .i64 k] fk = some ((lst k).map fun fs => D.sl .any (lsz fs) (i64s fs)) := by
  unfold fk lst
  simp only [kf_cons, kf_nil]
  repeat' split
  all_goals first | rfl | omega
theorem lst_ok {k : Int} {fs : List Int} (h : lst k = some fs) : fs.length ≤ 10 ∧ (∀ f ∈ fs, f = 1 ∨ f = 2 ∨ f = 3 ∨ f = 4 ∨ f = 5) ∧ (fs ≠ [] → lsz fs = 1) := by
  unfold lst at h
  repeat' split at h
  all_goals cases h
  all_goals exact ⟨by simp, by simp, fun h => by first | rfl | exact absurd rfl h⟩
def clean (r : Msg) : Bool := decide (r.host = []) && decide (r.epoch = 0) && decide (r.seq = 0) && decide (r.to = 0) && decide (r.body.length = 0)
def least (k : Int) : Int := if k = 2 ∨ k = 5 then 0 else 1
def vld (m : Msg) : Bool := match lst m.kind with
  | none => false
  | some fs => match chk m (least m.kind) fs m with
    | none => false
    | some r => clean r
theorem str_nil (l : List UInt8) : (({ data := l.toArray } : ByteArray) = { data := { toList := [] } }) = (l = []) := by
  apply propext
  constructor
  · intro h
    have := congrArg (fun b : ByteArray => b.data.toList) h
    simpa using this
  · intro h; subst h; rfl
theorem clean_end (r m : Msg) (T : List (Nat × A)) (b : Bool) (hb : b = clean r) : blockK 0 (seqK false prog ((CCode.reg r26_27 false (some [2])).seq CCode.ret) (leaveK false [.tmp 2] false [] none 0 (.d (.bool b), [], []))) (.exit 0) ⟨gS ((1, .ptr 0 0) :: (5, .ptr 1 0) :: T), gH [(0, .box (mC m)), (1, .box (mC r))], 10, 0, []⟩ := by
  subst hb
  by_cases h1 : r.host = []
  · have e1 := (str_nil r.host).trans (eq_true h1)
    by_cases h2 : r.epoch = 0
    · have e2 := eq_true h2
      by_cases h3 : r.seq = 0
      · have e3 := eq_true h3
        by_cases h4 : r.to = 0
        · have e4 := eq_true h4
          by_cases h5 : r.body.length = 0
          · have e5 : ((r.body.length : Int) = 0) = True := eq_true (by omega)
            have hc : clean r = true := by simp [clean, h1, h2, h3, h4, h5]
            rw [hc]
            simp -dsimp (disch := first | rfl | omega) only [mC, r26_27, e1, e2, e3, e4, e5, ↓vmP, vm0, vm1, vm2, vm3, vm4, vm5, vm6, vm7, vm8, vm9, vm10, vm11, vm12, vm13, vm14, vm15, vmC, vmN, Nat.reduceAdd, Nat.reduceMul, Nat.reduceSub, Nat.reduceEqDiff, Nat.reduceLT, Nat.reduceLeDiff, ↓reduceIte, Tg.isFull, Int.reduceToNat]
          · have e5 : ((r.body.length : Int) = 0) = False := eq_false (by omega)
            have hc : clean r = false := by simp [clean, h5]
            rw [hc]
            simp -dsimp (disch := first | rfl | omega) only [mC, r26_27, e1, e2, e3, e4, e5, ↓vmP, vm0, vm1, vm2, vm3, vm4, vm5, vm6, vm7, vm8, vm9, vm10, vm11, vm12, vm13, vm14, vm15, vmC, vmN, Nat.reduceAdd, Nat.reduceMul, Nat.reduceSub, Nat.reduceEqDiff, Nat.reduceLT, Nat.reduceLeDiff, ↓reduceIte, Tg.isFull, Int.reduceToNat]
        · have e4 := eq_false h4
          have hc : clean r = false := by simp [clean, h4]
          rw [hc]
          simp -dsimp (disch := first | rfl | omega) only [mC, r26_27, e1, e2, e3, e4, ↓vmP, vm0, vm1, vm2, vm3, vm4, vm5, vm6, vm7, vm8, vm9, vm10, vm11, vm12, vm13, vm14, vm15, vmC, vmN, Nat.reduceAdd, Nat.reduceMul, Nat.reduceSub, Nat.reduceEqDiff, Nat.reduceLT, Nat.reduceLeDiff, ↓reduceIte, Tg.isFull, Int.reduceToNat]
      · have e3 := eq_false h3
        have hc : clean r = false := by simp [clean, h3]
        rw [hc]
        simp -dsimp (disch := first | rfl | omega) only [mC, r26_27, e1, e2, e3, ↓vmP, vm0, vm1, vm2, vm3, vm4, vm5, vm6, vm7, vm8, vm9, vm10, vm11, vm12, vm13, vm14, vm15, vmC, vmN, Nat.reduceAdd, Nat.reduceMul, Nat.reduceSub, Nat.reduceEqDiff, Nat.reduceLT, Nat.reduceLeDiff, ↓reduceIte, Tg.isFull, Int.reduceToNat]
    · have e2 := eq_false h2
      have hc : clean r = false := by simp [clean, h2]
      rw [hc]
      simp -dsimp (disch := first | rfl | omega) only [mC, r26_27, e1, e2, ↓vmP, vm0, vm1, vm2, vm3, vm4, vm5, vm6, vm7, vm8, vm9, vm10, vm11, vm12, vm13, vm14, vm15, vmC, vmN, Nat.reduceAdd, Nat.reduceMul, Nat.reduceSub, Nat.reduceEqDiff, Nat.reduceLT, Nat.reduceLeDiff, ↓reduceIte, Tg.isFull, Int.reduceToNat]
  · have e1 := (str_nil r.host).trans (eq_false h1)
    have hc : clean r = false := by simp [clean, h1]
    rw [hc]
    simp -dsimp (disch := first | rfl | omega) only [mC, r26_27, e1, ↓vmP, vm0, vm1, vm2, vm3, vm4, vm5, vm6, vm7, vm8, vm9, vm10, vm11, vm12, vm13, vm14, vm15, vmC, vmN, Nat.reduceAdd, Nat.reduceMul, Nat.reduceSub, Nat.reduceEqDiff, Nat.reduceLT, Nat.reduceLeDiff, ↓reduceIte, Tg.isFull, Int.reduceToNat]
theorem Valid_eq (m : Msg) (hh : m.host.length ≤ 9223372036854775807) (hb : m.body.length ≤ 9223372036854775807) : runW false prog 26 [.agg (mC m)] [] = some (.d (.bool (vld m)), [], []) := by
  refine run_of rfl ?_
  have hk := kf_fk m.kind
  simp -dsimp (disch := first | rfl | omega) only [mC, r26_0, r26_1, callW_fn pgFields, fields_eq, hk, ↓vmP, vm0, vm1, vm2, vm3, vm4, vm5, vm6, vm7, vm8, vm9, vm10, vm11, vm12, vm13, vm14, vm15, vmC, vmN, Nat.reduceAdd, Nat.reduceMul, Nat.reduceSub, Nat.reduceEqDiff, Nat.reduceLT, Nat.reduceLeDiff, ↓reduceIte, Tg.isFull, Int.reduceToNat]
  refine regD_of (by kernel_rfl) ?_
  unfold vld
  cases hl : lst m.kind with
  | none =>
    rw [hl] at hk
    simp -dsimp (disch := first | rfl | omega) only [hk, Option.map_none, r26_2, r26_3, ↓vmP, vm0, vm1, vm2, vm3, vm4, vm5, vm6, vm7, vm8, vm9, vm10, vm11, vm12, vm13, vm14, vm15, vmC, vmN, Nat.reduceAdd, Nat.reduceMul, Nat.reduceSub, Nat.reduceEqDiff, Nat.reduceLT, Nat.reduceLeDiff, ↓reduceIte, Tg.isFull, Int.reduceToNat]
  | some fs =>
    rw [hl] at hk
    obtain ⟨g1, g2, g3⟩ := lst_ok hl
    have fin : ∀ (ls : Int) (s : St), least m.kind = ls → gc [(1, none), (5, none), (6, none), (28, none), (29, none), (30, none)] s = ⟨gS [(1, .ptr 0 0), (5, .ptr 1 0), (6, .d (.int .i64 ls)), (28, .d (.sl .any (lsz fs) (i64s fs))), (29, .d (.int .i64 fs.length)), (30, .d (.int .i64 (0 : Nat)))], gH [(0, .box (mC m)), (1, .box (mC m))], 2, 0, []⟩ → 
        wpW false prog (.loop [(1, none), (5, none), (6, none), (28, none), (29, none), (30, none)] l26_26) s (blockK 0 (seqK false prog ((CCode.reg r26_27 false (some [2])).seq CCode.ret) (leaveK false [.tmp 2] false [] none 0 (.d (.bool (match some fs with | none => false | some fs => match chk m (least m.kind) fs m with | none => false | some r => clean r)), [], [])))) := fun ls s hls hg => by
      refine v_loop m hh hb ls fs (lsz fs) g1 g2 g3 fs.length 0 m _ (by omega) hg (fun r' h T => ?_) (fun h T H nx => ?_)
      · rw [List.drop_zero] at h
        refine clean_end r' m T _ ?_
        simp only [hls, h]
      · rw [List.drop_zero] at h
        simp only [hls, h]
        simp -dsimp (disch := first | rfl | omega) only [↓vmP, vm0, vm1, vm2, vm3, vm4, vm5, vm6, vm7, vm8, vm9, vm10, vm11, vm12, vm13, vm14, vm15, vmC, vmN, Nat.reduceAdd, Nat.reduceMul, Nat.reduceSub, Nat.reduceEqDiff, Nat.reduceLT, Nat.reduceLeDiff, ↓reduceIte, Tg.isFull, Int.reduceToNat]
    by_cases k2 : m.kind = 2
    · have e2 := eq_true k2
      simp -dsimp (disch := first | rfl | omega) only [hk, Option.map_some, Option.getD_some, r26_2, r26_4, r26_5, r26_6, r26_7, r26_8, e2, i64s_len, ↓vmP, vm0, vm1, vm2, vm3, vm4, vm5, vm6, vm7, vm8, vm9, vm10, vm11, vm12, vm13, vm14, vm15, vmC, vmN, Nat.reduceAdd, Nat.reduceMul, Nat.reduceSub, Nat.reduceEqDiff, Nat.reduceLT, Nat.reduceLeDiff, ↓reduceIte, Tg.isFull, Int.reduceToNat]
      exact fin 0 _ (by simp [least, k2]) (by simp -dsimp (disch := first | rfl | omega) only [mC, i64s_len, ↓vmP, vm0, vm1, vm2, vm3, vm4, vm5, vm6, vm7, vm8, vm9, vm10, vm11, vm12, vm13, vm14, vm15, vmC, vmN, Nat.reduceAdd, Nat.reduceMul, Nat.reduceSub, Nat.reduceEqDiff, Nat.reduceLT, Nat.reduceLeDiff, ↓reduceIte, Tg.isFull, Int.reduceToNat]; rfl)
    · have e2 := eq_false k2
      by_cases k5 : m.kind = 5
      · have e5 := eq_true k5
        simp -dsimp (disch := first | rfl | omega) only [hk, Option.map_some, Option.getD_some, r26_2, r26_4, r26_5, r26_6, r26_7, r26_8, e2, e5, i64s_len, ↓vmP, vm0, vm1, vm2, vm3, vm4, vm5, vm6, vm7, vm8, vm9, vm10, vm11, vm12, vm13, vm14, vm15, vmC, vmN, Nat.reduceAdd, Nat.reduceMul, Nat.reduceSub, Nat.reduceEqDiff, Nat.reduceLT, Nat.reduceLeDiff, ↓reduceIte, Tg.isFull, Int.reduceToNat]
        exact fin 0 _ (by simp [least, k5]) (by simp -dsimp (disch := first | rfl | omega) only [mC, i64s_len, ↓vmP, vm0, vm1, vm2, vm3, vm4, vm5, vm6, vm7, vm8, vm9, vm10, vm11, vm12, vm13, vm14, vm15, vmC, vmN, Nat.reduceAdd, Nat.reduceMul, Nat.reduceSub, Nat.reduceEqDiff, Nat.reduceLT, Nat.reduceLeDiff, ↓reduceIte, Tg.isFull, Int.reduceToNat]; rfl)
      · have e5 := eq_false k5
        simp -dsimp (disch := first | rfl | omega) only [hk, Option.map_some, Option.getD_some, r26_2, r26_4, r26_5, r26_6, r26_8, e2, e5, i64s_len, ↓vmP, vm0, vm1, vm2, vm3, vm4, vm5, vm6, vm7, vm8, vm9, vm10, vm11, vm12, vm13, vm14, vm15, vmC, vmN, Nat.reduceAdd, Nat.reduceMul, Nat.reduceSub, Nat.reduceEqDiff, Nat.reduceLT, Nat.reduceLeDiff, ↓reduceIte, Tg.isFull, Int.reduceToNat]
        exact fin 1 _ (by simp [least, k2, k5]) (by simp -dsimp (disch := first | rfl | omega) only [mC, i64s_len, ↓vmP, vm0, vm1, vm2, vm3, vm4, vm5, vm6, vm7, vm8, vm9, vm10, vm11, vm12, vm13, vm14, vm15, vmC, vmN, Nat.reduceAdd, Nat.reduceMul, Nat.reduceSub, Nat.reduceEqDiff, Nat.reduceLT, Nat.reduceLeDiff, ↓reduceIte, Tg.isFull, Int.reduceToNat]; rfl)
end Go.Vm.Wr
