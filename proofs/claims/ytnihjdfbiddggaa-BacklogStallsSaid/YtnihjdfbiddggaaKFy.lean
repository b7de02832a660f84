/- A part of the proof of BacklogStallsSaid: YtnihjdfbiddggaaFy. -/
import Derived.Test.YtnihjdfbiddggaaKFv
import Derived.Test.YtnihjdfbiddggaaKFn
/- Backlogs: an event that stays open, in plain. -/
set_option linter.unusedVariables false
set_option linter.unusedSimpArgs false
set_option maxHeartbeats 1000000
namespace Go.Vm.Bk
/-- An event is open; i more were taken, m were lost. -/
def SA (i m : Nat) : Bk := ⟨64, 0, 1, 1 + i + m, 1, [1], [], (if m = 0 then 0 else 65), (if m = 0 then 0 else 64 + m), 0, 0, m, 0, 1 + i, m, false, []⟩
def sT (j : Nat) : Bk := SA (min j 63) (j - 63)
theorem takeM_64 (q : List Rec) (h : q.length ≤ 64) : takeM q 64 = q.length := by unfold takeM; omega
theorem sa_pend0 (i : Nat) : pend (SA i 0) = false := by simp [pend, SA]
theorem sa_pend (i m : Nat) : pend (SA i m) = decide (m ≠ 0) := by
  cases m with
  | zero => exact sa_pend0 i
  | succ m =>
    simp [pend, SA]
    try omega
theorem ok01 : okOff 0 1 = true := by decide
theorem sa_rated (i m : Nat) : rated (SA i m) 0 = false := by simp [rated, SA]
theorem sa_full (i m : Nat) : fullB (SA i m) 1 = false := by
  have := oz (pend (SA i m))
  simp only [fullB, decide_eq_false_iff_not]
  simp only [SA, List.length_nil] at *
  omega
theorem sa_A (i : Nat) (h : i < 63) : offerB (SA i 0) 0 1 = ((⟨64, 0, 1, 2 + (i : Int), 2, [1, 2 + (i : Int)], [], 0, 0, 0, 0, 0, 0, 2 + (i : Int), 0, false, []⟩ : Bk), 2 + (i : Int), true) := by
  have hn : nextS (SA i 0) = 2 + (i : Int) := by simp only [nextS, sa_pend0, Bool.false_eq_true, if_false]; simp only [SA]; omega
  have hs : stl (SA i 0) (2 + (i : Int)) = false := by simp only [stl, SA, decide_eq_false_iff_not]; omega
  unfold offerB why
  rw [if_pos ok01, sa_rated, sa_full, hn, hs]
  simp only [Bool.false_eq_true, if_false, told, sa_pend0]
  simp only [accB, SA]
  simp
  try omega
def sstep (b : Bk) : Bk := if (offerB b 0 1).2.2 then (takeB (putB (offerB b 0 1).1 ⟨1005, 0, (offerB b 0 1).2.1, []⟩ true) 0 64).1 else (offerB b 0 1).1
theorem sa_B (m : Nat) : offerB (SA 63 m) 0 1 = (SA 63 (m + 1), 65 + (m : Int), false) := by
  have hp := sa_pend 63 m
  have hs : stl (SA 63 m) (nextS (SA 63 m)) = true := by
    have := oz (pend (SA 63 m))
    have h2 : nextS (SA 63 m) = 64 + (m : Int) + 1 + (if pend (SA 63 m) then 1 else 0) := by simp only [nextS, SA]; rfl
    show decide (64 ≤ nextS (SA 63 m) - 1) = true
    rw [decide_eq_true_eq]
    omega
  unfold offerB why
  rw [if_pos ok01, sa_rated, sa_full, hs]
  simp only [Bool.false_eq_true, if_false, if_true, show (0 : Int) ≤ 2 from by decide]
  have h1 : (SA 63 m).serial + 1 = 65 + (m : Int) := by simp only [SA]; omega
  rw [h1]
  congr 1
  unfold loseB
  rw [hp]
  simp only [SA]
  cases m with
  | zero => rfl
  | succ m =>
    simp
    omega
theorem sT_step (j : Nat) : sstep (sT j) = sT (j + 1) ∧ (offerB (sT j) 0 1).2.2 = decide (j < 63) := by
  unfold sstep sT
  by_cases h : j < 63
  · rw [show min j 63 = j by omega, show j - 63 = 0 by omega, show min (j + 1) 63 = j + 1 by omega, show j + 1 - 63 = 0 by omega, sa_A j h]
    refine ⟨?_, by simp [h]⟩
    simp only [if_true]
    have hne : ¬ (1 : Int) = 2 + (j : Int) := by omega
    simp only [takeB, cutB, putB, List.nil_append, takeM_64 [_] (by simp : _ ≤ 64)]
    simp [okTake, pend, delI, SA, hne]
    try omega
  · rw [show min j 63 = 63 by omega, show min (j + 1) 63 = 63 by omega, show j + 1 - 63 = j - 63 + 1 by omega, sa_B]
    exact ⟨by simp, by simp [h]⟩
theorem inv_sstep {k : Nat} {b : Bk} (h : Inv k b) : Inv (k + 3) (sstep b) := by
  unfold sstep
  split
  · exact ((h.offer 0 1).put _ (by simp) true).take 0 64
  · exact (h.offer 0 1).mono (by omega)
theorem inv_sT : ∀ j, Inv (3 * j + 3) (sT j)
  | 0 => ⟨by simp [sT, SA], by simp [sT, SA], by simp [sT, SA], by simp [sT, SA], by simp [sT, SA], by simp [sT, SA], by simp [sT, SA], by simp [sT, SA], by simp [sT, SA], by simp [sT, SA], by simp [PpOk, pend, sT, SA]⟩
  | j + 1 => by
    rw [← (sT_step j).1]
    exact (inv_sstep (inv_sT j)).mono (by omega)
theorem sT_0 : (offerB (conf zBk 64 0 1) 0 1) = (sT 0, 1, true) := by kernel_rfl
/-- The event is complete. -/
def uR : Rec := ⟨1005, 0, 1, []⟩
def sP (m : Nat) : Bk := putB (SA 63 m) uR true
theorem sP_t0 (i : Nat) : takeB (putB (SA i 0) uR true) 0 64 = ({ SA i 0 with op := [], reserved := 0 }, [uR]) := by
  simp only [takeB, cutB, putB, SA, List.nil_append, takeM_64 [uR] (by simp)]
  simp [okTake, pend, delI, uR]
theorem sP_t1 (m : Nat) : takeB (putB (SA 63 (m + 1)) uR true) 0 64 = (tellB { SA 63 (m + 1) with op := [], reserved := 0 } 0, [uR]) := by
  have h1 : ¬ (((m : Int) + 1) = 0) := by omega
  simp only [takeB, cutB, putB, SA, List.nil_append, takeM_64 [uR] (by simp)]
  simp [okTake, pend, delI, uR, late, stl]
end Go.Vm.Bk
