/- A part of the proof of BacklogPlaysSaid: YtnihjdfbiddggaaFdd. -/
import Derived.Test.YtnihjdfbiddggaaKFcc
/- Backlogs: a play; steps. -/
set_option linter.unusedVariables false
set_option linter.unusedSimpArgs false
set_option maxHeartbeats 1000000
namespace Go.Vm.Bk
theorem pgPOff : prog 31 = some c31 := rfl
theorem pgPPut : prog 32 = some c32 := rfl
theorem pgPTak : prog 33 = some c33 := rfl
def ofs : List Int := [1, 1, 2, 4, 5, 0, 65]
def tks : List Int := [0, 1, 2, 5, 64, -1]
def tms : List Int := [1, 400, 1000]
def lms : List Int := [64, 20, 6, 2]
def rts : List Int := [0, 3]
def timP (x : Ply) (d : Int) : Ply := { x with time := x.time + d }
def cnfP (x : Ply) (l r f : Int) : Ply := { x with b := conf x.b l r f, z1 := 1, z2 := 4, z3 := 2 }
theorem pk_offer {k : Nat} {x : Ply} (h : Pk k x) (n : Int) : Pk (k + 1) (offerP x n) := by
  have hi := h.i.offer x.time n
  unfold offerP
  split
  · rename_i hl
    have hok : okOff x.time n = true := by
      unfold offerB at hl
      split at hl
      · assumption
      · cases hl
    obtain ⟨hn, _⟩ := ok_t hok
    refine ⟨hi, zk_of _, by have := h.t; show 0 ≤ x.time ∧ x.time ≤ _; omega, ?_, ?_, ?_, ?_⟩
    · have := h.o; simp only [accP, List.length_append, List.length_cons, List.length_nil]; omega
    · intro l hl
      simp only [accP] at hl
      rcases List.mem_append.1 hl with hl | hl
      · exact h.e l hl
      · rw [List.mem_singleton] at hl
        subst hl
        refine ⟨fun h0 => ?_, by rw [items_len]; omega, fun r hr => ?_⟩
        · have := congrArg List.length h0; rw [items_len] at this; simp at this; omega
        · simp only [items, List.mem_map] at hr
          obtain ⟨i, _, rfl⟩ := hr
          simp [itR]
    · have := h.tk; simp only [accP]; exact Nat.le_trans this (Nat.mul_le_mul (Nat.le_succ _) (Nat.le_succ _))
    · have := h.gv; simp only [accP, List.length_append, List.length_cons, List.length_nil]; omega
  · exact ⟨hi, zk_of _, by have := h.t; show 0 ≤ x.time ∧ x.time ≤ _; omega, by have := h.o; show x.op.length ≤ _; omega, h.e, Nat.le_trans h.tk (Nat.mul_le_mul (Nat.le_succ _) (Nat.le_succ _)), by have := h.gv; show x.gv.length ≤ _; omega⟩
theorem pk_put {k : Nat} {x : Ply} (h : Pk k x) (i : Nat) (r : Rec) (l : List Rec) (hi : x.op[i]? = some (r :: l)) : Pk (k + 1) (putP x i r l) := by
  have hmem : r :: l ∈ x.op := List.mem_of_getElem? hi
  have he := h.e _ hmem
  refine ⟨h.i.put r (by have := he.2.2 r (List.mem_cons_self ..); omega) _, zk_of _, by have := h.t; show 0 ≤ x.time ∧ x.time ≤ _; omega, ?_, ?_, Nat.le_trans h.tk (Nat.mul_le_mul (Nat.le_succ _) (Nat.le_succ _)), by have := h.gv; show x.gv.length ≤ _; omega⟩
  · have := h.o
    simp only [putP]
    split
    · rw [List.length_append, List.length_take, List.length_drop]; omega
    · rw [List.length_set]; omega
  · intro e hm
    simp only [putP] at hm
    split at hm
    · rcases List.mem_append.1 hm with hm | hm
      · exact h.e e (List.mem_of_mem_take hm)
      · exact h.e e (List.mem_of_mem_drop hm)
    · rename_i hl
      rcases List.mem_or_eq_of_mem_set hm with hm | rfl
      · exact h.e e hm
      · exact ⟨fun h0 => hl (by rw [h0]; rfl), by have := he.2.1; rw [List.length_cons] at this; omega, fun q hq => he.2.2 q (List.mem_cons_of_mem _ hq)⟩
theorem pk_tak {k : Nat} {x : Ply} (h : Pk k x) (n : Int) : Pk (k + 1) (takP x n) := by
  refine ⟨h.i.take x.time n, zk_t _, by have := h.t; show 0 ≤ x.time ∧ x.time ≤ _; omega, by have := h.o; show x.op.length ≤ _; omega, h.e, ?_, by have := h.gv; show x.gv.length ≤ _; omega⟩
  have h1 := h.tk
  have h2 := h.i.lq
  have h3 : (takeB x.b x.time n).2.length ≤ x.b.queue.length := by rw [takeB_out, List.length_take]; omega
  simp only [takP, List.length_append]
  have : (k + 1) * (k + 1) = k * k + k + (k + 1) := by rw [Nat.mul_succ, Nat.succ_mul]
  omega
theorem pk_tim {k : Nat} {x : Ply} (h : Pk k x) (d : Int) (hd : 0 ≤ d ∧ d ≤ 1000) : Pk (k + 1) (timP x d) :=
  ⟨h.i.mono (by omega), h.z, by have := h.t; show 0 ≤ x.time + d ∧ x.time + d ≤ _; omega, by have := h.o; show x.op.length ≤ _; omega, h.e, Nat.le_trans h.tk (Nat.mul_le_mul (Nat.le_succ _) (Nat.le_succ _)), by have := h.gv; show x.gv.length ≤ _; omega⟩
theorem pk_cnf {k : Nat} {x : Ply} (h : Pk k x) (l r f : Int) : Pk (k + 1) (cnfP x l r f) :=
  ⟨(h.i.conf l r f).mono (by omega), zk_of _, by have := h.t; show 0 ≤ x.time ∧ x.time ≤ _; omega, by have := h.o; show x.op.length ≤ _; omega, h.e, Nat.le_trans h.tk (Nat.mul_le_mul (Nat.le_succ _) (Nat.le_succ _)), by have := h.gv; show x.gv.length ≤ _; omega⟩
theorem pk_up {k : Nat} {x : Ply} (h : Pk k x) : Pk (k + 1) x :=
  ⟨h.i.mono (by omega), h.z, by have := h.t; omega, by have := h.o; omega, h.e, Nat.le_trans h.tk (Nat.mul_le_mul (Nat.le_succ _) (Nat.le_succ _)), by have := h.gv; omega⟩
end Go.Vm.Bk
