/- A part of the proof of BacklogPlaysSaid: YtnihjdfbiddggaaFv. -/
import Derived.Test.YtnihjdfbiddggaaKFu
/- Backlogs: what holds after some steps. -/
set_option linter.unusedVariables false
set_option linter.unusedSimpArgs false
set_option maxHeartbeats 1000000
namespace Go.Vm.Bk
/-- After k steps no number is great. -/
structure Inv (k : Nat) (b : Bk) : Prop where
  s : 0 ≤ b.serial ∧ b.serial ≤ 2 * k
  r : -(64 * k : Int) ≤ b.reserved ∧ b.reserved ≤ 64 * k
  p : 0 ≤ b.p0 ∧ 0 ≤ b.p1 ∧ 0 ≤ b.p2 ∧ 0 ≤ b.p3 ∧ 0 ≤ b.p4 ∧ b.p0 ≤ 2 * k ∧ b.p1 ≤ 2 * k ∧ b.p2 ≤ k ∧ b.p3 ≤ k ∧ b.p4 ≤ k
  u : 0 ≤ b.used ∧ b.used ≤ k
  l : 0 ≤ b.lost ∧ b.lost ≤ k
  lo : b.op.length ≤ k
  lq : b.queue.length ≤ k
  ln : b.nts.length ≤ 16
  lp : ∀ r ∈ b.queue, r.pairs.length ≤ 100
  oo : ∀ x ∈ b.op, 0 ≤ x ∧ x ≤ 2 * k
  pp : PpOk b
theorem Inv.sm {k : Nat} {b : Bk} (h : Inv k b) (hk : k ≤ 10000) : Sm b :=
  ⟨by have := h.s; omega, by have := h.r; omega, by have := h.p; omega, by have := h.u; omega, by have := h.l; omega, by have := h.lo; omega, by have := h.lq; omega, by have := h.ln; omega,
   fun r hr => by have := h.lp r hr; omega, fun x hx => by have := h.oo x hx; omega⟩
theorem Inv.mono {k k' : Nat} {b : Bk} (h : Inv k b) (hk : k ≤ k') : Inv k' b :=
  ⟨by have := h.s; omega, by have := h.r; omega, by have := h.p; omega, by have := h.u; omega, by have := h.l; omega, by have := h.lo; omega, by have := h.lq; omega, h.ln,
   h.lp, fun x hx => by have := h.oo x hx; omega, h.pp⟩
theorem inv_z (l r f : Int) : Inv 0 (conf zBk l r f) := ⟨by simp [conf, zBk], by simp [conf, zBk], by simp [conf, zBk], by simp [conf, zBk], by simp [conf, zBk], by simp [conf, zBk], by simp [conf, zBk], by simp [conf, zBk], by simp [conf, zBk], by simp [conf, zBk], by simp [PpOk, pend, conf, zBk]⟩
theorem Inv.conf {k : Nat} {b : Bk} (h : Inv k b) (l r f : Int) : Inv k (conf b l r f) := ⟨h.s, h.r, h.p, h.u, h.l, h.lo, h.lq, h.ln, h.lp, h.oo, h.pp⟩
theorem pend_of {b : Bk} (h : pend b = false) : b.p0 = 0 ∧ b.p1 = 0 ∧ b.p2 = 0 ∧ b.p3 = 0 ∧ b.p4 = 0 := by simpa [pend] using h
theorem pp_tell (b : Bk) (t : Int) : PpOk (tellB b t) := by simp [PpOk, pend, tellB]
theorem pend_lose (b : Bk) (t w : Int) (hs : 0 ≤ b.serial) : pend (loseB b t w) = true := by
  simp [pend, loseB]; omega
theorem pp_lose {b : Bk} (h : PpOk b) (t w : Int) (hs : 0 ≤ b.serial) : PpOk (loseB b t w) := by
  rw [PpOk, pend_lose b t w hs]
  simp only [Bool.true_eq_false, iff_false]
  show (if pend b then b.p0 else b.serial + 1) ≠ 0
  cases hp : pend b with
  | true => exact fun h0 => by rw [h.1 h0] at hp; cases hp
  | false => simp only [Bool.false_eq_true, if_false]; omega
theorem Inv.tell {k : Nat} {b : Bk} (h : Inv k b) (t : Int) : Inv (k + 1) (tellB b t) :=
  ⟨by have := h.s; simp only [tellB]; omega, by have := h.r; simp only [tellB]; omega, by simp only [tellB]; omega, by have := h.u; simp only [tellB]; omega, by have := h.l; simp only [tellB]; omega,
   by have := h.lo; simp only [tellB]; omega, by have := h.lq; simp only [tellB, List.length_append, List.length_cons, List.length_nil]; omega, h.ln,
   fun r hr => by
     rcases List.mem_append.1 hr with hr | hr
     · exact h.lp r hr
     · simp at hr; subst hr; simp [lossR, lossP], fun x hx => by have := h.oo x hx; omega, pp_tell b t⟩
theorem ite01 (p : Prop) [Decidable p] : (0 : Int) ≤ (if p then 1 else 0) ∧ (if p then (1 : Int) else 0) ≤ 1 := by split <;> omega
theorem Inv.lose {k : Nat} {b : Bk} (h : Inv k b) (t w : Int) : Inv (k + 1) (loseB b t w) := by
  have hs := h.s
  have hp := h.p
  refine ⟨by simp only [loseB]; omega, by have := h.r; simp only [loseB]; omega, ?_, by have := h.u; simp only [loseB]; omega, by have := h.l; simp only [loseB]; omega,
   by have := h.lo; simp only [loseB]; omega, by have := h.lq; simp only [loseB]; omega, ?_, h.lp, fun x hx => by have := h.oo x hx; omega, pp_lose h.pp t w hs.1⟩
  · have h0 := ite01 (w = 0)
    have h1 := ite01 (w = 1)
    have h2 := ite01 (w = 2)
    have h3 : 0 ≤ (if pend b then b.p0 else b.serial + 1) ∧ (if pend b then b.p0 else b.serial + 1) ≤ 2 * (k + 1 : Nat) := by split <;> omega
    simp only [loseB]
    omega
  · have := h.ln
    simp only [loseB]
    split
    · rw [List.length_append, List.length_drop, List.length_cons, List.length_nil]; omega
    · exact this
theorem Inv.offer {k : Nat} {b : Bk} (h : Inv k b) (t n : Int) : Inv (k + 1) (offerB b t n).1 := by
  unfold offerB
  split
  · rename_i hok
    obtain ⟨hn, _, _⟩ := ok_t hok
    split
    · exact h.lose t _
    · have hs := h.s
      have hns : 0 ≤ nextS b ∧ nextS b ≤ 2 * (k + 1 : Nat) := by unfold nextS; split <;> omega
      have hop : (told b t).op = b.op := by unfold told; split <;> rfl
      have hre : (told b t).reserved = b.reserved := by unfold told; split <;> rfl
      have hus : (told b t).used = b.used := by unfold told; split <;> rfl
      have hlo : (told b t).lost = b.lost := by unfold told; split <;> rfl
      have hnt : (told b t).nts = b.nts := by unfold told; split <;> rfl
      have hp : PpOk (told b t) := by
        unfold told; split
        · exact pp_tell b t
        · exact h.pp
      have ht : Inv (k + 1) (told b t) := by
        unfold told; split
        · exact h.tell t
        · exact h.mono (by omega)
      refine ⟨hns, ?_, ht.p, ?_, ?_, ?_, ht.lq, ht.ln, ht.lp, ?_, ht.pp⟩
      · have := h.r; simp only [accB, hre]; omega
      · have := h.u; simp only [accB, hus]; split <;> omega
      · have := h.l; simp only [accB, hlo]; omega
      · have := h.lo; simp only [accB, hop, List.length_append, List.length_cons, List.length_nil]; omega
      · intro x hx
        simp only [accB, hop] at hx
        rcases List.mem_append.1 hx with hx | hx
        · have := h.oo x hx; omega
        · simp at hx; subst hx; exact hns
  · exact h.mono (by omega)
theorem Inv.put {k : Nat} {b : Bk} (h : Inv k b) (r : Rec) (hr : r.pairs.length ≤ 100) (last : Bool) : Inv (k + 1) (putB b r last) := by
  refine ⟨by have := h.s; simp only [putB]; omega, by have := h.r; simp only [putB]; omega, by have := h.p; simp only [putB]; omega, by have := h.u; simp only [putB]; omega, by have := h.l; simp only [putB]; omega,
    ?_, by have := h.lq; simp only [putB, List.length_append, List.length_cons, List.length_nil]; omega, h.ln, ?_, ?_, h.pp⟩
  · have := h.lo
    have := delI_len b.op r.serial
    simp only [putB]; split <;> omega
  · intro x hx
    rcases List.mem_append.1 hx with hx | hx
    · exact h.lp x hx
    · simp at hx; subst hx; exact hr
  · intro x hx
    simp only [putB] at hx
    split at hx
    · have := h.oo x (List.mem_filter.1 hx).1; omega
    · have := h.oo x hx; omega
theorem Inv.cut {k : Nat} {b : Bk} (h : Inv k b) (n : Int) : Inv k (cutB b n) :=
  ⟨h.s, h.r, h.p, h.u, h.l, h.lo, by have := h.lq; simp only [cutB, List.length_drop]; omega, h.ln, fun r hr => h.lp r (List.mem_of_mem_drop hr), h.oo, h.pp⟩
theorem Inv.take {k : Nat} {b : Bk} (h : Inv k b) (t n : Int) : Inv (k + 1) (takeB b t n).1 := by
  simp only [takeB]
  split
  · exact (h.cut n).tell t
  · exact (h.cut n).mono (by omega)
theorem tkz_ok (l : List Rec) : okSz 4 (tkz l) (recs l) = true := by cases l <;> rfl
theorem zk_t (b : Bk) : Zk b 1 (tkz b.queue) 2 := ⟨rfl, tkz_ok _, rfl⟩
end Go.Vm.Bk
