/- A part of the proof of BacklogRatesSaid: YtnihjdfbiddggaaFw. -/
import Derived.Test.YtnihjdfbiddggaaKFv
import Derived.Test.YtnihjdfbiddggaaKFn
/- Backlogs: the law of the rates. -/
set_option linter.unusedVariables false
set_option linter.unusedSimpArgs false
set_option maxHeartbeats 1000000
namespace Go.Vm.Bk
structure RI (most t used : Int) (b : Bk) : Prop where
  l : b.limit = 64
  r : b.rate = most
  f : b.fail = 2
  o : b.op = []
  v : b.reserved = 0
  q : b.queue.length ≤ 1
  p3 : b.p3 = 0
  p4 : b.p4 = 0
  w : (b.window = t.tdiv 1000 ∧ b.used = used) ∨ (b.window < t.tdiv 1000 ∧ used = 0)
def rdu (t t' used : Int) : Int := if t'.tdiv 1000 = t.tdiv 1000 then used else 0
theorem ri_time {most t t' used : Int} {b : Bk} (h : RI most t used b) (h0 : 0 ≤ t) (hle : t ≤ t') : RI most t' (rdu t t' used) b := by
  refine ⟨h.l, h.r, h.f, h.o, h.v, h.q, h.p3, h.p4, ?_⟩
  have h1 : t.tdiv 1000 ≤ t'.tdiv 1000 := by
    rw [Int.tdiv_eq_ediv_of_nonneg h0, Int.tdiv_eq_ediv_of_nonneg (by omega)]
    exact Int.ediv_le_ediv (by omega) hle
  unfold rdu
  split
  · rename_i he; rw [he]; exact h.w
  · right
    have := h.w
    exact ⟨by omega, rfl⟩
theorem ri_full {most t used : Int} {b : Bk} (h : RI most t used b) : fullB b 1 = false := by
  have := h.q
  have h1 := oz (pend b)
  simp only [fullB, h.l, h.v, decide_eq_false_iff_not]
  omega
theorem ri_stl {most t used : Int} {b : Bk} (h : RI most t used b) (s : Int) : stl b s = false := by simp [stl, h.o]
theorem ri_rated {most t used : Int} {b : Bk} (h : RI most t used b) (hm : 1 ≤ most) : rated b t = !decide (used < most) := by
  simp only [rated, h.r]
  rcases h.w with ⟨hw, hu⟩ | ⟨hw, hu⟩
  · rw [hu, hw]
    by_cases hx : used < most
    · simp [hx]
      try omega
    · simp [hx]
      try omega
  · have : used < most := by omega
    simp [this]
    try omega
theorem ri_late {t : Int} (h : 0 ≤ t ∧ t ≤ 1000000) : okOff t 1 = true := by
  simp only [okOff, late, Bool.and_eq_true, decide_eq_true_eq, Bool.not_eq_true', decide_eq_false_iff_not]; omega
theorem ri_ok {most t used : Int} {b : Bk} (h : RI most t used b) (hm : 1 ≤ most) (ht : 0 ≤ t ∧ t ≤ 1000000) : (offerB b t 1).2.2 = decide (used < most) := by
  have h1 := ri_rated h hm
  unfold offerB
  rw [if_pos (ri_late ht)]
  unfold why
  rw [ri_full h, ri_stl h, h1]
  by_cases hx : used < most <;> simp [hx]
/-- What the law does with an event: it is put at once, and all is taken. -/
def rstep (b : Bk) (t : Int) : Bk :=
  if (offerB b t 1).2.2 then (takeB (putB (offerB b t 1).1 ⟨1005, t, (offerB b t 1).2.1, []⟩ true) t 64).1 else (takeB (offerB b t 1).1 t 64).1
theorem take_all {q : List Rec} (h : q.length ≤ 64) : q.drop (takeM q 64) = [] := by
  apply List.drop_of_length_le
  unfold takeM; omega
theorem ri_step {most t used : Int} {b : Bk} (h : RI most t used b) (hm : 1 ≤ most) (ht : 0 ≤ t ∧ t ≤ 1000000) : RI most t (if used < most then used + 1 else used) (rstep b t) := by
  have hok := ri_ok h hm ht
  have h1 := ri_rated h hm
  have hq := h.q
  unfold rstep
  by_cases hx : used < most
  · rw [hok, decide_eq_true hx, if_pos rfl, if_pos hx]
    rw [decide_eq_true hx] at h1
    have ho : offerB b t 1 = (accB (told b t) t 1 (nextS b), nextS b, true) := by
      unfold offerB why
      rw [if_pos (ri_late ht), ri_full h, ri_stl h, h1]
      simp
    rw [ho]
    have hto : (told b t).op = [] := by cases hp : pend b <;> simp [told, hp, tellB, h.o]
    have htq : (told b t).queue.length ≤ 2 := by cases hp : pend b <;> simp [told, hp, tellB] <;> omega
    have htp : (told b t).p0 = 0 ∧ (told b t).p1 = 0 ∧ (told b t).p2 = 0 ∧ (told b t).p3 = 0 ∧ (told b t).p4 = 0 := by
      unfold told; split
      · simp [tellB]
      · exact pend_of (by simpa using ‹¬ pend b = true›)
    have htw : (told b t).window = b.window ∧ (told b t).used = b.used ∧ (told b t).limit = 64 ∧ (told b t).rate = most ∧ (told b t).fail = 2 ∧ (told b t).reserved = 0 := by
      cases hp : pend b <;> simp [told, hp, tellB, h.l, h.r, h.f, h.v]
    generalize told b t = b1 at hto htq htp htw
    obtain ⟨w1, w2, w3, w4, w5, w6⟩ := htw
    have hpd : pend (putB (accB b1 t 1 (nextS b)) ⟨1005, t, nextS b, []⟩ true) = false := by simp [pend, putB, accB, htp]
    have hok2 : ∀ n, okTake (cutB (putB (accB b1 t 1 (nextS b)) ⟨1005, t, nextS b, []⟩ true) n) t = false := by
      intro n
      have : pend (cutB (putB (accB b1 t 1 (nextS b)) ⟨1005, t, nextS b, []⟩ true) n) = false := hpd
      simp [okTake, this]
    simp only [takeB, hok2, Bool.false_eq_true, if_false]
    have hd : (cutB (putB (accB b1 t 1 (nextS b)) ⟨1005, t, nextS b, []⟩ true) 64).queue = [] := by
      show List.drop _ _ = []
      exact take_all (by simp [putB, accB]; omega)
    refine ⟨w3, w4, w5, ?_, ?_, by rw [hd]; simp, htp.2.2.2.1, htp.2.2.2.2, .inl ⟨rfl, ?_⟩⟩
    · show delI (b1.op ++ [nextS b]) (nextS b) = []
      rw [hto]; simp [delI]
    · show b1.reserved + 1 - 1 = 0
      omega
    · show (if t.tdiv 1000 = b1.window then b1.used else 0) + 1 = used + 1
      rcases h.w with ⟨hw, hu⟩ | ⟨hw, hu⟩
      · rw [w1, w2, if_pos hw.symm, hu]
      · rw [w1, if_neg (by omega), hu]
  · rw [hok, decide_eq_false hx, if_neg hx]
    simp only [Bool.false_eq_true, if_false]
    rw [decide_eq_false hx] at h1
    have ho : offerB b t 1 = (loseB b t 0, b.serial + 1, false) := by
      unfold offerB why
      rw [if_pos (ri_late ht), h1]
      simp
    rw [ho]
    have hcq : (cutB (loseB b t 0) 64).queue = [] := take_all (by show b.queue.length ≤ 64; omega)
    have hw : (loseB b t 0).window = t.tdiv 1000 ∧ (loseB b t 0).used = used := by
      rcases h.w with ⟨hw, hu⟩ | ⟨hw, hu⟩
      · exact ⟨hw, hu⟩
      · omega
    simp only [takeB]
    split
    · exact ⟨h.l, h.r, h.f, h.o, h.v, by simp [tellB, hcq], rfl, rfl, .inl hw⟩
    · exact ⟨h.l, h.r, h.f, h.o, h.v, by rw [hcq]; simp, by show b.p3 + 0 = 0; rw [h.p3]; rfl, by show b.p4 + 0 = 0; rw [h.p4]; rfl, .inl hw⟩
theorem inv_rstep {k : Nat} {b : Bk} (h : Inv k b) (t : Int) : Inv (k + 3) (rstep b t) := by
  unfold rstep
  split
  · exact ((h.offer t 1).put _ (by simp) true).take t 64
  · exact ((h.offer t 1).take t 64).mono (by omega)
end Go.Vm.Bk
