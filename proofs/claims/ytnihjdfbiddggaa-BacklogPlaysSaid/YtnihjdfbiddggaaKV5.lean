/- A part of the proof of BacklogPlaysSaid: VmArun VmOmega. -/
import Derived.Test.YtnihjdfbiddggaaKV4
section
/- Runs of the machine are runs of the model. -/
set_option linter.unusedVariables false
set_option linter.unusedSimpArgs false
set_option linter.unnecessarySimpa false
namespace Go.Vm
section
variable {P : Program} {w0 : World} {F M : Mem} {ρ : Rho} {hp hr : Heap} {w : World} {kf : Bool}
theorem one_rep {xs : List A} {us : List Value} (h : RepAs M ρ xs us) : RepA M ρ (one xs) (if h : us.length = 1 then us[0] else .tuple us.toArray) := by
  cases xs with
  | nil =>
    have : us = [] := List.eq_nil_of_length_eq_zero (by have := h.1; simpa using this.symm)
    subst this
    exact .tup [] #[] rfl (by simp)
  | cons x xs =>
    obtain ⟨u, us, rfl, hu, hus⟩ := h.cases_cons
    cases xs with
    | nil =>
      have : us = [] := List.eq_nil_of_length_eq_zero (by have := hus.1; simpa using this.symm)
      subst this
      simpa [one] using hu
    | cons y ys =>
      obtain ⟨u', us, rfl, hu', hus'⟩ := hus.cases_cons
      rw [dif_neg (by simp)]
      exact .tup _ _ (by have := h.1; simpa using this) (fun i x v a b => h.2 i x v a (by simpa using b))
theorem leave_ok {cf : CF} {m N : Nat} {M0 : Mem} {ρ0 : Rho} {hp0 : Heap} {s : St} {a : Act} (hinv : SInv w0 F M0 ρ0 hp0 m N s a w) (hstay : ∀ i, i < m → Stay m (hp0 i)) {fn : Func} (hres : mapOpt (compRes P) fn.results.toList = some cf.res) {r : A} {H' : List Chunk} {dirty : List Nat} (h : leave kf cf m s = some (r, H', dirty)) :
    ∃ M' ρ' v', (results fn a.tmps).run P w = .ok v' w ∧ MemLe M0 M' ∧ (∀ i, i < m → ρ' i = ρ0 i) ∧ (∀ i l, ρ' i = some l → i < H'.length) ∧ m ≤ H'.length ∧ RepA M' ρ' r v' ∧ Rel w0 F M' ρ' (hpOf H') w ∧ (∀ i, i < m → i ∉ dirty → hpOf H' i = hp0 i) := by
  obtain ⟨M, ρ, i1, i2, i3, i4, i5, i6, i7, i8, i9, i10⟩ := hinv
  unfold leave at h
  split at h
  · cases h
  · rename_i vs hvs
    obtain ⟨us, h1, h2⟩ := results_run (P := P) i6 i7 hres hvs
    simp only at h
    generalize hp : (if cf.keep then ((rowResR cf.rowRes vs 0 s.nx).1, applyC s.hp s.nx (rowResR cf.rowRes vs 0 s.nx).2, ([] : List Nat)) else ((freezeR kf [] vs 0 s.hp).1, applyW s.hp (freezeR kf [] vs 0 s.hp).2, ((freezeR kf [] vs 0 s.hp).2.map (·.1)).filter (fun i => i < m && !s.dirty.contains i))) = p at h
    obtain ⟨hr, hH, hdir⟩ : one (renL (fwd (reach p.2.1 1000 p.1 (reach p.2.1 1000 ((List.range m).flatMap fun i => boxC (p.2.1 i)) (List.range m)))) p.1) = r ∧ packL p.2.1 (reach p.2.1 1000 p.1 (reach p.2.1 1000 ((List.range m).flatMap fun i => boxC (p.2.1 i)) (List.range m))) = H' ∧ ∀ i, i ∉ dirty → i ∉ s.dirty ++ p.2.2 := by
      split at h
      · simp only [Option.some.injEq, Prod.mk.injEq] at h
        obtain ⟨h1, h2, h3⟩ := h
        exact ⟨h1, h2, fun i hi => by rw [h3]; exact hi⟩
      · rename_i l hl
        split at h
        · rename_i hall
          simp only [Option.some.injEq, Prod.mk.injEq] at h
          obtain ⟨h1, h2, h3⟩ := h
          refine ⟨h1, h2, fun i hi hm => hi ?_⟩
          have := List.all_eq_true.1 hall i hm
          rw [← h3]; simpa using this
        · cases h
    obtain ⟨M1, ρ1, k1, k2, k3, k4, k5⟩ : ∃ M1 ρ1, MemLe M M1 ∧ (∀ i, i < m → ρ1 i = ρ i) ∧ RepAs M1 ρ1 p.1 us ∧ Rel w0 F M1 ρ1 p.2.1 w ∧ (∀ i, i < m → i ∉ s.dirty ++ p.2.2 → p.2.1 i = s.hp i) := by
      rw [← hp]
      split
      · obtain ⟨ρ', a1, a2, a3, a4, a5, a6⟩ := rowResR_ok (rows := cf.rowRes) (i := 0) i6 i4 h1
        exact ⟨M, ρ', MemLe.refl _, fun i hi => a2 i (by omega), a4, a5, fun i hi _ => a6 i (by omega)⟩
      · obtain ⟨M1, a1, a2, a3⟩ := freezeR_ok (kf := kf) (rows := []) (i := 0) i6 (fun i => .inl rfl) h1
        refine ⟨M1, ρ, a1, fun _ _ => rfl, a2, a3, fun i hi hn => ?_⟩
        show applyW s.hp _ i = s.hp i
        rw [applyW_ap]
        refine apG_none (gHp_none (fun hmem => hn ?_))
        simp only [List.mem_append, List.mem_filter]
        by_cases hd : i ∈ s.dirty
        · exact .inl hd
        · exact .inr ⟨hmem, by simp [hi, hd]⟩
    subst hr hH
    generalize hid : reach p.2.1 1000 p.1 _ = ids
    obtain ⟨hnd, t, ht⟩ : ids.Nodup ∧ ∃ t, ids = List.range m ++ t := by
      have key : ∀ xs : List A, (reach p.2.1 1000 p.1 (reach p.2.1 1000 xs (List.range m))).Nodup ∧ ∃ t, reach p.2.1 1000 p.1 (reach p.2.1 1000 xs (List.range m)) = List.range m ++ t := fun xs => by
        obtain ⟨n1, t1, e1⟩ := reach_ok p.2.1 1000 xs (List.range m) List.nodup_range
        obtain ⟨n2, t2, e2⟩ := reach_ok p.2.1 1000 p.1 _ n1
        exact ⟨n2, t1 ++ t2, by rw [e2, e1, List.append_assoc]⟩
      rw [← hid]
      exact key _
    have hat : ∀ i, i < m → ids[i]? = some i := fun i hi => by
      rw [ht, List.getElem?_append_left (by simpa using hi)]
      simp [hi]
    have hlen : (packL p.2.1 ids).length = ids.length := by simp [packL]
    refine ⟨M1, rhoOf ρ1 ids, _, h2, i1.trans k1, fun i hi => ?_, fun i l hi => ?_, by rw [hlen, ht]; simp, one_rep (renL_rep rhoOf_fwd k3), k4.renum hnd, fun i hi hn => ?_⟩
    · rw [← i3 i hi, ← k2 i hi]
      simp [rhoOf, hat i hi]
    · rw [hlen]
      refine Classical.byContradiction fun hne => ?_
      simp only [rhoOf] at hi
      rw [List.getElem?_eq_none (by omega)] at hi
      cases hi
    · rw [packL_at, hat i hi]
      simp only
      have hn' := hdir i hn
      rw [k5 i hi hn', i10 i hi (fun h => hn' (by simp [h])), ht]
      exact hstay i hi t
theorem arun_ok {prog : FuncId → Option CF} (hprog : ProgOk P w0 prog) (hmix : P.follows .mixedOrders = true) : ∀ n, RunOk P w0 (arun kf prog n)
  | 0 => fun F g args H r H' dirty h => by simp [arun] at h
  | n + 1 => by
    have ih := arun_ok hprog hmix n
    intro F g args H r H' dirty h hstay M ρ w vals hrel hdom hx
    simp only [arun] at h
    split at h
    · cases h
    · rename_i cf hcf
      obtain ⟨fn, code, p1, p2, p3, p4, p5⟩ := (hprog g cf hcf).1
      refine ⟨fn, p1, p2, by rw [p3]; rfl, fun post hpost => ?_⟩
      obtain ⟨ρ', k1, k2, k3, k4, k5⟩ := argsIn_ok (rows := cf.rowArgs) (i := 0) rfl hrel hdom hx
      generalize argsIn cf.rowArgs args 0 H.length = p at h k3 k4 k5
      have fin : ∀ ex s, (ex = .ret ∨ ex = .normal) → aexec kf (callOf kf prog (arun kf prog n)) n cf.body { sl := fun i => p.1[i]?.getD .un, hp := hpOf (H ++ p.2), nx := (H ++ p.2).length, m := H.length, dirty := [] } = some (ex, s) → leave kf cf H.length s = some (r, H', dirty) →
          Calls P g vals.toArray w (fun e w' => ∃ v', e = .returned v' ∧ post v' w') := by
        intro ex s hex he hl
        refine calls_of_wp p1 p3 ?_
        refine exec_sound (F := F) (M0 := M) (ρ0 := ρ) (hp0 := hpOf H) (m := H.length) (callOf_ok hprog ih) hmix hstay n code cf.body _ s ex _ w _ p4 he ⟨M, ρ', MemLe.refl _, rfl, k2, k3, by simp, k5, fun k => ?_, by simp; omega, rfl, fun i hi _ => by simp [hpOf, List.getElem?_append_left hi]⟩ (fun a' w' hs => ?_)
        · show RepA M ρ' (p.1[k]?.getD .un) _
          cases hk : p.1[k]? with
          | none => exact .un _
          | some x =>
            have hlt := (List.getElem?_eq_some_iff.1 hk).1
            have hlt' : k < vals.length := by rw [← k4.1]; exact hlt
            have := k4.2 k x vals[k] hk (List.getElem?_eq_getElem hlt')
            simp only [Option.getD_some]
            rw [Array.getD_eq_getD_getElem?, Array.getElem?_append_left (by simpa using hlt')]
            simpa [hlt'] using this
        · obtain ⟨M', ρ1, v', q1, q2, q3, q4, q5, q6, q7, q8⟩ := leave_ok (P := P) hs hstay p5 hl
          obtain ⟨_, _, _, _, _, _, _, _, _, _, hdf, _⟩ := hs
          have hp' := hpost M' ρ1 v' w' q2 q3 q4 q5 q6 q7 q8
          rcases hex with rfl | rfl
          · exact ⟨hdf, v', q1, v', rfl, hp'⟩
          · exact ⟨hdf, v', q1, v', rfl, hp'⟩
      split at h
      · rename_i s hs; exact fin .ret s (.inl rfl) hs h
      · rename_i s hs; exact fin .normal s (.inr rfl) hs h
      · cases h
end
end Go.Vm
end
section
/- Runs without a count of rounds. -/
set_option linter.unusedVariables false
set_option linter.unusedSimpArgs false
set_option linter.unnecessarySimpa false
namespace Go.Vm
/-! ### More rounds give the same -/
def OLe {α : Type} (a b : Option α) : Prop := ∀ x, a = some x → b = some x
theorem OLe.refl {α : Type} (a : Option α) : OLe a a := fun _ h => h
def RunLe (r r' : RunF) : Prop := ∀ f a H, OLe (r f a H) (r' f a H)
def CallLe (c c' : CallF) : Prop := ∀ f a hp nb, OLe (c f a hp nb) (c' f a hp nb)
section
variable {kf : Bool} {prog : FuncId → Option CF}
theorem callOf_mono {r r' : RunF} (h : RunLe r r') : CallLe (callOf kf prog r) (callOf kf prog r') := by
  intro g as hp nb x hx
  unfold callOf at hx ⊢
  cases hg : prog g with
  | none => rw [hg] at hx; cases hx
  | some cg =>
    rw [hg] at hx
    simp only at hx ⊢
    cases hc : cg.clone with
    | some sz => rw [hc] at hx; exact hx
    | none =>
      rw [hc] at hx
      simp only at hx ⊢
      split at hx
      · rename_i hall
        rw [if_pos hall]
        split at hx
        · cases hx
        · rename_i rr H' dirty hr
          rw [h _ _ _ _ hr]
          exact hx
      · cases hx
theorem aop_mono {c c' : CallF} (h : CallLe c c') (nb : Nat) (hp : Heap) (o : COp A) : OLe (aop kf c nb hp o) (aop kf c' nb hp o) := by
  intro x hx
  cases o <;> first
    | exact hx
    | (simp only [aop] at hx ⊢
       split at hx
       · exact h _ _ _ _ _ hx
       · cases hx)
theorem astep_mono {c c' : CallF} (h : CallLe c c') (o : CO) (nb : Nat) (s : St) : OLe (astep kf c o nb s) (astep kf c' o nb s) := by
  intro x hx
  unfold astep at hx ⊢
  split at hx
  · cases hx
  · exact hx
  · simp only at hx ⊢
    split at hx
    · rename_i v ws hv
      rw [aop_mono h _ _ _ _ hv]
      exact hx
    · cases hx
theorem aops_mono {c c' : CallF} (h : CallLe c c') (nb : Nat) : ∀ (os : List CO) (i : Nat) (s : St), OLe (aops kf c nb os i s) (aops kf c' nb os i s)
  | [], i, s => OLe.refl _
  | o :: os, i, s => by
    intro x hx
    simp only [aops] at hx ⊢
    split at hx
    · rename_i s1 f w h1
      rw [astep_mono h _ _ _ _ h1]
      simp only
      split at hx
      · rename_i s2 l h2
        rw [aops_mono h nb os _ _ _ h2]
        exact hx
      · cases hx
    · cases hx
theorem aiter_mono {f f' : St → Option (Ex × St)} {g : St → St} (h : ∀ s, OLe (f s) (f' s)) : ∀ {n n' : Nat}, n ≤ n' → ∀ s, OLe (aiter n f g s) (aiter n' f' g s)
  | 0, n', hn, s => fun x hx => by simp [aiter] at hx
  | n + 1, n', hn, s => by
    intro x hx
    obtain ⟨k, rfl⟩ : ∃ k, n' = k + 1 := ⟨n' - 1, by omega⟩
    simp only [aiter] at hx ⊢
    split at hx
    · rename_i s' h1
      rw [h _ _ h1]
      exact aiter_mono h (by omega) s' x hx
    · rename_i r hr
      cases hf : f (g s) with
      | none => rw [hf] at hx; cases hx
      | some y =>
        rw [h _ _ hf]
        rw [hf] at hx
        obtain ⟨e, s'⟩ := y
        cases e with
        | normal => exact absurd hf (hr s')
        | exit id => exact hx
        | ret => exact hx
theorem aexec_mono {c c' : CallF} (h : CallLe c c') {n n' : Nat} (hn : n ≤ n') : ∀ (cc : CCode) (s : St), OLe (aexec kf c n cc s) (aexec kf c' n' cc s) := by
  intro cc
  induction cc with
  | skip => intro s x hx; exact hx
  | exit id => intro s x hx; exact hx
  | ret => intro s x hx; exact hx
  | reg ops d k =>
    intro s x hx
    simp only [aexec] at hx ⊢
    split at hx
    · rename_i s' l h1
      rw [aops_mono h _ _ _ _ _ h1]
      exact hx
    · cases hx
  | seq a b iha ihb =>
    intro s x hx
    simp only [aexec] at hx ⊢
    split at hx
    · rename_i s' h1
      rw [iha _ _ h1]
      exact ihb _ _ hx
    · rename_i r hr
      rw [iha _ _ hx]
      obtain ⟨e, s'⟩ := x
      cases e with
      | normal => exact absurd hx (hr s')
      | exit id => rfl
      | ret => rfl
  | cond v a b iha ihb =>
    intro s x hx
    simp only [aexec] at hx ⊢
    split at hx
    · rename_i t ht
      cases t with
      | true => exact iha _ _ hx
      | false => exact ihb _ _ hx
    · cases hx
  | block id a iha =>
    intro s x hx
    simp only [aexec] at hx ⊢
    split at hx
    · rename_i j s' h1
      rw [iha _ _ h1]
      exact hx
    · rename_i r hr
      rw [iha _ _ hx]
      obtain ⟨e, s'⟩ := x
      cases e with
      | normal => rfl
      | exit j => exact absurd hx (hr j s')
      | ret => rfl
  | loop keep a iha =>
    intro s x hx
    simp only [aexec] at hx ⊢
    exact aiter_mono (fun s => iha s) hn s x hx
theorem arun_mono1 : ∀ n, RunLe (arun kf prog n) (arun kf prog (n + 1))
  | 0 => fun f a H x hx => by simp [arun] at hx
  | n + 1 => by
    intro f a H x hx
    simp only [arun] at hx
    rw [arun]
    cases hf : prog f with
    | none => rw [hf] at hx; cases hx
    | some cf =>
      rw [hf] at hx
      simp only at hx ⊢
      have hm := aexec_mono (kf := kf) (callOf_mono (kf := kf) (prog := prog) (arun_mono1 n)) (Nat.le_succ n) cf.body
      split at hx
      · rename_i s hs; rw [hm _ _ hs]; exact hx
      · rename_i s hs; rw [hm _ _ hs]; exact hx
      · cases hx
theorem arun_mono {n n' : Nat} (h : n ≤ n') : RunLe (arun kf prog n) (arun kf prog n') := by
  induction h with
  | refl => exact fun _ _ _ => OLe.refl _
  | step _ ih => exact fun f a H x hx => arun_mono1 _ f a H x (ih f a H x hx)
/-! ### Limits -/
open Classical in
noncomputable def lim {α : Type} (f : Nat → Option α) : Option α := if h : ∃ x, ∃ n, f n = some x then some h.choose else none
def Mono {α : Type} (f : Nat → Option α) : Prop := ∀ n n', n ≤ n' → OLe (f n) (f n')
theorem lim_of {α : Type} {f : Nat → Option α} (hm : Mono f) {n : Nat} {x : α} (h : f n = some x) : lim f = some x := by
  have hex : ∃ x, ∃ n, f n = some x := ⟨x, n, h⟩
  unfold lim
  rw [dif_pos hex]
  obtain ⟨n', hn'⟩ := hex.choose_spec
  have h1 := hm n (max n n') (Nat.le_max_left _ _) _ h
  have h2 := hm n' (max n n') (Nat.le_max_right _ _) _ hn'
  rw [h1] at h2
  exact h2.symm
theorem of_lim {α : Type} {f : Nat → Option α} {x : α} (h : lim f = some x) : ∃ n, f n = some x := by
  unfold lim at h
  split at h
  · rename_i hex
    cases h
    exact hex.choose_spec
  · cases h
theorem lim_ext {α : Type} {a b : Option α} (h1 : OLe a b) (h2 : OLe b a) : a = b := by
  cases a with
  | none =>
    cases b with
    | none => rfl
    | some y => exact (h2 y rfl)
  | some x => exact (h1 x rfl).symm
variable (kf prog)
noncomputable def runW : RunF := fun f a H => lim fun n => arun kf prog n f a H
noncomputable def callW : CallF := callOf kf prog (runW kf prog)
noncomputable def execW (cc : CCode) (s : St) : Option (Ex × St) := lim fun n => aexec kf (callOf kf prog (arun kf prog n)) n cc s
variable {kf prog}
theorem run_mono (f : FuncId) (a : List A) (H : List Chunk) : Mono fun n => arun kf prog n f a H := fun _ _ h => arun_mono h f a H
theorem exec_mono (cc : CCode) (s : St) : Mono fun n => aexec kf (callOf kf prog (arun kf prog n)) n cc s := fun _ _ h => aexec_mono (callOf_mono (arun_mono h)) h cc s
theorem exec_up {cc : CCode} {s : St} {n n' : Nat} (h : n ≤ n') {x : Ex × St} (e : aexec kf (callOf kf prog (arun kf prog n)) n cc s = some x) : aexec kf (callOf kf prog (arun kf prog n')) n' cc s = some x := exec_mono cc s n n' h x e
theorem run_le (n : Nat) : RunLe (arun kf prog n) (runW kf prog) := fun f a H x hx => lim_of (run_mono f a H) hx
/-- What a limit of calls gives, enough rounds give. -/
theorem callW_of {g : FuncId} {as : List A} {hp : Heap} {nb : Nat} {x : A × Writes} (h : callW kf prog g as hp nb = some x) : ∃ n, callOf kf prog (arun kf prog n) g as hp nb = some x := by
  unfold callW callOf at h
  unfold callOf
  cases hg : prog g with
  | none => rw [hg] at h; cases h
  | some cg =>
    rw [hg] at h
    simp only at h ⊢
    cases hc : cg.clone with
    | some sz => rw [hc] at h; exact ⟨0, h⟩
    | none =>
      rw [hc] at h
      simp only at h ⊢
      split at h
      · rename_i hall
        simp only [if_pos hall]
        split at h
        · cases h
        · rename_i rr H' dirty hr
          obtain ⟨n, hn⟩ := of_lim hr
          exact ⟨n, by rw [hn]; exact h⟩
      · cases h
theorem aopW_of {nb : Nat} {hp : Heap} {o : COp A} {x : A × Writes} (h : aop kf (callW kf prog) nb hp o = some x) : ∃ n, aop kf (callOf kf prog (arun kf prog n)) nb hp o = some x := by
  cases o <;> first
    | exact ⟨0, h⟩
    | (simp only [aop] at h ⊢
       split at h
       · exact callW_of h
       · cases h)
theorem astepW_of {o : CO} {nb : Nat} {s : St} {x : St × List Nat × List Nat} (h : astep kf (callW kf prog) o nb s = some x) : ∃ n, astep kf (callOf kf prog (arun kf prog n)) o nb s = some x := by
  unfold astep at h ⊢
  split at h
  · cases h
  · exact ⟨0, h⟩
  · rename_i hw
    simp only at h
    split at h
    · rename_i v ws hv
      obtain ⟨n, hn⟩ := aopW_of hv
      refine ⟨n, ?_⟩
      simp only
      rw [hn]
      exact h
    · cases h
theorem aopsW_of {nb : Nat} : ∀ {os : List CO} {i : Nat} {s : St} {x : St × List (CO × List Nat × List Nat)}, aops kf (callW kf prog) nb os i s = some x → ∃ n, aops kf (callOf kf prog (arun kf prog n)) nb os i s = some x
  | [], i, s, x, h => ⟨0, h⟩
  | o :: os, i, s, x, h => by
    simp only [aops] at h ⊢
    split at h
    · rename_i s1 f w h1
      split at h
      · rename_i s2 l h2
        obtain ⟨n1, e1⟩ := astepW_of h1
        obtain ⟨n2, e2⟩ := aopsW_of h2
        refine ⟨max n1 n2, ?_⟩
        rw [astep_mono (callOf_mono (arun_mono (Nat.le_max_left n1 n2))) _ _ _ _ e1]
        simp only
        rw [aops_mono (callOf_mono (arun_mono (Nat.le_max_right n1 n2))) _ _ _ _ _ e2]
        exact h
      · cases h
    · cases h
theorem callW_le (n : Nat) : CallLe (callOf kf prog (arun kf prog n)) (callW kf prog) := callOf_mono (run_le n)
/-! ### What holds of the limits -/
theorem execW_skip (s : St) : execW kf prog .skip s = some (.normal, s) := lim_of (n := 0) (exec_mono _ _) rfl
theorem execW_exit (id : Nat) (s : St) : execW kf prog (.exit id) s = some (.exit id, s) := lim_of (n := 0) (exec_mono _ _) rfl
theorem execW_ret (s : St) : execW kf prog .ret s = some (.ret, s) := lim_of (n := 0) (exec_mono _ _) rfl
theorem execW_reg (ops : List CO) (draw : Bool) (keep : Option (List Nat)) (s : St) : execW kf prog (.reg ops draw keep) s =
    match aops kf (callW kf prog) s.nx ops 0 s with
    | some (s', l) => if draw && !pairsOk l 0 then none else
        some (.normal, { sl := (match keep with | some ks => mask ks s'.sl | none => s'.sl), hp := s'.hp, nx := s.nx + 8 * ops.length, m := s'.m, dirty := s'.dirty })
    | none => none := by
  refine lim_ext (fun x hx => ?_) (fun x hx => ?_)
  · obtain ⟨n, hn⟩ := of_lim hx
    simp only [aexec] at hn
    split at hn
    · rename_i s' l h1
      rw [aops_mono (callW_le n) _ _ _ _ _ h1]
      exact hn
    · cases hn
  · split at hx
    · rename_i s' l h1
      obtain ⟨n, hn⟩ := aopsW_of h1
      refine lim_of (n := n) (exec_mono _ _) ?_
      simp only [aexec]
      rw [hn]
      exact hx
    · cases hx
theorem execW_seq (a b : CCode) (s : St) : execW kf prog (.seq a b) s = match execW kf prog a s with
    | some (.normal, s') => execW kf prog b s'
    | r => r := by
  refine lim_ext (fun x hx => ?_) (fun x hx => ?_)
  · obtain ⟨n, hn⟩ := of_lim hx
    simp only [aexec] at hn
    split at hn
    · rename_i s' h1
      rw [show execW kf prog a s = _ from lim_of (exec_mono _ _) h1]
      exact lim_of (exec_mono _ _) hn
    · rename_i r hr
      rw [show execW kf prog a s = _ from lim_of (exec_mono _ _) hn]
      obtain ⟨e, s'⟩ := x
      cases e with
      | normal => exact absurd hn (hr s')
      | exit id => rfl
      | ret => rfl
  · split at hx
    · rename_i s' h1
      obtain ⟨n1, e1⟩ := of_lim h1
      obtain ⟨n2, e2⟩ := of_lim hx
      refine lim_of (n := max n1 n2) (exec_mono _ _) ?_
      simp only [aexec]
      rw [exec_up (Nat.le_max_left n1 n2) e1]
      exact exec_up (Nat.le_max_right n1 n2) e2
    · rename_i r hr
      obtain ⟨n1, e1⟩ := of_lim hx
      refine lim_of (n := n1) (exec_mono _ _) ?_
      simp only [aexec]
      rw [e1]
      obtain ⟨e, s'⟩ := x
      cases e with
      | normal => exact absurd hx (hr s')
      | exit id => rfl
      | ret => rfl
theorem execW_cond (c : COpd) (a b : CCode) (s : St) : execW kf prog (.cond c a b) s = match val s.sl c with
    | .d (.bool t) => if t then execW kf prog a s else execW kf prog b s
    | _ => none := by
  refine lim_ext (fun x hx => ?_) (fun x hx => ?_)
  · obtain ⟨n, hn⟩ := of_lim hx
    simp only [aexec] at hn
    split at hn
    · rename_i t ht
      rw [ht]
      cases t with
      | true => exact lim_of (exec_mono _ _) hn
      | false => exact lim_of (exec_mono _ _) hn
    · cases hn
  · split at hx
    · rename_i t ht
      cases t with
      | true =>
        obtain ⟨n, hn⟩ := of_lim (show execW kf prog a s = _ from hx)
        exact lim_of (n := n) (exec_mono _ _) (by simp only [aexec, ht]; exact hn)
      | false =>
        obtain ⟨n, hn⟩ := of_lim (show execW kf prog b s = _ from hx)
        exact lim_of (n := n) (exec_mono _ _) (by simp only [aexec, ht]; exact hn)
    · cases hx
theorem execW_block (id : Nat) (a : CCode) (s : St) : execW kf prog (.block id a) s = match execW kf prog a s with
    | some (.exit j, s') => if j = id then some (.normal, s') else some (.exit j, s')
    | r => r := by
  refine lim_ext (fun x hx => ?_) (fun x hx => ?_)
  · obtain ⟨n, hn⟩ := of_lim hx
    simp only [aexec] at hn
    split at hn
    · rename_i j s' h1
      rw [show execW kf prog a s = _ from lim_of (exec_mono _ _) h1]
      exact hn
    · rename_i r hr
      rw [show execW kf prog a s = _ from lim_of (exec_mono _ _) hn]
      obtain ⟨e, s'⟩ := x
      cases e with
      | normal => rfl
      | exit j => exact absurd hn (hr j s')
      | ret => rfl
  · split at hx
    · rename_i j s' h1
      obtain ⟨n1, e1⟩ := of_lim h1
      refine lim_of (n := n1) (exec_mono _ _) ?_
      simp only [aexec]
      rw [e1]
      exact hx
    · rename_i r hr
      obtain ⟨n1, e1⟩ := of_lim hx
      refine lim_of (n := n1) (exec_mono _ _) ?_
      simp only [aexec]
      rw [e1]
      obtain ⟨e, s'⟩ := x
      cases e with
      | normal => rfl
      | exit j => exact absurd hx (hr j s')
      | ret => rfl
theorem execW_loop (keep : List (Nat × Option Nat)) (c : CCode) (s : St) : execW kf prog (.loop keep c) s = match execW kf prog c (gc keep s) with
    | some (.normal, s') => execW kf prog (.loop keep c) s'
    | r => r := by
  refine lim_ext (fun x hx => ?_) (fun x hx => ?_)
  · obtain ⟨n, hn⟩ := of_lim hx
    simp only [aexec] at hn
    cases n with
    | zero => simp [aiter] at hn
    | succ n =>
      simp only [aiter] at hn
      split at hn
      · rename_i s' h1
        rw [show execW kf prog c (gc keep s) = _ from lim_of (exec_mono _ _) h1]
        refine lim_of (n := n + 1) (exec_mono _ _) ?_
        simp only [aexec]
        exact aiter_mono (fun _ => OLe.refl _) (Nat.le_succ n) _ _ hn
      · rename_i r hr
        rw [show execW kf prog c (gc keep s) = _ from lim_of (exec_mono _ _) hn]
        obtain ⟨e, s'⟩ := x
        cases e with
        | normal => exact absurd hn (hr s')
        | exit id => rfl
        | ret => rfl
  · split at hx
    · rename_i s' h1
      obtain ⟨n1, e1⟩ := of_lim h1
      obtain ⟨n2, e2⟩ := of_lim hx
      simp only [aexec] at e2
      refine lim_of (n := max n1 n2 + 1) (exec_mono _ _) ?_
      simp only [aexec, aiter]
      rw [exec_up (show n1 ≤ max n1 n2 + 1 by omega) e1]
      exact aiter_mono (fun s => exec_mono c s n2 (max n1 n2 + 1) (by omega)) (Nat.le_max_right n1 n2) _ _ e2
    · rename_i r hr
      obtain ⟨n1, e1⟩ := of_lim hx
      refine lim_of (n := n1 + 1) (exec_mono _ _) ?_
      simp only [aexec, aiter]
      rw [exec_up (show n1 ≤ n1 + 1 by omega) e1]
      obtain ⟨e, s'⟩ := x
      cases e with
      | normal => exact absurd hx (hr s')
      | exit id => rfl
      | ret => rfl
/-- The state in which a call begins. -/
def enter (cf : CF) (args : List A) (H : List Chunk) : St := { sl := fun i => (argsIn cf.rowArgs args 0 H.length).1[i]?.getD .un, hp := hpOf (H ++ (argsIn cf.rowArgs args 0 H.length).2), nx := (H ++ (argsIn cf.rowArgs args 0 H.length).2).length, m := H.length, dirty := [] }
theorem runW_eq {f : FuncId} {cf : CF} (hf : prog f = some cf) (args : List A) (H : List Chunk) : runW kf prog f args H = match execW kf prog cf.body (enter cf args H) with
    | some (.ret, s) => leave kf cf H.length s
    | some (.normal, s) => leave kf cf H.length s
    | _ => none := by
  refine lim_ext (fun x hx => ?_) (fun x hx => ?_)
  · obtain ⟨n, hn⟩ := of_lim hx
    cases n with
    | zero => simp [arun] at hn
    | succ n =>
      simp only [arun, hf] at hn
      split at hn
      · rename_i s hs; rw [show execW kf prog cf.body (enter cf args H) = _ from lim_of (exec_mono _ _) hs]; exact hn
      · rename_i s hs; rw [show execW kf prog cf.body (enter cf args H) = _ from lim_of (exec_mono _ _) hs]; exact hn
      · cases hn
  · split at hx
    · rename_i s hs
      obtain ⟨n, hn⟩ := of_lim hs
      refine lim_of (n := n + 1) (run_mono f args H) ?_
      simp only [arun, hf]
      simp only [enter] at hn
      rw [hn]
      exact hx
    · rename_i s hs
      obtain ⟨n, hn⟩ := of_lim hs
      refine lim_of (n := n + 1) (run_mono f args H) ?_
      simp only [arun, hf]
      simp only [enter] at hn
      rw [hn]
      exact hx
    · cases hx
theorem runW_ok {P : Program} {w0 : World} (hprog : ProgOk P w0 prog) (hmix : P.follows .mixedOrders = true) : RunOk P w0 (runW kf prog) := by
  intro F g args H r H' dirty h
  obtain ⟨n, hn⟩ := of_lim h
  exact arun_ok hprog hmix n F g args H r H' dirty hn
end
end Go.Vm
end
