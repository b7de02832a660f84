/- A part of the proof of BacklogPlaysSaid: VmEff VmReg VmCode VmGc VmExec VmLoop VmSeq VmCall VmRunOk VmClone. -/
import Derived.Test.YtnihjdfbiddggaaKV3
import Derived.Scope
import Derived.Lib.LazyBuf
section
/- Effects as updates of a part; leaving some out, and in which order. -/
set_option linter.unusedVariables false
set_option linter.unusedSimpArgs false
set_option linter.unnecessarySimpa false
namespace Go.Vm
section
variable {X : Type}
def apG (g : Nat → Option X) (f : Nat → X) : Nat → X := fun k => (g k).getD (f k)
def foldG : List (Nat → Option X) → (Nat → Bool) → Nat → (Nat → X) → (Nat → X)
  | [], _, _, f => f
  | g :: r, d, i, f => foldG r d (i + 1) (if d i then apG g f else f)
theorem apG_none {g : Nat → Option X} {f : Nat → X} {k : Nat} (h : g k = none) : apG g f k = f k := by simp [apG, h]
theorem foldG_agree : ∀ {gs : List (Nat → Option X)} {d d' : Nat → Bool} {i : Nat} {f f' : Nat → X} {k : Nat}, (∀ (j : Nat) g, gs[j]? = some g → d (i + j) ≠ d' (i + j) → g k = none) → f k = f' k → foldG gs d i f k = foldG gs d' i f' k
  | [], _, _, _, _, _, _, _, h => h
  | g :: r, d, d', i, f, f', k, hg, h => by
    simp only [foldG]
    refine foldG_agree (fun j g' hj hd => hg (j + 1) g' (by simpa using hj) (by rw [show i + (j + 1) = i + 1 + j by omega]; exact hd)) ?_
    by_cases e : d i = d' i
    · rw [e]
      cases d' i <;> simp [h, apG]
    · have hk := hg 0 g rfl (by simpa using e)
      split <;> split <;> simp [apG_none hk, h]
theorem foldG_congr {gs : List (Nat → Option X)} {d d' : Nat → Bool} {i : Nat} {f : Nat → X} (h : ∀ j, j < gs.length → d (i + j) = d' (i + j)) : foldG gs d i f = foldG gs d' i f := by
  funext k
  exact foldG_agree (fun j g hj hd => absurd (h j (List.getElem?_eq_some_iff.1 hj).1) hd) rfl
/-- One that is left out comes in: as if it came last. -/
theorem foldG_add : ∀ {gs : List (Nat → Option X)} {d d' : Nat → Bool} {i m : Nat} {f : Nat → X} {g : Nat → Option X}, gs[m]? = some g → d (i + m) = false → d' (i + m) = true → (∀ j, j ≠ m → j < gs.length → d' (i + j) = d (i + j)) →
    (∀ (j : Nat) g', m < j → gs[j]? = some g' → d (i + j) = true → ∀ k, g k ≠ none → g' k = none) → foldG gs d' i f = apG g (foldG gs d i f)
  | [], _, _, _, _, _, _, h, _, _, _, _ => by simp at h
  | g0 :: r, d, d', i, 0, f, g, h, h0, h1, hd, hg => by
    simp at h; subst h
    simp only [foldG]
    simp only [Nat.add_zero] at h0 h1
    rw [h0, h1]
    simp only [if_true, Bool.false_eq_true, if_false]
    have hc : ∀ f : Nat → X, foldG r d' (i + 1) f = foldG r d (i + 1) f := fun f => foldG_congr (fun j hj => by
      have := hd (j + 1) (by omega) (by simpa using hj)
      rw [show i + 1 + j = i + (j + 1) by omega]; exact this)
    rw [hc]
    -- the rest leaves alone what it writes
    have key : ∀ (r : List (Nat → Option X)) (d : Nat → Bool) (i : Nat) (f : Nat → X), (∀ (j : Nat) g', r[j]? = some g' → d (i + j) = true → ∀ k, g0 k ≠ none → g' k = none) → foldG r d i (apG g0 f) = apG g0 (foldG r d i f) := by
      intro r
      induction r with
      | nil => intro d i f _; rfl
      | cons g1 r ih =>
        intro d i f hr
        simp only [foldG]
        cases hdi : d i with
        | false =>
          simp only [Bool.false_eq_true, if_false]
          exact ih d (i + 1) f (fun j g' hj hd' => hr (j + 1) g' (by simpa using hj) (by rw [show i + (j + 1) = i + 1 + j by omega]; exact hd'))
        | true =>
          simp only [if_true]
          have h1 := hr 0 g1 rfl (by simpa using hdi)
          have hsw : apG g1 (apG g0 f) = apG g0 (apG g1 f) := by
            funext k
            unfold apG
            cases h0k : g0 k with
            | none => simp
            | some x => simp [h1 k (by rw [h0k]; simp)]
          rw [hsw]
          exact ih d (i + 1) (apG g1 f) (fun j g' hj hd' => hr (j + 1) g' (by simpa using hj) (by rw [show i + (j + 1) = i + 1 + j by omega]; exact hd'))
    exact key r d (i + 1) f (fun j g' hj hd' => hg (j + 1) g' (by omega) (by simpa using hj) (by rw [show i + (j + 1) = i + 1 + j by omega]; exact hd'))
  | g0 :: r, d, d', i, m + 1, f, g, h, h0, h1, hd, hg => by
    simp only [foldG]
    have he : d' i = d i := by have := hd 0 (by omega) (by simp); simpa using this
    rw [he]
    refine foldG_add (by simpa using h) (by rw [show i + 1 + m = i + (m + 1) by omega]; exact h0) (by rw [show i + 1 + m = i + (m + 1) by omega]; exact h1) (fun j hj hl => ?_) (fun j g' hj hg' hd' => hg (j + 1) g' (by omega) (by simpa using hg') (by rw [show i + (j + 1) = i + 1 + j by omega]; exact hd'))
    have := hd (j + 1) (by omega) (by simpa using hl)
    rw [show i + 1 + j = i + (j + 1) by omega]; exact this
theorem foldG_none : ∀ {gs : List (Nat → Option X)} {d : Nat → Bool} {i : Nat} {f : Nat → X}, (∀ j, j < gs.length → d (i + j) = false) → foldG gs d i f = f
  | [], _, _, _, _ => rfl
  | g :: r, d, i, f, h => by
    simp only [foldG]
    have h0 := h 0 (by simp)
    simp only [Nat.add_zero] at h0
    rw [h0]
    simp only [Bool.false_eq_true, if_false]
    exact foldG_none (fun j hj => by rw [show i + 1 + j = i + (j + 1) by omega]; exact h (j + 1) (by simpa using hj))
/-- Those ahead of m, in the text's order. -/
theorem foldG_upto : ∀ {gs : List (Nat → Option X)} {d : Nat → Bool} {i m : Nat} {f : Nat → X}, (∀ j, j < gs.length → d (i + j) = decide (j < m)) → foldG gs d i f = (gs.take m).foldl (fun f g => apG g f) f
  | [], _, _, m, _, _ => by simp [foldG]
  | g :: r, d, i, 0, f, h => by
    rw [foldG_none (fun j hj => by simpa using h j hj)]; rfl
  | g :: r, d, i, m + 1, f, h => by
    simp only [foldG, List.take_succ_cons, List.foldl_cons]
    have h0 := h 0 (by simp)
    simp only [Nat.add_zero] at h0
    rw [h0]
    simp only [Nat.zero_lt_succ, decide_true, if_true]
    exact foldG_upto (fun j hj => by
      have := h (j + 1) (by simpa using hj)
      rw [show i + 1 + j = i + (j + 1) by omega, this]
      simp)
end
/-! ### Writes and slots as such -/
def gSl (d : Option Nat) (v : A) : Nat → Option A := fun k => if d = some k then some v else none
def gHp : Writes → Nat → Option Chunk
  | [], _ => none
  | (i, c) :: ws, k => match gHp ws k with
    | some c' => some c'
    | none => if k = i then some c else none
theorem setDst_ap (sl : Nat → A) (d : Option Nat) (v : A) : setDst sl d v = apG (gSl d v) sl := by
  funext k
  cases d with
  | none => simp [setDst, apG, gSl]
  | some j =>
    simp only [setDst, apG, gSl, upd, Option.some.injEq]
    by_cases h : k = j
    · subst h; simp
    · have : ¬ j = k := fun e => h e.symm
      simp [h, this]
theorem applyW_ap : ∀ (ws : Writes) (hp : Heap), applyW hp ws = apG (gHp ws) hp
  | [], hp => by funext k; simp [applyW, apG, gHp]
  | (i, c) :: ws, hp => by
    rw [applyW, applyW_ap ws]
    funext k
    simp only [apG, gHp]
    cases gHp ws k with
    | some c' => rfl
    | none =>
      by_cases h : k = i
      · subst h; simp [upd]
      · simp [upd, h]
theorem gHp_none : ∀ {ws : Writes} {k : Nat}, k ∉ ws.map (·.1) → gHp ws k = none
  | [], k, _ => rfl
  | (i, c) :: ws, k, h => by
    simp only [List.map_cons, List.mem_cons, not_or] at h
    simp [gHp, gHp_none h.2, h.1]
theorem gHp_some : ∀ {ws : Writes} {k : Nat}, gHp ws k ≠ none → k ∈ ws.map (·.1)
  | ws, k, h => Classical.byContradiction fun hn => h (gHp_none hn)
theorem mapO_congr {f g : COpd → A} {c : COp COpd} (h : ∀ x ∈ c.ins, f x = g x) : c.mapO f = c.mapO g := by
  cases c <;> simp only [COp.ins] at h <;> simp only [COp.mapO]
  all_goals try (simp [h]; done)
  case build z ps =>
    congr 1
    exact List.map_congr_left (fun p hp => by rw [h p.2.2 (List.mem_map.2 ⟨p, hp, rfl⟩)])
  case bslice sz n z fl ps =>
    congr 1
    exact List.map_congr_left (fun p hp => by rw [h p.2 (List.mem_map.2 ⟨p, hp, rfl⟩)])
  case mkfn fn cs => congr 1; exact List.map_congr_left h
  case slStr x lo hi => cases lo <;> cases hi <;> simp_all
  case slSl s x lo hi mx => cases lo <;> cases hi <;> cases mx <;> simp_all
  case slArr n s x lo hi => cases lo <;> cases hi <;> simp_all
  case min x ys => rw [h x (by simp), List.map_congr_left (fun y hy => h y (by simp [hy]))]
  case max x ys => rw [h x (by simp), List.map_congr_left (fun y hy => h y (by simp [hy]))]
  case call x ys => rw [h x (by simp), List.map_congr_left (fun y hy => h y (by simp [hy]))]
end Go.Vm
end
section
/- Regions: whatever order is drawn, the text's order tells what comes of it. -/
set_option linter.unusedVariables false
set_option linter.unusedSimpArgs false
set_option linter.unnecessarySimpa false
namespace Go.Vm
abbrev Eff := A × Writes
def gSs : List CO → List Eff → List (Nat → Option A)
  | o :: os, e :: es => gSl o.dst e.1 :: gSs os es
  | _, _ => []
def gHs (es : List Eff) : List (Nat → Option Chunk) := es.map fun e => gHp e.2
theorem gSs_len : ∀ {os : List CO} {es : List Eff}, es.length = os.length → (gSs os es).length = os.length
  | [], es, h => by cases es <;> rfl
  | o :: os, [], h => by simp at h
  | o :: os, e :: es, h => by simp [gSs, gSs_len (by simpa using h)]
theorem gSs_at : ∀ {os : List CO} {es : List Eff} {m : Nat} {o : CO} {e : Eff}, os[m]? = some o → es[m]? = some e → (gSs os es)[m]? = some (gSl o.dst e.1)
  | [], _, _, _, _, h, _ => by simp at h
  | _ :: _, [], _, _, _, _, h => by simp at h
  | o :: os, e :: es, 0, _, _, h, h' => by simp at h h'; subst h h'; rfl
  | o :: os, e :: es, m + 1, _, _, h, h' => by simpa [gSs] using gSs_at (by simpa using h) (by simpa using h')
theorem gSs_of : ∀ {os : List CO} {es : List Eff} {m : Nat} {g : Nat → Option A}, (gSs os es)[m]? = some g → ∃ o e, os[m]? = some o ∧ es[m]? = some e ∧ g = gSl o.dst e.1
  | [], _, _, _, h => by simp [gSs] at h
  | _ :: _, [], _, _, h => by simp [gSs] at h
  | o :: os, e :: es, 0, _, h => by simp [gSs] at h; exact ⟨o, e, rfl, rfl, h.symm⟩
  | o :: os, e :: es, m + 1, _, h => by
    obtain ⟨o', e', h1, h2, h3⟩ := gSs_of (os := os) (es := es) (m := m) (by simpa [gSs] using h)
    exact ⟨o', e', by simpa using h1, by simpa using h2, h3⟩
def slAt (os : List CO) (es : List Eff) (m : Nat) (sl : Nat → A) : Nat → A := ((gSs os es).take m).foldl (fun f g => apG g f) sl
def hpAt (es : List Eff) (m : Nat) (hp : Heap) : Heap := ((gHs es).take m).foldl (fun f g => apG g f) hp
/-- What an operation of the text's order did. -/
def Did (kf : Bool) (cf : CallF) (o : CO) (e : Eff) (fp : List Nat) (nbm : Nat) (sl : Nat → A) (hp : Heap) : Prop :=
  (wantedA sl o.guard = some false ∧ e = (.tup [], [])) ∨
  (wantedA sl o.guard = some true ∧ aop kf cf nbm (restrict hp fp) (o.op.mapO (val sl)) = some e)
theorem aops_trace {kf : Bool} {cf : CallF} {nb : Nat} : ∀ {os : List CO} {i : Nat} {s s' : St} {l : List (CO × List Nat × List Nat)}, aops kf cf nb os i s = some (s', l) →
    ∃ es : List Eff, es.length = os.length ∧ l.length = os.length ∧ s'.sl = slAt os es os.length s.sl ∧ s'.hp = hpAt es os.length s.hp ∧ s'.m = s.m ∧
      ∀ (m : Nat) o e, os[m]? = some o → es[m]? = some e → ∃ fp, l[m]? = some (o, fp, e.2.map (·.1)) ∧ Did kf cf o e fp (nb + 8 * (i + m)) (slAt os es m s.sl) (hpAt es m s.hp)
  | [], i, s, s', l, h => by
    simp only [aops, Option.some.injEq, Prod.mk.injEq] at h
    obtain ⟨rfl, rfl⟩ := h
    exact ⟨[], rfl, rfl, rfl, rfl, rfl, by simp⟩
  | o :: os, i, s, s', l, h => by
    simp only [aops] at h
    split at h
    · rename_i s1 f wi h1
      split at h
      · rename_i s2 l' h2
        simp only [Option.some.injEq, Prod.mk.injEq] at h
        obtain ⟨rfl, rfl⟩ := h
        obtain ⟨es, k1, k2, k3, k4, k5, k6⟩ := aops_trace h2
        -- the first one
        have hfirst : ∃ e : Eff, s1.sl = apG (gSl o.dst e.1) s.sl ∧ s1.hp = apG (gHp e.2) s.hp ∧ s1.m = s.m ∧ wi = e.2.map (·.1) ∧ Did kf cf o e f (nb + 8 * i) s.sl s.hp := by
          unfold astep at h1
          split at h1
          · cases h1
          · rename_i hw
            simp only [Option.some.injEq, Prod.mk.injEq] at h1
            obtain ⟨rfl, rfl, rfl⟩ := h1
            exact ⟨(.tup [], []), setDst_ap _ _ _, by funext k; simp [apG, gHp], rfl, rfl, .inl ⟨hw, rfl⟩⟩
          · rename_i hw
            simp only at h1
            split at h1
            · rename_i v ws hv
              split at h1
              · simp only [Option.some.injEq, Prod.mk.injEq] at h1
                obtain ⟨rfl, rfl, rfl⟩ := h1
                exact ⟨(v, ws), setDst_ap _ _ _, applyW_ap _ _, rfl, rfl, .inr ⟨hw, hv⟩⟩
              · cases h1
            · cases h1
        obtain ⟨e, q1, q2, q3, q4, q5⟩ := hfirst
        refine ⟨e :: es, by simp [k1], by simp [k2], ?_, ?_, by rw [k5, q3], fun m o' e' ho he => ?_⟩
        · rw [k3, q1]; simp [slAt, gSs]
        · rw [k4, q2]; simp [hpAt, gHs]
        · cases m with
          | zero =>
            simp at ho he
            subst ho he
            exact ⟨f, by simp [q4], by simpa [slAt, hpAt] using q5⟩
          | succ m =>
            obtain ⟨fp, j1, j2⟩ := k6 m o' e' (by simpa using ho) (by simpa using he)
            refine ⟨fp, by simpa using j1, ?_⟩
            rw [show nb + 8 * (i + (m + 1)) = nb + 8 * (i + 1 + m) by omega]
            rw [q1, q2] at j2
            simpa [slAt, hpAt, gSs, gHs] using j2
      · cases h
    · cases h
/-- An operation of the code and its compiled form. -/
def COk (P : Program) (ops : Array Oper) (o : Oper) (c : CO) : Prop := compOp P o.op = some c.op.strip ∧ c.dst = o.dst ∧
  (match o.guard with | none => c.guard = none | some (j, want) => ∃ d, (ops[j]?).bind (·.dst) = some d ∧ c.guard = some (d, want))
section
variable {P : Program} {w0 : World} {F : Mem}
/-- The state behind some of a region's operations. -/
def Inv (w0 : World) (F M0 : Mem) (ρ0 : Rho) (os : List CO) (es : List Eff) (nb N : Nat) (df : List Deferred) (sl0 : Nat → A) (hp0 : Heap) (d : Nat → Bool) (a : Act) (w : World) : Prop :=
  ∃ M ρ, MemLe M0 M ∧ RhoLe ρ0 ρ ∧ (∀ i l, ρ i = some l → ρ0 i = some l ∨ ∃ j, d j = true ∧ j < os.length ∧ nb + 8 * j ≤ i ∧ i < nb + 8 * j + 8) ∧ Rel w0 F M ρ (foldG (gHs es) d 0 hp0) w ∧
    (∀ k, RepA M ρ (foldG (gSs os es) d 0 sl0 k) (a.tmps.getD k undef)) ∧ N ≤ a.tmps.size ∧ a.defers = df
theorem put_rep {M : Mem} {ρ : Rho} {sl : Nat → A} {a : Act} {dst : Option Nat} {v : A} {v' : Value} (hsl : ∀ k, RepA M ρ (sl k) (a.tmps.getD k undef)) (hv : RepA M ρ v v') (hd : ∀ k, dst = some k → k < a.tmps.size) : ∀ k, RepA M ρ (apG (gSl dst v) sl k) ((a.put dst v').tmps.getD k undef) := by
  intro k
  rw [← setDst_ap]
  cases dst with
  | none => exact hsl k
  | some j =>
    simp only [setDst, Act.put, upd]
    by_cases h : k = j
    · subst h
      have hlt := hd k rfl
      simp only [if_true]
      rw [Array.getD_eq_getD_getElem?, Array.getElem?_setIfInBounds_self_of_lt hlt]
      exact hv
    · rw [if_neg h, Array.getD_eq_getD_getElem?, Array.getElem?_setIfInBounds_ne (Ne.symm h), ← Array.getD_eq_getD_getElem?]
      exact hsl k
theorem put_size (a : Act) (dst : Option Nat) (v : Value) : (a.put dst v).tmps.size = a.tmps.size := by cases dst <;> simp [Act.put]
theorem put_df (a : Act) (dst : Option Nat) (v : Value) : (a.put dst v).defers = a.defers := by cases dst <;> rfl
theorem wanted_of {ops : Array Oper} {o : Oper} {c : CO} (hc : COk P ops o c) {M : Mem} {ρ : Rho} {sl : Nat → A} {a : Act} (hsl : ∀ k, RepA M ρ (sl k) (a.tmps.getD k undef)) {t : Bool} (h : wantedA sl c.guard = some t) : Region.wanted o (yielded ops a.tmps) = t := by
  obtain ⟨_, _, hg⟩ := hc
  unfold Region.wanted
  cases hog : o.guard with
  | none =>
    rw [hog] at hg
    rw [hg] at h
    simp only [wantedA, Option.some.injEq] at h
    simp [h]
  | some p =>
    obtain ⟨j, want⟩ := p
    rw [hog] at hg
    obtain ⟨d, hd, hg⟩ := hg
    rw [hg] at h
    simp only [wantedA] at h
    have hr := hsl d
    have hval : yielded ops a.tmps j = (match a.tmps.getD d undef with | .bool b => some b | _ => none) := by
      unfold yielded
      rw [hd]
      simp only [Option.bind_some]
      rw [Array.getD_eq_getD_getElem?]
      cases hq : a.tmps[d]? with
      | none => simp [undef]
      | some v => cases v <;> simp
    simp only [hval]
    split at h
    · rename_i b hb
      rw [hb] at hr
      rw [rep_bool hr]
      simp only [Option.some.injEq] at h
      subst h
      cases b <;> cases want <;> rfl
    · rename_i hb
      rw [hb] at hr
      simp only [Option.some.injEq] at h
      subst h
      generalize a.tmps.getD d undef = u at hr
      cases hr with
      | tup _ vs hl _ => simp
    · cases h
/-- One more operation is carried out. -/
theorem inv_step {M0 : Mem} {ρ0 : Rho} {os : List CO} {es : List Eff} {nb N : Nat} {df : List Deferred} {sl0 : Nat → A} {hp0 : Heap} {kf : Bool} {cf : CallF} (hcf : CallOk P w0 F cf) (hρ0 : ∀ i l, ρ0 i = some l → i < nb) (hel : es.length = os.length) {ops : Array Oper} {m : Nat} {o : Oper} {c : CO} {e : Eff} {fp : List Nat}
    (ho : ops[m]? = some o) (hc : os[m]? = some c) (he : es[m]? = some e) (hok : COk P ops o c) (hdid : Did kf cf c e fp (nb + 8 * m) (slAt os es m sl0) (hpAt es m hp0)) (hdst : ∀ k, c.dst = some k → k < N) {d d' : Nat → Bool} (hm : d m = false) (hm' : d' m = true) (hdd : ∀ j, j ≠ m → d' j = d j)
    (hsl : ∀ k ∈ usesOf c, foldG (gSs os es) d 0 sl0 k = slAt os es m sl0 k) (hhp : ∀ k ∈ fp, foldG (gHs es) d 0 hp0 k = hpAt es m hp0 k)
    (hls : ∀ (j : Nat) c', m < j → os[j]? = some c' → d j = true → ∀ k, c.dst = some k → c'.dst ≠ some k) (hlh : ∀ (j : Nat) e', m < j → es[j]? = some e' → d j = true → ∀ k, k ∈ e.2.map (·.1) → k ∉ e'.2.map (·.1))
    {a : Act} {w : World} (hinv : Inv w0 F M0 ρ0 os es nb N df sl0 hp0 d a w) (Q : Exit → Act → World → Prop) (K : Act → World → Prop) (hK : ∀ a' w', Inv w0 F M0 ρ0 os es nb N df sl0 hp0 d' a' w' → K a' w') : wpOp P ops Q m K a w := by
  obtain ⟨M, ρ, h1, h2, h3, h4, h5, h6, h7⟩ := hinv
  have hml : m < os.length := (List.getElem?_eq_some_iff.1 hc).1
  have hS : foldG (gSs os es) d' 0 sl0 = apG (gSl c.dst e.1) (foldG (gSs os es) d 0 sl0) := foldG_add (gSs_at hc he) (by simpa using hm) (by simpa using hm') (fun j hj _ => by simpa using hdd j hj) (fun j g' hj hg' hd k hk => by
    obtain ⟨c', e', q1, q2, rfl⟩ := gSs_of hg'
    have hck : c.dst = some k := Classical.byContradiction fun hn => hk (by simp [gSl, hn])
    have := hls j c' hj q1 (by simpa using hd) k hck
    simp [gSl, this])
  have hH : foldG (gHs es) d' 0 hp0 = apG (gHp e.2) (foldG (gHs es) d 0 hp0) := foldG_add (m := m) (g := gHp e.2) (by simp only [gHs, List.getElem?_map, he, Option.map_some]) (by simpa using hm) (by simpa using hm') (fun j hj _ => by simpa using hdd j hj) (fun j g' hj hg' hd k hk => by
    simp only [gHs, List.getElem?_map, Option.map_eq_some_iff] at hg'
    obtain ⟨e', q1, rfl⟩ := hg'
    exact gHp_none (hlh j e' hj q1 (by simpa using hd) k (gHp_some hk)))
  have hdst' : ∀ k, c.dst = some k → k < a.tmps.size := fun k hk => Nat.lt_of_lt_of_le (hdst k hk) h6
  have hdo : o.dst = c.dst := hok.2.1.symm
  have hguard : wantedA (foldG (gSs os es) d 0 sl0) c.guard = wantedA (slAt os es m sl0) c.guard := by
    cases hg : c.guard with
    | none => rfl
    | some p =>
      obtain ⟨j, want⟩ := p
      have : j ∈ usesOf c := by simp [usesOf, hg]
      simp only [wantedA, hsl j this]
  have hdom : ∀ (ρ' : Rho), (∀ i l, ρ' i = some l → ρ i = some l ∨ (nb + 8 * m ≤ i ∧ i < nb + 8 * m + 8)) → ∀ i l, ρ' i = some l → ρ0 i = some l ∨ ∃ j, d' j = true ∧ j < os.length ∧ nb + 8 * j ≤ i ∧ i < nb + 8 * j + 8 := fun ρ' hρ' i l hi => by
    rcases hρ' i l hi with q | q
    · rcases h3 i l q with q | ⟨j, q1, q2, q3⟩
      · exact .inl q
      · refine .inr ⟨j, ?_, q2, q3⟩
        by_cases hjm : j = m
        · rw [hjm]; exact hm'
        · rw [hdd j hjm]; exact q1
    · exact .inr ⟨m, hm', hml, q.1, q.2⟩
  unfold wpOp
  rw [ho]
  simp only
  rcases hdid with ⟨hw, rfl⟩ | ⟨hw, hop⟩
  · rw [wanted_of hok h5 (hguard.trans hw)]
    simp only [Bool.false_eq_true, if_false]
    refine hK _ _ ⟨M, ρ, h1, h2, hdom ρ (fun i l hi => .inl hi), ?_, ?_, by rw [put_size]; exact h6, by rw [put_df]; exact h7⟩
    · rw [hH]
      have : apG (gHp []) (foldG (gHs es) d 0 hp0) = foldG (gHs es) d 0 hp0 := by funext k; simp [apG, gHp]
      rw [this]; exact h4
    · rw [hS, hdo]
      exact put_rep h5 (.tup [] #[] rfl (by simp)) hdst'
  · rw [wanted_of hok h5 (hguard.trans hw)]
    simp only [if_true]
    left
    have hval : c.op.mapO (val (slAt os es m sl0)) = c.op.mapO (val (foldG (gSs os es) d 0 sl0)) := mapO_congr (fun x hx => by
      cases x with
      | c y => rfl
      | t n =>
        have : n ∈ usesOf c := by
          simp only [usesOf, List.mem_append, List.mem_filterMap]
          exact .inl ⟨.t n, hx, rfl⟩
        simp only [val, hsl n this])
    have hres : restrict (hpAt es m hp0) fp = restrict (foldG (gHs es) d 0 hp0) fp := by
      funext k
      unfold restrict
      split
      · rename_i hk
        exact (hhp k (by simpa using hk)).symm
      · rfl
    rw [hval, hres] at hop
    have hsub : Sub (restrict (foldG (gHs es) d 0 hp0) fp) (foldG (gHs es) d 0 hp0) := fun i => by
      unfold restrict; split
      · exact .inl rfl
      · exact .inr rfl
    have hfr : ∀ i, nb + 8 * m ≤ i → i < nb + 8 * m + 8 → ρ i = none := fun i hi1 hi2 => by
      cases hq : ρ i with
      | none => rfl
      | some l =>
        rcases h3 i l hq with q | ⟨j, q1, q2, q3, q4⟩
        · have := hρ0 i l q; omega
        · have : j = m := by omega
          rw [this, hm] at q1; cases q1
    refine op_sound h5 h4 hsub hfr hcf hok.1 (v := e.1) (ws := e.2) hop _ _ (fun M' ρ' v' w' g1 g2 g3 g4 g5 => ?_)
    refine hK _ _ ⟨M', ρ', h1.trans g1, h2.trans g2, hdom ρ' g3, ?_, ?_, by rw [put_size]; exact h6, by rw [put_df]; exact h7⟩
    · rw [hH, ← applyW_ap]; exact g5
    · rw [hS, hdo]
      exact put_rep (fun k => (h5 k).mono g1 g2) g4 hdst'
/-- The text's order. -/
theorem inv_text {M0 : Mem} {ρ0 : Rho} {os : List CO} {es : List Eff} {nb N : Nat} {df : List Deferred} {sl0 : Nat → A} {hp0 : Heap} {kf : Bool} {cf : CallF} (hcf : CallOk P w0 F cf) (hρ0 : ∀ i l, ρ0 i = some l → i < nb) (hel : es.length = os.length) {ops : Array Oper} (hlen : ops.size = os.length)
    (hok : ∀ (m : Nat) o c, ops[m]? = some o → os[m]? = some c → COk P ops o c) (hdst : ∀ (m : Nat) c, os[m]? = some c → ∀ k, c.dst = some k → k < N) (hdid : ∀ (m : Nat) c e, os[m]? = some c → es[m]? = some e → ∃ fp, Did kf cf c e fp (nb + 8 * m) (slAt os es m sl0) (hpAt es m hp0))
    (Q : Exit → Act → World → Prop) (hQ : ∀ a w, Inv w0 F M0 ρ0 os es nb N df sl0 hp0 (fun _ => true) a w → Q .normal a w) : ∀ (n m : Nat) (a : Act) (w : World), m + n = ops.size → Inv w0 F M0 ρ0 os es nb N df sl0 hp0 (fun j => decide (j < m)) a w → wpOps P ops Q (List.range' m n) a w
  | 0, m, a, w, hn, h => by
    simp only [List.range'_zero, wpOps]
    refine hQ a w ?_
    obtain ⟨M, ρ, h1, h2, h3, h4, h5, h6, h7⟩ := h
    have e1 : foldG (gSs os es) (fun j => decide (j < m)) 0 sl0 = foldG (gSs os es) (fun _ => true) 0 sl0 := foldG_congr (fun j hj => by rw [gSs_len hel] at hj; simp; omega)
    have e2 : foldG (gHs es) (fun j => decide (j < m)) 0 hp0 = foldG (gHs es) (fun _ => true) 0 hp0 := foldG_congr (fun j hj => by simp [gHs] at hj; simp; omega)
    exact ⟨M, ρ, h1, h2, fun i l hi => (h3 i l hi).imp id (fun ⟨j, _, q⟩ => ⟨j, rfl, q⟩), by rw [← e2]; exact h4, by rw [← e1]; exact h5, h6, h7⟩
  | n + 1, m, a, w, hn, h => by
    rw [List.range'_succ, wpOps_cons]
    have hm : m < ops.size := by omega
    have ho : ops[m]? = some ops[m] := by simp [hm]
    have hc : os[m]? = some os[m] := List.getElem?_eq_getElem (by omega)
    have he : es[m]? = some es[m] := List.getElem?_eq_getElem (by omega)
    obtain ⟨fp, hd⟩ := hdid m _ _ hc he
    have hsame : ∀ {X : Type} (gs : List (Nat → Option X)) (f : Nat → X), foldG gs (fun j => decide (j < m)) 0 f = (gs.take m).foldl (fun f g => apG g f) f := fun gs f => foldG_upto (fun j hj => by simp)
    refine inv_step (d' := fun j => decide (j < m + 1)) hcf hρ0 hel ho hc he (hok m _ _ ho hc) hd (hdst m _ hc) (by simp) (by simp) (fun j hj => by simp; omega) (fun k _ => by rw [hsame]; rfl) (fun k _ => by rw [hsame]; rfl)
      (fun j c' hj _ hdj => by simp at hdj; omega) (fun j e' hj _ hdj => by simp at hdj; omega) h Q _ (fun a' w' h' => ?_)
    exact inv_text hcf hρ0 hel hlen hok hdst hdid Q hQ n (m + 1) a' w' (by omega) h'
/-- What the order's edges say. -/
structure Edges (ops : Array Oper) (os : List CO) : Prop where
  back : ∀ (i : Nat) o, ops[i]? = some o → ∀ e ∈ o.after, Region.binds .any e = true → e.on < i
  bits : ∀ (i : Nat) o c, ops[i]? = some o → os[i]? = some c → ∀ j, c.bits.testBit j = true → ∃ e ∈ o.after, Region.binds .any e = true ∧ (j = e.on ∨ ∃ c', os[e.on]? = some c' ∧ c'.bits.testBit j = true)
def Closed (os : List CO) (d : Nat → Bool) : Prop := ∀ (i : Nat) c, os[i]? = some c → d i = true → ∀ j, c.bits.testBit j = true → d j = true
theorem pairs_at : ∀ {l : List (CO × List Nat × List Nat)} {i0 i j : Nat} {p q : CO × List Nat × List Nat}, pairsOk l i0 = true → l[i]? = some p → l[j]? = some q → i < j → q.1.bits.testBit (i0 + i) = true ∨ indep p q = true
  | [], _, _, _, _, _, _, h, _, _ => by simp at h
  | x :: l, i0, 0, j + 1, p, q, h, hp, hq, _ => by
    simp only [pairsOk, Bool.and_eq_true] at h
    simp at hp; subst hp
    have := List.all_eq_true.1 h.1 q (List.mem_of_getElem? (by simpa using hq))
    simpa using this
  | x :: l, i0, i + 1, j + 1, p, q, h, hp, hq, hij => by
    simp only [pairsOk, Bool.and_eq_true] at h
    have := pairs_at h.2 (by simpa using hp) (by simpa using hq) (by omega)
    rw [show i0 + (i + 1) = i0 + 1 + i by omega]; exact this
  | x :: l, i0, i, 0, p, q, h, hp, hq, hij => by omega
theorem apart_spec {a b : List Nat} (h : apartL a b = true) : ∀ k ∈ a, k ∉ b := fun k hk hb => by
  have := List.all_eq_true.1 h k hk
  simp [hb] at this
/-- So many of the first n are not listed. -/
def unl (d : Nat → Bool) : Nat → Nat
  | 0 => 0
  | n + 1 => unl d n + (if d n then 0 else 1)
theorem unl_same {d d' : Nat → Bool} : ∀ {n : Nat}, (∀ j, j < n → d' j = d j) → unl d' n = unl d n
  | 0, _ => rfl
  | n + 1, h => by simp only [unl]; rw [unl_same (fun j hj => h j (by omega)), h n (by omega)]
theorem unl_less {d d' : Nat → Bool} {i : Nat} (h0 : d i = false) (h1 : d' i = true) (hd : ∀ j, j ≠ i → d' j = d j) : ∀ {n : Nat}, i < n → unl d' n + 1 = unl d n
  | 0, h => by omega
  | n + 1, h => by
    simp only [unl]
    by_cases hn : n = i
    · subst hn
      rw [unl_same (d := d) (d' := d') (fun j hj => hd j (by omega)), h0, h1]; simp
    · rw [hd n hn]
      have := unl_less h0 h1 hd (n := n) (by omega)
      omega
theorem unl_zero {d : Nat → Bool} : ∀ {n : Nat}, unl d n = 0 → ∀ j, j < n → d j = true
  | 0, _, j, h => by omega
  | n + 1, hz, j, h => by
    simp only [unl] at hz
    by_cases hj : j = n
    · subst hj
      cases hd : d j with
      | true => rfl
      | false => rw [hd] at hz; simp at hz
    · exact unl_zero (n := n) (by omega) j (by omega)
/-- Any order. -/
theorem inv_any {M0 : Mem} {ρ0 : Rho} {os : List CO} {es : List Eff} {nb N : Nat} {df : List Deferred} {sl0 : Nat → A} {hp0 : Heap} {kf : Bool} {cf : CallF} (hcf : CallOk P w0 F cf) (hρ0 : ∀ i l, ρ0 i = some l → i < nb) (hel : es.length = os.length) {ops : Array Oper} (hlen : ops.size = os.length)
    (hok : ∀ (m : Nat) o c, ops[m]? = some o → os[m]? = some c → COk P ops o c) (hdst : ∀ (m : Nat) c, os[m]? = some c → ∀ k, c.dst = some k → k < N) {l : List (CO × List Nat × List Nat)} (hdid : ∀ (m : Nat) c e, os[m]? = some c → es[m]? = some e → ∃ fp, l[m]? = some (c, fp, e.2.map (·.1)) ∧ Did kf cf c e fp (nb + 8 * m) (slAt os es m sl0) (hpAt es m hp0))
    (hpairs : pairsOk l 0 = true) (hedges : Edges ops os)
    (Q : Exit → Act → World → Prop) (hQ : ∀ a w, Inv w0 F M0 ρ0 os es nb N df sl0 hp0 (fun _ => true) a w → Q .normal a w) : ∀ (fuel : Nat) (listed : Array Bool) (a : Act) (w : World), listed.size = ops.size → Closed os (fun j => listed.getD j false) → unl (fun j => listed.getD j false) ops.size ≤ fuel →
      Inv w0 F M0 ρ0 os es nb N df sl0 hp0 (fun j => listed.getD j false) a w → wpAny P .any ops Q fuel listed a w := by
  have fin : ∀ (listed : Array Bool) (a : Act) (w : World), (∀ j, j < ops.size → listed.getD j false = true) → Inv w0 F M0 ρ0 os es nb N df sl0 hp0 (fun j => listed.getD j false) a w → Q .normal a w := by
    intro listed a w hall h
    refine hQ a w ?_
    obtain ⟨M, ρ, h1, h2, h3, h4, h5, h6, h7⟩ := h
    have e1 : foldG (gSs os es) (fun j => listed.getD j false) 0 sl0 = foldG (gSs os es) (fun _ => true) 0 sl0 := foldG_congr (fun j hj => by rw [gSs_len hel] at hj; simpa using hall j (by omega))
    have e2 : foldG (gHs es) (fun j => listed.getD j false) 0 hp0 = foldG (gHs es) (fun _ => true) 0 hp0 := foldG_congr (fun j hj => by simp [gHs] at hj; simpa using hall j (by omega))
    exact ⟨M, ρ, h1, h2, fun i l hi => (h3 i l hi).imp id (fun ⟨j, _, q⟩ => ⟨j, rfl, q⟩), by rw [← e2]; exact h4, by rw [← e1]; exact h5, h6, h7⟩
  have getD_tf : ∀ (listed : Array Bool) (j : Nat), listed.size = ops.size → j < ops.size → listed.getD j true = listed.getD j false := fun listed j hs hj => by
    simp [Array.getD_eq_getD_getElem?, Array.getElem?_eq_getElem (show j < listed.size by omega)]
  intro fuel
  induction fuel with
  | zero =>
    intro listed a w hs hcl hf h
    have hall := unl_zero (Nat.le_zero.1 hf)
    refine ⟨?_, fin listed a w hall h⟩
    cases hr : Region.ready .any ops listed with
    | nil => rfl
    | cons i r =>
      have : i ∈ Region.ready .any ops listed := by rw [hr]; simp
      rw [mem_ready] at this
      obtain ⟨h0, o, ho, _⟩ := this
      have hi := (Array.getElem?_eq_some_iff.1 ho).1
      rw [getD_tf listed i hs hi, hall i hi] at h0; cases h0
  | succ fuel ih =>
    intro listed a w hs hcl hf h
    refine ⟨fun hr => fin listed a w ?_ h, fun i hi => ?_⟩
    · intro j
      induction j using Nat.strongRecOn with
      | _ j ihj =>
        intro hj
        refine Classical.byContradiction fun hn => ?_
        have : j ∈ Region.ready .any ops listed := by
          rw [mem_ready]
          refine ⟨by rw [getD_tf listed j hs hj]; simpa using hn, ops[j], by simp [hj], fun e he hb => ?_⟩
          have := hedges.back j ops[j] (by simp [hj]) e he hb
          exact ihj e.on this (by omega)
        rw [hr] at this; simp at this
    · have hi' := hi
      rw [mem_ready] at hi'
      obtain ⟨h0, o, ho, hpre⟩ := hi'
      have hio := (Array.getElem?_eq_some_iff.1 ho).1
      rw [getD_tf listed i hs hio] at h0
      have hc : os[i]? = some os[i] := List.getElem?_eq_getElem (by omega)
      have he : es[i]? = some es[i] := List.getElem?_eq_getElem (by omega)
      generalize os[i] = c at hc
      generalize es[i] = e at he
      obtain ⟨fp, hl, hd⟩ := hdid i c e hc he
      have hset1 : (listed.setIfInBounds i true).getD i false = true := by simp [show i < listed.size by omega]
      have hset2 : ∀ j, j ≠ i → (listed.setIfInBounds i true).getD j false = listed.getD j false := fun j hj => getD_set_ne false (Ne.symm hj)
      -- what comes before it is listed
      have hbefore : ∀ j, c.bits.testBit j = true → listed.getD j false = true := fun j hj => by
        obtain ⟨ed, hed, hb, hcase⟩ := hedges.bits i o c ho hc j hj
        have hlist := hpre ed hed hb
        rcases hcase with rfl | ⟨c', hc', hj'⟩
        · exact hlist
        · exact hcl ed.on c' hc' hlist j hj'
      have hcl' : Closed os (fun j => (listed.setIfInBounds i true).getD j false) := fun k ck hck hk j hj => by
        show (listed.setIfInBounds i true).getD j false = true
        have hjl : listed.getD j false = true := by
          by_cases hki : k = i
          · subst hki; rw [hc] at hck; cases hck; exact hbefore j hj
          · have hk' : listed.getD k false = true := by rw [← hset2 k hki]; exact hk
            exact hcl k ck hck hk' j hj
        exact getD_set_true hjl
      -- those that are not in order with it
      have hless : ∀ (j : Nat) cj ej, j < i → os[j]? = some cj → es[j]? = some ej → listed.getD j false = false → ∃ fpj, indep (cj, fpj, ej.2.map (·.1)) (c, fp, e.2.map (·.1)) = true := fun j cj ej hji hcj hej hlj => by
        obtain ⟨fpj, hlj', _⟩ := hdid j cj ej hcj hej
        rcases pairs_at hpairs hlj' hl hji with hb | hb
        · rw [Nat.zero_add] at hb
          have := hbefore j hb
          rw [hlj] at this; cases this
        · exact ⟨fpj, hb⟩
      have hmore : ∀ (j : Nat) cj ej, i < j → os[j]? = some cj → es[j]? = some ej → listed.getD j false = true → ∃ fpj, indep (c, fp, e.2.map (·.1)) (cj, fpj, ej.2.map (·.1)) = true := fun j cj ej hij hcj hej hlj => by
        obtain ⟨fpj, hlj', _⟩ := hdid j cj ej hcj hej
        rcases pairs_at hpairs hl hlj' hij with hb | hb
        · rw [Nat.zero_add] at hb
          have : listed.getD i false = true := hcl j cj hcj hlj i hb
          rw [h0] at this; cases this
        · exact ⟨fpj, hb⟩
      have hej : ∀ (j : Nat) cj, os[j]? = some cj → ∃ ej, es[j]? = some ej := fun j cj hcj => by
        have := (List.getElem?_eq_some_iff.1 hcj).1
        exact ⟨es[j], List.getElem?_eq_getElem (by omega)⟩
      have hcj' : ∀ (j : Nat) ej, es[j]? = some ej → ∃ cj, os[j]? = some cj := fun j ej hej => by
        have := (List.getElem?_eq_some_iff.1 hej).1
        exact ⟨os[j], List.getElem?_eq_getElem (by omega)⟩
      have hsame : ∀ {X : Type} (gs : List (Nat → Option X)) (f : Nat → X), foldG gs (fun j => decide (j < i)) 0 f = (gs.take i).foldl (fun f g => apG g f) f := fun gs f => foldG_upto (fun j hj => by simp)
      refine inv_step (d' := fun j => (listed.setIfInBounds i true).getD j false) hcf hρ0 hel ho hc he (hok i o c ho hc) hd (hdst i c hc) h0 hset1 hset2 (fun k hk => ?_) (fun k hk => ?_) (fun j c' hij hcj hlj k hck => ?_) (fun j e' hij hej' hlj k hk => ?_) h Q _ (fun a' w' h' => ?_)
      · show _ = ((gSs os es).take i).foldl (fun f g => apG g f) sl0 k
        rw [← hsame]
        refine foldG_agree (fun j g hj hne => ?_) rfl
        obtain ⟨cj, ej, q1, q2, rfl⟩ := gSs_of hj
        simp only [Nat.zero_add] at hne
        by_cases hji : j < i
        · have hlj : listed.getD j false = false := by
            have : decide (j < i) = true := by simp [hji]
            rw [this] at hne
            simpa using hne
          obtain ⟨fpj, hin⟩ := hless j cj ej hji q1 q2 hlj
          simp only [indep, Bool.and_eq_true] at hin
          have := apart_spec hin.1.1.2
          have hnd : ¬ cj.dst = some k := fun hh => this k (by simp [hh]) hk
          simp [gSl, hnd]
        · have hlj : listed.getD j false = true := by
            have : decide (j < i) = false := by simp [hji]
            rw [this] at hne
            simpa using hne
          have hjne : j ≠ i := fun hh => by subst hh; rw [show listed.getD j false = false from h0] at hlj; cases hlj
          obtain ⟨fpj, hin⟩ := hmore j cj ej (by omega) q1 q2 hlj
          simp only [indep, Bool.and_eq_true] at hin
          have := apart_spec hin.1.2
          have hnd : ¬ cj.dst = some k := fun hh => this k (by simp [hh]) hk
          simp [gSl, hnd]
      · show _ = ((gHs es).take i).foldl (fun f g => apG g f) hp0 k
        rw [← hsame]
        refine foldG_agree (fun j g hj hne => ?_) rfl
        simp only [gHs, List.getElem?_map, Option.map_eq_some_iff] at hj
        obtain ⟨ej, q2, rfl⟩ := hj
        obtain ⟨cj, q1⟩ := hcj' j ej q2
        simp only [Nat.zero_add] at hne
        by_cases hji : j < i
        · have hlj : listed.getD j false = false := by
            have : decide (j < i) = true := by simp [hji]
            rw [this] at hne
            simpa using hne
          obtain ⟨fpj, hin⟩ := hless j cj ej hji q1 q2 hlj
          simp only [indep, Bool.and_eq_true] at hin
          have := apart_spec hin.1.1.1.1.1
          exact gHp_none (fun hh => this k hh hk)
        · have hlj : listed.getD j false = true := by
            have : decide (j < i) = false := by simp [hji]
            rw [this] at hne
            simpa using hne
          have hjne : j ≠ i := fun hh => by subst hh; rw [show listed.getD j false = false from h0] at hlj; cases hlj
          obtain ⟨fpj, hin⟩ := hmore j cj ej (by omega) q1 q2 hlj
          simp only [indep, Bool.and_eq_true] at hin
          have := apart_spec hin.1.1.1.1.2
          exact gHp_none (fun hh => this k hh hk)
      · obtain ⟨ej, q2⟩ := hej j c' hcj
        obtain ⟨fpj, hin⟩ := hmore j c' ej hij hcj q2 hlj
        simp only [indep, Bool.and_eq_true] at hin
        have := apart_spec hin.2
        intro hh
        exact this k (by simp [hck]) (by simp [hh])
      · obtain ⟨cj, q1⟩ := hcj' j e' hej'
        obtain ⟨fpj, hin⟩ := hmore j cj e' hij q1 hej' hlj
        simp only [indep, Bool.and_eq_true] at hin
        exact apart_spec hin.1.1.1.2 k hk
      · refine ih _ a' w' (by simpa using hs) hcl' ?_ h'
        have := unl_less (d := fun j => listed.getD j false) (d' := fun j => (listed.setIfInBounds i true).getD j false) h0 hset1 hset2 hio
        omega
end
end Go.Vm
end
section
/- Compiled code: what is known of it. -/
set_option linter.unusedVariables false
set_option linter.unusedSimpArgs false
set_option linter.unnecessarySimpa false
namespace Go.Vm
def CO.strip (c : CO) : CO := { c with op := c.op.strip }
def CCode.strip : CCode → CCode
  | .reg ops d _ => .reg (ops.map CO.strip) d none
  | .seq a b => .seq a.strip b.strip
  | .cond c a b => .cond c a.strip b.strip
  | .block i c => .block i c.strip
  | .loop _ c => .loop [] c.strip
  | c => c
section
variable {P : Program}
theorem compOpers_at {all : List Oper} : ∀ {ops : List Oper} {bs : List Nat} {cs : List CO}, compOpers P all ops bs = some cs → cs.length = ops.length ∧ ∀ (i : Nat) o c, ops[i]? = some o → cs[i]? = some c →
    compOp P o.op = some c.op ∧ c.dst = o.dst ∧ c.bits = bs.getD i 0 ∧ (match o.guard with | none => c.guard = none | some (j, want) => ∃ d, (all[j]?).bind (·.dst) = some d ∧ c.guard = some (d, want))
  | [], bs, cs, h => by
    simp only [compOpers, Option.some.injEq] at h; subst h
    exact ⟨rfl, by simp⟩
  | o :: r, bs, cs, h => by
    simp only [compOpers] at h
    split at h
    · rename_i co cs' h1 h2
      obtain ⟨k1, k2⟩ := compOpers_at h2
      have tail : ∀ (i : Nat) o' c', r[i]? = some o' → cs'[i]? = some c' → compOp P o'.op = some c'.op ∧ c'.dst = o'.dst ∧ c'.bits = bs.getD (i + 1) 0 ∧ (match o'.guard with | none => c'.guard = none | some (j, want) => ∃ d, (all[j]?).bind (·.dst) = some d ∧ c'.guard = some (d, want)) := fun i o' c' ho hc => by
        obtain ⟨q1, q2, q3, q4⟩ := k2 i o' c' ho hc
        refine ⟨q1, q2, ?_, q4⟩
        rw [q3]; cases bs <;> simp [List.getD]
      split at h
      · rename_i hg
        cases h
        refine ⟨by simp [k1], fun i o' c' ho hc => ?_⟩
        cases i with
        | zero => simp at ho hc; subst ho hc; exact ⟨h1, rfl, by cases bs <;> rfl, by rw [hg]⟩
        | succ i => exact tail i o' c' (by simpa using ho) (by simpa using hc)
      · rename_i j want hg
        split at h
        · rename_i d hd
          cases h
          refine ⟨by simp [k1], fun i o' c' ho hc => ?_⟩
          cases i with
          | zero => simp at ho hc; subst ho hc; exact ⟨h1, rfl, by cases bs <;> rfl, by rw [hg]; exact ⟨d, hd, rfl⟩⟩
          | succ i => exact tail i o' c' (by simpa using ho) (by simpa using hc)
        · cases h
    · cases h
def bitsFold (acc : List Nat) (o : Oper) : Nat := o.after.toList.foldl (fun s e => if Region.binds .any e then s ||| 2 ^ e.on ||| acc.getD e.on 0 else s) 0
theorem beforeBits_at : ∀ (ops : List Oper) (acc : List Nat), (∃ t, beforeBits ops acc = acc ++ t ∧ t.length = ops.length) ∧ ∀ (i : Nat) o, ops[i]? = some o → (beforeBits ops acc).getD (acc.length + i) 0 = bitsFold ((beforeBits ops acc).take (acc.length + i)) o
  | [], acc => ⟨⟨[], by simp [beforeBits]⟩, by simp⟩
  | o :: r, acc => by
    simp only [beforeBits]
    obtain ⟨⟨t, h1, h1'⟩, h2⟩ := beforeBits_at r (acc ++ [bitsFold acc o])
    have e : beforeBits r (acc ++ [o.after.toList.foldl (fun s e => if Region.binds .any e then s ||| 2 ^ e.on ||| acc.getD e.on 0 else s) 0]) = beforeBits r (acc ++ [bitsFold acc o]) := rfl
    rw [e]
    refine ⟨⟨bitsFold acc o :: t, by rw [h1]; simp, by simp [h1']⟩, fun i o' ho => ?_⟩
    cases i with
    | zero =>
      simp at ho; subst ho
      rw [h1]
      simp [List.getD_eq_getElem?_getD]
    | succ i =>
      have := h2 i o' (by simpa using ho)
      rw [List.length_append, List.length_singleton] at this
      rw [show acc.length + (i + 1) = acc.length + 1 + i by omega]
      exact this
theorem fold_bits {j : Nat} {acc : List Nat} : ∀ (es : List Edge) (s : Nat), (es.foldl (fun s e => if Region.binds .any e then s ||| 2 ^ e.on ||| acc.getD e.on 0 else s) s).testBit j = true → s.testBit j = true ∨ ∃ e ∈ es, Region.binds .any e = true ∧ (j = e.on ∨ (acc.getD e.on 0).testBit j = true)
  | [], s, h => .inl h
  | e :: es, s, h => by
    rw [List.foldl_cons] at h
    rcases fold_bits es _ h with h | ⟨e', h1, h2⟩
    · split at h
      · rename_i hb
        simp only [Nat.testBit_or, Bool.or_eq_true] at h
        rcases h with (h | h) | h
        · exact .inl h
        · refine .inr ⟨e, by simp, hb, .inl ?_⟩
          have := Nat.testBit_two_pow (n := e.on) (m := j)
          rw [this] at h
          simpa using (of_decide_eq_true h).symm
        · exact .inr ⟨e, by simp, hb, .inr h⟩
      · exact .inl h
    · exact .inr ⟨e', by simp [h1], h2⟩
/-- A region's compiled form, its hints aside. -/
theorem region_ok {N : Nat} {id : Nat} {ops : Array Oper} {draw : Bool} {os : List CO} {keep : Option (List Nat)} (h : compCode P N (.region id ops draw) = some (CCode.reg os draw keep).strip) :
    ops.size = os.length ∧ (∀ (m : Nat) o c, ops[m]? = some o → os[m]? = some c → COk P ops o c) ∧ (∀ (m : Nat) c, os[m]? = some c → ∀ k, c.dst = some k → k < N) ∧ Edges ops os := by
  simp only [compCode] at h
  split at h
  · rename_i hc
    simp only [Bool.and_eq_true] at hc
    obtain ⟨cs, h1, h2⟩ := Option.map_eq_some_iff.1 h
    simp only [CCode.strip] at h2
    injection h2 with h2 _ _
    subst h2
    obtain ⟨k1, k2⟩ := compOpers_at h1
    have hlen : ops.size = os.length := by simpa using k1.symm
    have hstrip : ∀ (m : Nat) c, os[m]? = some c → (os.map CO.strip)[m]? = some c.strip := fun m c hm => by simp [hm]
    have hat : ∀ (m : Nat) c, os[m]? = some c → ∃ o, ops[m]? = some o := fun m c hm => by
      have := (List.getElem?_eq_some_iff.1 hm).1
      exact ⟨ops[m], by simp [hlen, this]⟩
    have hbits : ∀ (m : Nat) o c, ops[m]? = some o → os[m]? = some c → c.bits = (beforeBits ops.toList []).getD m 0 := fun m o c ho hm => (k2 m o c.strip (by simpa using ho) (hstrip m c hm)).2.2.1
    refine ⟨hlen, fun m o c ho hm => ?_, fun m c hm k hk => ?_, fun i o ho e he hb => ?_, fun i o c ho hm j hj => ?_⟩
    · obtain ⟨q1, q2, q3, q4⟩ := k2 m o c.strip (by simpa using ho) (hstrip m c hm)
      refine ⟨q1, q2, ?_⟩
      cases hg : o.guard with
      | none => rw [hg] at q4; exact q4
      | some p =>
        rw [hg] at q4
        obtain ⟨d, hd, hg'⟩ := q4
        exact ⟨d, by simpa using hd, hg'⟩
    · obtain ⟨o, ho⟩ := hat m c hm
      obtain ⟨q1, q2, q3, q4⟩ := k2 m o c.strip (by simpa using ho) (hstrip m c hm)
      have := List.all_eq_true.1 hc.2 o (List.mem_of_getElem? (by simpa using ho))
      have hdo : o.dst = some k := by rw [← q2]; exact hk
      rw [hdo] at this
      simpa using this
    · have := List.all_eq_true.1 hc.1 (o, i) (by
        rw [List.mem_iff_getElem?]
        exact ⟨i, by simp [List.getElem?_zipIdx, ho]⟩)
      have := Array.all_eq_true_iff_forall_mem.1 this e he
      simpa [hb] using this
    · rw [hbits i o c ho hm] at hj
      obtain ⟨⟨t, ht1, ht2⟩, hb2⟩ := beforeBits_at ops.toList []
      have hb3 := hb2 i o (by simpa using ho)
      simp only [List.length_nil, Nat.zero_add] at hb3
      rw [hb3] at hj
      rcases fold_bits _ _ hj with h | ⟨e, he, hb, hor⟩
      · simp at h
      · refine ⟨e, by simpa using he, hb, hor.imp (fun q => q) (fun hq => ?_)⟩
        have hlt : e.on < i := by
          refine Classical.byContradiction fun hn => ?_
          rw [List.getD_eq_getElem?_getD, List.getElem?_take, if_neg hn] at hq
          simp at hq
        have hi : i < ops.size := (Array.getElem?_eq_some_iff.1 ho).1
        have ho' : ops[e.on]? = some ops[e.on] := by simp [show e.on < ops.size by omega]
        have hm' : os[e.on]? = some os[e.on] := List.getElem?_eq_getElem (by omega)
        refine ⟨_, hm', ?_⟩
        rw [hbits e.on _ _ ho' hm']
        rw [List.getD_eq_getElem?_getD, List.getElem?_take, if_pos hlt, ← List.getD_eq_getElem?_getD] at hq
        exact hq
  · cases h
end
end Go.Vm
end
section
/- Numbers anew. -/
set_option linter.unusedVariables false
set_option linter.unusedSimpArgs false
set_option linter.unnecessarySimpa false
namespace Go.Vm
theorem renL_map (σ : Nat → Option Nat) : ∀ cs : List A, renL σ cs = cs.map (ren σ)
  | [] => rfl
  | x :: xs => by rw [renL, renL_map σ xs, List.map_cons]
theorem ren_rep {M : Mem} {ρ ρ' : Rho} {σ : Nat → Option Nat} (hσ : ∀ i j l, σ i = some j → ρ i = some l → ρ' j = some l) {x : A} {v : Value} (h : RepA M ρ x v) : RepA M ρ' (ren σ x) v := by
  induction h with
  | d hd => exact .d hd
  | ptr i o l b h1 h2 =>
    simp only [ren]
    split
    · rename_i j hj; exact .ptr j o l b (hσ i j l hj h1) h2
    · exact .un _
  | row i l h1 =>
    simp only [ren]
    split
    · rename_i j hj; exact .row j l (hσ i j l hj h1)
    · exact .un _
  | sub i lo hi own l base cap h1 hle hc hb ho hs =>
    simp only [ren]
    split
    · rename_i j hj; exact .sub j lo hi own l base cap (hσ i j l hj h1) hle hc hb ho hs
    · exact .un _
  | bs i off n sz l b base cap h1 hl hc hb hs =>
    simp only [ren]
    split
    · rename_i j hj; exact .bs j off n sz l b base cap (hσ i j l hj h1) hl hc hb hs
    · exact .un _
  | ep i k o l a h1 hb =>
    simp only [ren]
    split
    · rename_i j hj; exact .ep j k o l a (hσ i j l hj h1) hb
    · exact .un _
  | dp cs a vf hs hx hd => exact .dp cs a vf hs hx hd
  | agg cs vs hl h h1 ih =>
    simp only [ren, renL_map]
    refine .agg _ vs (by simpa using hl) (fun i x v hx hv => ?_) h1
    rw [List.getElem?_map, Option.map_eq_some_iff] at hx
    obtain ⟨y, hy, rfl⟩ := hx
    exact ih i y v hy hv
  | tup cs vs hl h ih =>
    simp only [ren, renL_map]
    refine .tup _ vs (by simpa using hl) (fun i x v hx hv => ?_)
    rw [List.getElem?_map, Option.map_eq_some_iff] at hx
    obtain ⟨y, hy, rfl⟩ := hx
    exact ih i y v hy hv
  | fn f cs vs hl h ih =>
    simp only [ren, renL_map]
    refine .fn f _ vs (by simpa using hl) (fun i x v hx hv => ?_)
    rw [List.getElem?_map, Option.map_eq_some_iff] at hx
    obtain ⟨y, hy, rfl⟩ := hx
    exact ih i y v hy hv
  | map i l b h1 hb =>
    simp only [ren]
    split
    · rename_i j hj; exact .map j l b (hσ i j l hj h1) hb
    · exact .un _
  | un v => exact .un v
theorem renL_rep {M : Mem} {ρ ρ' : Rho} {σ : Nat → Option Nat} (hσ : ∀ i j l, σ i = some j → ρ i = some l → ρ' j = some l) {xs : List A} {vs : List Value} (h : RepAs M ρ xs vs) : RepAs M ρ' (renL σ xs) vs := by
  rw [renL_map]
  refine ⟨by simpa using h.1, fun i x v hx hv => ?_⟩
  rw [List.getElem?_map, Option.map_eq_some_iff] at hx
  obtain ⟨y, hy, rfl⟩ := hx
  exact ren_rep hσ (h.2 i y v hy hv)
theorem idxIn_at : ∀ {ids : List Nat} {i n j : Nat}, idxIn i ids n = some j → n ≤ j ∧ ids[j - n]? = some i
  | [], _, _, _, h => by simp [idxIn] at h
  | k :: r, i, n, j, h => by
    simp only [idxIn] at h
    split at h
    · rename_i hk
      cases h
      exact ⟨Nat.le_refl _, by simp [hk]⟩
    · obtain ⟨h1, h2⟩ := idxIn_at h
      refine ⟨by omega, ?_⟩
      rw [show j - n = (j - (n + 1)) + 1 by omega]
      simpa using h2
theorem fwd_at {ids : List Nat} {i j : Nat} (h : fwd ids i = some j) : ids[j]? = some i := by
  have := (idxIn_at h).2
  simpa using this
/-- A chunk with its references renumbered, at another number. -/
theorem renC_rep {M : Mem} {ρ ρ' : Rho} {w : World} {σ : Nat → Option Nat} (hσ : ∀ i j l, σ i = some j → ρ i = some l → ρ' j = some l) {i j : Nat} {c : Chunk} (hij : ∀ l, ρ i = some l → ρ' j = some l) (h : RepC M ρ w i c) : RepC M ρ' w j (renC σ c) := by
  cases c with
  | dead => trivial
  | box cs =>
    obtain ⟨l, b, vals, t, fr, h1, h2, h3, h4, h5, h6⟩ := h
    exact ⟨l, b, vals, t, fr, hij l h1, h2, h3, h4, renL_rep hσ h5, h6⟩
  | row sz f xs =>
    obtain ⟨l, h1, h2⟩ := h
    exact ⟨l, hij l h1, h2⟩
  | imm sz f xs =>
    obtain ⟨l, h1, h2⟩ := h
    exact ⟨l, hij l h1, h2⟩
  | map agg kvs =>
    obtain ⟨l, b, es, ck, h1, h2⟩ := h
    exact ⟨l, b, es, ck, hij l h1, h2⟩
theorem renC_owns {ρ ρ' : Rho} {σ : Nat → Option Nat} {i j : Nat} {c : Chunk} {b : Nat} (hij : ρ' j = ρ i) (h : Owns ρ' j (renC σ c) b) : Owns ρ i c b := by
  cases c with
  | dead => exact h
  | imm => exact h
  | box cs => obtain ⟨l, a, h1, h2⟩ := h; exact ⟨l, a, by rw [← hij]; exact h1, h2⟩
  | row => obtain ⟨l, a, h1, h2⟩ := h; exact ⟨l, a, by rw [← hij]; exact h1, h2⟩
  | map => obtain ⟨l, a, h1, h2⟩ := h; exact ⟨l, a, by rw [← hij]; exact h1, h2⟩
/-- What is reached: no number twice, those that were there in front. -/
theorem reach_ok (hp : Heap) : ∀ (n : Nat) (xs : List A) (acc : List Nat), acc.Nodup → (reach hp n xs acc).Nodup ∧ ∃ t, reach hp n xs acc = acc ++ t
  | 0, xs, acc, h => by simp only [reach]; exact ⟨h, [], by simp⟩
  | n + 1, [], acc, h => by simp only [reach]; exact ⟨h, [], by simp⟩
  | n + 1, x :: xs, acc, h => by
    have hadd : ∀ i, acc.contains i = false → (acc ++ [i]).Nodup := fun i hi => by
      rw [List.nodup_append]
      refine ⟨h, by simp, fun a ha b hb => ?_⟩
      simp at hb; subst hb
      intro e; subst e
      simp [ha] at hi
    have one : ∀ i, (reach hp (n + 1) (x :: xs) acc = if acc.contains i then reach hp n xs acc
        else match hp i with
          | .box cs => reach hp n (cs ++ xs) (acc ++ [i])
          | _ => reach hp n xs (acc ++ [i])) → (reach hp (n + 1) (x :: xs) acc).Nodup ∧ ∃ t, reach hp (n + 1) (x :: xs) acc = acc ++ t := fun i e => by
      rw [e]
      split
      · exact reach_ok hp n xs acc h
      · rename_i hi
        have hi' : acc.contains i = false := by simpa using hi
        split
        · obtain ⟨h1, t, h2⟩ := reach_ok hp n (_ ++ xs) (acc ++ [i]) (hadd i hi')
          exact ⟨h1, i :: t, by rw [h2]; simp⟩
        · obtain ⟨h1, t, h2⟩ := reach_ok hp n xs (acc ++ [i]) (hadd i hi')
          exact ⟨h1, i :: t, by rw [h2]; simp⟩
    cases x with
    | ptr i o => exact one i rfl
    | row i => exact one i rfl
    | sub i lo hi w => exact one i rfl
    | bs i o k z => exact one i rfl
    | ep i k o => exact one i rfl
    | map i => exact one i rfl
    | agg cs => exact reach_ok hp n (cs ++ xs) acc h
    | tup cs => exact reach_ok hp n (cs ++ xs) acc h
    | fn f cs => exact reach_ok hp n (cs ++ xs) acc h
    | d y => exact reach_ok hp n xs acc h
    | dp y => exact reach_ok hp n xs acc h
    | un => exact reach_ok hp n xs acc h
def rhoOf (ρ : Rho) (ids : List Nat) : Rho := fun k => (ids[k]?).bind ρ
theorem rhoOf_fwd {ρ : Rho} {ids : List Nat} : ∀ i j l, fwd ids i = some j → ρ i = some l → rhoOf ρ ids j = some l := fun i j l h1 h2 => by
  simp [rhoOf, fwd_at h1, h2]
theorem packL_at {hp : Heap} {ids : List Nat} (k : Nat) : hpOf (packL hp ids) k = match ids[k]? with | some i => renC (fwd ids) (hp i) | none => .dead := by
  simp only [hpOf, packL, List.getElem?_map]
  cases ids[k]? <;> rfl
/-- The state, numbered anew. -/
theorem Rel.renum {w0 : World} {F M : Mem} {ρ : Rho} {hp : Heap} {w : World} (hrel : Rel w0 F M ρ hp w) {ids : List Nat} (hn : ids.Nodup) : Rel w0 F M (rhoOf ρ ids) (hpOf (packL hp ids)) w := by
  have hown : ∀ k b, Owns (rhoOf ρ ids) k (hpOf (packL hp ids) k) b → ∃ i, ids[k]? = some i ∧ Owns ρ i (hp i) b := fun k b h => by
    rw [packL_at] at h
    cases hk : ids[k]? with
    | none => rw [hk] at h; exact h.elim
    | some i =>
      rw [hk] at h
      exact ⟨i, rfl, renC_owns (by simp [rhoOf, hk]) h⟩
  refine ⟨hrel.os, hrel.tape, hrel.output, hrel.size, hrel.mem, hrel.frm, hrel.mf, fun k => ?_, fun k b h => ?_, fun k k' b h h' => ?_⟩
  · rw [packL_at]
    cases hk : ids[k]? with
    | none => trivial
    | some i => exact renC_rep rhoOf_fwd (fun l hl => by simp [rhoOf, hk, hl]) (hrel.ch i)
  · obtain ⟨i, _, h1⟩ := hown k b h
    exact hrel.own i b h1
  · obtain ⟨i, h1, h2⟩ := hown k b h
    obtain ⟨i', h1', h2'⟩ := hown k' b h'
    have := hrel.sep i i' b h2 h2'
    subst this
    exact (List.getElem?_inj (List.getElem?_eq_some_iff.1 h1).1 hn).1 (h1.trans h1'.symm)
end Go.Vm
end
section
/- Code: what the evaluator gives, the model gives. -/
set_option linter.unusedVariables false
set_option linter.unusedSimpArgs false
set_option linter.unnecessarySimpa false
namespace Go.Vm
/-- A loop whose rounds are counted. -/
theorem wp_loop_fuel {P : Program} {c : Code} {Q : Exit → Act → World → Prop} (I : Nat → Act → World → Prop) (round : ∀ n a w, I n a w → c.wp P (Exit.then (fun a' w' => ∃ k, k < n ∧ I k a' w') Q) a w) {n : Nat} {a : Act} {w : World} (h0 : I n a w) : (Code.loop c).wp P Q a w := by
  intro b k cs
  have key : ∀ n a w, I n a w → ∃ e a' w', Q e a' w' ∧ Arrives P (lone (b.at a (.code c :: .inLoop c :: k)) cs w) b k cs e a' w' := by
    intro n
    induction n using Nat.strongRecOn with
    | _ n ih =>
      intro a w hI
      obtain ⟨e, a₁, w₁, hq, harr⟩ := round n a w hI b (.inLoop c :: k) cs
      cases e with
      | normal =>
        obtain ⟨m, hlt, hI₁⟩ := hq
        obtain ⟨e₂, a₂, w₂, hq₂, harr₂⟩ := ih m hlt a₁ w₁ hI₁
        exact ⟨e₂, a₂, w₂, hq₂, .of_steps (Steps.trans harr (.one step_inLoop)) harr₂⟩
      | exit id => exact ⟨_, a₁, w₁, hq, .pass (x := .inLoop c) rfl (fun _ _ => .inl (by simp)) harr⟩
      | goto l => exact ⟨_, a₁, w₁, hq, .pass (x := .inLoop c) rfl (fun _ _ => .inl (by simp)) harr⟩
      | ret => exact ⟨_, a₁, w₁, hq, .pass (x := .inLoop c) rfl (fun _ _ => .inl (by simp)) harr⟩
      | panic ch => exact ⟨_, a₁, w₁, hq, .pass (x := .inLoop c) rfl (fun _ _ => .inl (by simp)) harr⟩
      | outgrown => exact ⟨_, a₁, w₁, hq, .pass (x := .inLoop c) rfl (fun _ _ => .inl (by simp)) harr⟩
  obtain ⟨e, a', w', hq, harr⟩ := key n a w h0
  exact ⟨e, a', w', hq, .of_steps (.one step_loop) harr⟩
section
variable {P : Program} {w0 : World} {F : Mem}
/-- What a state of the evaluator says of the model's. -/
def SInv (w0 : World) (F M0 : Mem) (ρ0 : Rho) (hp0 : Heap) (m N : Nat) (s : St) (a : Act) (w : World) : Prop :=
  ∃ M ρ, MemLe M0 M ∧ s.m = m ∧ (∀ i, i < m → ρ i = ρ0 i) ∧ (∀ i l, ρ i = some l → i < s.nx) ∧ m ≤ s.nx ∧ Rel w0 F M ρ s.hp w ∧ (∀ k, RepA M ρ (s.sl k) (a.tmps.getD k undef)) ∧ N ≤ a.tmps.size ∧ a.defers = [] ∧
    (∀ i, i < m → i ∉ s.dirty → s.hp i = hp0 i)
theorem astep_dirty {kf : Bool} {cf : CallF} {o : CO} {nb : Nat} {s s' : St} {f wi : List Nat} (h : astep kf cf o nb s = some (s', f, wi)) : s'.m = s.m ∧ (∀ i, i ∈ s.dirty → i ∈ s'.dirty) ∧ ∀ i, i < s.m → i ∉ s'.dirty → s'.hp i = s.hp i := by
  unfold astep at h
  split at h
  · cases h
  · simp only [Option.some.injEq, Prod.mk.injEq] at h
    obtain ⟨rfl, rfl, rfl⟩ := h
    exact ⟨rfl, fun i hi => hi, fun i _ _ => rfl⟩
  · simp only at h
    split at h
    · rename_i v ws hv
      split at h
      · simp only [Option.some.injEq, Prod.mk.injEq] at h
        obtain ⟨rfl, rfl, rfl⟩ := h
        refine ⟨rfl, fun i hi => by simp [hi], fun i hi hn => ?_⟩
        show applyW s.hp ws i = s.hp i
        rw [applyW_ap]
        refine apG_none (gHp_none (fun hmem => hn ?_))
        simp only [List.mem_append, List.mem_filter]
        by_cases hd : i ∈ s.dirty
        · exact .inl hd
        · exact .inr ⟨hmem, by simp [hi, hd]⟩
      · cases h
    · cases h
theorem aops_dirty {kf : Bool} {cf : CallF} {nb : Nat} : ∀ {os : List CO} {i : Nat} {s s' : St} {l : List (CO × List Nat × List Nat)}, aops kf cf nb os i s = some (s', l) → s'.m = s.m ∧ (∀ i, i ∈ s.dirty → i ∈ s'.dirty) ∧ ∀ i, i < s.m → i ∉ s'.dirty → s'.hp i = s.hp i
  | [], i, s, s', l, h => by
    simp only [aops, Option.some.injEq, Prod.mk.injEq] at h
    obtain ⟨rfl, rfl⟩ := h
    exact ⟨rfl, fun i hi => hi, fun i _ _ => rfl⟩
  | o :: os, i, s, s', l, h => by
    simp only [aops] at h
    split at h
    · rename_i s1 f wi h1
      split at h
      · rename_i s2 l' h2
        simp only [Option.some.injEq, Prod.mk.injEq] at h
        obtain ⟨rfl, rfl⟩ := h
        obtain ⟨a1, a2, a3⟩ := astep_dirty h1
        obtain ⟨b1, b2, b3⟩ := aops_dirty h2
        exact ⟨b1.trans a1, fun i hi => b2 i (a2 i hi), fun i hi hn => (b3 i (by rw [a1]; exact hi) hn).trans (a3 i hi (fun h => hn (b2 i h)))⟩
      · cases h
    · cases h
theorem mask_at (keep : List Nat) (sl : Nat → A) (k : Nat) : mask keep sl k = sl k ∨ mask keep sl k = .un := by
  unfold mask
  induction keep with
  | nil => exact .inr rfl
  | cons j r ih =>
    simp only [List.foldr_cons]
    by_cases h : k = j
    · subst h; exact .inl (upd_same _ _ _)
    · rw [upd_ne _ _ h]; exact ih
theorem slAt_all {os : List CO} {es : List Eff} (hel : es.length = os.length) (sl : Nat → A) : foldG (gSs os es) (fun _ => true) 0 sl = slAt os es os.length sl :=
  foldG_upto (fun j hj => by rw [gSs_len hel] at hj; simp; omega)
theorem hpAt_all {os : List CO} {es : List Eff} (hel : es.length = os.length) (hp : Heap) : foldG (gHs es) (fun _ => true) 0 hp = hpAt es os.length hp :=
  foldG_upto (fun j hj => by simp [gHs] at hj; simp; omega)
theorem reg_sound {kf : Bool} {cf : CallF} (hcf : CallOk P w0 F cf) (hmix : P.follows .mixedOrders = true) {M0 : Mem} {ρ0 : Rho} {hp0 : Heap} {m N n : Nat} {id : Nat} {ops : Array Oper} {draw : Bool} {os : List CO} {keep : Option (List Nat)} (hcode : compCode P N (.region id ops draw) = some (CCode.reg os draw keep).strip)
    {s s' : St} {ex : Ex} (h : aexec kf cf n (.reg os draw keep) s = some (ex, s')) {a : Act} {w : World} (hinv : SInv w0 F M0 ρ0 hp0 m N s a w) (Q : Exit → Act → World → Prop) (hQ : ex = .normal → ∀ a' w', SInv w0 F M0 ρ0 hp0 m N s' a' w' → Q .normal a' w') : (Code.region id ops draw).wp P Q a w := by
  obtain ⟨hlen, hok, hdst, hedges⟩ := region_ok hcode
  obtain ⟨M, ρ, i1, i2, i3, i4, i5, i6, i7, i8, i9, i10⟩ := hinv
  simp only [aexec] at h
  split at h
  · rename_i s1 l hops
    split at h
    · cases h
    · rename_i hpairs
      simp only [Option.some.injEq, Prod.mk.injEq] at h
      obtain ⟨rfl, rfl⟩ := h
      obtain ⟨es, e1, e2, e3, e4, e5, e6⟩ := aops_trace hops
      obtain ⟨d1, d2, d3⟩ := aops_dirty hops
      -- the state behind all of them
      have hfin : ∀ a' w', Inv w0 F M ρ os es s.nx N [] s.sl s.hp (fun _ => true) a' w' → Q .normal a' w' := fun a' w' hI => by
        obtain ⟨M', ρ', j1, j2, j3, j4, j5, j6, j7⟩ := hI
        rw [hpAt_all e1, ← e4] at j4
        simp only [slAt_all e1, ← e3] at j5
        refine hQ rfl a' w' ⟨M', ρ', i1.trans j1, d1.trans i2, fun i hi => ?_, fun i l hi => ?_, by show m ≤ s.nx + 8 * os.length; omega, j4, fun k => ?_, j6, j7, fun i hi hn => ?_⟩
        · rw [← i3 i hi]
          cases hq : ρ i with
          | some l => exact j2 i l hq
          | none =>
            cases hq' : ρ' i with
            | none => rfl
            | some l =>
              rcases j3 i l hq' with h | ⟨j, _, _, h, _⟩
              · rw [hq] at h; cases h
              · omega
        · show i < s.nx + 8 * os.length
          rcases j3 i l hi with h | ⟨j, _, h1, h2, h3⟩
          · have := i4 i l h; omega
          · omega
        · show RepA M' ρ' ((match keep with | some ks => mask ks s1.sl | none => s1.sl) k) _
          cases keep with
          | none => exact j5 k
          | some ks =>
            rcases mask_at ks s1.sl k with h | h <;> simp only [h]
            · exact j5 k
            · exact .un _
        · have hms : i < s.m := by rw [i2]; exact hi
          show s1.hp i = hp0 i
          rw [d3 i hms hn]
          exact i10 i hi (fun h => hn (d2 i h))
      have hstart : ∀ d : Nat → Bool, (∀ j, d j = false) → ∀ w', Rel w0 F M ρ s.hp w' → Inv w0 F M ρ os es s.nx N [] s.sl s.hp d a w' := fun d hd w' hw' => by
        refine ⟨M, ρ, MemLe.refl _, RhoLe.refl _, fun i l hi => .inl hi, ?_, ?_, i8, i9⟩
        · rw [foldG_none (fun j _ => by simpa using hd j)]; exact hw'
        · rw [foldG_none (fun j _ => by simpa using hd j)]; exact i7
      cases draw with
      | false =>
        refine wp_region ?_
        rw [List.range_eq_range']
        exact inv_text hcf i4 e1 hlen hok hdst (fun m c e hc he => by
          obtain ⟨fp, _, hd⟩ := e6 m c e hc he
          rw [Nat.zero_add] at hd
          exact ⟨fp, hd⟩) Q hfin ops.size 0 a w (by omega) (hstart _ (fun j => by simp) w i6)
      | true =>
        refine wp_region_any hmix ?_
        have hp : pairsOk l 0 = true := by simpa using hpairs
        refine inv_any hcf i4 e1 hlen hok hdst (l := l) (fun m c e hc he => by
          obtain ⟨fp, hl, hd⟩ := e6 m c e hc he
          rw [Nat.zero_add] at hd
          exact ⟨fp, hl, hd⟩) hp hedges Q hfin ops.size _ a _ (by simp) (fun i c _ hi => by simp [Array.getD_eq_getD_getElem?, Array.getElem?_replicate] at hi; split at hi <;> simp at hi) ?_ (hstart _ (fun j => by simp [Array.getD_eq_getD_getElem?, Array.getElem?_replicate]; split <;> simp) _ (i6.drew _))
        have : ∀ (d : Nat → Bool) (n : Nat), unl d n ≤ n := fun d n => by
          induction n with
          | zero => exact Nat.le_refl _
          | succ n ih => simp only [unl]; split <;> omega
        exact this _ _
  · cases h
end
end Go.Vm
end
section
/- The head of a loop: what is kept is numbered anew. -/
set_option linter.unusedVariables false
set_option linter.unusedSimpArgs false
set_option linter.unnecessarySimpa false
namespace Go.Vm
section
variable {P : Program} {w0 : World} {F : Mem}
theorem rowSlots_ok {M : Mem} {w : World} {a : Act} : ∀ {keep : List (Nat × Option Nat)} {sl : Nat → A} {nb : Nat} {ρ : Rho} {hp : Heap}, Rel w0 F M ρ hp w → (∀ k, RepA M ρ (sl k) (a.tmps.getD k undef)) → (∀ i l, ρ i = some l → i < nb) →
    ∃ ρ' nb', nb ≤ nb' ∧ RhoLe ρ ρ' ∧ (∀ i l, ρ' i = some l → i < nb') ∧ (∀ i, i < nb → ρ' i = ρ i) ∧ (∀ k, RepA M ρ' ((rowSlots keep sl nb).1 k) (a.tmps.getD k undef)) ∧ Rel w0 F M ρ' (applyW hp (rowSlots keep sl nb).2) w ∧ ∀ i, i < nb → applyW hp (rowSlots keep sl nb).2 i = hp i
  | [], sl, nb, ρ, hp, hrel, hsl, hd => ⟨ρ, nb, Nat.le_refl _, RhoLe.refl _, hd, fun i _ => rfl, hsl, hrel, fun i _ => rfl⟩
  | (k, none) :: r, sl, nb, ρ, hp, hrel, hsl, hd => by
    simp only [rowSlots]
    exact rowSlots_ok hrel hsl hd
  | (k, some sz) :: r, sl, nb, ρ, hp, hrel, hsl, hd => by
    have hn : ρ nb = none := by
      cases hq : ρ nb with
      | none => rfl
      | some l => have := hd nb l hq; omega
    simp only [rowSlots]
    split
    · rename_i z hz
      have hr := RhoLe.upd (l := ⟨none, 0, 0, sz⟩) hn
      have hv : a.tmps.getD k undef = .slice none 0 0 := by
        have := hsl k
        rw [hz] at this
        exact rep_sl_nil this
      have hsl' : ∀ j, RepA M (upd ρ nb (some ⟨none, 0, 0, sz⟩)) (upd sl k (.row nb) j) (a.tmps.getD j undef) := fun j => by
        by_cases hj : j = k
        · subst hj; rw [upd_same, hv]
          exact .row nb ⟨none, 0, 0, sz⟩ (upd_same _ _ _)
        · rw [upd_ne _ _ hj]; exact (hsl j).mono (MemLe.refl _) hr
      obtain ⟨ρ', nb', h1, h2, h3, h4, h5, h6, h7⟩ := rowSlots_ok (keep := r) (nb := nb + 1) (hrel.newNil sz hn) hsl' (fun i l hi => by
        rcases upd_dom hi with h | h
        · have := hd i l h; omega
        · omega)
      refine ⟨ρ', nb', by omega, hr.trans h2, h3, fun i hi => by rw [h4 i (by omega), upd_ne _ _ (by omega)], h5, h6, fun i hi => ?_⟩
      show applyW (upd hp nb _) _ i = hp i
      rw [h7 i (by omega), upd_ne _ _ (by omega)]
    · exact rowSlots_ok hrel hsl hd
/-- Renumbering that keeps the first m leaves the chunk as it is. -/
def Stay (m : Nat) (c : Chunk) : Prop := ∀ t : List Nat, renC (fwd (List.range m ++ t)) c = c
theorem ren_slots {M : Mem} {ρ ρ' : Rho} {σ : Nat → Option Nat} (hσ : ∀ i j l, σ i = some j → ρ i = some l → ρ' j = some l) {sl : Nat → A} {a : Act} (hsl : ∀ k, RepA M ρ (sl k) (a.tmps.getD k undef)) : ∀ (ks : List Nat) (k : Nat), RepA M ρ' ((ks.foldr (fun k g => upd g k (ren σ (sl k))) (fun _ => .un)) k) (a.tmps.getD k undef)
  | [], k => .un _
  | j :: r, k => by
    simp only [List.foldr_cons]
    by_cases h : k = j
    · subst h; rw [upd_same]; exact ren_rep hσ (hsl k)
    · rw [upd_ne _ _ h]; exact ren_slots hσ hsl r k
theorem gc_inv {M0 : Mem} {ρ0 : Rho} {hp0 : Heap} {m N : Nat} {s : St} {a : Act} {w : World} (hstay : ∀ i, i < m → Stay m (hp0 i)) (h : SInv w0 F M0 ρ0 hp0 m N s a w) (keep : List (Nat × Option Nat)) : SInv w0 F M0 ρ0 hp0 m N (gc keep s) a w := by
  obtain ⟨M, ρ, i1, i2, i3, i4, i5, i6, i7, i8, i9, i10⟩ := h
  obtain ⟨ρ', nb', k1, k2, k3, k4, k5, k6, k7⟩ := rowSlots_ok (keep := keep) i6 i7 i4
  subst i2
  unfold gc
  simp only
  generalize hid : reach (applyW s.hp (rowSlots keep s.sl s.nx).2) 1000 _ (List.range s.m) = ids
  obtain ⟨hnd, t, ht⟩ : ids.Nodup ∧ ∃ t, ids = List.range s.m ++ t := by
    rw [← hid]; exact reach_ok _ _ _ _ List.nodup_range
  have hat : ∀ i, i < s.m → ids[i]? = some i := fun i hi => by
    rw [ht, List.getElem?_append_left (by simpa using hi)]
    simp [hi]
  refine ⟨M, rhoOf ρ' ids, i1, rfl, fun i hi => ?_, fun i l hi => ?_, by show s.m ≤ ids.length; rw [ht]; simp, k6.renum hnd, fun k => ren_slots rhoOf_fwd k5 _ k, i8, i9, fun i hi hn => ?_⟩
  · rw [← i3 i hi, ← k4 i (by omega)]
    simp [rhoOf, hat i hi]
  · show i < ids.length
    refine Classical.byContradiction fun hne => ?_
    simp only [rhoOf] at hi
    rw [List.getElem?_eq_none (by omega)] at hi
    cases hi
  · show hpOf (packL _ ids) i = hp0 i
    rw [packL_at, hat i hi]
    simp only
    rw [k7 i (by omega), i10 i hi hn, ht]
    exact hstay i hi t
end
end Go.Vm
end
section
/- Code as a whole. -/
set_option linter.unusedVariables false
set_option linter.unusedSimpArgs false
set_option linter.unnecessarySimpa false
namespace Go.Vm
def Ex.exit' : Ex → Exit
  | .normal => .normal
  | .exit id => .exit id
  | .ret => .ret
section
variable {P : Program} {w0 : World} {F : Mem}
theorem exec_sound {kf : Bool} {cf : CallF} (hcf : CallOk P w0 F cf) (hmix : P.follows .mixedOrders = true) {M0 : Mem} {ρ0 : Rho} {hp0 : Heap} {m N : Nat} (hstay : ∀ i, i < m → Stay m (hp0 i)) (n : Nat) : ∀ (code : Code) (cc : CCode) (s s' : St) (ex : Ex) (a : Act) (w : World) (Q : Exit → Act → World → Prop),
    compCode P N code = some cc.strip → aexec kf cf n cc s = some (ex, s') → SInv w0 F M0 ρ0 hp0 m N s a w → (∀ a' w', SInv w0 F M0 ρ0 hp0 m N s' a' w' → Q ex.exit' a' w') → code.wp P Q a w := by
  intro code
  induction code with
  | region id ops draw =>
    intro cc s s' ex a w Q hc he hi hQ
    have hcc : ∃ os d keep, cc = .reg os d keep := by
      simp only [compCode] at hc
      split at hc
      · obtain ⟨cs, _, h2⟩ := Option.map_eq_some_iff.1 hc
        cases cc <;> simp [CCode.strip] at h2
        exact ⟨_, _, _, rfl⟩
      · cases hc
    obtain ⟨os, d, keep, rfl⟩ := hcc
    have hd : d = draw := by
      simp only [compCode] at hc
      split at hc
      · obtain ⟨cs, _, h2⟩ := Option.map_eq_some_iff.1 hc
        simp only [CCode.strip] at h2
        injection h2 with _ h3 _
        exact h3.symm
      · cases hc
    subst hd
    refine reg_sound hcf hmix hc he hi Q (fun hex a' w' h => ?_)
    subst hex
    exact hQ a' w' h
  | skip =>
    intro cc s s' ex a w Q hc he hi hQ
    have : cc = .skip := by simp only [compCode] at hc; cases cc <;> simp [CCode.strip] at hc ⊢
    subst this
    simp only [aexec, Option.some.injEq, Prod.mk.injEq] at he
    obtain ⟨rfl, rfl⟩ := he
    exact wp_skip (hQ a w hi)
  | label l =>
    intro cc s s' ex a w Q hc he hi hQ
    have : cc = .skip := by simp only [compCode] at hc; cases cc <;> simp [CCode.strip] at hc ⊢
    subst this
    simp only [aexec, Option.some.injEq, Prod.mk.injEq] at he
    obtain ⟨rfl, rfl⟩ := he
    exact wp_label (hQ a w hi)
  | exit id =>
    intro cc s s' ex a w Q hc he hi hQ
    have : cc = .exit id := by simp only [compCode] at hc; cases cc <;> simp [CCode.strip] at hc ⊢; exact hc.symm
    subst this
    simp only [aexec, Option.some.injEq, Prod.mk.injEq] at he
    obtain ⟨rfl, rfl⟩ := he
    exact wp_exit (hQ a w hi)
  | ret =>
    intro cc s s' ex a w Q hc he hi hQ
    have : cc = .ret := by simp only [compCode] at hc; cases cc <;> simp [CCode.strip] at hc ⊢
    subst this
    simp only [aexec, Option.some.injEq, Prod.mk.injEq] at he
    obtain ⟨rfl, rfl⟩ := he
    exact wp_ret (hQ a w hi)
  | seq x y ihx ihy =>
    intro cc s s' ex a w Q hc he hi hQ
    simp only [compCode] at hc
    split at hc
    · rename_i cx cy hx hy
      obtain ⟨bx, b_y, rfl, rfl, rfl⟩ : ∃ bx b_y, cc = .seq bx b_y ∧ cx = bx.strip ∧ cy = b_y.strip := by
        cases cc <;> simp [CCode.strip] at hc
        exact ⟨_, _, rfl, hc.1, hc.2⟩
      simp only [aexec] at he
      refine wp_seq ?_
      split at he
      · rename_i s1 h1
        refine ihx bx s s1 .normal a w _ hx h1 hi (fun a' w' h => ?_)
        exact ihy b_y s1 s' ex a' w' Q hy he h hQ
      · rename_i r hr
        refine ihx bx s s' ex a w _ hx he hi (fun a' w' h => ?_)
        have hq := hQ a' w' h
        cases ex with
        | normal => exact absurd he (hr s')
        | exit id => exact hq
        | ret => exact hq
    · cases hc
  | cond c x y ihx ihy =>
    intro cc s s' ex a w Q hc he hi hQ
    simp only [compCode] at hc
    split at hc
    · rename_i cc0 cx cy hc0 hx hy
      obtain ⟨bx, b_y, rfl, rfl, rfl⟩ : ∃ bx b_y, cc = .cond cc0 bx b_y ∧ cx = bx.strip ∧ cy = b_y.strip := by
        cases cc <;> simp [CCode.strip] at hc
        obtain ⟨rfl, h2, h3⟩ := hc
        exact ⟨_, _, rfl, h2, h3⟩
      simp only [aexec] at he
      split at he
      · rename_i t ht
        obtain ⟨M, ρ, i1, i2, i3, i4, i5, i6, i7, i8⟩ := id hi
        have hv := opd_rep (a := a) i7 hc0
        rw [ht] at hv
        refine wp_cond (t := t) (rep_bool hv) ?_
        cases t with
        | true => exact ihx bx s s' ex a w Q hx he hi hQ
        | false => exact ihy b_y s s' ex a w Q hy he hi hQ
      · cases he
    · cases hc
  | scope c ih =>
    intro cc s s' ex a w Q hc he hi hQ
    simp only [compCode] at hc
    refine wp_scope_straight (ih cc s s' ex a w _ hc he hi (fun a' w' h => ?_))
    have := hQ a' w' h
    cases ex <;> exact this
  | block id c ih =>
    intro cc s s' ex a w Q hc he hi hQ
    simp only [compCode] at hc
    obtain ⟨cx, hx, hq⟩ := Option.map_eq_some_iff.1 hc
    obtain ⟨bx, rfl, rfl⟩ : ∃ bx, cc = .block id bx ∧ cx = bx.strip := by
      cases cc <;> simp [CCode.strip] at hq
      obtain ⟨rfl, h2⟩ := hq
      exact ⟨_, rfl, h2⟩
    simp only [aexec] at he
    refine wp_block ?_
    split at he
    · rename_i j s1 h1
      refine ih bx s s1 (.exit j) a w _ hx h1 hi (fun a' w' h => ?_)
      show (if j = id then Q .normal a' w' else Q (.exit j) a' w')
      split at he
      · rename_i hj
        simp only [Option.some.injEq, Prod.mk.injEq] at he
        obtain ⟨rfl, rfl⟩ := he
        rw [if_pos hj]; exact hQ a' w' h
      · rename_i hj
        simp only [Option.some.injEq, Prod.mk.injEq] at he
        obtain ⟨rfl, rfl⟩ := he
        rw [if_neg hj]; exact hQ a' w' h
    · rename_i r hr
      refine ih bx s s' ex a w _ hx he hi (fun a' w' h => ?_)
      have hq := hQ a' w' h
      cases ex with
      | normal => exact hq
      | exit j => exact absurd he (hr j s')
      | ret => exact hq
  | loop c ih =>
    intro cc s s' ex a w Q hc he hi hQ
    simp only [compCode] at hc
    obtain ⟨cx, hx, hq⟩ := Option.map_eq_some_iff.1 hc
    obtain ⟨keep, bx, rfl, rfl⟩ : ∃ keep bx, cc = .loop keep bx ∧ cx = bx.strip := by
      cases cc <;> simp [CCode.strip] at hq
      exact ⟨_, _, rfl, hq⟩
    simp only [aexec] at he
    refine wp_loop_fuel (fun k a w => ∃ s, aiter k (aexec kf cf n bx) (gc keep) s = some (ex, s') ∧ SInv w0 F M0 ρ0 hp0 m N s a w) (fun k a w hI => ?_) (n := n) ⟨s, he, hi⟩
    obtain ⟨s, hk, hi⟩ := hI
    cases k with
    | zero => simp [aiter] at hk
    | succ k =>
      simp only [aiter] at hk
      have hg := gc_inv hstay hi keep
      split at hk
      · rename_i s1 h1
        exact ih bx _ s1 .normal a w _ hx h1 hg (fun a' w' h => ⟨k, by omega, s1, hk, h⟩)
      · rename_i r hr
        refine ih bx _ s' ex a w _ hx hk hg (fun a' w' h => ?_)
        have hq := hQ a' w' h
        cases ex with
        | normal => exact absurd hk (hr s')
        | exit id => exact hq
        | ret => exact hq
  | _ =>
    intro cc s s' ex a w Q hc he hi hQ
    simp [compCode] at hc
end
end Go.Vm
end
section
/- Calls: what is handed over, what comes back. -/
set_option linter.unusedVariables false
set_option linter.unusedSimpArgs false
set_option linter.unnecessarySimpa false
namespace Go.Vm
section
variable {P : Program} {w0 : World} {F M : Mem} {ρ : Rho} {hp hr : Heap} {w : World} {kf : Bool}
/-! ### Rows become data -/
theorem freeze1_ok (hrel : Rel w0 F M ρ hp w) (hs : Sub hr hp) {x : A} {v : Value} (hx : RepA M ρ x v) :
    ∃ M', MemLe M M' ∧ RepA M' ρ (freeze1 kf hr x).1 v ∧ Rel w0 F M' ρ (applyW hp (freeze1 kf hr x).2) w := by
  have key : ∀ (p : A × Writes), p = (match toD1 kf hr x with
    | some (d, ws) => (.d d, ws)
    | none => (x, [])) → ∃ M', MemLe M M' ∧ RepA M' ρ p.1 v ∧ Rel w0 F M' ρ (applyW hp p.2) w := by
    intro p hp'
    split at hp'
    · rename_i d ws h
      subst hp'
      obtain ⟨M', h1, h2, h3⟩ := toD1_ok hrel hs hx h
      exact ⟨M', h1, .d h2, h3⟩
    · subst hp'
      exact ⟨M, MemLe.refl _, hx, hrel⟩
  cases x <;> first
    | exact key _ rfl
    | exact ⟨M, MemLe.refl _, hx, hrel⟩
theorem freezeL_ok : ∀ {xs : List A} {vs : List Value} {M : Mem} {hp hr : Heap}, Rel w0 F M ρ hp w → Sub hr hp → RepAs M ρ xs vs →
    ∃ M', MemLe M M' ∧ RepAs M' ρ (freezeL kf xs hr).1 vs ∧ Rel w0 F M' ρ (applyW hp (freezeL kf xs hr).2) w
  | [], vs, M, hp, hr, hrel, hs, hx => ⟨M, MemLe.refl _, hx, hrel⟩
  | x :: xs, vs, M, hp, hr, hrel, hs, hx => by
    obtain ⟨v, vs, rfl, hv, hvs⟩ := hx.cases_cons
    obtain ⟨M1, k1, k2, k3⟩ := freeze1_ok (kf := kf) hrel hs hv
    obtain ⟨M2, j1, j2, j3⟩ := freezeL_ok (xs := xs) k3 (hs.apply (freeze1 kf hr x).2) (hvs.mono k1 (RhoLe.refl _))
    refine ⟨M2, k1.trans j1, RepAs.cons (k2.mono j1 (RhoLe.refl _)) j2, ?_⟩
    simp only [freezeL]
    rw [applyW_append]; exact j3
theorem freezeA_ok (hrel : Rel w0 F M ρ hp w) (hs : Sub hr hp) {x : A} {v : Value} (hx : RepA M ρ x v) :
    ∃ M', MemLe M M' ∧ RepA M' ρ (freezeA kf hr x).1 v ∧ Rel w0 F M' ρ (applyW hp (freezeA kf hr x).2) w := by
  cases hx with
  | agg cs vs hl h h1 =>
    obtain ⟨M', k1, k2, k3⟩ := freezeL_ok (kf := kf) (vs := vs.toList) hrel hs ⟨by simpa using hl, fun i x v a b => h i x v a (by simpa using b)⟩
    refine ⟨M', k1, ?_, k3⟩
    have := RepA.agg' k2 (by simpa using h1)
    simpa [freezeA] using this
  | d hd => exact freeze1_ok hrel hs (.d hd)
  | ptr i o l b a1 a2 => exact freeze1_ok hrel hs (.ptr i o l b a1 a2)
  | row i l a1 => exact freeze1_ok hrel hs (.row i l a1)
  | sub i lo hi own l base cap a1 a2 a3 a4 a5 a6 => exact freeze1_ok hrel hs (.sub i lo hi own l base cap a1 a2 a3 a4 a5 a6)
  | bs i off n sz l b base cap a1 a2 a3 a4 a5 => exact freeze1_ok hrel hs (.bs i off n sz l b base cap a1 a2 a3 a4 a5)
  | ep i k o l a a1 a2 => exact freeze1_ok hrel hs (.ep i k o l a a1 a2)
  | dp cs a vf a1 a2 a3 => exact freeze1_ok hrel hs (.dp cs a vf a1 a2 a3)
  | tup cs vs a1 a2 => exact freeze1_ok hrel hs (.tup cs vs a1 a2)
  | fn f cs vs a1 a2 => exact freeze1_ok hrel hs (.fn f cs vs a1 a2)
  | map i l b a1 a2 => exact freeze1_ok hrel hs (.map i l b a1 a2)
  | un v => exact freeze1_ok hrel hs (.un v)
theorem freezeR_ok {rows : List (Nat × Nat)} : ∀ {xs : List A} {vs : List Value} {i : Nat} {M : Mem} {hp hr : Heap}, Rel w0 F M ρ hp w → Sub hr hp → RepAs M ρ xs vs →
    ∃ M', MemLe M M' ∧ RepAs M' ρ (freezeR kf rows xs i hr).1 vs ∧ Rel w0 F M' ρ (applyW hp (freezeR kf rows xs i hr).2) w
  | [], vs, i, M, hp, hr, hrel, hs, hx => ⟨M, MemLe.refl _, hx, hrel⟩
  | x :: xs, vs, i, M, hp, hr, hrel, hs, hx => by
    obtain ⟨v, vs, rfl, hv, hvs⟩ := hx.cases_cons
    obtain ⟨M1, k1, k2, k3⟩ : ∃ M', MemLe M M' ∧ RepA M' ρ (if (rows.lookup i).isSome then (x, []) else freezeA kf hr x).1 v ∧ Rel w0 F M' ρ (applyW hp (if (rows.lookup i).isSome then (x, []) else freezeA kf hr x).2) w := by
      split
      · exact ⟨M, MemLe.refl _, hv, hrel⟩
      · exact freezeA_ok hrel hs hv
    obtain ⟨M2, j1, j2, j3⟩ := freezeR_ok (rows := rows) (xs := xs) (i := i + 1) k3 (hs.apply (if (rows.lookup i).isSome then (x, []) else freezeA kf hr x).2) (hvs.mono k1 (RhoLe.refl _))
    refine ⟨M2, k1.trans j1, RepAs.cons (k2.mono j1 (RhoLe.refl _)) j2, ?_⟩
    simp only [freezeR]
    rw [applyW_append]; exact j3
/-! ### Nil slices become rows -/
theorem hpOf_snoc (H : List Chunk) (c : Chunk) : upd (hpOf H) H.length c = hpOf (H ++ [c]) := by
  funext i
  simp only [upd, hpOf]
  split
  · rename_i h; subst h; simp
  · rename_i h
    by_cases hi : i < H.length
    · rw [List.getElem?_append_left hi]
    · rw [List.getElem?_eq_none (by omega), List.getElem?_eq_none (by simp; omega)]
theorem argsIn_ok {rows : List (Nat × Nat)} : ∀ {xs : List A} {vs : List Value} {i nb : Nat} {ρ : Rho} {H : List Chunk}, nb = H.length → Rel w0 F M ρ (hpOf H) w → (∀ i l, ρ i = some l → i < nb) → RepAs M ρ xs vs →
    ∃ ρ', RhoLe ρ ρ' ∧ (∀ j, j < nb → ρ' j = ρ j) ∧ (∀ j l, ρ' j = some l → j < (H ++ (argsIn rows xs i nb).2).length) ∧ RepAs M ρ' (argsIn rows xs i nb).1 vs ∧ Rel w0 F M ρ' (hpOf (H ++ (argsIn rows xs i nb).2)) w
  | [], vs, i, nb, ρ, H, hn, hrel, hd, hx => by
    refine ⟨ρ, RhoLe.refl _, fun j _ => rfl, fun j l h => ?_, hx, ?_⟩
    · have := hd j l h; simp [argsIn]; omega
    · simpa [argsIn] using hrel
  | x :: xs, vs, i, nb, ρ, H, hn, hrel, hd, hx => by
    obtain ⟨v, vs, rfl, hv, hvs⟩ := hx.cases_cons
    have plain : ∀ (p : List A × List Chunk), p = (x :: (argsIn rows xs (i + 1) nb).1, (argsIn rows xs (i + 1) nb).2) → ∃ ρ', RhoLe ρ ρ' ∧ (∀ j, j < nb → ρ' j = ρ j) ∧ (∀ j l, ρ' j = some l → j < (H ++ p.2).length) ∧ RepAs M ρ' p.1 (v :: vs) ∧ Rel w0 F M ρ' (hpOf (H ++ p.2)) w := by
      intro p hp
      subst hp
      obtain ⟨ρ', k1, k2, k3, k4, k5⟩ := argsIn_ok (rows := rows) (xs := xs) (i := i + 1) hn hrel hd hvs
      exact ⟨ρ', k1, k2, k3, RepAs.cons (hv.mono (MemLe.refl _) k1) k4, k5⟩
    simp only [argsIn]
    split
    · rename_i sz z hl
      have hnb : ρ nb = none := by
        cases hq : ρ nb with
        | none => rfl
        | some l => have := hd nb l hq; omega
      have hr := RhoLe.upd (l := ⟨none, 0, 0, sz⟩) hnb
      have hv' := rep_sl_nil hv
      subst hv'
      have h1 := hrel.newNil sz hnb
      subst hn
      rw [hpOf_snoc] at h1
      obtain ⟨ρ', k1, k2, k3, k4, k5⟩ := argsIn_ok (rows := rows) (xs := xs) (i := i + 1) (nb := H.length + 1) (H := H ++ [.row sz true []]) (by simp) h1 (fun j l hj => by
        rcases upd_dom hj with h | h
        · have := hd j l h; omega
        · omega) (hvs.mono (MemLe.refl _) hr)
      rw [List.append_assoc] at k3 k5
      refine ⟨ρ', hr.trans k1, fun j hj => by rw [k2 j (by omega), upd_ne _ _ (by omega)], k3, RepAs.cons ?_ k4, k5⟩
      exact .row H.length ⟨none, 0, 0, sz⟩ (k1 _ _ (upd_same _ _ _))
    · rename_i hno
      exact plain _ rfl
theorem rowResL_ok {rows : List (Nat × Nat)} : ∀ {xs : List A} {vs : List Value} {i nb : Nat} {ρ : Rho} {hp : Heap}, Rel w0 F M ρ hp w → (∀ i l, ρ i = some l → i < nb) → RepAs M ρ xs vs →
    ∃ ρ', RhoLe ρ ρ' ∧ (∀ j, j < nb → ρ' j = ρ j) ∧ (∀ j l, ρ' j = some l → j < nb + (rowResL rows xs i nb).2.1.length) ∧ RepAs M ρ' (rowResL rows xs i nb).1 vs ∧ Rel w0 F M ρ' (applyC hp nb (rowResL rows xs i nb).2.1) w ∧ ∀ j, j < nb → applyC hp nb (rowResL rows xs i nb).2.1 j = hp j
  | [], vs, i, nb, ρ, hp, hrel, hd, hx => ⟨ρ, RhoLe.refl _, fun j _ => rfl, fun j l h => by have := hd j l h; simp [rowResL]; omega, hx, hrel, fun j _ => rfl⟩
  | x :: xs, vs, i, nb, ρ, hp, hrel, hd, hx => by
    obtain ⟨v, vs, rfl, hv, hvs⟩ := hx.cases_cons
    simp only [rowResL]
    split
    · rename_i sz z hl
      have hnb : ρ nb = none := by
        cases hq : ρ nb with
        | none => rfl
        | some l => have := hd nb l hq; omega
      have hr := RhoLe.upd (l := ⟨none, 0, 0, sz⟩) hnb
      have hv' := rep_sl_nil hv
      subst hv'
      obtain ⟨ρ', k1, k2, k3, k4, k5, k6⟩ := rowResL_ok (rows := rows) (xs := xs) (i := i + 1) (nb := nb + 1) (hrel.newNil sz hnb) (fun j l hj => by
        rcases upd_dom hj with h | h
        · have := hd j l h; omega
        · omega) (hvs.mono (MemLe.refl _) hr)
      refine ⟨ρ', hr.trans k1, fun j hj => by rw [k2 j (by omega), upd_ne _ _ (by omega)], fun j l hj => by have := k3 j l hj; simp only [List.length_cons]; omega, RepAs.cons (.row nb ⟨none, 0, 0, sz⟩ (k1 _ _ (upd_same _ _ _))) k4, k5, fun j hj => ?_⟩
      show applyC (upd hp nb _) (nb + 1) _ j = hp j
      rw [k6 j (by omega), upd_ne _ _ (by omega)]
    · obtain ⟨ρ', k1, k2, k3, k4, k5, k6⟩ := rowResL_ok (rows := rows) (xs := xs) (i := i + 1) hrel hd hvs
      exact ⟨ρ', k1, k2, k3, RepAs.cons (hv.mono (MemLe.refl _) k1) k4, k5, k6⟩
theorem applyC_append : ∀ (cs ds : List Chunk) (hp : Heap) (nb : Nat), applyC hp nb (cs ++ ds) = applyC (applyC hp nb cs) (nb + cs.length) ds
  | [], ds, hp, nb => rfl
  | c :: cs, ds, hp, nb => by
    simp only [List.cons_append, applyC, List.length_cons]
    rw [applyC_append cs ds, show nb + 1 + cs.length = nb + (cs.length + 1) by omega]
theorem rowResR_ok {rows : List (Nat × Nat)} : ∀ {xs : List A} {vs : List Value} {i nb : Nat} {ρ : Rho} {hp : Heap}, Rel w0 F M ρ hp w → (∀ i l, ρ i = some l → i < nb) → RepAs M ρ xs vs →
    ∃ ρ', RhoLe ρ ρ' ∧ (∀ j, j < nb → ρ' j = ρ j) ∧ (∀ j l, ρ' j = some l → j < nb + (rowResR rows xs i nb).2.length) ∧ RepAs M ρ' (rowResR rows xs i nb).1 vs ∧ Rel w0 F M ρ' (applyC hp nb (rowResR rows xs i nb).2) w ∧ ∀ j, j < nb → applyC hp nb (rowResR rows xs i nb).2 j = hp j
  | [], vs, i, nb, ρ, hp, hrel, hd, hx => ⟨ρ, RhoLe.refl _, fun j _ => rfl, fun j l h => by have := hd j l h; simp [rowResR]; omega, hx, hrel, fun j _ => rfl⟩
  | x :: xs, vs, i, nb, ρ, hp, hrel, hd, hx => by
    obtain ⟨v, vs, rfl, hv, hvs⟩ := hx.cases_cons
    simp only [rowResR]
    split
    · rename_i cs
      cases hv with
      | agg _ us hl h h1 =>
        obtain ⟨ρ1, j1, j2, j3, j4, j5, j6⟩ := rowResL_ok (rows := rows) (xs := cs) (vs := us.toList) (i := i) hrel hd ⟨by simpa using hl, fun i x v a b => h i x v a (by simpa using b)⟩
        obtain ⟨ρ', k1, k2, k3, k4, k5, k6⟩ := rowResR_ok (rows := rows) (xs := xs) (i := (rowResL rows cs i nb).2.2) (nb := nb + (rowResL rows cs i nb).2.1.length) j5 j3 (hvs.mono (MemLe.refl _) j1)
        refine ⟨ρ', j1.trans k1, fun j hj => by rw [k2 j (by omega), j2 j hj], fun j l hj => by have := k3 j l hj; simp only [List.length_append]; omega, RepAs.cons ?_ k4, by rw [applyC_append]; exact k5, fun j hj => by rw [applyC_append, k6 j (by omega), j6 j hj]⟩
        have := (RepA.agg' j4 (by simpa using h1)).mono (MemLe.refl _) k1
        simpa using this
    · split
      · rename_i sz z hlk hno
        have hnb : ρ nb = none := by
          cases hq : ρ nb with
          | none => rfl
          | some l => have := hd nb l hq; omega
        have hr := RhoLe.upd (l := ⟨none, 0, 0, sz⟩) hnb
        have hv' := rep_sl_nil hv
        subst hv'
        obtain ⟨ρ', k1, k2, k3, k4, k5, k6⟩ := rowResR_ok (rows := rows) (xs := xs) (i := i + 1) (nb := nb + 1) (hrel.newNil sz hnb) (fun j l hj => by
          rcases upd_dom hj with h | h
          · have := hd j l h; omega
          · omega) (hvs.mono (MemLe.refl _) hr)
        refine ⟨ρ', hr.trans k1, fun j hj => by rw [k2 j (by omega), upd_ne _ _ (by omega)], fun j l hj => by have := k3 j l hj; simp only [List.length_cons]; omega, RepAs.cons (.row nb ⟨none, 0, 0, sz⟩ (k1 _ _ (upd_same _ _ _))) k4, k5, fun j hj => ?_⟩
        show applyC (upd hp nb _) (nb + 1) _ j = hp j
        rw [k6 j (by omega), upd_ne _ _ (by omega)]
      · obtain ⟨ρ', k1, k2, k3, k4, k5, k6⟩ := rowResR_ok (rows := rows) (xs := xs) (i := i + 1) hrel hd hvs
        exact ⟨ρ', k1, k2, k3, RepAs.cons (hv.mono (MemLe.refl _) k1) k4, k5, k6⟩
/-! ### Results -/
theorem resOf_ok {s : St} {a : Act} (hrel : Rel w0 F M ρ s.hp w) (hsl : ∀ k, RepA M ρ (s.sl k) (a.tmps.getD k undef)) {r : ResultVar} {c : CRes} {v : A} (hc : compRes P r = some c) (h : resOf s c = some v) :
    ∃ u, (match r with | .tmp t => pure (a.tmps.getD t undef) | .cell b t => do loadVar t (← asAddr (a.tmps.getD b undef)) : Sem Value).run P w = .ok u w ∧ RepA M ρ v u := by
  cases r with
  | tmp t =>
    simp only [compRes, Option.some.injEq] at hc
    subst hc
    simp only [resOf, Option.some.injEq] at h
    subst h
    exact ⟨_, by simp, hsl t⟩
  | cell t ty =>
    simp only [compRes] at hc
    split at hc
    · rename_i ag sz ha hz
      simp only [Option.some.injEq] at hc
      subst hc
      simp only [resOf] at h
      split at h
      · rename_i id off hid
        split at h
        · rename_i cs hcs
          show ∃ u, (do loadVar ty (← asAddr (a.tmps.getD t undef)) : Sem Value).run P w = .ok u w ∧ RepA M ρ v u
          have hv := hsl t
          rw [hid] at hv
          have hch := hrel.ch id
          rw [hcs] at hch
          obtain ⟨l, b, vals, ty', fr, h1, h2, h3, h4, h5, h6⟩ := hch
          generalize a.tmps.getD t undef = vt at hv ⊢
          cases hv with
          | ptr _ _ l' b' h1' hb' =>
            rw [h1] at h1'; cases h1'; rw [h2] at hb'; cases hb'
            obtain ⟨u, hu, hr'⟩ := run_loadVar (P := P) (h5.drop off) (rangeAt_block h3 off) (fun u hu => h6 u (by simpa using List.mem_of_mem_drop hu)) ha hz h
            exact ⟨u, by simpa [asAddr] using hu, hr'⟩
        · cases h
      · cases h
    · cases hc
theorem run_mapM_list {α : Type} (f : α → Sem Value) : ∀ (l : List α) (us : List Value), l.length = us.length → (∀ (i : Nat) x u, l[i]? = some x → us[i]? = some u → (f x).run P w = .ok u w) → (l.mapM f).run P w = .ok us w
  | [], us, hl, h => by
    cases us with
    | nil => simp
    | cons u us => simp at hl
  | x :: l, us, hl, h => by
    cases us with
    | nil => simp at hl
    | cons u us =>
      have h0 := h 0 x u rfl rfl
      have h1 := run_mapM_list f l us (by simpa using hl) (fun i y v a b => h (i + 1) y v (by simpa using a) (by simpa using b))
      simp [List.mapM_cons, h0, h1]
theorem results_ok {s : St} {a : Act} (hrel : Rel w0 F M ρ s.hp w) (hsl : ∀ k, RepA M ρ (s.sl k) (a.tmps.getD k undef)) : ∀ {rs : List ResultVar} {cs : List CRes} {vs : List A}, mapOpt (compRes P) rs = some cs → resAll s cs = some vs →
    ∃ us : List Value, rs.length = us.length ∧ (∀ (i : Nat) r u, rs[i]? = some r → us[i]? = some u → (match r with | .tmp t => pure (a.tmps.getD t undef) | .cell b t => do loadVar t (← asAddr (a.tmps.getD b undef)) : Sem Value).run P w = .ok u w) ∧ RepAs M ρ vs us
  | [], cs, vs, hc, h => by
    simp only [mapOpt, Option.some.injEq] at hc
    subst hc
    simp only [resAll, Option.some.injEq] at h
    subst h
    exact ⟨[], rfl, by simp, RepAs.nil _ _⟩
  | r :: rs, cs, vs, hc, h => by
    simp only [mapOpt] at hc
    split at hc
    · rename_i c cs' h1 h2
      simp only [Option.some.injEq] at hc
      subst hc
      simp only [resAll] at h
      split at h
      · rename_i v vs' h3 h4
        simp only [Option.some.injEq] at h
        subst h
        obtain ⟨u, k1, k2⟩ := resOf_ok (a := a) hrel hsl h1 h3
        obtain ⟨us, j1, j2, j3⟩ := results_ok (a := a) hrel hsl h2 h4
        refine ⟨u :: us, by simp [j1], fun i r' u' hi hu => ?_, RepAs.cons k2 j3⟩
        cases i with
        | zero => simp at hi hu; subst hi hu; exact k1
        | succ i => exact j2 i r' u' (by simpa using hi) (by simpa using hu)
      · cases h
    · cases hc
theorem results_run {s : St} {a : Act} (hrel : Rel w0 F M ρ s.hp w) (hsl : ∀ k, RepA M ρ (s.sl k) (a.tmps.getD k undef)) {fn : Func} {cs : List CRes} {vs : List A} (hc : mapOpt (compRes P) fn.results.toList = some cs) (h : resAll s cs = some vs) :
    ∃ us : List Value, RepAs M ρ vs us ∧ (results fn a.tmps).run P w = .ok (if h : us.length = 1 then us[0] else .tuple us.toArray) w := by
  obtain ⟨us, h1, h2, h3⟩ := results_ok (a := a) hrel hsl hc h
  refine ⟨us, h3, ?_⟩
  have := run_mapM_list (P := P) (w := w) (fun r : ResultVar => (match r with | .tmp t => pure (a.tmps.getD t undef) | .cell b t => do loadVar t (← asAddr (a.tmps.getD b undef)) : Sem Value)) fn.results.toList us h1 h2
  unfold results
  rw [Sem.run_bind, Array.mapM_eq_mapM_toList, map_eq_pure_bind, Sem.run_bind]
  erw [this]
  simp only [Result.andThen_ok, Sem.run_pure]
  by_cases h : us.length = 1 <;> simp [h]
end
end Go.Vm
end
section
/- A call as a whole. -/
set_option linter.unusedVariables false
set_option linter.unusedSimpArgs false
set_option linter.unnecessarySimpa false
namespace Go.Vm
section
variable {P : Program} {w0 : World} {F M : Mem} {ρ : Rho} {hp hr : Heap} {w : World} {kf : Bool}
/-! ### References that stay within the first m -/
mutual
def below (m : Nat) : A → Prop
  | .ptr i _ | .row i | .sub i _ _ _ | .bs i _ _ _ | .ep i _ _ | .map i => i < m
  | .agg cs | .tup cs | .fn _ cs => belowL m cs
  | .d _ | .dp _ | .un => True
def belowL (m : Nat) : List A → Prop
  | [] => True
  | x :: xs => below m x ∧ belowL m xs
end
theorem idxIn_some : ∀ {ids : List Nat} {i n : Nat}, i ∈ ids → ∃ j, idxIn i ids n = some j ∧ n ≤ j ∧ j < n + ids.length
  | [], i, n, h => by simp at h
  | k :: r, i, n, h => by
    simp only [idxIn]
    by_cases hk : k = i
    · rw [if_pos hk]; exact ⟨n, rfl, Nat.le_refl _, by simp⟩
    · rw [if_neg hk]
      have : i ∈ r := by
        rcases List.mem_cons.1 h with h | h
        · exact absurd h.symm hk
        · exact h
      obtain ⟨j, h1, h2, h3⟩ := idxIn_some (n := n + 1) this
      exact ⟨j, h1, by omega, by simp; omega⟩
theorem fwd_some {ids : List Nat} {i : Nat} (h : ids.contains i = true) : ∃ j, fwd ids i = some j ∧ j < ids.length ∧ ids[j]? = some i := by
  obtain ⟨j, h1, h2, h3⟩ := idxIn_some (n := 0) (by simpa using h)
  exact ⟨j, h1, by omega, fwd_at h1⟩
mutual
theorem ren_below {ids : List Nat} : ∀ (x : A), allIn ids x = true → below ids.length (ren (fwd ids) x)
  | .ptr i o, h => by obtain ⟨j, h1, h2, _⟩ := fwd_some h; simp only [ren, h1]; exact h2
  | .row i, h => by obtain ⟨j, h1, h2, _⟩ := fwd_some h; simp only [ren, h1]; exact h2
  | .sub i a b c, h => by obtain ⟨j, h1, h2, _⟩ := fwd_some h; simp only [ren, h1]; exact h2
  | .bs i a b c, h => by obtain ⟨j, h1, h2, _⟩ := fwd_some h; simp only [ren, h1]; exact h2
  | .ep i a b, h => by obtain ⟨j, h1, h2, _⟩ := fwd_some h; simp only [ren, h1]; exact h2
  | .map i, h => by obtain ⟨j, h1, h2, _⟩ := fwd_some h; simp only [ren, h1]; exact h2
  | .agg cs, h => by simp only [ren, below]; exact renL_below cs h
  | .tup cs, h => by simp only [ren, below]; exact renL_below cs h
  | .fn f cs, h => by simp only [ren, below]; exact renL_below cs h
  | .d x, h => trivial
  | .dp x, h => trivial
  | .un, h => trivial
theorem renL_below {ids : List Nat} : ∀ (xs : List A), allInL ids xs = true → belowL ids.length (renL (fwd ids) xs)
  | [], h => trivial
  | x :: xs, h => by
    simp only [allInL, Bool.and_eq_true] at h
    exact ⟨ren_below x h.1, renL_below xs h.2⟩
end
mutual
theorem ren_back {ids all : List Nat} (hall : ∀ j, j < ids.length → all[j]? = ids[j]?) : ∀ (x : A), allIn ids x = true → ren (bwd all) (ren (fwd ids) x) = x
  | .ptr i o, h => by obtain ⟨j, h1, h2, h3⟩ := fwd_some h; simp only [ren, h1, bwd, hall j h2, h3]
  | .row i, h => by obtain ⟨j, h1, h2, h3⟩ := fwd_some h; simp only [ren, h1, bwd, hall j h2, h3]
  | .sub i a b c, h => by obtain ⟨j, h1, h2, h3⟩ := fwd_some h; simp only [ren, h1, bwd, hall j h2, h3]
  | .bs i a b c, h => by obtain ⟨j, h1, h2, h3⟩ := fwd_some h; simp only [ren, h1, bwd, hall j h2, h3]
  | .ep i a b, h => by obtain ⟨j, h1, h2, h3⟩ := fwd_some h; simp only [ren, h1, bwd, hall j h2, h3]
  | .map i, h => by obtain ⟨j, h1, h2, h3⟩ := fwd_some h; simp only [ren, h1, bwd, hall j h2, h3]
  | .agg cs, h => by simp only [ren]; rw [renL_back hall cs h]
  | .tup cs, h => by simp only [ren]; rw [renL_back hall cs h]
  | .fn f cs, h => by simp only [ren]; rw [renL_back hall cs h]
  | .d x, h => rfl
  | .dp x, h => rfl
  | .un, h => rfl
theorem renL_back {ids all : List Nat} (hall : ∀ j, j < ids.length → all[j]? = ids[j]?) : ∀ (xs : List A), allInL ids xs = true → renL (bwd all) (renL (fwd ids) xs) = xs
  | [], h => rfl
  | x :: xs, h => by
    simp only [allInL, Bool.and_eq_true] at h
    simp only [renL]
    rw [ren_back hall x h.1, renL_back hall xs h.2]
end
theorem idxIn_range {m : Nat} (t : List Nat) {i : Nat} (hi : i < m) : fwd (List.range m ++ t) i = some i := by
  have key : ∀ (k n : Nat) (hk : n ≤ i) (hk2 : i < n + k), idxIn i (List.range' n k ++ t) n = some i := by
    intro k
    induction k with
    | zero => intro n h1 h2; omega
    | succ k ih =>
      intro n h1 h2
      rw [List.range'_succ, List.cons_append]
      simp only [idxIn]
      by_cases he : n = i
      · rw [if_pos he, he]
      · rw [if_neg he]; exact ih (n + 1) (by omega) (by omega)
  rw [List.range_eq_range']
  exact key m 0 (Nat.zero_le _) (by omega)
mutual
theorem below_stay {m : Nat} (t : List Nat) : ∀ (x : A), below m x → ren (fwd (List.range m ++ t)) x = x
  | .ptr i o, h => by simp only [ren, idxIn_range t h]
  | .row i, h => by simp only [ren, idxIn_range t h]
  | .sub i a b c, h => by simp only [ren, idxIn_range t h]
  | .bs i a b c, h => by simp only [ren, idxIn_range t h]
  | .ep i a b, h => by simp only [ren, idxIn_range t h]
  | .map i, h => by simp only [ren, idxIn_range t h]
  | .agg cs, h => by simp only [ren]; rw [belowL_stay t cs h]
  | .tup cs, h => by simp only [ren]; rw [belowL_stay t cs h]
  | .fn f cs, h => by simp only [ren]; rw [belowL_stay t cs h]
  | .d x, h => rfl
  | .dp x, h => rfl
  | .un, h => rfl
theorem belowL_stay {m : Nat} (t : List Nat) : ∀ (xs : List A), belowL m xs → renL (fwd (List.range m ++ t)) xs = xs
  | [], h => rfl
  | x :: xs, h => by
    simp only [renL]
    rw [below_stay t x h.1, belowL_stay t xs h.2]
end
/-! ### What a run is to give -/
def RunOk (P : Program) (w0 : World) (run : RunF) : Prop := ∀ (F : Mem) (g : FuncId) (args : List A) (H : List Chunk) (r : A) (H' : List Chunk) (dirty : List Nat), run g args H = some (r, H', dirty) → (∀ i, i < H.length → Stay H.length (hpOf H i)) →
  ∀ (M : Mem) (ρ : Rho) (w : World) (vals : List Value), Rel w0 F M ρ (hpOf H) w → (∀ i l, ρ i = some l → i < H.length) → RepAs M ρ args vals →
    ∃ fn, P.funcs[g]? = some fn ∧ (fn.name == "runtime.NumGoroutine") = false ∧ fn.body.isNone = false ∧ ∀ post : Value → World → Prop,
      (∀ M' ρ' v' w', MemLe M M' → (∀ i, i < H.length → ρ' i = ρ i) → (∀ i l, ρ' i = some l → i < H'.length) → H.length ≤ H'.length → RepA M' ρ' r v' → Rel w0 F M' ρ' (hpOf H') w' → (∀ i, i < H.length → i ∉ dirty → hpOf H' i = hpOf H i) → post v' w') →
      Calls P g vals.toArray w (fun e w' => ∃ v', e = .returned v' ∧ post v' w')
/-- A copy of a slice in new memory. -/
def CloneOk (P : Program) (w0 : World) (g : FuncId) (sz : Nat) : Prop := ∀ (F M : Mem) (ρ : Rho) (hp hr : Heap) (w : World) (x : A) (v : Value) (ysz : Nat) (ys : List (List D)) (nb : Nat), Rel w0 F M ρ hp w → Sub hr hp → RepA M ρ x v → view hr x = some (ysz, ys) → okSz sz ysz ys = true → ys.length ≤ 1099511627776 → notStr x = true → (∀ i, nb ≤ i → i < nb + 8 → ρ i = none) →
    ∃ fn, P.funcs[g]? = some fn ∧ (fn.name == "runtime.NumGoroutine") = false ∧ fn.body.isNone = false ∧ ∀ post : Value → World → Prop,
      (∀ M' ρ' v' w', MemLe M M' → RhoLe ρ ρ' → (∀ i l, ρ' i = some l → ρ i = some l ∨ (nb ≤ i ∧ i < nb + 8)) → RepA M' ρ' (.row nb) v' → Rel w0 F M' ρ' (upd hp nb (.row sz false ys)) w' → post v' w') →
      Calls P g #[v] w (fun e w' => ∃ v', e = .returned v' ∧ post v' w')
theorem Rel.less (hrel : Rel w0 F M ρ hp w) (hs : Sub hr hp) : Rel w0 F M ρ hr w := by
  have key : ∀ i b, Owns ρ i (hr i) b → Owns ρ i (hp i) b := fun i b h => by
    rcases hs i with e | e
    · rw [← e]; exact h
    · rw [e] at h; exact h.elim
  exact ⟨hrel.os, hrel.tape, hrel.output, hrel.size, hrel.mem, hrel.frm, hrel.mf, fun i => hrel.chr hs i, fun i b h => hrel.own i b (key i b h), fun i j b h h' => hrel.sep i j b (key i b h) (key j b h')⟩
open Classical in
/-- What a call must not touch: what it must not touch already, and the blocks of what is not handed over. -/
noncomputable def frameOf (F : Mem) (ρ : Rho) (hp hr : Heap) (w : World) (ids : List Nat) : Mem := fun k =>
  match F k with
  | some o => some o
  | none => if ∃ j, Owns ρ j (hp j) k ∧ ¬ (j ∈ ids ∧ hr j ≠ .dead) then w.heap[k]? else none
theorem frameOf_old {ids : List Nat} {k : Nat} {o : Obj} (h : F k = some o) : frameOf F ρ hp hr w ids k = some o := by simp [frameOf, h]
theorem frameOf_none {ids : List Nat} {k : Nat} (h : F k = none) (hn : ∀ j, Owns ρ j (hp j) k → j ∈ ids ∧ hr j ≠ .dead) : frameOf F ρ hp hr w ids k = none := by
  simp only [frameOf, h]
  rw [if_neg]
  rintro ⟨j, h1, h2⟩
  exact h2 (hn j h1)
theorem frameOf_back {ids : List Nat} {k : Nat} (h : frameOf F ρ hp hr w ids k = none) : F k = none := by
  cases hF : F k with
  | none => rfl
  | some o => rw [frameOf_old hF] at h; cases h
theorem frameOf_new (hrel : Rel w0 F M ρ hp w) {ids : List Nat} {j b : Nat} (ho : Owns ρ j (hp j) b) (hn : ¬ (j ∈ ids ∧ hr j ≠ .dead)) {o : Obj} (hb : w.heap[b]? = some o) : frameOf F ρ hp hr w ids b = some o := by
  have hF := (hrel.own j b ho).2
  simp only [frameOf, hF]
  rw [if_pos ⟨j, ho, hn⟩, hb]
/-- The callee's view of the world. -/
theorem Rel.hand (hrel : Rel w0 F M ρ hp w) (hs : Sub hr hp) {ids : List Nat} (hn : ids.Nodup) : Rel w0 (frameOf F ρ hp hr w ids) M (rhoOf ρ ids) (hpOf (packL hr ids)) w := by
  have h := (hrel.less hs).renum hn
  have hown : ∀ k b, Owns (rhoOf ρ ids) k (hpOf (packL hr ids) k) b → ∃ i, i ∈ ids ∧ hr i ≠ .dead ∧ Owns ρ i (hp i) b := fun k b h => by
    rw [packL_at] at h
    cases hk : ids[k]? with
    | none => rw [hk] at h; exact h.elim
    | some i =>
      rw [hk] at h
      have h' := renC_owns (ρ := ρ) (i := i) (by simp [rhoOf, hk]) h
      rcases hs i with e | e
      · refine ⟨i, List.mem_of_getElem? hk, fun hd => ?_, by rw [← e]; exact h'⟩
        rw [hd] at h'; exact h'.elim
      · rw [e] at h'; exact h'.elim
  refine ⟨h.os, h.tape, h.output, h.size, h.mem, fun k o e => ?_, fun k o e => ?_, h.ch, fun k b ho => ⟨(h.own k b ho).1, ?_⟩, h.sep⟩
  · unfold frameOf at e
    split at e
    · rename_i o' hF; cases e; exact hrel.frm _ _ hF
    · split at e
      · exact e
      · cases e
  · refine frameOf_none (hrel.mf _ _ e) (fun j hj => ?_)
    have := (hrel.own j k hj).1
    rw [e] at this; cases this
  · obtain ⟨i, h1, h2, h3⟩ := hown k b ho
    refine frameOf_none (hrel.own i b h3).2 (fun j hj => ?_)
    obtain rfl := hrel.sep j i b hj h3
    exact ⟨h1, h2⟩
open Classical in
/-- The places behind a call, by the caller's numbers. -/
noncomputable def rhoBack (ρ ρ' : Rho) (nb k0 : Nat) : Rho := fun i => match ρ i with
  | some l => some l
  | none => if nb ≤ i then ρ' (k0 + (i - nb)) else none
theorem rhoBack_old {ρ ρ' : Rho} {nb k0 i : Nat} {l : Loc} (h : ρ i = some l) : rhoBack ρ ρ' nb k0 i = some l := by simp [rhoBack, h]
theorem backW_not {all : List Nat} {k0 : Nat} {dirty : List Nat} : ∀ (H : List Chunk) (k : Nat) (hp : Heap) {i : Nat}, (∀ j, k ≤ j → j < k + H.length → ¬ (j < k0 ∧ j ∉ dirty) → all[j]? ≠ some i) → k + H.length ≤ all.length → applyW hp (backW all k0 dirty H k) i = hp i
  | [], k, hp, i, h, hl => rfl
  | c :: H, k, hp, i, h, hl => by
    simp only [List.length_cons] at hl h
    have hgo : ∀ hp, applyW hp (backW all k0 dirty H (k + 1)) i = hp i := fun hp => backW_not H (k + 1) hp (fun j h1 h2 => h j (by omega) (by omega)) (by omega)
    simp only [backW]
    split
    · exact hgo hp
    · rename_i hne
      show applyW (upd hp _ _) _ i = hp i
      rw [hgo, upd_ne]
      intro e
      refine h k (Nat.le_refl _) (by omega) (fun hc => hne ?_) ?_
      · simp [hc.1, hc.2]
      · rw [e, List.getD_eq_getElem?_getD, List.getElem?_eq_getElem (by omega)]
        rfl
theorem backW_at {all : List Nat} {k0 : Nat} {dirty : List Nat} : ∀ (H : List Chunk) (k : Nat) (hp : Heap) {i j : Nat}, all.Nodup → k + H.length ≤ all.length → k ≤ j → j < k + H.length → ¬ (j < k0 ∧ j ∉ dirty) → all[j]? = some i →
    applyW hp (backW all k0 dirty H k) i = renC (bwd all) (hpOf H (j - k))
  | [], k, hp, i, j, hnd, hl, h1, h2, h3, h4 => by simp at h2; omega
  | c :: H, k, hp, i, j, hnd, hl, h1, h2, h3, h4 => by
    simp only [List.length_cons] at hl h2
    by_cases hjk : j = k
    · subst hjk
      have hne : (decide (j < k0) && !dirty.contains j) = false := by
        rw [Bool.eq_false_iff]
        intro h
        simp only [Bool.and_eq_true, decide_eq_true_eq, Bool.not_eq_true', List.contains_eq_mem, decide_eq_false_iff_not] at h
        exact h3 h
      simp only [backW, hne, Bool.false_eq_true, if_false]
      have hi : all.getD j 0 = i := by simp [List.getD_eq_getElem?_getD, h4]
      rw [hi]
      show applyW (upd hp i _) _ i = _
      rw [backW_not H (j + 1) _ (fun j' hj1 hj2 _ e => ?_) (by omega), upd_same]
      · simp [hpOf]
      · have := (List.getElem?_inj (List.getElem?_eq_some_iff.1 h4).1 hnd).1 (h4.trans e.symm)
        omega
    · have hgo : ∀ hp, applyW hp (backW all k0 dirty H (k + 1)) i = renC (bwd all) (hpOf (c :: H) (j - k)) := fun hp => by
        rw [backW_at H (k + 1) hp hnd (by omega) (by omega) (by omega) h3 h4]
        rw [show j - k = (j - (k + 1)) + 1 by omega]
        rfl
      simp only [backW]
      split
      · exact hgo hp
      · exact hgo _
/-- A function of the program, compiled. -/
def FnOk (P : Program) (g : FuncId) (cf : CF) : Prop := ∃ fn code, P.funcs[g]? = some fn ∧ (fn.name == "runtime.NumGoroutine") = false ∧ fn.body = some code ∧ compCode P fn.ntmps code = some cf.body.strip ∧ mapOpt (compRes P) fn.results.toList = some cf.res
def ProgOk (P : Program) (w0 : World) (prog : FuncId → Option CF) : Prop := ∀ g cf, prog g = some cf → FnOk P g cf ∧ ∀ sz, cf.clone = some sz → CloneOk P w0 g sz
theorem stay_of (m : Nat) {c : Chunk} (h : ∀ cs, c = .box cs → belowL m cs) : Stay m c := fun t => by
  cases c with
  | box cs => simp only [renC]; rw [belowL_stay t cs (h cs rfl)]
  | _ => rfl
theorem callOf_ok {prog : FuncId → Option CF} {run : RunF} (hprog : ProgOk P w0 prog) (hrun : RunOk P w0 run) : CallOk P w0 F (callOf kf prog run) := by
  intro g args hr nb v ws h hp M ρ w vals hrel hs hfr hx
  unfold callOf at h
  split at h
  · cases h
  · rename_i cg hcg
    split at h
    · rename_i sz hclone
      split at h
      · rename_i x
        split at h
        · rename_i ysz ys hv
          split at h
          · rename_i hc
            simp only [Option.some.injEq, Prod.mk.injEq] at h
            obtain ⟨rfl, rfl⟩ := h
            simp only [Bool.and_eq_true, decide_eq_true_eq] at hc
            obtain ⟨u, us, rfl, hu, hus⟩ := hx.cases_cons
            have : us = [] := List.eq_nil_of_length_eq_zero (by have := hus.1; simpa using this.symm)
            subst this
            obtain ⟨fn, h1, h2, h3, h4⟩ := (hprog g cg hcg).2 sz hclone F M ρ hp hr w x u ysz ys nb hrel hs hu hv hc.1.1 hc.1.2 hc.2 hfr
            refine ⟨fn, h1, h2, h3, fun post hpost => ?_⟩
            have := h4 post (fun M' ρ' v' w' a1 a2 a3 a4 a5 => hpost M' ρ' v' w' a1 a2 (fun i l hi => a3 i l hi) a4 a5)
            simpa using this
          · cases h
        · cases h
      · cases h
    · simp only at h
      obtain ⟨M1, m1, m2, m3⟩ := freezeR_ok (kf := kf) (rows := cg.rowArgs) (i := 0) hrel hs hx
      generalize freezeR kf cg.rowArgs args 0 hr = q at h m2 m3
      have hs1 := hs.apply q.2
      generalize hids : reach (applyW hr q.2) 1000 q.1 [] = ids at h
      have hnd : ids.Nodup := by rw [← hids]; exact (reach_ok _ _ _ _ List.nodup_nil).1
      generalize hF1 : applyW hp q.2 = hpF at m3 hs1
      generalize applyW hr q.2 = hp1 at h hs1
      split at h
      · rename_i hall
        simp only [List.all_eq_true, Bool.and_eq_true, decide_eq_true_eq] at hall
        split at h
        · cases h
        · rename_i r H' dirty hr'
          split at h
          · rename_i hlen
            simp only [Bool.and_eq_true, decide_eq_true_eq] at hlen
            simp only [Option.some.injEq, Prod.mk.injEq] at h
            obtain ⟨rfl, rfl⟩ := h
            have hplen : (packL hp1 ids).length = ids.length := by simp [packL]
            have hrelc := m3.hand hs1 hnd
            have hrepc : RepAs M1 (rhoOf ρ ids) (renL (fwd ids) q.1) vals := renL_rep rhoOf_fwd m2
            obtain ⟨fn, g1, g2, g3, g4⟩ := hrun _ g _ _ _ _ _ hr' (fun i hi => by
              rw [packL_at]
              cases hk : ids[i]? with
              | none => exact fun t => rfl
              | some j =>
                refine stay_of _ (fun cs hcs => ?_)
                simp only at hcs
                have hj := (hall j (List.mem_of_getElem? hk)).2
                cases hcj : hp1 j with
                | box ds =>
                  rw [hcj] at hcs hj
                  simp only [renC, Chunk.box.injEq] at hcs
                  subst hcs
                  rw [hplen]; exact renL_below ds hj
                | _ => rw [hcj] at hcs; simp [renC] at hcs) M1 (rhoOf ρ ids) w vals hrelc (fun i l hi => by
              rw [hplen]
              refine Classical.byContradiction fun hne => ?_
              simp only [rhoOf] at hi
              rw [List.getElem?_eq_none (by omega)] at hi
              cases hi) hrepc
            refine ⟨fn, g1, g2, g3, fun post hpost => g4 post (fun M' ρ' v' w' b1 b2 b3 b4 b5 b6 b7 => ?_)⟩
            rw [hplen] at b2 b4 b7
            generalize hall' : ids ++ (List.range (H'.length - ids.length)).map (nb + ·) = all at hpost ⊢
            have hal : all.length = H'.length := by rw [← hall']; simp; omega
            have hlo : ∀ k, k < ids.length → all[k]? = ids[k]? := fun k hk => by rw [← hall', List.getElem?_append_left hk]
            have hhi : ∀ k, ids.length ≤ k → k < H'.length → all[k]? = some (nb + (k - ids.length)) := fun k h1 h2 => by
              rw [← hall', List.getElem?_append_right h1, List.getElem?_map, List.getElem?_range (by omega)]
              rfl
            have hand : all.Nodup := by
              rw [← hall', List.nodup_append]
              refine ⟨hnd, ?_, fun a ha b hb => ?_⟩
              · rw [List.Nodup, List.pairwise_map]
                exact (List.pairwise_lt_range).imp (fun h => by omega)
              · obtain ⟨c, _, rfl⟩ := List.mem_map.1 hb
                have := (hall a ha).1
                omega
            have hback : ∀ k i, all[k]? = some i → k < H'.length → rhoBack ρ ρ' nb ids.length i = ρ' k := fun k i hk hkl => by
              by_cases hk0 : k < ids.length
              · rw [hlo k hk0] at hk
                have e : ρ' k = ρ i := by rw [b2 k hk0]; simp [rhoOf, hk]
                rw [e]
                cases hρ : ρ i with
                | some l => exact rhoBack_old hρ
                | none =>
                  have := (hall i (List.mem_of_getElem? hk)).1
                  simp only [rhoBack, hρ]
                  rw [if_neg (by omega)]
              · rw [hhi k (by omega) hkl] at hk
                cases hk
                have hρ := hfr (nb + (k - ids.length)) (by omega) (by omega)
                simp only [rhoBack, hρ]
                rw [if_pos (by omega), show ids.length + (nb + (k - ids.length) - nb) = k by omega]
            have hσ : ∀ i j l, bwd all i = some j → ρ' i = some l → rhoBack ρ ρ' nb ids.length j = some l := fun i j l hi hl => by
              rw [hback i j hi (by have := (List.getElem?_eq_some_iff.1 hi).1; omega)]; exact hl
            have hρle : RhoLe ρ (rhoBack ρ ρ' nb ids.length) := fun i l hi => rhoBack_old hi
            refine hpost M' (rhoBack ρ ρ' nb ids.length) v' w' (m1.trans b1) hρle (fun i l hi => ?_) (ren_rep hσ b5) ?_
            · cases hρ : ρ i with
              | some l' => left; rw [rhoBack_old hρ] at hi; exact hi
              | none =>
                right
                simp only [rhoBack, hρ] at hi
                split at hi
                · rename_i hn
                  have := b3 _ _ hi
                  omega
                · cases hi
            · rw [applyW_append, hF1]
              have cls : ∀ i, (∃ k, k < H'.length ∧ all[k]? = some i ∧ applyW hpF (backW all ids.length dirty H' 0) i = renC (bwd all) (hpOf H' k)) ∨
                  (applyW hpF (backW all ids.length dirty H' 0) i = hpF i ∧ ¬ (i ∈ ids ∧ hp1 i ≠ .dead)) := fun i => by
                by_cases hw : ∃ k, k < H'.length ∧ all[k]? = some i ∧ ¬ (k < ids.length ∧ k ∉ dirty)
                · obtain ⟨k, k1, k2, k3⟩ := hw
                  exact .inl ⟨k, k1, k2, by rw [backW_at H' 0 hpF hand (by omega) (Nat.zero_le _) (by omega) k3 k2]; rfl⟩
                · have hsame := backW_not (all := all) (k0 := ids.length) (dirty := dirty) H' 0 hpF (i := i) (fun j _ h2 h3 e => hw ⟨j, by omega, e, h3⟩) (by omega)
                  by_cases hl : i ∈ ids ∧ hp1 i ≠ .dead
                  · obtain ⟨k, hk⟩ := List.mem_iff_getElem?.1 hl.1
                    have hk0 := (List.getElem?_eq_some_iff.1 hk).1
                    have hkd : k ∉ dirty := fun hd => hw ⟨k, by omega, by rw [hlo k hk0]; exact hk, fun h => h.2 hd⟩
                    refine .inl ⟨k, by omega, by rw [hlo k hk0]; exact hk, ?_⟩
                    rw [hsame, b7 k hk0 hkd, packL_at, hk]
                    have hFi : hpF i = hp1 i := by
                      rcases hs1 i with e | e
                      · exact e.symm
                      · exact absurd e hl.2
                    rw [hFi]
                    have hj := (hall i hl.1).2
                    cases hcj : hp1 i with
                    | box ds =>
                      rw [hcj] at hj
                      simp only [hcj, renC]
                      rw [renL_back hlo ds hj]
                    | _ => simp only [hcj, renC]
                  · exact .inr ⟨hsame, hl⟩
              have own1 : ∀ i k b, k < H'.length → all[k]? = some i → Owns (rhoBack ρ ρ' nb ids.length) i (renC (bwd all) (hpOf H' k)) b → Owns ρ' k (hpOf H' k) b := fun i k b h1 h2 h3 => renC_owns (hback k i h2 h1) h3
              have own2 : ∀ i b, Owns (rhoBack ρ ρ' nb ids.length) i (hpF i) b → Owns ρ i (hpF i) b := fun i b h => Owns.back hρle (m3.ch i) h
              have blk : ∀ i b, Owns ρ i (hpF i) b → ¬ (i ∈ ids ∧ hp1 i ≠ .dead) → ∃ o, w.heap[b]? = some o ∧ frameOf F ρ hpF hp1 w ids b = some o := fun i b h hn => by
                obtain ⟨o, ho⟩ := Owns.block (m3.ch i) h
                exact ⟨o, ho, frameOf_new m3 h hn ho⟩
              refine ⟨b6.os, b6.tape, b6.output, b6.size, b6.mem, fun k o e => b6.frm k o (frameOf_old e), fun k o e => frameOf_back (b6.mf k o e), fun i => ?_, fun i b ho => ?_, fun i j b hi hj => ?_⟩
              · rcases cls i with ⟨k, k1, k2, k3⟩ | ⟨k1, k2⟩
                · rw [k3]
                  exact renC_rep hσ (fun l hl => by rw [hback k i k2 k1]; exact hl) (b6.ch k)
                · rw [k1]
                  refine (m3.ch i).mono b1 hρle (fun b o ho hb => ?_)
                  obtain ⟨o', h1, h2⟩ := blk i b ho k2
                  rw [hb] at h1; cases h1
                  exact b6.frm b o h2
              · rcases cls i with ⟨k, k1, k2, k3⟩ | ⟨k1, k2⟩
                · rw [k3] at ho
                  have := b6.own k b (own1 i k b k1 k2 ho)
                  exact ⟨this.1, frameOf_back this.2⟩
                · rw [k1] at ho
                  have ho' := own2 i b ho
                  obtain ⟨o', h1, h2⟩ := blk i b ho' k2
                  refine ⟨?_, (m3.own i b ho').2⟩
                  cases hm : M' b with
                  | none => rfl
                  | some o => have := b6.mf b o hm; rw [h2] at this; cases this
              · rcases cls i with ⟨k, k1, k2, k3⟩ | ⟨k1, k2⟩ <;> rcases cls j with ⟨k', j1, j2, j3⟩ | ⟨j1, j2⟩
                · rw [k3] at hi; rw [j3] at hj
                  have := b6.sep k k' b (own1 i k b k1 k2 hi) (own1 j k' b j1 j2 hj)
                  subst this
                  rw [k2] at j2; cases j2; rfl
                · rw [k3] at hi; rw [j1] at hj
                  have h1 := (b6.own k b (own1 i k b k1 k2 hi)).2
                  obtain ⟨o', _, h2⟩ := blk j b (own2 j b hj) j2
                  rw [h1] at h2; cases h2
                · rw [k1] at hi; rw [j3] at hj
                  have h1 := (b6.own k' b (own1 j k' b j1 j2 hj)).2
                  obtain ⟨o', _, h2⟩ := blk i b (own2 i b hi) k2
                  rw [h1] at h2; cases h2
                · rw [k1] at hi; rw [j1] at hj
                  exact m3.sep i j b (own2 i b hi) (own2 j b hj)
          · cases h
      · cases h
end
end Go.Vm
end
section
/- A copy of a slice: what 'append' to a slice with no room gives. -/
set_option linter.unusedVariables false
set_option linter.unusedSimpArgs false
namespace Go.Vm
section
variable {P : Program} {w0 w w' : World} {F M : Mem} {ρ : Rho} {hp hr : Heap} {nb : Nat}
theorem Rel.onward (h : Rel w0 F M ρ hp w) (h1 : w'.os = w.os) (h2 : w'.tape = w.tape) (h3 : w'.output = w.output) (h4 : w.heap.size ≤ w'.heap.size)
    (h5 : ∀ (k : Nat) o, w.heap[k]? = some o → w'.heap[k]? = some o) : Rel w0 F M ρ hp w' :=
  ⟨h1.trans h.os, h2.trans h.tape, h3.trans h.output, Nat.le_trans h.size h4, fun k o e => h5 k o (h.mem k o e), fun k o e => h5 k o (h.frm k o e), h.mf,
   fun i => (h.ch i).mono (MemLe.refl _) (RhoLe.refl _) (fun b o _ e => h5 b o e), h.own, h.sep⟩
theorem Rel.alloc (h : Rel w0 F M ρ hp w) (o : Obj) : Rel w0 F M ρ hp (w.alloc o) :=
  h.onward rfl rfl rfl (by show _ ≤ (w.heap.push o).size; simp) (fun k x e => by rw [heap_alloc_old w o _ (block_lt e)]; exact e)
theorem copy_ok (hrel : Rel w0 F M ρ hp w) (hs : Sub hr hp) (hfr : ∀ i, nb ≤ i → i < nb + 8 → ρ i = none) {x : A} {v : Value} {ysz : Nat} {ys : List (List D)} (hx : RepA M ρ x v) (hv : view hr x = some (ysz, ys)) (hlen : ys.length ≤ 1099511627776) (ty : TypeId) {t tx e : TypeId} {i : TypeInfo} {z : List D}
    (hok : okSz i.size ysz ys = true) (ht : P.underlying t = some (.slice e)) (hk : (∃ e', P.underlying tx = some (.slice e')) ∨ P.underlying tx = some .string) (hi : P.info? e = some i) (hz : zeroD P e = some z) (hzl : z.length = i.size) (hb : i.bytes ≤ 128) {base : Option Addr} (hbase : ∀ a, base = some a → a.spot = none) :
    OpOk P w0 F M ρ hp nb (Builtin.append_ #[t, tx] ty #[.slice base 0 0, v]) w (.row nb) [(nb, .row i.size false ys)] := by
  have hnb : ρ nb = none := hfr nb (Nat.le_refl _) (by omega)
  by_cases hem : ys = []
  · subst hem
    obtain ⟨news, h1, h2, h3, h4, h5⟩ := shows_src (P := P) (view_rep hrel hs hx hv) hok
    have hsrc := src_of (tx := tx) hk h1 h2 h4 h5
    have hn : news = [] := List.eq_nil_of_length_eq_zero (by simpa using h2)
    subst hn
    have hrun := run_append_nothing w t tx ty e i ht hi base 0 0 (Nat.le_refl _) v hsrc
    refine ⟨M, upd ρ nb (some ⟨base, 0, 0, i.size⟩), _, w, hrun, MemLe.refl _, RhoLe.upd hnb, fun j l hj => ?_, ?_, ?_⟩
    · rcases upd_dom hj with h | h
      · exact .inl h
      · right; omega
    · exact RepA.row (M := M) nb _ (upd_same ρ nb (some ⟨base, 0, 0, i.size⟩))
    · refine hrel.adopt hnb _ ?_ ?_
      · exact ⟨_, upd_same _ _ _, rfl, rfl, Nat.le_refl _, fun _ => rfl, by simp, hbase, .inl rfl⟩
      · intro b' ho
        obtain ⟨l, a, q1, q2, q3, q4⟩ := ho
        rw [upd_same] at q1; cases q1
        exact absurd rfl q4
  · have hx0 : RepA M ρ (.d (.sl .full i.size [])) (.slice base 0 0) :=
      .d (.sl .full [] base 0 0 i.size (fun _ _ => undef) rfl (Nat.le_refl _) rfl hbase (by simp) (by simp) (by simp))
    have hbig : ys.length * i.bytes ≤ 140737488355328 := by
      have := Nat.mul_le_mul hlen hb; omega
    refine ok_app (kf := false) (cf := fun _ _ _ _ => none) hrel hs hfr hx0 hx ty ht hk hi hz hzl ?_
    simp only [aop, hv, hok]
    rw [if_pos trivial, if_neg (by simpa using hem), if_pos (by
      refine ⟨rfl, by simp [okSz], ?_, ?_⟩
      · simpa using hbig
      · simp; omega)]
    simp
theorem view_slice (hrel : Rel w0 F M ρ hp w) (hs : Sub hr hp) {x : A} {v : Value} {ysz sz : Nat} {ys : List (List D)} (hx : RepA M ρ x v) (hv : view hr x = some (ysz, ys)) (hns : notStr x = true) (hok : okSz sz ysz ys = true) (hsz : 0 < sz) :
    ∃ base cap, v = .slice base ys.length cap ∧ (base = none → ys = []) := by
  rcases view_rep hrel hs hx hv with ⟨s, rfl, _, _⟩ | ⟨base, cap, rfl, h1, _, h3⟩
  · cases hx with
    | d h => cases h; simp [notStr] at hns
    | un => simp [view] at hv
  · refine ⟨base, cap, rfl, fun hb => ?_⟩
    rcases Classical.em (ys.flatten = []) with e | e
    · cases ys with
      | nil => rfl
      | cons c ys =>
        have h4 := h1 c (List.mem_cons_self ..)
        simp [okSz] at hok
        subst hok
        simp at e
        rw [e.1] at h4; simp at h4; omega
    · obtain ⟨a, ha⟩ := h3 e
      rw [hb] at ha; cases ha
theorem ops_step {ops : Array Oper} {Q : Exit → Act → World → Prop} {i : Nat} {rest : List Nat} {a : Act} {o : Oper} (ho : ops[i]? = some o) (hg : o.guard = none) (h : o.wp P a w (wpOps P ops Q rest) Q) : wpOps P ops Q (i :: rest) a w := by
  simp only [wpOps, ho, Region.wanted, hg]
  exact .inl h
theorem op_val {o : Oper} {a : Act} {next : Act → World → Prop} {Q : Exit → Act → World → Prop} {v : Value} (hr : (execOp a.eval o).run P w = .ok (.value v) w') (h : next (a.put o.dst v) w') : o.wp P a w next Q := by
  unfold Oper.wp; rw [hr]; exact h
theorem op_app {o : Oper} {a : Act} {next : Act → World → Prop} {Q : Exit → Act → World → Prop} {c : Call} (ho : o.op = .call c) (hb : c.callee = .builtin .append) {args : List Value} (ha : c.args.toList.map a.eval = args) {ats : Array TypeId} (ht : c.argTypes = ats) {v : Value}
    (hr : (Builtin.append_ ats o.type args.toArray).run P w = .ok v w') (h : next (a.put o.dst v) w') : o.wp P a w next Q := by
  refine op_val ?_ h
  have e : c.args.map a.eval = args.toArray := by apply Array.ext'; simp [ha]
  simp only [execOp, ho, resolve, hb, invoke]
  show ((builtin .append c.argTypes o.type (c.args.map fun | .const _ => true | _ => false) (c.args.map a.eval))).run P w = _
  rw [e, ht]
  show ((do pure (Next.value (← Builtin.append_ ats o.type args.toArray))) : Sem Next).run P w = _
  simp [hr]
end
end Go.Vm
end
