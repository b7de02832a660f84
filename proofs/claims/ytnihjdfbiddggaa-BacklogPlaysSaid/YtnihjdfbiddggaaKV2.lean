/- A part of the proof of BacklogPlaysSaid: VmOpA VmOpB VmOpC VmOpD VmOpE VmOpF VmOpG. -/
import Derived.Test.YtnihjdfbiddggaaKV1
import Derived.Laws.StructEq
import Derived.Deep.MidRow
import Derived.Deep.AppendSrc
import Derived.Lib.FrozenHead
section
/- The operations, one by one: what the evaluator gives, the model gives. First part: operands, and what leaves the world alone. -/
set_option linter.unusedVariables false
set_option linter.unusedSimpArgs false
namespace Go.Vm

theorem RepD.one {M : Mem} {d : D} {v : Value} (h : RepD M d v) : v.oneCell' = true := by cases h <;> rfl
theorem ofVal_rep {M : Mem} {ρ : Rho} {v : Value} {x : A} (h : ofVal v = some x) : RepA M ρ x v := by
  unfold ofVal at h
  split at h <;> first
    | (simp only [Option.some.injEq] at h; subst h)
    | cases h
  · exact .d (.int _ _)
  · exact .d (.bool _)
  · exact .d (.str _)
  · exact .d (.sl .nil [] none 0 0 0 (fun _ _ => undef) rfl (by simp) ⟨rfl, rfl, rfl⟩ (by simp) (by simp) (by simp) (by simp))
  · exact .d .nilp
  · exact .d .nilf
  · exact .d .nilm
  · exact .un _
theorem opd_rep {M : Mem} {ρ : Rho} {sl : Nat → A} {a : Act} (hsl : ∀ k, RepA M ρ (sl k) (a.tmps.getD k undef)) {x : Operand} {c : COpd} (h : compOpd x = some c) : RepA M ρ (val sl c) (a.eval x) := by
  cases x with
  | tmp t => simp [compOpd] at h; subst h; exact hsl t
  | const v =>
    simp only [compOpd, Option.map_eq_some_iff] at h
    obtain ⟨y, h1, rfl⟩ := h
    exact ofVal_rep h1
  | func f => simp [compOpd] at h; subst h; exact .fn f [] #[] rfl (by simp)
  | global g => simp [compOpd] at h
theorem mapOpt_len {α β : Type} {f : α → Option β} : ∀ {xs : List α} {ys : List β}, mapOpt f xs = some ys → xs.length = ys.length
  | [], ys, h => by simp [mapOpt] at h; subst h; rfl
  | x :: xs, ys, h => by
    simp only [mapOpt] at h
    split at h
    · rename_i y ys' h1 h2
      cases h
      simp [mapOpt_len h2]
    · cases h
theorem mapOpt_at {α β : Type} {f : α → Option β} : ∀ {xs : List α} {ys : List β}, mapOpt f xs = some ys → ∀ (i : Nat) x, xs[i]? = some x → ∃ y, ys[i]? = some y ∧ f x = some y
  | [], ys, h, i, x, hi => by simp at hi
  | z :: xs, ys, h, i, x, hi => by
    simp only [mapOpt] at h
    split at h
    · rename_i y ys' h1 h2
      cases h
      cases i with
      | zero => simp at hi; subst hi; exact ⟨y, rfl, h1⟩
      | succ i => exact mapOpt_at h2 i x (by simpa using hi)
    · cases h
theorem opds_rep {M : Mem} {ρ : Rho} {sl : Nat → A} {a : Act} (hsl : ∀ k, RepA M ρ (sl k) (a.tmps.getD k undef)) {xs : List Operand} {cs : List COpd} (h : mapOpt compOpd xs = some cs) : RepAs M ρ (cs.map (val sl)) (xs.map a.eval) := by
  refine ⟨by simp [mapOpt_len h], fun i x v h1 h2 => ?_⟩
  rw [List.getElem?_map, Option.map_eq_some_iff] at h1 h2
  obtain ⟨c, hc, rfl⟩ := h1
  obtain ⟨y, hy, rfl⟩ := h2
  obtain ⟨c', hc', h3⟩ := mapOpt_at h i y hy
  rw [hc] at hc'; cases hc'
  exact opd_rep hsl h3

section
variable {P : Program} {w0 : World} {F M : Mem} {ρ : Rho} {hp hr : Heap} {w : World} {nb : Nat}

/-- What an operation's success says: the value, the world behind it. -/
def OpOk (P : Program) (w0 : World) (F M : Mem) (ρ : Rho) (hp : Heap) (nb : Nat) (s : Sem Value) (w : World) (v : A) (ws : Writes) : Prop :=
  ∃ M' ρ' v' w', s.run P w = .ok v' w' ∧ MemLe M M' ∧ RhoLe ρ ρ' ∧ (∀ i l, ρ' i = some l → ρ i = some l ∨ (nb ≤ i ∧ i < nb + 8)) ∧ RepA M' ρ' v v' ∧ Rel w0 F M' ρ' (applyW hp ws) w'
theorem OpOk.pure (hrel : Rel w0 F M ρ hp w) {s : Sem Value} {v' : Value} {v : A} (h : s.run P w = .ok v' w) (hv : RepA M ρ v v') : OpOk P w0 F M ρ hp nb s w v [] :=
  ⟨M, ρ, v', w, h, MemLe.refl _, RhoLe.refl _, fun i l hi => .inl hi, hv, hrel⟩

theorem rep_bool {t : Bool} {v : Value} (h : RepA M ρ (.d (.bool t)) v) : v = .bool t := by cases h with | d h => cases h; rfl
theorem rep_int {k : IntKind} {n : Int} {v : Value} (h : RepA M ρ (.d (.int k n)) v) : v = .int k n := by cases h with | d h => cases h; rfl
theorem rep_str {s : ByteArray} {v : Value} (h : RepA M ρ (.d (.str s)) v) : v = .string s := by cases h with | d h => cases h; rfl
theorem rep_nilp {v : Value} (h : RepA M ρ (.d .nilp) v) : v = .pointer none := by cases h with | d h => cases h; rfl

theorem ok_pick (hrel : Rel w0 F M ρ hp w) {c a b v : A} {ws : Writes} {vc va vb : Value} (hc : RepA M ρ c vc) (ha : RepA M ρ a va) (hb : RepA M ρ b vb) {kf : Bool} {cf : CallF} (h : aop kf cf nb hr (.pick c a b) = some (v, ws)) :
    OpOk P w0 F M ρ hp nb (do pure (if ← asBool vc then va else vb)) w v ws := by
  simp only [aop] at h
  split at h
  · rename_i t
    simp only [Option.some.injEq, Prod.mk.injEq] at h
    obtain ⟨rfl, rfl⟩ := h
    rw [rep_bool hc]
    refine OpOk.pure hrel (v' := if t then va else vb) (by simp [asBool]) ?_
    cases t <;> simpa
  · cases h
theorem ok_nilck (hrel : Rel w0 F M ρ hp w) {x v : A} {ws : Writes} {vx : Value} (hx : RepA M ρ x vx) {kf : Bool} {cf : CallF} (h : aop kf cf nb hr (.nilck x) = some (v, ws)) :
    v = x ∧ ws = [] ∧ ((∃ a, vx = .pointer (some a)) ∨ (∃ f cs, vx = .func (.func f) #[] cs)) := by
  simp only [aop] at h
  split at h <;> first
    | (simp only [Option.some.injEq, Prod.mk.injEq] at h; obtain ⟨rfl, rfl⟩ := h; refine ⟨rfl, rfl, ?_⟩; cases hx <;> simp)
    | cases h
theorem ok_ext (hrel : Rel w0 F M ρ hp w) {x v : A} {ws : Writes} {vx : Value} (hx : RepA M ρ x vx) {i : Nat} {kf : Bool} {cf : CallF} (h : aop kf cf nb hr (.ext i x) = some (v, ws)) :
    OpOk P w0 F M ρ hp nb (Instr.extract vx i) w v ws := by
  simp only [aop] at h
  split at h
  · rename_i vs
    split at h
    · rename_i u hu
      simp only [Option.some.injEq, Prod.mk.injEq] at h
      obtain ⟨rfl, rfl⟩ := h
      cases hx with
      | tup _ us hl hh =>
        have hlt : i < us.size := by rw [← hl]; exact (List.getElem?_eq_some_iff.1 hu).1
        refine OpOk.pure hrel (v' := us[i]) (by simp [Instr.extract, hlt]) (hh i u us[i] hu (by simp [hlt]))
    · cases h
  · cases h

/-! ### Types -/
theorem run_sizeOf {t : TypeId} {s : Nat} (h : szT P t = some s) (w : World) : (sizeOf t).run P w = .ok s w := by
  unfold szT at h
  obtain ⟨i, hi, rfl⟩ := Option.map_eq_some_iff.1 h
  simp [sizeOf, typeInfo, hi]
theorem run_isAgg {t : TypeId} {b : Bool} (h : aggT P t = some b) (w : World) : (isAgg t).run P w = .ok b w := by
  unfold aggT at h
  obtain ⟨d, hd, rfl⟩ := Option.map_eq_some_iff.1 h
  unfold isAgg
  rw [Sem.run_bind, run_underlying hd w]
  cases d <;> simp [isAggD]
theorem takeAgg_rep {M : Mem} {ρ : Rho} {cs : List A} {vs : List Value} {agg : Bool} {sz : Nat} {v : A} (hcs : RepAs M ρ cs vs) (h1 : ∀ u ∈ vs, u.oneCell' = true) (h : takeAgg agg sz cs = some v) :
    if agg then sz ≤ vs.length ∧ RepA M ρ v (.agg (vs.take sz).toArray) else ∃ u, vs[0]? = some u ∧ RepA M ρ v u := by
  unfold takeAgg at h
  cases agg with
  | true =>
    simp only [if_true] at h ⊢
    split at h
    · rename_i hle
      simp only [Option.some.injEq] at h
      subst h
      exact ⟨by rw [← hcs.1]; exact hle, RepA.agg' (hcs.take sz) (fun u hu => h1 u (List.mem_of_mem_take hu))⟩
    · cases h
  | false =>
    simp only [Bool.false_eq_true, if_false] at h ⊢
    cases cs with
    | nil => simp at h
    | cons x cs =>
      simp only [Option.some.injEq] at h
      subst h
      obtain ⟨u, us, rfl, hu, _⟩ := hcs.cases_cons
      exact ⟨u, rfl, hu⟩
theorem part_run {t : TypeId} {agg : Bool} {sz off : Nat} {cs : Array Value} {v : A} {xs : List A} (hcs : RepAs M ρ xs cs.toList) (h1 : ∀ u ∈ cs, u.oneCell' = true) (ha : aggT P t = some agg) (hs : szT P t = some sz)
    (h : takeAgg agg sz (xs.drop off) = some v) (w : World) : ∃ u, (part t cs off).run P w = .ok u w ∧ RepA M ρ v u := by
  have h2 := takeAgg_rep (hcs.drop off) (fun u hu => h1 u (by simpa using List.mem_of_mem_drop hu)) h
  unfold part
  simp only [Sem.run_bind, run_isAgg ha w, Result.andThen_ok]
  cases agg with
  | true =>
    simp only [if_true] at h2 ⊢
    refine ⟨.agg (cs.extract off (off + sz)), by simp [run_sizeOf hs w], ?_⟩
    have : ((cs.toList.drop off).take sz).toArray = cs.extract off (off + sz) := by
      apply Array.ext'
      simp [Array.toList_extract]
    rw [← this]
    exact h2.2
  | false =>
    simp only [Bool.false_eq_true, if_false] at h2 ⊢
    obtain ⟨u, hu, hr⟩ := h2
    rw [List.getElem?_drop] at hu
    have hu' : cs[off]? = some u := by simpa using hu
    exact ⟨u, by simp [hu'], hr⟩
theorem ok_fld (hrel : Rel w0 F M ρ hp w) {x v : A} {ws : Writes} {vx : Value} (hx : RepA M ρ x vx) {t : TypeId} {i : Nat} {fs : Array Field} {f : Field} {agg : Bool} {sz : Nat} (hu : P.underlying t = some (.struct fs)) (hf : fs[i]? = some f)
    (ha : aggT P f.type = some agg) (hs : szT P f.type = some sz) {kf : Bool} {cf : CallF} (h : aop kf cf nb hr (.fld agg f.offset sz x) = some (v, ws)) : OpOk P w0 F M ρ hp nb (Instr.field t vx i) w v ws := by
  simp only [aop] at h
  split at h
  · rename_i cs
    split at h
    · rename_i u hu'
      simp only [Option.some.injEq, Prod.mk.injEq] at h
      obtain ⟨rfl, rfl⟩ := h
      cases hx with
      | agg _ vs hl hh h1 =>
        obtain ⟨r, hr1, hr2⟩ := part_run (P := P) (cs := vs) (xs := cs) ⟨by simpa using hl, fun i x v a b => hh i x v a (by simpa using b)⟩ h1 ha hs hu' w
        exact OpOk.pure hrel (v' := r) (by simp [Instr.field, run_underlying hu, hf, asAgg, hr1]) hr2
    · cases h
  · cases h
theorem ok_idxArr (hrel : Rel w0 F M ρ hp w) {x i v : A} {ws : Writes} {vx vi : Value} (hx : RepA M ρ x vx) (hi : RepA M ρ i vi) {t e : TypeId} {n : Nat} {agg : Bool} {sz : Nat} (hu : P.underlying t = some (.array n e))
    (ha : aggT P e = some agg) (hs : szT P e = some sz) {kf : Bool} {cf : CallF} (h : aop kf cf nb hr (.idxArr agg n sz x i) = some (v, ws)) : OpOk P w0 F M ρ hp nb (Instr.index t vx vi) w v ws := by
  simp only [aop] at h
  split at h
  · rename_i cs k j
    split at h
    · rename_i hb
      split at h
      · rename_i u hu'
        simp only [Option.some.injEq, Prod.mk.injEq] at h
        obtain ⟨rfl, rfl⟩ := h
        rw [rep_int hi]
        cases hx with
        | agg _ vs hl hh h1 =>
          obtain ⟨r, hr1, hr2⟩ := part_run (P := P) (cs := vs) (xs := cs) ⟨by simpa using hl, fun i x v a b => hh i x v a (by simpa using b)⟩ h1 ha hs hu' w
          exact OpOk.pure hrel (v' := r) (by simp [Instr.index, asIntOf, run_underlying hu, hb, run_sizeOf hs w, hr1]) hr2
      · cases h
    · cases h
  · cases h
theorem ok_idxStr (hrel : Rel w0 F M ρ hp w) {x i v : A} {ws : Writes} {vx vi : Value} (hx : RepA M ρ x vx) (hi : RepA M ρ i vi) {t : TypeId} (hu : P.underlying t = some .string)
    {kf : Bool} {cf : CallF} (h : aop kf cf nb hr (.idxStr x i) = some (v, ws)) : OpOk P w0 F M ρ hp nb (Instr.index t vx vi) w v ws := by
  simp only [aop] at h
  split at h
  · rename_i s k j
    split at h
    · rename_i hb
      split at h
      · rename_i b hb'
        simp only [Option.some.injEq, Prod.mk.injEq] at h
        obtain ⟨rfl, rfl⟩ := h
        rw [rep_int hi, rep_str hx]
        have : s[j.toNat]? = some b := by
          obtain ⟨hlt, he⟩ := Array.getElem?_eq_some_iff.1 hb'
          have hlt' : j.toNat < s.size := hlt
          rw [getElem?_pos s j.toNat hlt']
          exact congrArg some he
        exact OpOk.pure hrel (v' := .int .u8 b.toNat) (by simp [Instr.index, asIntOf, run_underlying hu, hb, this]) (.d (.int _ _))
      · cases h
    · cases h
  · cases h

/-! ### Arithmetic -/
theorem run_arith {op : BinOp} {k : IntKind} {x y : Int} {v : A} (h : arith op k x y = some v) (w : World) (t : TypeId) : ∃ u, (binOp op t (.int k x) (.int k y)).run P w = .ok u w ∧ RepA M ρ v u := by
  cases op <;> simp only [arith, abits] at h <;> first
    | (simp only [Option.some.injEq] at h; subst h; exact ⟨_, by simp [binOp, Op.intArith, Op.intCmp, Op.intBits]; rfl, .d (by constructor)⟩)
    | (simp only [Option.some.injEq] at h; subst h; exact ⟨_, by simp only [binOp, Op.intBits, ne_eq, not_true_eq_false, if_false]; rfl, .d (by constructor)⟩)
    | (split at h
       · cases h
       · rename_i h0
         simp only [Option.some.injEq] at h; subst h
         exact ⟨_, by simp [binOp, Op.intDiv, Op.shift, h0]; rfl, .d (by constructor)⟩)
theorem run_shift {op : BinOp} {j k : IntKind} {x y : Int} {v : A} (hs : BinOp.isShift op = true) (h : arith op j x y = some v) (w : World) (t : TypeId) : ∃ u, (binOp op t (.int j x) (.int k y)).run P w = .ok u w ∧ RepA M ρ v u := by
  cases op <;> simp [BinOp.isShift] at hs <;> simp only [arith] at h
  all_goals
    split at h
    · cases h
    · rename_i h0
      simp only [Option.some.injEq] at h; subst h
      exact ⟨_, by simp [binOp, Op.shift, h0]; rfl, .d (by constructor)⟩
end
end Go.Vm
namespace Go.Vm
section
variable {P : Program} {w0 : World} {F M : Mem} {ρ : Rho} {hp hr : Heap} {w : World} {nb : Nat}

theorem rep_sl_nil {M : Mem} {ρ : Rho} {v : Value} {sz : Nat} (h : RepA M ρ (.d (.sl .nil sz [])) v) : v = .slice none 0 0 := by
  cases h with
  | d h =>
    cases h with
    | sl _ _ base n cap sz vf hn hc ht _ _ _ _ =>
      obtain ⟨rfl, _, rfl⟩ := ht
      simp at hn; subst hn; rfl
theorem run_eqB {t : TypeId} (hd : P.underlying t = some .bool) (a b : Bool) (w : World) : (Op.equal t (.bool a) (.bool b)).run P w = .ok (a == b) w := by
  have h : ∀ d, (Op.equalIn (d + 1) t (.bool a) (.bool b)).run P w = .ok (a == b) w := fun d => by simp [Op.equalIn, run_underlying hd]
  exact h 9999
theorem run_eqP1 {t e : TypeId} (hd : P.underlying t = some (.pointer e)) (a : Addr) (w : World) : (Op.equal t (.pointer (some a)) (.pointer none)).run P w = .ok false w := by
  have h : ∀ d, (Op.equalIn (d + 1) t (.pointer (some a)) (.pointer none)).run P w = .ok false w := fun d => by simp [Op.equalIn, run_underlying hd]
  exact h 9999
theorem run_eqP2 {t e : TypeId} (hd : P.underlying t = some (.pointer e)) (w : World) : (Op.equal t (.pointer none) (.pointer none)).run P w = .ok true w := by
  have h : ∀ d, (Op.equalIn (d + 1) t (.pointer none) (.pointer none)).run P w = .ok true w := fun d => by simp [Op.equalIn, run_underlying hd]
  exact h 9999
theorem run_eqS1 {t e : TypeId} (hd : P.underlying t = some (.slice e)) (n c : Nat) (w : World) : (Op.equal t (.slice none n c) (.slice none 0 0)).run P w = .ok true w := by
  have h : ∀ d, (Op.equalIn (d + 1) t (.slice none n c) (.slice none 0 0)).run P w = .ok true w := fun d => by simp [Op.equalIn, run_underlying hd]
  exact h 9999
theorem run_eqS2 {t e : TypeId} (hd : P.underlying t = some (.slice e)) (a : Addr) (n c : Nat) (w : World) : (Op.equal t (.slice (some a) n c) (.slice none 0 0)).run P w = .ok false w := by
  have h : ∀ d, (Op.equalIn (d + 1) t (.slice (some a) n c) (.slice none 0 0)).run P w = .ok false w := fun d => by simp [Op.equalIn, run_underlying hd]
  exact h 9999
theorem ok_bin (hrel : Rel w0 F M ρ hp w) {bk : BK} {op : BinOp} {x y v : A} {ws : Writes} {vx vy : Value} (hx : RepA M ρ x vx) (hy : RepA M ρ y vy) {t : TypeId} {d : TypeDesc} (hd : P.underlying t = some d)
    (hk : match bk with | .int => True | .str => True | .bool => d = .bool | .ptr => ∃ e, d = .pointer e | .sl => ∃ e, d = .slice e | .map => True) (x0 y0 : Operand) {kf : Bool} {cf : CallF} (h : aop kf cf nb hr (.bin bk op x y) = some (v, ws)) :
    OpOk P w0 F M ρ hp nb (do eqGuard op t x0 y0 vx vy; binOp op t vx vy) w v ws := by
  simp only [aop] at h
  split at h
  · rename_i u hu
    simp only [Option.some.injEq, Prod.mk.injEq] at h
    obtain ⟨rfl, rfl⟩ := h
    unfold abin at hu
    split at hu
    · rename_i j a k b
      rw [rep_int hx, rep_int hy]
      split at hu
      · rename_i hjk
        have hg : ∀ w, (eqGuard op t x0 y0 (.int j a) (.int k b)).run P w = .ok () w := fun w => by cases op <;> simp [eqGuard]
        by_cases hs : BinOp.isShift op = true
        · obtain ⟨r, h1, h2⟩ := run_shift (P := P) (k := k) (M := M) (ρ := ρ) hs hu w t
          exact OpOk.pure hrel (v' := r) (by rw [Sem.run_bind, hg]; exact h1) h2
        · simp only [hs, Bool.false_or, decide_eq_true_eq] at hjk
          subst hjk
          obtain ⟨r, h1, h2⟩ := run_arith (P := P) (M := M) (ρ := ρ) hu w t
          exact OpOk.pure hrel (v' := r) (by rw [Sem.run_bind, hg]; exact h1) h2
      · cases hu
    · rename_i a b
      rw [rep_str hx, rep_str hy]
      split at hu
      · split at hu
        · rename_i hle
          simp only [Option.some.injEq] at hu; subst hu
          have : ¬ (((a.size + b.size : Nat) : Int) > IntKind.i64.max) := by
            have : IntKind.i64.max = 9223372036854775807 := rfl
            rw [this]; omega
          exact OpOk.pure hrel (v' := .string (a ++ b)) (by simp only [eqGuard, binOp, Op.stringOp, if_neg this]; rfl) (.d (.str _))
        · cases hu
      · simp only [Option.some.injEq] at hu; subst hu
        exact OpOk.pure hrel (v' := .bool (a.toList == b.toList)) (by simp [eqGuard, binOp, Op.stringOp]) (.d (.bool _))
      · simp only [Option.some.injEq] at hu; subst hu
        exact OpOk.pure hrel (v' := .bool (!(a.toList == b.toList))) (by simp [eqGuard, binOp, Op.stringOp]) (.d (.bool _))
      · cases hu
    · rename_i a b
      subst hk
      rw [rep_bool hx, rep_bool hy]
      split at hu
      · simp only [Option.some.injEq] at hu; subst hu
        exact OpOk.pure hrel (v' := .bool (a == b)) (by simp [eqGuard, binOp, run_eqB hd]) (.d (.bool _))
      · simp only [Option.some.injEq] at hu; subst hu
        exact OpOk.pure hrel (v' := .bool (!(a == b))) (by simp [eqGuard, binOp, run_eqB hd]) (.d (.bool _))
      · cases hu
    · obtain ⟨e, rfl⟩ := hk
      rw [rep_nilp hy]
      split at hu
      · rename_i b hb
        have hcase : (b = false ∧ ∃ a, vx = .pointer (some a)) ∨ (b = true ∧ vx = .pointer none) := by
          unfold isNilP at hb
          split at hb <;> first
            | (cases hb; exact .inr ⟨rfl, rep_nilp hx⟩)
            | (cases hb; cases hx <;> exact .inl ⟨rfl, _, rfl⟩)
            | cases hb
        rcases hcase with ⟨rfl, a, rfl⟩ | ⟨rfl, rfl⟩
        · split at hu <;> first
            | (simp only [Option.some.injEq] at hu; subst hu; exact OpOk.pure hrel (v' := .bool false) (by simp [eqGuard, binOp, run_eqP1 hd, run_eqP2 hd]) (.d (.bool _)))
            | (simp only [Option.some.injEq] at hu; subst hu; exact OpOk.pure hrel (v' := .bool true) (by simp [eqGuard, binOp, run_eqP1 hd, run_eqP2 hd]) (.d (.bool _)))
            | cases hu
        · split at hu <;> first
            | (simp only [Option.some.injEq] at hu; subst hu; exact OpOk.pure hrel (v' := .bool true) (by simp [eqGuard, binOp, run_eqP1 hd, run_eqP2 hd]) (.d (.bool _)))
            | (simp only [Option.some.injEq] at hu; subst hu; exact OpOk.pure hrel (v' := .bool false) (by simp [eqGuard, binOp, run_eqP1 hd, run_eqP2 hd]) (.d (.bool _)))
            | cases hu
      · cases hu
    · obtain ⟨e, rfl⟩ := hk
      rw [rep_sl_nil hy]
      cases hx with
      | d hx =>
        cases hx with
        | sl tg xs base n cap sz vf hn hc ht _ _ _ _ =>
          split at hu
          · obtain ⟨rfl, _, _⟩ := ht
            split at hu <;> first
              | (simp only [Option.some.injEq] at hu; subst hu; exact OpOk.pure hrel (v' := .bool true) (by simp [eqGuard, binOp, run_eqS1 hd, run_eqS2 hd]) (.d (.bool _)))
              | (simp only [Option.some.injEq] at hu; subst hu; exact OpOk.pure hrel (v' := .bool false) (by simp [eqGuard, binOp, run_eqS1 hd, run_eqS2 hd]) (.d (.bool _)))
              | cases hu
          · obtain ⟨a, rfl⟩ := Option.isSome_iff_exists.1 ht
            split at hu <;> first
              | (simp only [Option.some.injEq] at hu; subst hu; exact OpOk.pure hrel (v' := .bool false) (by simp [eqGuard, binOp, run_eqS1 hd, run_eqS2 hd]) (.d (.bool _)))
              | (simp only [Option.some.injEq] at hu; subst hu; exact OpOk.pure hrel (v' := .bool true) (by simp [eqGuard, binOp, run_eqS1 hd, run_eqS2 hd]) (.d (.bool _)))
              | cases hu
          · cases hu
    · cases hu
  · cases h
theorem ok_un (hrel : Rel w0 F M ρ hp w) {op : UnOp} {x v : A} {ws : Writes} {vx : Value} (hx : RepA M ρ x vx) {kf : Bool} {cf : CallF} (h : aop kf cf nb hr (.un op x) = some (v, ws)) :
    OpOk P w0 F M ρ hp nb (Op.unary op vx) w v ws := by
  simp only [aop] at h
  split at h
  · rename_i u hu
    simp only [Option.some.injEq, Prod.mk.injEq] at h
    obtain ⟨rfl, rfl⟩ := h
    unfold aun at hu
    split at hu
    · rw [rep_int hx]
      split at hu
      · simp only [Option.some.injEq] at hu; subst hu
        exact OpOk.pure hrel (by simp [Op.unary, Op.intArith]) (.d (.int _ _))
      · cases hu
    · rw [rep_bool hx]
      split at hu
      · simp only [Option.some.injEq] at hu; subst hu
        exact OpOk.pure hrel (by simp [Op.unary]) (.d (.bool _))
      · cases hu
    · cases hu
  · cases h
theorem ok_conv (hrel : Rel w0 F M ρ hp w) {k k0 : IntKind} {x v : A} {ws : Writes} {vx : Value} (hx : RepA M ρ x vx) {s d : TypeId} (hs : P.underlying s = some (.int k0)) (hd : P.underlying d = some (.int k)) {kf : Bool} {cf : CallF} (h : aop kf cf nb hr (.conv k x) = some (v, ws)) :
    OpOk P w0 F M ρ hp nb (convert s d vx) w v ws := by
  simp only [aop] at h
  split at h
  · simp only [Option.some.injEq, Prod.mk.injEq] at h
    obtain ⟨rfl, rfl⟩ := h
    rw [rep_int hx]
    exact OpOk.pure hrel (by simp [convert, run_underlying hs, run_underlying hd, Conv.intToInt]) (.d (.int _ _))
  · cases h
theorem ok_same (hrel : Rel w0 F M ρ hp w) {x v : A} {ws : Writes} {vx : Value} (hx : RepA M ρ x vx) {s d : TypeId} (hs : P.underlying s = some .string) (hd : P.underlying d = some .string) {kf : Bool} {cf : CallF} (h : aop kf cf nb hr (.same x) = some (v, ws)) :
    OpOk P w0 F M ρ hp nb (convert s d vx) w v ws := by
  simp only [aop] at h
  split at h
  · rename_i t
    simp only [Option.some.injEq, Prod.mk.injEq] at h
    obtain ⟨rfl, rfl⟩ := h
    rw [rep_str hx]
    exact OpOk.pure hrel (v' := .string t) (by simp [convert, run_underlying hs, run_underlying hd]) (.d (.str _))
  · cases h
end
end Go.Vm
end
section
/- Second part: lists of values, cuts, lengths, literals of structs, comparisons of structs. -/
set_option linter.unusedVariables false
set_option linter.unusedSimpArgs false
set_option linter.unnecessarySimpa false
namespace Go.Vm
section
variable {P : Program} {w0 : World} {F M : Mem} {ρ : Rho} {hp hr : Heap} {w : World} {nb : Nat}

/-! ### min, max -/
theorem run_min2 (k : IntKind) (x y : Int) (j : IntKind) (w : World) : (Builtin.min2 (.int k x) (.int j y)).run P w = .ok (.int k (if y < x then y else x)) w := by simp [Builtin.min2]
theorem run_max2 (k : IntKind) (x y : Int) (j : IntKind) (w : World) : (Builtin.max2 (.int k x) (.int j y)).run P w = .ok (.int k (if y > x then y else x)) w := by simp [Builtin.max2]
theorem fold_none (k : IntKind) (f : Int → Int → Int) : ∀ l : List A, l.foldl (minStep k f) none = none
  | [] => rfl
  | x :: l => by simp only [List.foldl]; exact fold_none k f l
theorem run_fold (g : Value → Value → Sem Value) (f : Int → Int → Int) (hg : ∀ k x j y w, (g (.int k x) (.int j y)).run P w = .ok (.int k (f x y)) w) (k : IntKind) : ∀ (l : List A) (vs : List Value) (j : IntKind) (x : Int) (v : A), RepAs M ρ l vs →
    l.foldl (minStep k f) (some (.d (.int j x))) = some v → ∃ u, (vs.foldlM g (.int j x)).run P w = .ok u w ∧ RepA M ρ v u
  | [], vs, j, x, v, hr, h => by
    have := hr.1
    cases vs with
    | nil => simp only [List.foldl, Option.some.injEq] at h; subst h; exact ⟨.int j x, rfl, .d (.int _ _)⟩
    | cons => simp at this
  | y :: l, vs, j, x, v, hr, h => by
    obtain ⟨u, us, rfl, hu, hus⟩ := hr.cases_cons
    simp only [List.foldl] at h
    cases hm : minStep k f (some (.d (.int j x))) y with
    | none => rw [hm, fold_none] at h; cases h
    | some z =>
      rw [hm] at h
      unfold minStep at hm
      split at hm
      · rename_i j' a k' b e
        cases e
        split at hm
        · cases hm
          obtain rfl := rep_int hu
          obtain ⟨r, h1, h2⟩ := run_fold g f hg k l us j (f x b) v hus h
          exact ⟨r, by simp only [List.foldlM_cons, Sem.run_bind, hg, Result.andThen_ok]; exact h1, h2⟩
        · cases hm
      · cases hm
theorem ok_min (hrel : Rel w0 F M ρ hp w) {x v : A} {ys : List A} {ws : Writes} {vx : Value} {vys : List Value} (hx : RepA M ρ x vx) (hy : RepAs M ρ ys vys) (ts : Array TypeId) (ty : TypeId) {kf : Bool} {cf : CallF} (h : aop kf cf nb hr (.min x ys) = some (v, ws)) :
    OpOk P w0 F M ρ hp nb (Builtin.min_ ts ty (vx :: vys).toArray) w v ws := by
  simp only [aop] at h
  split at h
  · rename_i u hu
    simp only [Option.some.injEq, Prod.mk.injEq] at h
    obtain ⟨rfl, rfl⟩ := h
    unfold minI at hu
    split at hu
    · rename_i k n
      obtain rfl := rep_int hx
      obtain ⟨r, h1, h2⟩ := run_fold (P := P) (w := w) Builtin.min2 (fun a b => if b < a then b else a) (fun k x j y w => run_min2 k x y j w) k ys vys k n _ hy hu
      exact OpOk.pure hrel (v' := r) (by simpa [Builtin.min_] using h1) h2
    · cases hu
  · cases h
theorem ok_max (hrel : Rel w0 F M ρ hp w) {x v : A} {ys : List A} {ws : Writes} {vx : Value} {vys : List Value} (hx : RepA M ρ x vx) (hy : RepAs M ρ ys vys) (ts : Array TypeId) (ty : TypeId) {kf : Bool} {cf : CallF} (h : aop kf cf nb hr (.max x ys) = some (v, ws)) :
    OpOk P w0 F M ρ hp nb (Builtin.max_ ts ty (vx :: vys).toArray) w v ws := by
  simp only [aop] at h
  split at h
  · rename_i u hu
    simp only [Option.some.injEq, Prod.mk.injEq] at h
    obtain ⟨rfl, rfl⟩ := h
    unfold minI at hu
    split at hu
    · rename_i k n
      obtain rfl := rep_int hx
      obtain ⟨r, h1, h2⟩ := run_fold (P := P) (w := w) Builtin.max2 (fun a b => if b > a then b else a) (fun k x j y w => run_max2 k x y j w) k ys vys k n _ hy hu
      exact OpOk.pure hrel (v' := r) (by simpa [Builtin.max_] using h1) h2
    · cases hu
  · cases h

/-! ### Cuts -/
def RepO (M : Mem) (ρ : Rho) : Option A → Option Value → Prop
  | none, none => True
  | some x, some v => RepA M ρ x v
  | _, _ => False
theorem run_bound {k : IntKind} {i : Int} {y : Nat} (c : BoundsCode) (h0 : 0 ≤ i) (h : i ≤ (y : Int)) (w : World) : (Instr.sliceBound (.int k i) y c).run P w = .ok i.toNat w := by
  simp [Instr.sliceBound, asIntOf, h0, h]
theorem cutHi_rep {len h : Nat} {x : A} {v : Value} (hv : RepA M ρ x v) (e : cutHi len (some x) = some h) : ∃ k n, v = .int k n ∧ 0 ≤ n ∧ n ≤ (len : Int) ∧ h = n.toNat := by
  unfold cutHi at e
  split at e
  · rename_i heq; cases heq
  · rename_i k n heq
    cases heq
    split at e
    · rename_i hb; cases e; exact ⟨k, n, rep_int hv, hb.1, hb.2, rfl⟩
    · cases e
  · cases e
theorem cutLo_rep {h l : Nat} {x : A} {v : Value} (hv : RepA M ρ x v) (e : cutLo h (some x) = some l) : ∃ k n, v = .int k n ∧ 0 ≤ n ∧ n ≤ (h : Int) ∧ l = n.toNat := by
  unfold cutLo at e
  split at e
  · rename_i heq; cases heq
  · rename_i k n heq
    cases heq
    split at e
    · rename_i hb; cases e; exact ⟨k, n, rep_int hv, hb.1, hb.2, rfl⟩
    · cases e
  · cases e
theorem run_cut {len cap : Nat} {lo hi : Option A} {vlo vhi : Option Value} {l h : Nat} (hlo : RepO M ρ lo vlo) (hhi : RepO M ρ hi vhi) (hc : len ≤ cap) (e : cut len lo hi = some (l, h)) (isS : Bool) (w : World) :
    (∀ lc : Nat, (hi = none → lc = len) → (Instr.sliceBounds isS lc cap vlo vhi none).run P w = .ok (l, h, cap) w) ∧ l ≤ h ∧ h ≤ len := by
  unfold cut at e
  split at e
  · cases e
  · rename_i h' e1
    split at e
    · cases e
    · rename_i l' e2
      simp only [Option.some.injEq, Prod.mk.injEq] at e
      obtain ⟨rfl, rfl⟩ := e
      cases hi with
      | none =>
        cases vhi with
        | some v => exact hhi.elim
        | none =>
          simp only [cutHi, Option.some.injEq] at e1; subst e1
          cases lo with
          | none =>
            cases vlo with
            | some v => exact hlo.elim
            | none => simp only [cutLo, Option.some.injEq] at e2; subst e2; exact ⟨fun lc hlc => by obtain rfl := hlc rfl; simp [Instr.sliceBounds], Nat.zero_le _, Nat.le_refl _⟩
          | some x =>
            cases vlo with
            | none => exact hlo.elim
            | some v =>
              obtain ⟨k, n, rfl, h0, h1, rfl⟩ := cutLo_rep hlo e2
              exact ⟨fun lc hlc => by obtain rfl := hlc rfl; simp [Instr.sliceBounds, run_bound _ h0 h1], by omega, Nat.le_refl _⟩
      | some y =>
        cases vhi with
        | none => exact hhi.elim
        | some u =>
          obtain ⟨k, n, rfl, h0, h1, rfl⟩ := cutHi_rep hhi e1
          have hb := fun c => run_bound (P := P) (k := k) c h0 (show n ≤ (cap : Int) by omega) w
          cases lo with
          | none =>
            cases vlo with
            | some v => exact hlo.elim
            | none => simp only [cutLo, Option.some.injEq] at e2; subst e2; exact ⟨fun lc hlc => by simp [Instr.sliceBounds, hb], Nat.zero_le _, by omega⟩
          | some x =>
            cases vlo with
            | none => exact hlo.elim
            | some v =>
              obtain ⟨k', n', rfl, h0', h1', rfl⟩ := cutLo_rep hlo e2
              exact ⟨fun lc hlc => by simp [Instr.sliceBounds, hb, run_bound _ h0' h1'], by omega, by omega⟩
/-- With a third bound. -/
theorem run_cut3 {len cap : Nat} {lo : Option A} {x : A} {vlo : Option Value} {u : Value} {km : IntKind} {m : Int} {l h : Nat} (hlo : RepO M ρ lo vlo) (hhi : RepA M ρ x u) (hc : len ≤ cap) (hm0 : 0 ≤ m) (hm : m ≤ (len : Int))
    (e : cut m.toNat lo (some x) = some (l, h)) (w : World) : (Instr.sliceBounds true len cap vlo (some u) (some (.int km m))).run P w = .ok (l, h, m.toNat) w ∧ l ≤ h ∧ h ≤ m.toNat := by
  unfold cut at e
  split at e
  · cases e
  · rename_i h' e1
    split at e
    · cases e
    · rename_i l' e2
      simp only [Option.some.injEq, Prod.mk.injEq] at e
      obtain ⟨rfl, rfl⟩ := e
      obtain ⟨k, n, rfl, h0, h1, rfl⟩ := cutHi_rep hhi e1
      have hb := fun c => run_bound (P := P) (k := k) c h0 h1 w
      have hbm := fun c => run_bound (P := P) (k := km) c hm0 (show m ≤ (cap : Int) by omega) w
      cases lo with
      | none =>
        cases vlo with
        | some v => exact hlo.elim
        | none => simp only [cutLo, Option.some.injEq] at e2; subst e2; exact ⟨by simp [Instr.sliceBounds, hb, hbm], Nat.zero_le _, by omega⟩
      | some y =>
        cases vlo with
        | none => exact hlo.elim
        | some v =>
          obtain ⟨k', n', rfl, h0', h1', rfl⟩ := cutLo_rep hlo e2
          exact ⟨by simp [Instr.sliceBounds, hb, hbm, run_bound _ h0' h1'], by omega, by omega⟩
theorem ok_slStr (hrel : Rel w0 F M ρ hp w) {x v : A} {lo hi : Option A} {ws : Writes} {vx : Value} {vlo vhi : Option Value} (hx : RepA M ρ x vx) (hlo : RepO M ρ lo vlo) (hhi : RepO M ρ hi vhi) {t : TypeId} (hu : P.underlying t = some .string)
    {kf : Bool} {cf : CallF} (h : aop kf cf nb hr (.slStr x lo hi) = some (v, ws)) : OpOk P w0 F M ρ hp nb (Instr.sliceAt t vx vlo vhi none) w v ws := by
  simp only [aop] at h
  split at h
  · rename_i s
    split at h
    · rename_i l e hc
      simp only [Option.some.injEq, Prod.mk.injEq] at h
      obtain ⟨rfl, rfl⟩ := h
      obtain ⟨h1, _, _⟩ := run_cut (P := P) hlo hhi (Nat.le_refl _) hc false w
      rw [rep_str hx]
      exact OpOk.pure hrel (v' := .string (s.extract l e)) (by simp [Instr.sliceAt, Instr.slice, run_underlying hu, h1 s.size (fun _ => rfl)]) (.d (.str _))
    · cases h
  · cases h

/-! ### Lengths, lists -/
theorem allD_rep : ∀ {cs : List A} {ds : List D} {vs : List Value}, allD cs = some ds → RepAs M ρ cs vs → cs = ds.map A.d ∧ ds.length = vs.length ∧ ∀ (i : Nat) (d : D) (u : Value), ds[i]? = some d → vs[i]? = some u → RepD M d u
  | [], ds, vs, h, hr => by
    simp [allD] at h; subst h
    have := hr.1
    exact ⟨rfl, by simpa using this, by simp⟩
  | x :: cs, ds, vs, h, hr => by
    obtain ⟨u, us, rfl, hu, hus⟩ := hr.cases_cons
    simp only [allD] at h
    split at h
    · rename_i y ys h1 h2
      cases h
      obtain ⟨rfl, h4, h5⟩ := allD_rep h2 hus
      have hx : x = .d y := by
        unfold unD at h1; split at h1
        · cases h1; rfl
        · cases h1
      subst hx
      refine ⟨rfl, by simp [h4], fun i d u' h6 h7 => ?_⟩
      cases i with
      | zero => simp at h6 h7; subst h6 h7; cases hu with | d h => exact h
      | succ i => exact h5 i d u' (by simpa using h6) (by simpa using h7)
    · cases h
/-- A struct's cells are compared one by one. -/
theorem run_fields (d : Nat) (X Y : Array Value) (w : World) : ∀ (fs : List Field) (ks : List BK) (k : Nat) (ds es : List D) (b : Bool), mapOpt (fun p : Field × Nat => fieldKind P p.1 p.2) (fs.zipIdx k) = some ks →
    (∀ (i : Nat) (d : D), ds[i]? = some d → ∃ u, X[k + i]? = some u ∧ RepD M d u) → (∀ (i : Nat) (d : D), es[i]? = some d → ∃ u, Y[k + i]? = some u ∧ RepD M d u) → cellsEq ks ds es = some b →
    (Op.eqFields (d + 1) X Y fs).run P w = .ok b w
  | [], ks, k, ds, es, b, hk, hx, hy, h => by
    simp only [List.zipIdx_nil, mapOpt, Option.some.injEq] at hk; subst hk
    cases ds with
    | nil =>
      cases es with
      | nil => simp [cellsEq] at h; subst h; simp [Op.eqFields]
      | cons => simp [cellsEq] at h
    | cons => simp [cellsEq] at h
  | f :: fs, ks, k, ds, es, b, hk, hx, hy, h => by
    rw [List.zipIdx_cons] at hk
    simp only [mapOpt] at hk
    split at hk
    · rename_i bk ks' h1 h2
      cases hk
      unfold fieldKind at h1
      split at h1
      · rename_i hn
        simp only [bne_iff_ne, ne_eq, Bool.and_eq_true, decide_eq_true_eq, beq_iff_eq] at hn
        obtain ⟨hn, ho⟩ := hn
        have hpart : ∀ (Z : Array Value) (u : Value), Z[k]? = some u → aggT P f.type = some false → (part f.type Z f.offset).run P w = .ok u w := fun Z u hz ha => by
          unfold part
          simp [Sem.run_bind, run_isAgg ha w, ho, hz]
        have hrest : ∀ (zs : List D) (Z : Array Value), (∀ (i : Nat) (d : D), zs[i]? = some d → ∃ u, Z[k + i]? = some u ∧ RepD M d u) → ∀ (i : Nat) (d : D), zs.tail[i]? = some d → ∃ u, Z[k + 1 + i]? = some u ∧ RepD M d u := fun zs Z hz i d hi => by
          rw [Nat.add_assoc, Nat.add_comm 1 i]
          exact hz (i + 1) d (by cases zs with | nil => simp at hi | cons => simpa using hi)
        have step : ∀ (u v : Value) (e : Bool) (xs ys : List D), X[k]? = some u → Y[k]? = some v → aggT P f.type = some false → (Op.equalIn (d + 1) f.type u v).run P w = .ok e w → ds.tail = xs → es.tail = ys →
            (if e then cellsEq ks' xs ys else some false) = some b → (Op.eqFields (d + 1) X Y (f :: fs)).run P w = .ok b w := fun u v e xs ys hu1 hv1 ha hq e1 e2 hh => by
          simp only [Op.eqFields, hn, ne_eq, not_false_eq_true, if_true, Sem.run_bind, hpart _ _ hu1 ha, hpart _ _ hv1 ha, Result.andThen_ok, hq]
          cases e with
          | true =>
            simp only [if_true] at hh
            simp only [Bool.not_true, Bool.false_eq_true, if_false]
            exact run_fields d X Y w fs _ (k + 1) xs ys b h2 (e1 ▸ hrest _ _ hx) (e2 ▸ hrest _ _ hy) hh
          | false =>
            simp only [Bool.false_eq_true, if_false, Option.some.injEq] at hh
            subst hh
            simp
        cases ds with
        | nil => split at h1 <;> cases h1 <;> simp [cellsEq] at h
        | cons x xs =>
          cases es with
          | nil => split at h1 <;> cases h1 <;> cases x <;> simp [cellsEq] at h
          | cons y ys =>
            obtain ⟨u, hu1, hu2⟩ := hx 0 _ rfl
            obtain ⟨v, hv1, hv2⟩ := hy 0 _ rfl
            split at h1
            · rename_i kk hu
              cases h1
              cases x <;> cases y <;> simp only [cellsEq] at h <;> first
                | (cases h; done)
                | skip
              split at h
              · rename_i hjk
                subst hjk
                cases hu2; cases hv2
                exact step _ _ _ xs ys hu1 hv1 (by simp [aggT, hu, isAggD]) (run_equalIn_int w d f.type _ _ _ _ hu) rfl rfl h
              · cases h
            · rename_i hu
              cases h1
              cases x <;> cases y <;> simp only [cellsEq] at h <;> first
                | (cases h; done)
                | skip
              cases hu2; cases hv2
              exact step _ _ _ xs ys hu1 hv1 (by simp [aggT, hu, isAggD]) (run_equalIn_string w d f.type _ _ hu) rfl rfl h
            · rename_i hu
              cases h1
              cases x <;> cases y <;> simp only [cellsEq] at h <;> first
                | (cases h; done)
                | skip
              cases hu2; cases hv2
              exact step _ _ _ xs ys hu1 hv1 (by simp [aggT, hu, isAggD]) (run_equalIn_bool' w d f.type _ _ hu) rfl rfl h
            · cases h1
      · cases h1
    · cases hk
theorem ok_eqs (hrel : Rel w0 F M ρ hp w) {x y v : A} {ws : Writes} {vx vy : Value} (hx : RepA M ρ x vx) (hy : RepA M ρ y vy) {t : TypeId} {ks : List BK} (hk : eqKinds P t = some ks) {op : BinOp} {neg : Bool}
    (ho : (op = .eql ∧ neg = false) ∨ (op = .neq ∧ neg = true)) (x0 y0 : Operand) {kf : Bool} {cf : CallF} (h : aop kf cf nb hr (.eqs ks neg x y) = some (v, ws)) :
    OpOk P w0 F M ρ hp nb (do eqGuard op t x0 y0 vx vy; binOp op t vx vy) w v ws := by
  unfold eqKinds at hk
  split at hk
  · rename_i fs hu
    split at hk
    · rename_i hg
      simp only [Bool.and_eq_true, Bool.not_eq_true'] at hg
      have hf : P.fieldsOf t = fs := by simp [Program.fieldsOf, hu]
      simp only [aop] at h
      split at h
      · rename_i xs ys
        split at h
        · rename_i ds es hd he
          split at h
          · rename_i b hb
            simp only [Option.some.injEq, Prod.mk.injEq] at h
            obtain ⟨rfl, rfl⟩ := h
            cases hx with
            | agg _ X hl hh h1 =>
              cases hy with
              | agg _ Y hl' hh' h1' =>
                obtain ⟨_, h4, h5⟩ := allD_rep hd (vs := X.toList) ⟨by simpa using hl, fun i x v a b => hh i x v a (by simpa using b)⟩
                obtain ⟨_, h4', h5'⟩ := allD_rep he (vs := Y.toList) ⟨by simpa using hl', fun i x v a b => hh' i x v a (by simpa using b)⟩
                have key : ∀ (Z : Array Value) (zs : List D), zs.length = Z.toList.length → (∀ (i : Nat) (d : D) (u : Value), zs[i]? = some d → Z.toList[i]? = some u → RepD M d u) → ∀ (i : Nat) (d : D), zs[i]? = some d → ∃ u, Z[0 + i]? = some u ∧ RepD M d u := fun Z zs hlz hz i d hi => by
                  have hlt : i < Z.toList.length := by rw [← hlz]; exact (List.getElem?_eq_some_iff.1 hi).1
                  exact ⟨Z.toList[i], by rw [Nat.zero_add]; simpa using List.getElem?_eq_getElem hlt, hz i d _ hi (List.getElem?_eq_getElem hlt)⟩
                have hrun := run_fields (P := P) 9998 X Y w fs.toList ks 0 ds es b hk (key X ds h4 h5) (key Y es h4' h5') hb
                have hq : (Op.equalIn 10000 t (.agg X) (.agg Y)).run P w = .ok b w := by
                  rw [show (10000 : Nat) = 9999 + 1 from rfl, run_equalIn_agg w 9999 t X Y (by rw [hf]; exact hu) hg.1, hf]
                  exact hrun
                rcases ho with ⟨rfl, rfl⟩ | ⟨rfl, rfl⟩
                · exact OpOk.pure hrel (v' := .bool b) (by rw [Sem.run_bind, run_eqGuard_agg _ _ _ _ _ _ _ hg.2]; simp only [Result.andThen_ok, run_eql_struct, hq]) (.d (.bool _))
                · exact OpOk.pure hrel (v' := .bool (!b)) (by rw [Sem.run_bind, run_eqGuard_agg _ _ _ _ _ _ _ hg.2]; simp only [Result.andThen_ok, run_neq_struct, hq]) (.d (.bool _))
          · cases h
        · cases h
      · cases h
    · cases hk
  · cases hk
end
end Go.Vm
end
section
/- Third part: lists of elements, reading memory. -/
set_option linter.unusedVariables false
set_option linter.unusedSimpArgs false
set_option linter.unnecessarySimpa false
namespace Go.Vm

/-! ### Lists -/
theorem list_choose {α β : Type} {p : Nat → α → β → Prop} : ∀ (cs : List α), (∀ (j : Nat) d, cs[j]? = some d → ∃ v, p j d v) → ∃ vs : List β, vs.length = cs.length ∧ ∀ (j : Nat) d v, cs[j]? = some d → vs[j]? = some v → p j d v := by
  intro cs
  induction cs generalizing p with
  | nil => exact fun _ => ⟨[], rfl, by simp⟩
  | cons x cs ih =>
    intro h
    obtain ⟨v, hv⟩ := h 0 x rfl
    obtain ⟨vs, hl, hh⟩ := ih (p := fun j => p (j + 1)) (fun j d hd => h (j + 1) d (by simpa using hd))
    refine ⟨v :: vs, by simp [hl], fun j d u hd hu => ?_⟩
    cases j with
    | zero => simp at hd hu; subst hd hu; exact hv
    | succ j => exact hh j d u (by simpa using hd) (by simpa using hu)
def Uni {α : Type} (sz : Nat) (xs : List (List α)) : Prop := ∀ c ∈ xs, c.length = sz
theorem Uni.tail {α : Type} {sz : Nat} {x : List α} {xs : List (List α)} (h : Uni sz (x :: xs)) : Uni sz xs := fun c hc => h c (by simp [hc])
theorem Uni.take {α : Type} {sz : Nat} {xs : List (List α)} (h : Uni sz xs) (n : Nat) : Uni sz (xs.take n) := fun c hc => h c (List.mem_of_mem_take hc)
theorem Uni.drop {α : Type} {sz : Nat} {xs : List (List α)} (h : Uni sz xs) (n : Nat) : Uni sz (xs.drop n) := fun c hc => h c (List.mem_of_mem_drop hc)
theorem Uni.append {α : Type} {sz : Nat} {xs ys : List (List α)} (h : Uni sz xs) (h' : Uni sz ys) : Uni sz (xs ++ ys) := fun c hc => (List.mem_append.1 hc).elim (h c) (h' c)
theorem Uni.of_all {α : Type} {sz : Nat} {xs : List (List α)} (h : (xs.all fun c => c.length == sz) = true) : Uni sz xs := fun c hc => by
  have := List.all_eq_true.1 h c hc; simpa using this
theorem flat_len {α : Type} {sz : Nat} : ∀ {xs : List (List α)}, Uni sz xs → xs.flatten.length = xs.length * sz
  | [], _ => by simp
  | x :: xs, h => by
    rw [List.flatten_cons, List.length_append, flat_len h.tail, h x (by simp), List.length_cons, Nat.succ_mul, Nat.add_comm]
theorem flat_get {α : Type} {sz : Nat} : ∀ {xs : List (List α)}, Uni sz xs → ∀ (j l : Nat), l < sz → xs.flatten[j * sz + l]? = (xs[j]?).bind (·[l]?)
  | [], _, j, l, _ => by simp
  | x :: xs, h, 0, l, hl => by
    have := h x (by simp)
    rw [List.flatten_cons, Nat.zero_mul, Nat.zero_add, List.getElem?_append_left (by omega)]
    simp
  | x :: xs, h, j + 1, l, hl => by
    have hx := h x (by simp)
    rw [List.flatten_cons, List.getElem?_append_right (by rw [hx, Nat.succ_mul]; omega), hx, show (j + 1) * sz + l - sz = j * sz + l by rw [Nat.succ_mul]; omega, flat_get h.tail j l hl]
    simp
theorem flat_take {α : Type} {sz : Nat} : ∀ {xs : List (List α)}, Uni sz xs → ∀ n, (xs.take n).flatten = xs.flatten.take (n * sz)
  | [], _, n => by simp
  | x :: xs, h, 0 => by simp
  | x :: xs, h, n + 1 => by
    have hx := h x (by simp)
    rw [List.take_succ_cons, List.flatten_cons, List.flatten_cons, flat_take h.tail n, List.take_append, List.take_of_length_le (l := x) (by rw [hx, Nat.succ_mul]; omega), hx, Nat.succ_mul, Nat.add_sub_cancel]
theorem flat_drop {α : Type} {sz : Nat} : ∀ {xs : List (List α)}, Uni sz xs → ∀ n, (xs.drop n).flatten = xs.flatten.drop (n * sz)
  | [], _, n => by simp
  | x :: xs, h, 0 => by simp
  | x :: xs, h, n + 1 => by
    have hx := h x (by simp)
    rw [List.drop_succ_cons, List.flatten_cons, flat_drop h.tail n, List.drop_append, List.drop_of_length_le (l := x) (by rw [hx, Nat.succ_mul]; omega), hx, Nat.succ_mul, Nat.add_sub_cancel]
    simp
theorem flat_ix {α : Type} {sz : Nat} {xs : List (List α)} (h : Uni sz xs) {i : Nat} {d : α} (hd : xs.flatten[i]? = some d) : 0 < sz ∧ ∃ c, xs[i / sz]? = some c ∧ c[i % sz]? = some d := by
  rcases Nat.eq_zero_or_pos sz with h0 | h0
  · have hl := flat_len h
    rw [h0, Nat.mul_zero] at hl
    rw [List.eq_nil_of_length_eq_zero hl] at hd
    simp at hd
  · have := flat_get h (i / sz) (i % sz) (Nat.mod_lt _ h0)
    rw [Nat.mul_comm, Nat.div_add_mod, hd] at this
    cases hc : xs[i / sz]? with
    | none => rw [hc] at this; cases this
    | some c => rw [hc] at this; exact ⟨h0, c, rfl, this.symm⟩
/-- Cells that lie one behind the other. -/
def FlatAt (M : Mem) (vals : List Value) (off : Nat) (ds : List D) : Prop := ∀ (i : Nat) (d : D), ds[i]? = some d → ∃ v, vals[off + i]? = some v ∧ RepD M d v
theorem ElsAt.flat {M : Mem} {vals : List Value} {off sz : Nat} {xs : List (List D)} (hu : Uni sz xs) (h : ElsAt M vals off sz xs) : FlatAt M vals off xs.flatten := fun i d hd => by
  obtain ⟨h0, c, hc, hd'⟩ := flat_ix hu hd
  obtain ⟨v, hv, hr⟩ := h _ c _ d hc hd'
  refine ⟨v, ?_, hr⟩
  rw [Nat.add_assoc, Nat.mul_comm, Nat.div_add_mod] at hv
  exact hv
theorem FlatAt.els {M : Mem} {vals : List Value} {off sz : Nat} {xs : List (List D)} (hu : Uni sz xs) (h : FlatAt M vals off xs.flatten) : ElsAt M vals off sz xs := fun j c l d hc hd => by
  have hl : l < sz := by rw [← hu c (List.mem_of_getElem? hc)]; exact (List.getElem?_eq_some_iff.1 hd).1
  have := flat_get hu j l hl
  rw [hc, Option.bind_some, hd] at this
  obtain ⟨v, hv, hr⟩ := h _ d this
  exact ⟨v, by rw [← hv, Nat.add_assoc], hr⟩
theorem FlatAt.append {M : Mem} {vals : List Value} {off : Nat} {ds es : List D} (h : FlatAt M vals off ds) (h' : FlatAt M vals (off + ds.length) es) : FlatAt M vals off (ds ++ es) := fun i d hd => by
  rcases Nat.lt_or_ge i ds.length with hi | hi
  · rw [List.getElem?_append_left hi] at hd; exact h i d hd
  · rw [List.getElem?_append_right hi] at hd
    obtain ⟨v, hv, hr⟩ := h' _ d hd
    exact ⟨v, by rw [← hv]; congr 1; omega, hr⟩
theorem FlatAt.take {M : Mem} {vals : List Value} {off : Nat} {ds : List D} (h : FlatAt M vals off ds) (n : Nat) : FlatAt M vals off (ds.take n) := fun i d hd => by
  rw [List.getElem?_take] at hd
  split at hd
  · exact h i d hd
  · cases hd
theorem FlatAt.drop {M : Mem} {vals : List Value} {off : Nat} {ds : List D} (h : FlatAt M vals off ds) (n : Nat) : FlatAt M vals (off + n) (ds.drop n) := fun i d hd => by
  rw [List.getElem?_drop] at hd
  obtain ⟨v, hv, hr⟩ := h _ d hd
  exact ⟨v, by rw [← hv, Nat.add_assoc], hr⟩
theorem FlatAt.congr {M : Mem} {vals vals' : List Value} {off : Nat} {ds : List D} (h : FlatAt M vals off ds) (he : ∀ i, off ≤ i → i < off + ds.length → vals'[i]? = vals[i]?) : FlatAt M vals' off ds := fun i d hd => by
  obtain ⟨v, hv, hr⟩ := h i d hd
  have := (List.getElem?_eq_some_iff.1 hd).1
  exact ⟨v, by rw [he _ (by omega) (by omega)]; exact hv, hr⟩

section
variable {P : Program} {w0 : World} {F M : Mem} {ρ : Rho} {hp hr : Heap} {w : World} {nb : Nat}

def Sub (hr hp : Heap) : Prop := ∀ i, hr i = hp i ∨ hr i = .dead
theorem Rel.chr (hrel : Rel w0 F M ρ hp w) (hs : Sub hr hp) (i : Nat) : RepC M ρ w i (hr i) := by
  rcases hs i with h | h <;> rw [h]
  · exact hrel.ch i
  · trivial
theorem Sub.live (hs : Sub hr hp) {i : Nat} {c : Chunk} (h : hr i = c) (hd : c ≠ .dead) : hp i = c := by
  rcases hs i with e | e
  · rw [← e, h]
  · rw [e] at h; exact absurd h.symm hd

/-! ### Reading -/
theorem rangeAt_block {b : Nat} {vals : Array Value} {t : TypeId} {fr : Nat × Nat} (hb : w.heap[b]? = some (.cells vals t fr)) (o : Nat) : w.rangeAt b o (vals.toList.drop o) := fun j v hv => by
  rw [List.getElem?_drop] at hv
  simp [World.cell?, hb]
  simpa using hv
theorem aggT_isRow {t : TypeId} {b : Bool} (h : aggT P t = some b) : ∃ d, P.underlying t = some d ∧ isAggD d = b := by
  unfold aggT at h
  obtain ⟨d, hd, rfl⟩ := Option.map_eq_some_iff.1 h
  exact ⟨d, hd, rfl⟩
theorem run_loadVar {ty : TypeId} {agg : Bool} {sz b o : Nat} {cs : List A} {vs : List Value} {v : A} (hcs : RepAs M ρ cs vs) (hw : w.rangeAt b o vs) (h1 : ∀ u ∈ vs, u.oneCell' = true) (ha : aggT P ty = some agg) (hs : szT P ty = some sz)
    (h : takeAgg agg sz cs = some v) : ∃ u, (loadVar ty ⟨b, o, none⟩).run P w = .ok u w ∧ RepA M ρ v u := by
  have h2 := takeAgg_rep hcs h1 h
  cases agg with
  | true =>
    simp only [if_true] at h2
    obtain ⟨d, hd, hda⟩ := aggT_isRow ha
    refine ⟨_, run_loadVar_mid w b o ty (vs.take sz) d (fun j v hv => ?_) hd (by cases d <;> simp_all [isAggD]) (by unfold szT at hs; rw [hs, List.length_take, Nat.min_eq_left h2.1]), h2.2⟩
    rw [List.getElem?_take] at hv
    split at hv
    · exact hw j v hv
    · cases hv
  | false =>
    simp only [Bool.false_eq_true, if_false] at h2
    obtain ⟨u, hu, hr⟩ := h2
    refine ⟨u, ?_, hr⟩
    have := hw 0 u hu
    simp only [Nat.add_zero] at this
    simp [loadVar, run_isAgg ha w, this]
theorem oneCell_rep {x : A} {v : Value} {d : D} (h : RepD M d v) : v.oneCell' = true := h.one
/-- Data lies behind this address. -/
def LiesAt (M : Mem) (w : World) (a : Addr) (cs : List D) : Prop := a.spot = none ∧ ∀ (j : Nat) (d : D), cs[j]? = some d → ∃ v, w.cell? ⟨a.block, a.off + j, none⟩ = some v ∧ RepD M d v
theorem LiesAt.vals {a : Addr} {cs : List D} (h : LiesAt M w a cs) : ∃ vs : List Value, RepAs M ρ (cs.map A.d) vs ∧ w.rangeAt a.block a.off vs ∧ ∀ u ∈ vs, u.oneCell' = true := by
  obtain ⟨vs, hl, hh⟩ := list_choose cs h.2
  have hat : ∀ (j : Nat) v, vs[j]? = some v → ∃ d, cs[j]? = some d := fun j v hv => by
    have := (List.getElem?_eq_some_iff.1 hv).1
    rw [hl] at this
    exact ⟨cs[j], List.getElem?_eq_getElem this⟩
  refine ⟨vs, ⟨by simp [hl], fun j x v hx hv => ?_⟩, fun j v hv => ?_, fun u hu => ?_⟩
  · rw [List.getElem?_map, Option.map_eq_some_iff] at hx
    obtain ⟨d, hd, rfl⟩ := hx
    exact .d (hh j d v hd hv).2
  · obtain ⟨d, hd⟩ := hat j v hv
    exact (hh j d v hd hv).1
  · obtain ⟨j, hj⟩ := List.getElem?_of_mem hu
    obtain ⟨d, hd⟩ := hat j u hj
    exact (hh j d u hd hj).2.one
theorem LiesAt.drop {a : Addr} {cs : List D} (h : LiesAt M w a cs) (o : Nat) : LiesAt M w ⟨a.block, a.off + o, none⟩ (cs.drop o) :=
  ⟨rfl, fun j d hd => by
    rw [List.getElem?_drop] at hd
    obtain ⟨v, hv, hr⟩ := h.2 _ d hd
    exact ⟨v, by rw [← hv, Nat.add_assoc], hr⟩⟩
theorem addr_eta {a : Addr} (h : a.spot = none) : (⟨a.block, a.off, none⟩ : Addr) = a := by cases a; simp_all
theorem addr_add {a : Addr} (h : a.spot = none) (j : Nat) : a.add j = ⟨a.block, a.off + j, none⟩ := by
  rw [← addr_eta h, Addr.add_mid]
theorem flat_lies {b o : Nat} {vals : Array Value} {t : TypeId} {fr : Nat × Nat} (hb : w.heap[b]? = some (.cells vals t fr)) {ds : List D} (h : FlatAt M vals.toList o ds) : LiesAt M w ⟨b, o, none⟩ ds :=
  ⟨rfl, fun j d hd => by
    obtain ⟨v, hv, hr⟩ := h j d hd
    exact ⟨v, by simp [World.cell?, hb]; simpa using hv, hr⟩⟩
/-- An immutable row's element. -/
theorem sl_lies (hrel : Rel w0 F M ρ hp w) {tg : Tg} {sz : Nat} {xs : List (List D)} {base : Option Addr} {n cap : Nat} (h : RepD M (.sl tg sz xs) (.slice base n cap)) (hu : Uni sz xs) (hne : 0 < sz) {a : Addr} (ha : base = some a) :
    LiesAt M w a xs.flatten := by
  cases h with
  | sl _ _ _ _ _ _ vf hn hc ht hb hsz hx hd =>
    refine ⟨hb a ha, fun j d hj => ?_⟩
    obtain ⟨h0, c, hc1, hc2⟩ := flat_ix hu hj
    have h1 := hx _ c _ d hc1 hc2
    subst ha
    unfold cellAt at h1
    refine ⟨_, hrel.cell (by simpa [Nat.mul_comm, Nat.div_add_mod] using h1), hd _ c _ d hc1 hc2⟩
theorem sl_base {tg : Tg} {sz : Nat} {xs : List (List D)} {base : Option Addr} {n cap : Nat} (h : RepD M (.sl tg sz xs) (.slice base n cap)) {j : Nat} {c : List D} (hc : xs[j]? = some c) (hne : c ≠ []) : ∃ a, base = some a := by
  cases h with
  | sl _ _ _ _ _ sz' vf hn hc' ht hb hsz hx hd =>
    cases c with
    | nil => exact absurd rfl hne
    | cons d c =>
      have := hx j _ 0 d hc rfl
      unfold cellAt at this
      cases base with
      | none => cases this
      | some a => exact ⟨a, rfl⟩
/-- A row's element lies behind its address. -/
theorem row_lies (hrel : Rel w0 F M ρ hp w) {i sz : Nat} {f : Bool} {xs : List (List D)} (h : hp i = .row sz f xs ∨ hp i = .imm sz f xs) {l : Loc} {a : Addr} (hl : ρ i = some l) (ha : l.base = some a) {k : Nat} {c : List D} (hk : xs[k]? = some c) :
    l.sz = sz ∧ LiesAt M w ⟨a.block, a.off + k * sz, none⟩ c := by
  have hc := hrel.ch i
  rcases h with h | h <;> rw [h] at hc
  · obtain ⟨l', h1, h2, h3, h4, h5, h6, h7, h8⟩ := hc
    rw [hl] at h1; cases h1
    refine ⟨h2, ?_⟩
    rcases h8 with h8 | ⟨b, o, vals, t, fr, k1, k2, k3, k4, k5, k6⟩
    · have := (List.getElem?_eq_some_iff.1 hk).1; omega
    · rw [ha] at k1; cases k1
      refine flat_lies (o := o + k * sz) k2 (fun j d hd => ?_)
      exact k5 k c j d hk hd
  · obtain ⟨l', h1, h2, h3, h5, h6, h7⟩ := hc
    rw [hl] at h1; cases h1
    refine ⟨h2, rfl, fun j d hd => ?_⟩
    have hs := sl_lies hrel h7 (sz := sz) h5 (by rw [← h5 c (List.mem_of_getElem? hk)]; exact Nat.zero_lt_of_lt (List.getElem?_eq_some_iff.1 hd).1) ha
    have hj : j < sz := by rw [← h5 c (List.mem_of_getElem? hk)]; exact (List.getElem?_eq_some_iff.1 hd).1
    have := flat_get (xs := xs) h5 k j hj
    rw [hk, Option.bind_some, hd] at this
    obtain ⟨v, hv, hr'⟩ := hs.2 _ d this
    exact ⟨v, by rw [← hv, Nat.add_assoc], hr'⟩
theorem ok_load (hrel : Rel w0 F M ρ hp w) (hs : Sub hr hp) {x v : A} {ws : Writes} {vx : Value} (hx : RepA M ρ x vx) {ty : TypeId} {agg : Bool} {sz : Nat} (ha : aggT P ty = some agg) (hz : szT P ty = some sz)
    {kf : Bool} {cf : CallF} (h : aop kf cf nb hr (.load agg sz x) = some (v, ws)) : OpOk P w0 F M ρ hp nb (Instr.loadAt ty vx) w v ws := by
  have fin : ∀ (b o : Nat) (cs : List A) (vs : List Value), RepAs M ρ cs vs → w.rangeAt b o vs → (∀ u ∈ vs, u.oneCell' = true) → takeAgg agg sz cs = some v → vx = .pointer (some ⟨b, o, none⟩) → ws = [] → OpOk P w0 F M ρ hp nb (Instr.loadAt ty vx) w v ws := by
    intro b o cs vs h1 h2 h3 h4 h5 h6
    obtain ⟨u, hu, hr'⟩ := run_loadVar (P := P) h1 h2 h3 ha hz h4
    subst h5 h6
    exact OpOk.pure hrel (by simpa [Instr.loadAt, Instr.sureAddr] using hu) hr'
  have finD : ∀ (a : Addr) (cs : List D), LiesAt M w a cs → takeAgg agg sz (cs.map A.d) = some v → vx = .pointer (some a) → ws = [] → OpOk P w0 F M ρ hp nb (Instr.loadAt ty vx) w v ws := by
    intro a cs h1 h2 h3 h4
    obtain ⟨vs, k1, k2, k3⟩ := h1.vals (ρ := ρ)
    exact fin a.block a.off _ vs k1 k2 k3 h2 (by rw [h3, addr_eta h1.1]) h4
  simp only [aop] at h
  split at h
  · rename_i id off
    split at h
    · rename_i cs hid
      split at h
      · rename_i u hu
        simp only [Option.some.injEq, Prod.mk.injEq] at h
        obtain ⟨rfl, rfl⟩ := h
        have hc := hrel.chr hs id
        rw [hid] at hc
        obtain ⟨l, b, vals, t, fr, h1, h2, h3, h4, h5, h6⟩ := hc
        cases hx with
        | ptr _ _ l' b' h1' hb' =>
          rw [h1] at h1'; cases h1'; rw [h2] at hb'; cases hb'
          exact fin b off _ _ (h5.drop off) (rangeAt_block h3 off) (fun u hu => h6 u (by simpa using List.mem_of_mem_drop hu)) hu rfl rfl
      · cases h
    · cases h
  · rename_i id i off
    have key : ∀ (sz' : Nat) (f : Bool) (xs : List (List D)), (hr id = .row sz' f xs ∨ hr id = .imm sz' f xs) → (match xs[i]? with
          | some c => match takeAgg agg sz ((c.drop off).map A.d) with
            | some v => some (v, [])
            | none => none
          | none => none) = some (v, ws) → OpOk P w0 F M ρ hp nb (Instr.loadAt ty vx) w v ws := by
      intro sz' f xs hid h
      split at h
      · rename_i c hc
        split at h
        · rename_i u hu
          simp only [Option.some.injEq, Prod.mk.injEq] at h
          obtain ⟨rfl, rfl⟩ := h
          have hid' : hp id = .row sz' f xs ∨ hp id = .imm sz' f xs := hid.imp (fun e => hs.live e (by simp)) (fun e => hs.live e (by simp))
          cases hx with
          | ep _ _ _ l a h1 hb =>
            obtain ⟨e, hli⟩ := row_lies hrel hid' h1 hb hc
            exact finD ⟨a.block, a.off + i * sz' + off, none⟩ (c.drop off) (hli.drop off) hu (by rw [e]) rfl
        · cases h
      · cases h
    split at h
    · rename_i sz' f xs hid; exact key sz' f xs (.inl hid) h
    · rename_i sz' f xs hid; exact key sz' f xs (.inr hid) h
    · cases h
  · rename_i cs
    split at h
    · rename_i u hu
      simp only [Option.some.injEq, Prod.mk.injEq] at h
      obtain ⟨rfl, rfl⟩ := h
      cases hx with
      | dp _ a vf h1 h2 h3 => exact finD a cs ⟨h1, fun j d hd => ⟨_, hrel.cell (h2 j d hd), h3 j d hd⟩⟩ hu rfl rfl
    · cases h
  · cases h
end
end Go.Vm
end
section
/- Fourth part: addresses, lengths, cuts of slices, literals of structs, functions. -/
set_option linter.unusedVariables false
set_option linter.unusedSimpArgs false
set_option linter.unnecessarySimpa false
namespace Go.Vm
theorem RepD.uni {M : Mem} {tg : Tg} {sz : Nat} {xs : List (List D)} {v : Value} (h : RepD M (.sl tg sz xs) v) : Uni sz xs := by
  cases h with
  | sl _ _ _ _ _ _ vf hn hc ht hb hsz hx hd =>
    intro c hc'
    obtain ⟨j, hj⟩ := List.getElem?_of_mem hc'
    exact hsz j c hj
theorem RepD.parts {M : Mem} {tg : Tg} {sz : Nat} {xs : List (List D)} {v : Value} (h : RepD M (.sl tg sz xs) v) :
    ∃ base cap, v = .slice base xs.length cap ∧ xs.length ≤ cap ∧ TagOk tg base xs.length cap ∧ ∀ a, base = some a → a.spot = none := by
  cases h with
  | sl _ _ base n cap _ vf hn hc ht hb hsz hx hd => subst hn; exact ⟨base, cap, rfl, hc, ht, hb⟩
theorem RepD.empty {M : Mem} {tg : Tg} {sz sz' : Nat} {v : Value} (h : RepD M (.sl tg sz []) v) : RepD M (.sl tg sz' []) v := by
  cases h with
  | sl _ _ base n cap _ vf hn hc ht hb hsz hx hd => exact .sl tg [] base n cap sz' vf hn hc ht hb (by simp) (by simp) (by simp)
theorem RepD.okSz {M : Mem} {tg : Tg} {sz sz' : Nat} {xs : List (List D)} {v : Value} (h : RepD M (.sl tg sz' xs) v) (e : okSz sz sz' xs = true) : RepD M (.sl tg sz xs) v := by
  simp only [Vm.okSz, Bool.or_eq_true, beq_iff_eq, List.isEmpty_iff] at e
  rcases e with rfl | rfl
  · exact h
  · exact h.empty
theorem map_add {l : Option Addr} (hs : ∀ a, l = some a → a.spot = none) (i j : Nat) : (l.map (·.add i)).map (·.add j) = l.map (·.add (i + j)) := by
  cases l with
  | none => rfl
  | some a =>
    have := hs a rfl
    simp [addr_add this, addr_add (a := ⟨a.block, a.off + i, none⟩) rfl, Nat.add_assoc]
theorem map_spot {l : Option Addr} (hs : ∀ a, l = some a → a.spot = none) (i : Nat) : ∀ a, l.map (·.add i) = some a → a.spot = none := by
  intro a h
  obtain ⟨b, hb, rfl⟩ := Option.map_eq_some_iff.1 h
  rw [addr_add (hs b hb)]
theorem sl_cut {M : Mem} {tg tg' : Tg} {sz : Nat} {xs : List (List D)} {base : Option Addr} {n cap l h m : Nat} (hr : RepD M (.sl tg sz xs) (.slice base n cap)) (hl : l ≤ h) (hh : h ≤ xs.length) (hm : h ≤ m)
    (ht : TagOk tg' (if m = l then base else base.map (·.add (l * sz))) (h - l) (m - l)) :
    RepD M (.sl tg' sz ((xs.drop l).take (h - l))) (.slice (if m = l then base else base.map (·.add (l * sz))) (h - l) (m - l)) := by
  cases hr with
  | sl _ _ _ _ _ _ vf hn hc ht' hb hsz hx hd =>
    have hat : ∀ (j : Nat) (c : List D), ((xs.drop l).take (h - l))[j]? = some c → j < h - l ∧ xs[l + j]? = some c := fun j c hj => by
      rw [List.getElem?_take] at hj
      split at hj
      · rename_i hlt; rw [List.getElem?_drop] at hj; exact ⟨hlt, hj⟩
      · cases hj
    have hlen : ((xs.drop l).take (h - l)).length = h - l := by simp; omega
    refine .sl tg' _ _ _ _ sz (fun j i => vf (l + j) i) hlen.symm (by rw [hlen]; omega) (by rw [hlen]; exact ht) ?_ (fun j c hj => hsz _ c (hat j c hj).2) (fun j c i d hj hi => ?_) (fun j c i d hj hi => hd _ c i d (hat j c hj).2 hi)
    · intro a ha
      split at ha
      · exact hb a ha
      · exact map_spot hb _ a ha
    · obtain ⟨h1, h2⟩ := hat j c hj
      have hne : ¬ m = l := by omega
      rw [if_neg hne]
      have := hx _ c i d h2 hi
      unfold cellAt at this ⊢
      cases base with
      | none => cases this
      | some a =>
        simp only [Option.map_some, addr_add (hb a rfl)]
        rw [← this]
        congr 2
        simp [Nat.add_mul, Nat.add_assoc]

section
variable {P : Program} {w0 : World} {F M : Mem} {ρ : Rho} {hp hr : Heap} {w : World} {nb : Nat}
theorem rep_sl {tg : Tg} {sz : Nat} {xs : List (List D)} {v : Value} (h : RepA M ρ (.d (.sl tg sz xs)) v) : ∃ base cap, v = .slice base xs.length cap ∧ xs.length ≤ cap ∧ RepD M (.sl tg sz xs) (.slice base xs.length cap) := by
  cases h with
  | d h =>
    obtain ⟨base, cap, rfl, h1, _⟩ := h.parts
    exact ⟨base, cap, rfl, h1, h⟩
/-- What is known of a row's place. -/
theorem row_place (hrel : Rel w0 F M ρ hp w) (hs : Sub hr hp) {i sz : Nat} {f : Bool} {xs : List (List D)} (h : hr i = .row sz f xs ∨ hr i = .imm sz f xs) :
    ∃ l, ρ i = some l ∧ l.sz = sz ∧ l.len = xs.length ∧ l.len ≤ l.cap ∧ Uni sz xs ∧ (∀ a, l.base = some a → a.spot = none) ∧ (0 < sz → 0 < xs.length → ∃ a, l.base = some a) := by
  have hc := hrel.chr hs i
  rcases h with h | h <;> rw [h] at hc
  · obtain ⟨l, h1, h2, h3, h4, h5, h6, h7, h8⟩ := hc
    refine ⟨l, h1, h2, h3, h4, h6, h7, fun h0 hx => ?_⟩
    rcases h8 with h8 | ⟨b, o, _, _, _, k1, _⟩
    · omega
    · exact ⟨_, k1⟩
  · obtain ⟨l, h1, h2, h3, h5, h6, h7⟩ := hc
    obtain ⟨base, cap, e, h8, _⟩ := h7.parts
    have h9 : l.cap = cap := by simp at e; exact e.2.2
    refine ⟨l, h1, h2, h3, by rw [h3, h9]; exact h8, h5, h6, fun h0 hx => ?_⟩
    obtain ⟨c, hc⟩ : ∃ c, xs[0]? = some c := ⟨xs[0], List.getElem?_eq_getElem hx⟩
    exact sl_base h7 hc (fun e => by have := h5 c (List.mem_of_getElem? hc); rw [e] at this; simp at this; omega)

theorem ok_fa (hrel : Rel w0 F M ρ hp w) {x v : A} {ws : Writes} {vx : Value} (hx : RepA M ρ x vx) {s : TypeId} {i n : Nat} {fs : Array Field} {f : Field} (hu : P.underlying s = some (.struct fs)) (hf : fs[i]? = some f) (hz : szT P f.type = some (n + 1))
    {kf : Bool} {cf : CallF} (h : aop kf cf nb hr (.fa f.offset x) = some (v, ws)) : OpOk P w0 F M ρ hp nb (Instr.fieldAt s vx i) w v ws := by
  have key : ∀ a : Addr, a.spot = none → (Instr.fieldAt s (.pointer (some a)) i).run P w = .ok (.pointer (some ⟨a.block, a.off + f.offset, none⟩)) w := fun a ha => by
    simp [Instr.fieldAt, run_underlying hu, hf, Instr.sureAddr, fieldPlace, run_sizeOf hz, addr_add ha]
  simp only [aop] at h
  split at h
  · simp only [Option.some.injEq, Prod.mk.injEq] at h
    obtain ⟨rfl, rfl⟩ := h
    cases hx with
    | ptr _ _ l b h1 h2 => exact OpOk.pure hrel (key _ rfl) (.ptr _ _ l b h1 h2)
  · rename_i id k o
    simp only [Option.some.injEq, Prod.mk.injEq] at h
    obtain ⟨rfl, rfl⟩ := h
    cases hx with
    | ep _ _ _ l a h1 h2 => exact OpOk.pure hrel (key _ rfl) (by have := RepA.ep (M := M) _ k (o + f.offset) l a h1 h2; rw [← Nat.add_assoc] at this; exact this)
  · rename_i cs
    simp only [Option.some.injEq, Prod.mk.injEq] at h
    obtain ⟨rfl, rfl⟩ := h
    cases hx with
    | dp _ a vf h1 h2 h3 =>
      refine OpOk.pure hrel (key a h1) (.dp _ _ (fun j => vf (f.offset + j)) rfl (fun j d hd => ?_) (fun j d hd => ?_))
      · rw [List.getElem?_drop] at hd
        rw [← h2 _ d hd, Nat.add_assoc]
      · rw [List.getElem?_drop] at hd
        exact h3 _ d hd
  · cases h
theorem run_index {t e : TypeId} {sz : Nat} (hu : P.underlying t = some (.slice e)) (hz : szT P e = some sz) {a : Addr} (ha : a.spot = none) {n cap : Nat} {k : IntKind} {j : Int} (h0 : 0 ≤ j) (h1 : j < (n : Int)) (w : World) :
    (Instr.indexAt t (.slice (some a) n cap) (.int k j)).run P w = .ok (.pointer (some ⟨a.block, a.off + j.toNat * sz, none⟩)) w := by
  simp [Instr.indexAt, asIntOf, run_underlying hu, run_sizeOf hz, h0, h1, addr_add ha]
theorem ok_ia (hrel : Rel w0 F M ρ hp w) (hs : Sub hr hp) {x i v : A} {ws : Writes} {vx vi : Value} (hx : RepA M ρ x vx) (hi : RepA M ρ i vi) {t e : TypeId} {sz : Nat} (hu : P.underlying t = some (.slice e)) (hz : szT P e = some sz)
    {kf : Bool} {cf : CallF} (h : aop kf cf nb hr (.ia sz x i) = some (v, ws)) : OpOk P w0 F M ρ hp nb (Instr.indexAt t vx vi) w v ws := by
  simp only [aop] at h
  split at h
  · rename_i k j
    obtain rfl := rep_int hi
    split at h
    · rename_i tg sz' xs
      split at h
      · rename_i hc
        obtain ⟨rfl, h0, h1, h2⟩ := hc
        split at h
        · rename_i c hcj
          simp only [Option.some.injEq, Prod.mk.injEq] at h
          obtain ⟨rfl, rfl⟩ := h
          obtain ⟨base, cap, rfl, h3, h4⟩ := rep_sl hx
          have hcl := h4.uni c (List.mem_of_getElem? hcj)
          obtain ⟨a, rfl⟩ := sl_base h4 hcj (fun e => by rw [e] at hcl; simp at hcl; omega)
          cases h4 with
          | sl _ _ _ _ _ _ vf hn hc ht hb hsz hxx hd =>
            refine OpOk.pure hrel (run_index hu hz (hb a rfl) h1 h2 w) (.dp c _ (vf j.toNat) rfl (fun l d hl => ?_) (fun l d hl => hd _ c l d hcj hl))
            rw [← hxx _ c l d hcj hl]
            simp [cellAt, Nat.add_assoc]
        · cases h
      · cases h
    · rename_i id
      have key : ∀ (rsz : Nat) (f : Bool) (xs : List (List D)), (hr id = .row rsz f xs ∨ hr id = .imm rsz f xs) → (if rsz = sz ∧ 0 < sz ∧ 0 ≤ j ∧ j < (xs.length : Int) then some (A.ep id j.toNat 0, []) else none) = some (v, ws) → OpOk P w0 F M ρ hp nb (Instr.indexAt t vx (.int k j)) w v ws := by
        intro rsz f xs hid hq
        clear h
        split at hq
        · rename_i hc
          obtain ⟨rfl, h0, h1, h2⟩ := hc
          simp only [Option.some.injEq, Prod.mk.injEq] at hq
          obtain ⟨rfl, rfl⟩ := hq
          obtain ⟨l, k1, k2, k3, k4, k5, k6, k7⟩ := row_place hrel hs hid
          cases hx with
          | row _ l' h3 =>
            rw [k1] at h3; cases h3
            obtain ⟨a, ha⟩ := k7 h0 (by omega)
            rw [ha]
            refine OpOk.pure hrel (run_index hu hz (k6 a ha) h1 (by rw [k3]; exact h2) w) ?_
            have := RepA.ep (M := M) _ j.toNat 0 l a k1 ha
            rw [k2] at this
            exact this
        · cases hq
      split at h
      · rename_i rsz f xs hid; exact key _ _ _ (.inl hid) h
      · rename_i rsz f xs hid; exact key _ _ _ (.inr hid) h
      · cases h
    · rename_i id lo hi' own
      have key : ∀ (rsz : Nat) (f : Bool) (xs : List (List D)), (hr id = .row rsz f xs ∨ hr id = .imm rsz f xs) → (if rsz = sz ∧ 0 < sz ∧ 0 ≤ j ∧ j < ((hi' - lo : Nat) : Int) ∧ hi' ≤ xs.length then some (A.ep id (lo + j.toNat) 0, []) else none) = some (v, ws) → OpOk P w0 F M ρ hp nb (Instr.indexAt t vx (.int k j)) w v ws := by
        intro rsz f xs hid hq
        clear h
        split at hq
        · rename_i hc
          obtain ⟨rfl, h0, h1, h2, h2'⟩ := hc
          simp only [Option.some.injEq, Prod.mk.injEq] at hq
          obtain ⟨rfl, rfl⟩ := hq
          obtain ⟨l, k1, k2, k3, k4, k5, k6, k7⟩ := row_place hrel hs hid
          cases hx with
          | sub _ _ _ _ l' base cap h3 hle hc hb ho hs' =>
            rw [k1] at h3; cases h3
            obtain ⟨a, ha⟩ := k7 h0 (by omega)
            have hbe := hb (by omega)
            rw [ha] at hbe
            simp only [Option.map_some, addr_add (k6 a ha)] at hbe
            rw [hbe]
            refine OpOk.pure hrel (run_index hu hz rfl h1 h2 w) ?_
            have := RepA.ep (M := M) _ (lo + j.toNat) 0 l a k1 ha
            rw [k2, Nat.add_mul, ← Nat.add_assoc] at this
            rw [k2]
            exact this
        · cases hq
      split at h
      · rename_i rsz f xs hid; exact key _ _ _ (.inl hid) h
      · rename_i rsz f xs hid; exact key _ _ _ (.inr hid) h
      · cases h
    · rename_i id off len bsz
      split at h
      · rename_i hc
        obtain ⟨rfl, h1, h2⟩ := hc
        simp only [Option.some.injEq, Prod.mk.injEq] at h
        obtain ⟨rfl, rfl⟩ := h
        cases hx with
        | bs _ _ _ _ l b base cap h3 hl hc hb hs' =>
          rw [hb (by omega)]
          exact OpOk.pure hrel (run_index hu hz rfl h1 h2 w) (.ptr _ _ l b h3 hl)
      · cases h
    · cases h
  · cases h
theorem ok_iaArr (hrel : Rel w0 F M ρ hp w) {x i v : A} {ws : Writes} {vx vi : Value} (hx : RepA M ρ x vx) (hi : RepA M ρ i vi) {t e : TypeId} {n sz : Nat} (hu : P.underlying t = some (.array n e)) (hz : szT P e = some sz)
    {kf : Bool} {cf : CallF} (h : aop kf cf nb hr (.iaArr n sz x i) = some (v, ws)) : OpOk P w0 F M ρ hp nb (Instr.indexAt t vx vi) w v ws := by
  have key : ∀ (a : Addr) (k : IntKind) (j : Int), a.spot = none → 0 ≤ j → j < (n : Int) → (Instr.indexAt t (.pointer (some a)) (.int k j)).run P w = .ok (.pointer (some ⟨a.block, a.off + j.toNat * sz, none⟩)) w := fun a k j ha h0 h1 => by
    simp [Instr.indexAt, Instr.sureAddr, asIntOf, run_underlying hu, run_sizeOf hz, h0, h1, addr_add ha]
  simp only [aop] at h
  split at h
  · rename_i cs k j
    obtain rfl := rep_int hi
    split at h
    · rename_i hc
      simp only [Option.some.injEq, Prod.mk.injEq] at h
      obtain ⟨rfl, rfl⟩ := h
      cases hx with
      | dp _ a vf h1 h2 h3 =>
        refine OpOk.pure hrel (key a k j h1 hc.1 hc.2) (.dp _ _ (fun l => vf (j.toNat * sz + l)) rfl (fun l d hd => ?_) (fun l d hd => ?_))
        · rw [List.getElem?_drop] at hd
          rw [← h2 _ d hd, Nat.add_assoc]
        · rw [List.getElem?_drop] at hd
          exact h3 _ d hd
    · cases h
  · rename_i id off k j
    obtain rfl := rep_int hi
    split at h
    · rename_i hc
      simp only [Option.some.injEq, Prod.mk.injEq] at h
      obtain ⟨rfl, rfl⟩ := h
      cases hx with
      | ptr _ _ l b h1 h2 => exact OpOk.pure hrel (key _ k j rfl hc.1 hc.2) (.ptr _ _ l b h1 h2)
    · cases h
  · cases h
end
end Go.Vm
end
section
/- Fifth part: lengths, cuts of slices, literals of structs, functions, strings from bytes. -/
set_option linter.unusedVariables false
set_option linter.unusedSimpArgs false
set_option linter.unnecessarySimpa false
namespace Go.Vm
section
variable {P : Program} {w0 : World} {F M : Mem} {ρ : Rho} {hp hr : Heap} {w : World} {nb : Nat}
theorem KvsAt.len {M : Mem} {agg : Bool} : ∀ {kvs : List (List D × D)} {es : List MapEntry}, KvsAt M agg kvs es → kvs.length = es.length
  | [], [], _ => rfl
  | [], _ :: _, e => e.elim
  | _ :: _, [], e => e.elim
  | (k, v) :: r, e :: es, h => by simp [KvsAt.len h.2.2]
theorem ok_len (hrel : Rel w0 F M ρ hp w) (hs : Sub hr hp) {bk : BK} {x v : A} {ws : Writes} {vx : Value} (hx : RepA M ρ x vx) {ts : Array TypeId} {t : TypeId} {d : TypeDesc} (ty : TypeId) (ht : ts[0]? = some t) (hu : P.underlying t = some d)
    (hk : (bk = .str ∧ d = .string) ∨ (bk = .sl ∧ ∃ e, d = .slice e) ∨ (bk = .map ∧ ∃ k e, d = .map k e)) {kf : Bool} {cf : CallF} (h : aop kf cf nb hr (.len bk x) = some (v, ws)) :
    OpOk P w0 F M ρ hp nb (Builtin.len_ ts ty #[vx]) w v ws := by
  simp only [aop] at h
  split at h
  · rename_i n hn
    simp only [Option.some.injEq, Prod.mk.injEq] at h
    obtain ⟨rfl, rfl⟩ := h
    have hsl : ∀ (b : Option Addr) (cap : Nat) (e : TypeId), P.underlying t = some (.slice e) → vx = .slice b n cap → OpOk P w0 F M ρ hp nb (Builtin.len_ ts ty #[vx]) w (.d (.int .i64 n)) [] := fun b cap e hu hv => by
      subst hv
      exact OpOk.pure hrel (v' := goInt n) (by simp [Builtin.len_, ht, run_underlying hu]) (.d (.int _ _))
    rcases hk with ⟨rfl, rfl⟩ | ⟨rfl, e, rfl⟩ | ⟨rfl, k, e, rfl⟩
    · simp only [lenK] at hn
      split at hn
      · rename_i s
        simp only [Option.some.injEq] at hn; subst hn
        obtain rfl := rep_str hx
        exact OpOk.pure hrel (v' := goInt s.size) (by simp [Builtin.len_, ht, run_underlying hu]) (.d (.int _ _))
      · cases hn
    · simp only [lenK, lenOf] at hn
      split at hn
      · simp only [Option.some.injEq] at hn; subst hn
        obtain ⟨base, cap, rfl, _⟩ := rep_sl hx
        exact hsl _ _ e hu rfl
      · rename_i id
        have key : ∀ (rsz : Nat) (f : Bool) (xs : List (List D)), (hr id = .row rsz f xs ∨ hr id = .imm rsz f xs) → some xs.length = some n → OpOk P w0 F M ρ hp nb (Builtin.len_ ts ty #[vx]) w (.d (.int .i64 n)) [] := by
          intro rsz f xs hid hq
          obtain ⟨l, k1, k2, k3, k4, k5, k6, k7⟩ := row_place hrel hs hid
          cases hx with
          | row _ l' h3 =>
            rw [k1] at h3; cases h3
            exact hsl _ _ e hu (by cases hq; rw [k3])
        split at hn
        · rename_i hid; exact key _ _ _ (.inl hid) hn
        · rename_i hid; exact key _ _ _ (.inr hid) hn
        · cases hn
      · simp only [Option.some.injEq] at hn; subst hn
        cases hx with
        | sub => exact hsl _ _ e hu rfl
      · simp only [Option.some.injEq] at hn; subst hn
        cases hx with
        | bs => exact hsl _ _ e hu rfl
      · cases hn
    · simp only [lenK] at hn
      split at hn
      · rename_i id
        split at hn
        · rename_i agg kvs hid
          simp only [Option.some.injEq] at hn; subst hn
          have hc := hrel.chr hs id
          rw [hid] at hc
          obtain ⟨l, b, es, ck, h1, h2, h3, h4⟩ := hc
          cases hx with
          | map _ l' b' k1 k2 =>
            rw [h1] at k1; cases k1; rw [h2] at k2; cases k2
            refine OpOk.pure hrel (v' := goInt es.size) (by simp [Builtin.len_, ht, run_underlying hu, getObj, Sem.run, h3]) ?_
            rw [h4.len]
            simp only [Array.length_toList]
            exact .d (.int _ _)
        · cases hn
      · cases hn
  · cases h
theorem cut_le {len : Nat} {lo hi : Option A} {l h : Nat} (e : cut len lo hi = some (l, h)) : l ≤ h ∧ h ≤ len := by
  unfold cut at e
  split at e
  · cases e
  · rename_i h' e1
    split at e
    · cases e
    · rename_i l' e2
      simp only [Option.some.injEq, Prod.mk.injEq] at e
      obtain ⟨rfl, rfl⟩ := e
      constructor
      · unfold cutLo at e2
        split at e2
        · cases e2; omega
        · split at e2
          · cases e2; omega
          · cases e2
        · cases e2
      · unfold cutHi at e1
        split at e1
        · cases e1; omega
        · split at e1
          · cases e1; omega
          · cases e1
        · cases e1
/-- The model's bounds, with or without a third one. -/
theorem run_bounds {n cap : Nat} {lo hi mx : Option A} {vlo vhi vmx : Option Value} {l h : Nat} (hlo : RepO M ρ lo vlo) (hhi : RepO M ρ hi vhi) (hmx : RepO M ρ mx vmx) (hc : n ≤ cap)
    (e : (mx = none ∧ cut n lo hi = some (l, h)) ∨ (∃ k m x, mx = some (.d (.int k m)) ∧ hi = some x ∧ 0 ≤ m ∧ m ≤ (n : Int) ∧ cut m.toNat lo hi = some (l, h))) (w : World) :
    ∃ m, (Instr.sliceBounds true n cap vlo vhi vmx).run P w = .ok (l, h, m) w ∧ l ≤ h ∧ h ≤ n ∧ h ≤ m ∧ m ≤ cap ∧ (mx = none → m = cap) ∧ (∀ k x, mx = some (.d (.int k x)) → m = x.toNat) := by
  rcases e with ⟨rfl, e⟩ | ⟨k, m, x, rfl, rfl, h0, h1, e⟩
  · cases vmx with
    | some v => exact hmx.elim
    | none =>
      obtain ⟨h1, h2, h3⟩ := run_cut (P := P) hlo hhi hc e true w
      exact ⟨cap, h1 n (fun _ => rfl), h2, h3, by omega, Nat.le_refl _, fun _ => rfl, by simp⟩
  · cases vmx with
    | none => exact hmx.elim
    | some v =>
      obtain rfl := rep_int hmx
      cases vhi with
      | none => exact hhi.elim
      | some u =>
        obtain ⟨h2, h3, h4⟩ := run_cut3 (P := P) (M := M) (ρ := ρ) (km := k) hlo hhi hc h0 h1 e w
        exact ⟨m.toNat, h2, h3, by omega, h4, by omega, by simp, fun k' x' e => by cases e; rfl⟩
theorem run_sliceAt {t e : TypeId} {sz : Nat} (hu : P.underlying t = some (.slice e)) (hz : szT P e = some sz) {base : Option Addr} {n cap l h m : Nat} {vlo vhi vmx : Option Value} {w : World} (hb : (Instr.sliceBounds true n cap vlo vhi vmx).run P w = .ok (l, h, m) w) :
    (Instr.sliceAt t (.slice base n cap) vlo vhi vmx).run P w = .ok (.slice (if m = l then base else base.map (·.add (l * sz))) (h - l) (m - l)) w := by
  simp [Instr.sliceAt, Instr.slice, run_underlying hu, hb, run_sizeOf hz]
theorem cut_hi {k : Nat} {lo hi : Option A} {r : Nat × Nat} (mx : Option A) (hcode : mx.isSome = true → hi.isSome = true) (h : mx.isSome = true) : ∃ x, hi = some x := Option.isSome_iff_exists.1 (hcode h)
theorem rowLen_at {sz n id : Nat} (h : rowLen sz hr id = some n) : ∃ f xs, (hr id = .row sz f xs ∨ hr id = .imm sz f xs) ∧ xs.length = n := by
  unfold rowLen at h
  split at h
  · rename_i rsz f xs hid
    split at h
    · rename_i e; subst e; cases h; exact ⟨f, xs, .inl hid, rfl⟩
    · cases h
  · rename_i rsz f xs hid
    split at h
    · rename_i e; subst e; cases h; exact ⟨f, xs, .inr hid, rfl⟩
    · cases h
  · cases h
theorem ok_slSl (hrel : Rel w0 F M ρ hp w) (hs : Sub hr hp) {x v : A} {lo hi mx : Option A} {ws : Writes} {vx : Value} {vlo vhi vmx : Option Value} (hx : RepA M ρ x vx) (hlo : RepO M ρ lo vlo) (hhi : RepO M ρ hi vhi) (hmx : RepO M ρ mx vmx)
    (hcode : mx.isSome = true → hi.isSome = true) {t e : TypeId} {sz : Nat} (hu : P.underlying t = some (.slice e)) (hz : szT P e = some sz)
    {kf : Bool} {cf : CallF} (h : aop kf cf nb hr (.slSl sz x lo hi mx) = some (v, ws)) : OpOk P w0 F M ρ hp nb (Instr.sliceAt t vx vlo vhi vmx) w v ws := by
  simp only [aop] at h
  split at h
  · rename_i tg sz' xs
    split at h
    · rename_i hok
      obtain ⟨base, cap, rfl, hcap, hrep0⟩ := rep_sl hx
      have hrep := hrep0.okSz hok
      have hht : TagOk tg base xs.length cap := by obtain ⟨b, c, e, _, h', _⟩ := hrep.parts; cases e; exact h'
      have fin : ∀ (l h' m : Nat) (tg' : Tg), (Instr.sliceBounds true xs.length cap vlo vhi vmx).run P w = .ok (l, h', m) w → l ≤ h' → h' ≤ xs.length → h' ≤ m → TagOk tg' (if m = l then base else base.map (·.add (l * sz))) (h' - l) (m - l) →
          v = .d (.sl tg' sz ((xs.drop l).take (h' - l))) → ws = [] → OpOk P w0 F M ρ hp nb (Instr.sliceAt t (.slice base xs.length cap) vlo vhi vmx) w v ws := by
        intro l h' m tg' k1 k2 k3 k4 k5 k6 k7
        subst k6 k7
        exact OpOk.pure hrel (run_sliceAt hu hz k1) (.d (sl_cut hrep k2 k3 k4 k5))
      split at h
      · split at h
        · rename_i l h' hc
          simp only [Option.some.injEq, Prod.mk.injEq] at h
          obtain ⟨m, k1, k2, k3, k4, k5, k6, _⟩ := run_bounds (P := P) hlo hhi hmx hcap (.inl ⟨rfl, hc⟩) w
          obtain rfl := k6 rfl
          refine fin l h' m _ k1 k2 k3 k4 ?_ h.1.symm h.2.symm
          split
          · rename_i hf
            simp only [Bool.and_eq_true, Option.isNone_iff_eq_none] at hf
            have hh : h' = xs.length := by
              have := hc; rw [hf.2] at this
              simp only [cut, cutHi] at this
              split at this
              · cases this
              · rename_i e1
                simp only [Option.some.injEq, Prod.mk.injEq] at this; exact this.2.symm
            have hmc : m = xs.length := by
              cases tg <;> simp [Tg.isFull] at hf
              · exact hht
              · obtain ⟨_, h2, h3⟩ := hht; omega
            simp only [TagOk]; omega
          · trivial
        · cases h
      · rename_i k m0
        split at h
        · rename_i hm
          split at h
          · rename_i l h' hc
            simp only [Option.some.injEq, Prod.mk.injEq] at h
            obtain ⟨x, hx'⟩ := cut_hi (k := 0) (lo := none) (r := (0, 0)) (some (A.d (.int k m0))) hcode rfl
            obtain ⟨m, k1, k2, k3, k4, k5, _, k6⟩ := run_bounds (P := P) hlo hhi hmx hcap (.inr ⟨k, m0, x, rfl, hx', hm.1, hm.2, hc⟩) w
            obtain rfl := k6 _ _ rfl
            refine fin l h' _ _ k1 k2 k3 k4 ?_ h.1.symm h.2.symm
            split
            · rename_i hf
              simp only [TagOk]; omega
            · trivial
          · cases h
        · cases h
      · cases h
    · cases h
  · rename_i id
    split at h
    · rename_i n hn
      obtain ⟨f, xs, hid, rfl⟩ := rowLen_at hn
      obtain ⟨lc, k1, k2, k3, k4, k5, k6, k7⟩ := row_place hrel hs hid
      cases hx with
      | row _ l' h3 =>
        rw [k1] at h3; cases h3
        have fin : ∀ (l h' m : Nat) (own : Bool), (Instr.sliceBounds true lc.len lc.cap vlo vhi vmx).run P w = .ok (l, h', m) w → l ≤ h' → h' ≤ xs.length → h' ≤ m → (own = true → m = lc.cap) → v = .sub id l h' own → ws = [] →
            OpOk P w0 F M ρ hp nb (Instr.sliceAt t (.slice lc.base lc.len lc.cap) vlo vhi vmx) w v ws := by
          intro l h' m own j1 j2 j3 j4 j5 j6 j7
          subst j6 j7
          refine OpOk.pure hrel (run_sliceAt hu hz j1) (.sub id l h' own lc _ _ k1 j2 (by omega) (fun hlt => ?_) (fun ho => ⟨by rw [j5 ho], fun hlt => ?_⟩) (fun a ha => ?_))
          · rw [if_neg (by omega), k2]
          · rw [if_neg (by rw [j5 ho]; omega), k2]
          · split at ha
            · exact k6 a ha
            · exact map_spot k6 _ a ha
        split at h
        · split at h
          · rename_i l h' hc
            simp only [Option.some.injEq, Prod.mk.injEq] at h
            obtain ⟨m, j1, j2, j3, j4, j5, j6, _⟩ := run_bounds (P := P) hlo hhi hmx (n := lc.len) k4 (.inl ⟨rfl, by rw [k3]; exact hc⟩) w
            exact fin l h' m true j1 j2 (by omega) j4 (fun _ => j6 rfl) h.1.symm h.2.symm
          · cases h
        · rename_i k m0
          split at h
          · rename_i hm
            split at h
            · rename_i l h' hc
              simp only [Option.some.injEq, Prod.mk.injEq] at h
              obtain ⟨x, hx'⟩ := cut_hi (k := 0) (lo := none) (r := (0, 0)) (some (A.d (.int k m0))) hcode rfl
              obtain ⟨m, j1, j2, j3, j4, j5, _, j6⟩ := run_bounds (P := P) hlo hhi hmx (n := lc.len) k4 (.inr ⟨k, m0, x, rfl, hx', hm.1, by rw [k3]; exact hm.2, hc⟩) w
              exact fin l h' m false j1 j2 (by omega) j4 (by simp) h.1.symm h.2.symm
            · cases h
          · cases h
        · cases h
    · cases h
  · rename_i id o e' own
    split at h
    · rename_i n hn
      obtain ⟨f, xs, hid, rfl⟩ := rowLen_at hn
      obtain ⟨lc, k1, k2, k3, k4, k5, k6, k7⟩ := row_place hrel hs hid
      split at h
      · rename_i hoe
        cases hx with
        | sub _ _ _ _ l' base cap h3 hle hcc hb ho hs' =>
          rw [k1] at h3; cases h3
          have fin : ∀ (l h' m : Nat) (own' : Bool), (Instr.sliceBounds true (e' - o) cap vlo vhi vmx).run P w = .ok (l, h', m) w → l ≤ h' → (h' ≤ e' - o ∨ (own = true ∧ o + h' ≤ lc.cap)) → h' ≤ m → m ≤ cap → (own' = true → own = true ∧ m = cap) → v = .sub id (o + l) (o + h') own' → ws = [] →
              OpOk P w0 F M ρ hp nb (Instr.sliceAt t (.slice base (e' - o) cap) vlo vhi vmx) w v ws := by
            intro l h' m own' j1 j2 j3 j4 jc j5 j6 j7
            subst j6 j7
            have hr := RepA.sub (M := M) id (o + l) (o + h') own' lc (if m = l then base else base.map (·.add (l * sz))) (m - l) k1 (by omega) (by omega) (fun hlt => by
                have hbb : base = lc.base.map (·.add (o * lc.sz)) := by
                  rcases j3 with j3 | ⟨jw, j3⟩
                  · exact hb (by omega)
                  · exact (ho jw).2 (by omega)
                rw [if_neg (by omega), hbb, map_add k6, k2, Nat.add_mul]) (fun hw => by
                obtain ⟨hw1, hw2⟩ := j5 hw
                obtain ⟨h1, h2⟩ := ho hw1
                refine ⟨by omega, fun hlt => ?_⟩
                rw [if_neg (by omega), h2 (by omega), map_add k6, k2, Nat.add_mul]) (fun a ha => by
                split at ha
                · exact hs' a ha
                · exact map_spot hs' _ a ha)
            rw [show o + h' - (o + l) = h' - l by omega] at hr
            exact OpOk.pure hrel (run_sliceAt hu hz j1) hr
          split at h
          · split at h
            · rename_i l h' hc
              simp only [Option.some.injEq, Prod.mk.injEq] at h
              by_cases hw : (own && hi.isSome) = true
              · rw [if_pos hw] at hc
                simp only [Bool.and_eq_true] at hw
                obtain ⟨hw1, hw2⟩ := ho hw.1
                cases vmx with
                | some v => exact hmx.elim
                | none =>
                  obtain ⟨j1, j2, j3⟩ := run_cut (P := P) hlo hhi (cap := cap) (by omega) hc true w
                  exact fin l h' cap own (j1 (e' - o) (fun hn => by rw [hn] at hw; simp at hw)) j2 (.inr ⟨hw.1, by omega⟩) (by omega) (Nat.le_refl _) (fun h => ⟨h, rfl⟩) h.1.symm h.2.symm
              · rw [if_neg hw] at hc
                obtain ⟨m, j1, j2, j3, j4, j5, j6, _⟩ := run_bounds (P := P) hlo hhi hmx (n := e' - o) hcc (.inl ⟨rfl, hc⟩) w
                exact fin l h' m own j1 j2 (.inl j3) j4 j5 (fun h => ⟨h, j6 rfl⟩) h.1.symm h.2.symm
            · cases h
          · rename_i k m0
            split at h
            · rename_i hm
              split at h
              · rename_i l h' hc
                simp only [Option.some.injEq, Prod.mk.injEq] at h
                obtain ⟨x, hx'⟩ := cut_hi (k := 0) (lo := none) (r := (0, 0)) (some (A.d (.int k m0))) hcode rfl
                obtain ⟨m, j1, j2, j3, j4, j5, _, j6⟩ := run_bounds (P := P) hlo hhi hmx (n := e' - o) hcc (.inr ⟨k, m0, x, rfl, hx', hm.1, hm.2, hc⟩) w
                exact fin l h' m false j1 j2 (.inl j3) j4 j5 (by simp) h.1.symm h.2.symm
              · cases h
            · cases h
          · cases h
      · cases h
    · cases h
  · cases h
end
end Go.Vm
end
section
/- Sixth part: literals of structs, rows that become data, arrays' slices, functions, strings from bytes. -/
set_option linter.unusedVariables false
set_option linter.unusedSimpArgs false
set_option linter.unnecessarySimpa false
namespace Go.Vm
theorem foldl_set (off : Nat) : ∀ (vs : List Value) (k : Nat) (cells : Array Value), off + k + vs.length ≤ cells.size →
    ((vs.zipIdx k).foldl (fun cs p => cs.setIfInBounds (off + p.2) p.1) cells).toList = splice cells.toList (off + k) vs
  | [], k, cells, h => by simp [splice]
  | v :: vs, k, cells, h => by
    rw [List.zipIdx_cons, List.foldl_cons, foldl_set off vs (k + 1) _ (by simp at h ⊢; omega)]
    simp only [splice, Array.toList_setIfInBounds]
    have := list_seg_step cells.toList (off + k) v vs (by simp at h ⊢; omega)
    simp only [List.length_cons, Nat.add_assoc, List.append_assoc] at this ⊢
    rw [show vs.length + 1 = 1 + vs.length by omega] at *
    simpa [Nat.add_assoc, Nat.add_comm, Nat.add_left_comm] using this
theorem fill_step (place : Nat → Option (Nat × Nat)) (cells : Array Value) (i : Nat) (v : Value) (rest : List (Nat × Value)) {off size : Nat} (hp : place i = some (off, size)) (hs : v.cells.size = size) (ho : off + size ≤ cells.size) :
    Instr.fill place cells ((i, v) :: rest) = Instr.fill place (splice cells.toList off v.cells.toList).toArray rest := by
  have h := foldl_set off v.cells.toList 0 cells (by simp; omega)
  have e : (v.cells.zipIdx.foldl (fun cs p => cs.setIfInBounds (off + p.2) p.1) cells) = (splice cells.toList off v.cells.toList).toArray := by
    apply Array.ext'
    rw [← Array.foldl_toList, Array.toList_zipIdx]
    exact h
  rw [Instr.fill, hp]
  simp only
  rw [if_neg (by simp; omega)]
  have e' : (v.cells.zipIdx.foldl (fun cs x => match x with | (c, j) => cs.setIfInBounds (off + j) c) cells) = (splice cells.toList off v.cells.toList).toArray := e
  rw [e']
section
variable {P : Program} {w0 : World} {F M : Mem} {ρ : Rho} {hp hr : Heap} {w : World} {nb : Nat}
/-- Parts and their places, as the code has them and as the model has them. -/
inductive PartsRep (M : Mem) (ρ : Rho) (place : Nat → Option (Nat × Nat)) : List (Nat × Nat × A) → List (Nat × Value) → Prop
  | nil : PartsRep M ρ place [] []
  | cons (off sz i : Nat) (x : A) (v : Value) (ps : List (Nat × Nat × A)) (vs : List (Nat × Value)) (h : place i = some (off, sz)) (hx : RepA M ρ x v) (ht : PartsRep M ρ place ps vs) : PartsRep M ρ place ((off, sz, x) :: ps) ((i, v) :: vs)
theorem oneCell_splice {cs us : List Value} {o : Nat} (h : ∀ u ∈ cs, u.oneCell' = true) (h' : ∀ u ∈ us, u.oneCell' = true) : ∀ u ∈ splice cs o us, u.oneCell' = true := by
  intro u hu
  unfold splice at hu
  rcases List.mem_append.1 hu with h1 | h1
  · exact h u (List.mem_of_mem_take h1)
  · rcases List.mem_append.1 h1 with h1 | h1
    · exact h' u h1
    · exact h u (List.mem_of_mem_drop h1)
theorem fill_rep {place : Nat → Option (Nat × Nat)} : ∀ {ps : List (Nat × Nat × A)} {vs : List (Nat × Value)} (cs : List A) (cells : Array Value) {out : List A}, PartsRep M ρ place ps vs → RepAs M ρ cs cells.toList → (∀ u ∈ cells.toList, u.oneCell' = true) →
    setParts cs ps = some out → ∃ cells' : Array Value, Instr.fill place cells vs = some cells' ∧ RepAs M ρ out cells'.toList ∧ ∀ u ∈ cells'.toList, u.oneCell' = true
  | _, _, cs, cells, out, .nil, hc, h1, h => by
    simp only [setParts, Option.some.injEq] at h; subst h
    exact ⟨cells, rfl, hc, h1⟩
  | _, _, cs, cells, out, .cons off sz i x v ps vs hp hx ht, hc, h1, h => by
    simp only [setParts] at h
    split at h
    · rename_i us hus
      obtain ⟨h2, h3⟩ := cells_rep hx hus
      split at h
      · rename_i hb
        have hsz : v.cells.size = sz := by have := h2.1; simp at this; omega
        have hcs : cs.length = cells.size := by have := hc.1; simpa using this
        rw [fill_step place cells i v vs hp hsz (by omega)]
        exact fill_rep _ _ ht (by simpa using hc.splice h2 off) (by simpa using oneCell_splice h1 (fun u hu => h3 u (by simpa using hu))) h
      · cases h
    · cases h
theorem zeroT_rep {t : TypeId} {z : List A} (h : zeroT P t = some z) : ∃ (i : TypeInfo) (v : Value), P.info? t = some i ∧ i.zero = some v ∧ RepAs M ρ z v.cells.toList ∧ ∀ u ∈ v.cells.toList, u.oneCell' = true := by
  unfold zeroT at h
  split at h
  · rename_i v hv
    cases hi : P.info? t with
    | none => rw [hi] at hv; cases hv
    | some i =>
      rw [hi] at hv
      refine ⟨i, v, rfl, hv, ⟨by rw [mapOpt_len h], fun j x u h1 h2 => ?_⟩, fun u hu => ?_⟩
      · obtain ⟨y, h3, h4⟩ := mapOpt_at h j u h2
        rw [h1] at h3; cases h3
        unfold ofCell at h4
        split at h4
        · exact ofVal_rep h4
        · cases h4
      · obtain ⟨j, hj⟩ := List.getElem?_of_mem hu
        obtain ⟨y, _, h4⟩ := mapOpt_at h j u hj
        unfold ofCell at h4
        split at h4
        · assumption
        · cases h4
  · cases h
theorem mapOpt_mapM {α β : Type} (f : α → Option β) : ∀ l : List α, l.mapM f = mapOpt f l
  | [] => rfl
  | x :: l => by
    simp only [List.mapM_cons, mapOpt, mapOpt_mapM f l, Option.bind_eq_bind, Option.pure_def]
    cases f x <;> simp
    cases mapOpt f l <;> rfl
theorem ok_build (hrel : Rel w0 F M ρ hp w) {v : A} {ws : Writes} {t : TypeId} {z : List A} {ps : List (Nat × Nat × A)} {vs : Array (Nat × Value)} (hz : zeroT P t = some z) {place : Nat → Option (Nat × Nat)} (hps : PartsRep M ρ place ps vs.toList)
    (hu : (∃ fs pl, P.underlying t = some (.struct fs) ∧ placesOf P fs = some pl ∧ place = (fun x => pl[x]?)) ∨ (∃ n e sz, P.underlying t = some (.array n e) ∧ szT P e = some sz ∧ place = (fun i => some (i * sz, sz))))
    {kf : Bool} {cf : CallF} (h : aop kf cf nb hr (.build z ps) = some (v, ws)) : OpOk P w0 F M ρ hp nb (Instr.build t vs) w v ws := by
  simp only [aop] at h
  split at h
  · rename_i cs hcs
    simp only [Option.some.injEq, Prod.mk.injEq] at h
    obtain ⟨rfl, rfl⟩ := h
    obtain ⟨i, zv, hi, hzv, h1, h2⟩ := zeroT_rep (M := M) (ρ := ρ) hz
    obtain ⟨cells, h3, h4, h5⟩ := fill_rep z zv.cells hps h1 h2 hcs
    have hb : P.built t vs.toList = some cells := by
      rcases hu with ⟨fs, pl, hu, hpl, rfl⟩ | ⟨n, e, sz, hu, hs, rfl⟩
      · unfold placesOf szT at hpl
        have : fs.toList.mapM (fun f => (P.info? f.type).map fun i => (f.offset, i.size)) = some pl := by
          rw [mapOpt_mapM, ← hpl]
          congr 1
          funext f
          cases P.info? f.type <;> rfl
        simp only [Program.built, hi, hu, hzv, this]
        simpa using h3
      · unfold szT at hs
        obtain ⟨ie, hie, rfl⟩ := Option.map_eq_some_iff.1 hs
        simp only [Program.built, hi, hu, hzv, hie]
        exact h3
    refine OpOk.pure hrel (v' := .agg cells) (run_build w t vs cells hb) ?_
    have := RepA.agg' h4 h5
    simpa using this
  · cases h
theorem chunks_get {α : Type} (sz : Nat) : ∀ (n : Nat) (l : List α) (j : Nat), j < n → (chunks sz n l)[j]? = some ((l.drop (j * sz)).take sz)
  | n + 1, l, 0, _ => by simp [chunks]
  | n + 1, l, j + 1, h => by
    simp only [chunks, List.getElem?_cons_succ]
    rw [chunks_get sz n (l.drop sz) j (by omega), List.drop_drop, Nat.succ_mul, Nat.add_comm]
theorem chunks_len {α : Type} (sz : Nat) : ∀ (n : Nat) (l : List α), (chunks sz n l).length = n
  | 0, _ => rfl
  | n + 1, l => by simp [chunks, chunks_len sz n]
theorem chunks_at {α : Type} {sz n : Nat} {l : List α} (hl : n * sz ≤ l.length) {j : Nat} {c : List α} (h : (chunks sz n l)[j]? = some c) : j < n ∧ c.length = sz ∧ ∀ i, i < sz → c[i]? = l[j * sz + i]? := by
  have hj : j < n := by have := (List.getElem?_eq_some_iff.1 h).1; rwa [chunks_len] at this
  rw [chunks_get sz n l j hj] at h
  cases h
  have : (j + 1) * sz ≤ n * sz := Nat.mul_le_mul_right sz hj
  rw [Nat.succ_mul] at this
  refine ⟨hj, by simp; omega, fun i hi => ?_⟩
  rw [List.getElem?_take, if_pos hi, List.getElem?_drop]
theorem chunks_uni {α : Type} {sz n : Nat} {l : List α} (hl : n * sz ≤ l.length) : Uni sz (chunks sz n l) := fun c hc => by
  obtain ⟨j, hj⟩ := List.getElem?_of_mem hc
  exact (chunks_at hl hj).2.1
theorem chunks_flat {α : Type} {sz : Nat} : ∀ {n : Nat} {l : List α}, n * sz ≤ l.length → (chunks sz n l).flatten = l.take (n * sz)
  | 0, l, _ => by simp [chunks]
  | n + 1, l, h => by
    rw [Nat.succ_mul] at h
    rw [chunks, List.flatten_cons, chunks_flat (by simp; omega), Nat.succ_mul, Nat.add_comm (n * sz) sz, List.take_add]
/-- A slice over cells that are told. -/
theorem told_sl {sz n : Nat} {cs : List D} {a : Addr} {vf : Nat → Value} (hs : a.spot = none) (hx : ∀ (j : Nat) (d : D), cs[j]? = some d → cellM M ⟨a.block, a.off + j, none⟩ = some (vf j)) (hd : ∀ (j : Nat) (d : D), cs[j]? = some d → RepD M d (vf j))
    (hl : n * sz ≤ cs.length) : RepD M (.sl .any sz (chunks sz n cs)) (.slice (some a) n n) := by
  refine .sl .any _ _ _ _ sz (fun j l => vf (j * sz + l)) (chunks_len sz n cs).symm (by rw [chunks_len]; exact Nat.le_refl _) trivial (by simpa using hs) (fun j c hj => (chunks_at hl hj).2.1) (fun j c l d hj hi => ?_) (fun j c l d hj hi => ?_)
  · obtain ⟨h1, h2, h3⟩ := chunks_at hl hj
    have : l < sz := by rw [← h2]; exact (List.getElem?_eq_some_iff.1 hi).1
    rw [h3 l this] at hi
    exact hx _ d hi
  · obtain ⟨h1, h2, h3⟩ := chunks_at hl hj
    have : l < sz := by rw [← h2]; exact (List.getElem?_eq_some_iff.1 hi).1
    rw [h3 l this] at hi
    exact hd _ d hi
theorem ok_s2a (hrel : Rel w0 F M ρ hp w) {x v : A} {ws : Writes} {vx : Value} (hx : RepA M ρ x vx) {t e : TypeId} {n : Nat} (hu : P.underlying t = some (.array n e))
    {kf : Bool} {cf : CallF} (h : aop kf cf nb hr (.s2a n x) = some (v, ws)) : OpOk P w0 F M ρ hp nb (Instr.arrayAt t vx) w v ws := by
  simp only [aop] at h
  split at h
  · rename_i tg sz xs
    split at h
    · rename_i hc
      simp only [Option.some.injEq, Prod.mk.injEq] at h
      obtain ⟨rfl, rfl⟩ := h
      obtain ⟨base, cap, rfl, h3, h4⟩ := rep_sl hx
      have hu' := h4.uni
      have h0 : 0 < xs.length := by omega
      have hx0 : xs[0]? = some xs[0] := List.getElem?_eq_getElem h0
      obtain ⟨a, rfl⟩ := sl_base h4 hx0 (fun e => by have := hu' _ (List.mem_of_getElem? hx0); rw [e] at this; simp at this; omega)
      cases h4 with
      | sl _ _ _ _ _ _ vf hn hcc ht hb hsz hxx hd =>
        have hat : ∀ (j : Nat) (d : D), ((xs.take n).flatten)[j]? = some d → ∃ c, xs[j / sz]? = some c ∧ c[j % sz]? = some d := fun j d hj => by
          rw [flat_take hu', List.getElem?_take] at hj
          split at hj
          · exact (flat_ix hu' hj).2
          · cases hj
        refine OpOk.pure hrel (v' := .pointer (some a)) (by simp [Instr.arrayAt, run_underlying hu, Nat.not_lt.2 hc.1]) (.dp _ a (fun j => vf (j / sz) (j % sz)) (hb a rfl) (fun j d hj => ?_) (fun j d hj => ?_))
        · obtain ⟨c, k1, k2⟩ := hat j d hj
          have := hxx _ c _ d k1 k2
          simpa [cellAt, Nat.mul_comm, Nat.div_add_mod] using this
        · obtain ⟨c, k1, k2⟩ := hat j d hj
          exact hd _ c _ d k1 k2
    · cases h
  · cases h
theorem ok_slArr (hrel : Rel w0 F M ρ hp w) (hs : Sub hr hp) {x v : A} {lo hi : Option A} {ws : Writes} {vx : Value} {vlo vhi : Option Value} (hx : RepA M ρ x vx) (hlo : RepO M ρ lo vlo) (hhi : RepO M ρ hi vhi) {t e : TypeId} {n sz : Nat}
    (hu : P.underlying t = some (.array n e) ∨ ∃ t', P.underlying t = some (.pointer t') ∧ P.underlying t' = some (.array n e)) (hz : szT P e = some sz)
    {kf : Bool} {cf : CallF} (h : aop kf cf nb hr (.slArr n sz x lo hi) = some (v, ws)) : OpOk P w0 F M ρ hp nb (Instr.sliceAt t vx vlo vhi none) w v ws := by
  have key : ∀ (a : Addr) (l h' : Nat), cut n lo hi = some (l, h') → (Instr.sliceAt t (.pointer (some a)) vlo vhi none).run P w = .ok (.slice (some (if n = l then a else a.add (l * sz))) (h' - l) (n - l)) w ∧ l ≤ h' ∧ h' ≤ n := by
    intro a l h' hc
    obtain ⟨h1, h2, h3⟩ := run_cut (P := P) hlo hhi (Nat.le_refl n) hc false w
    have h4 := h1 n (fun _ => rfl)
    rcases hu with hu | ⟨t', hu, hu'⟩
    · exact ⟨by simp [Instr.sliceAt, run_underlying hu, Instr.sureAddr, h4, run_sizeOf hz], h2, h3⟩
    · exact ⟨by simp [Instr.sliceAt, Instr.slice, run_underlying hu, run_underlying hu', asAddr, h4, run_sizeOf hz], h2, h3⟩
  simp only [aop] at h
  split at h
  · rename_i cs
    split at h
    · rename_i l h' hc
      split at h
      · rename_i hl
        simp only [Option.some.injEq, Prod.mk.injEq] at h
        obtain ⟨rfl, rfl⟩ := h
        cases hx with
        | dp _ a vf h1 h2 h3 =>
          obtain ⟨k1, k2, k3⟩ := key a l h' hc
          have hr := sl_cut (tg' := .any) (l := l) (h := h') (m := n) (told_sl h1 h2 h3 hl) k2 (by rw [chunks_len]; exact k3) k3 trivial
          refine OpOk.pure hrel k1 (.d ?_)
          have e : (if n = l then some a else (some a).map (·.add (l * sz))) = some (if n = l then a else a.add (l * sz)) := by split <;> rfl
          rw [e] at hr
          exact hr
      · cases h
    · cases h
  · rename_i id off
    split at h
    · rename_i l h' hc
      split at h
      · rename_i cs hid
        split at h
        · rename_i hl
          simp only [Option.some.injEq, Prod.mk.injEq] at h
          obtain ⟨rfl, rfl⟩ := h
          cases hx with
          | ptr _ _ lc b h1 h2 =>
            obtain ⟨k1, k2, k3⟩ := key _ l h' hc
            refine OpOk.pure hrel k1 (.bs _ _ _ _ lc b _ _ h1 h2 (by omega) (fun hlt => ?_) (fun a ha => ?_))
            · rw [if_neg (by omega), Addr.add_mid]
            · split at ha
              · cases ha; rfl
              · cases ha; rw [Addr.add_mid]
        · cases h
      · cases h
    · cases h
  · cases h
theorem rep_list {cs : List A} {vs : Array Value} (h : RepAs M ρ cs vs.toList) (f : FuncId) : RepA M ρ (.fn f cs) (.func (.func f) #[] vs) :=
  .fn f cs vs (by simpa using h.1) (fun i x v a b => h.2 i x v a (by simpa using b))
theorem ok_mkfn (hrel : Rel w0 F M ρ hp w) {v : A} {cs : List A} {ws : Writes} {vs : Array Value} (hx : RepAs M ρ cs vs.toList) {f : FuncId} {kf : Bool} {cf : CallF} (h : aop kf cf nb hr (.mkfn f cs) = some (v, ws)) :
    OpOk P w0 F M ρ hp nb (Instr.makeFunc (.func f) #[] vs) w v ws := by
  simp only [aop, Option.some.injEq, Prod.mk.injEq] at h
  obtain ⟨rfl, rfl⟩ := h
  exact OpOk.pure hrel (v' := .func (.func f) #[] vs) rfl (rep_list hx f)
end
end Go.Vm
end
section
/- Seventh part: what becomes data; new memory. -/
set_option linter.unusedVariables false
set_option linter.unusedSimpArgs false
set_option linter.unnecessarySimpa false
namespace Go.Vm
section
variable {P : Program} {w0 : World} {F M : Mem} {ρ : Rho} {hp hr : Heap} {w : World} {nb : Nat}
def Mem.add (M : Mem) (b : Nat) (o : Obj) : Mem := fun k => if k = b then some o else M k
theorem Mem.add_le {b : Nat} {o : Obj} (h : M b = none) : MemLe M (Mem.add M b o) := fun k o' e => by
  unfold Mem.add; split
  · rename_i hk; subst hk; rw [h] at e; cases e
  · exact e
theorem upd_same {α : Type} (f : Nat → α) (k : Nat) (v : α) : upd f k v k = v := by simp [upd]
theorem upd_ne {α : Type} (f : Nat → α) {k j : Nat} (v : α) (h : j ≠ k) : upd f k v j = f j := by simp [upd, h]
/-- A chunk's own block is told: it will not change any more. -/
theorem Rel.tell (hrel : Rel w0 F M ρ hp w) {i b : Nat} {o : Obj} (c : Chunk) (ho : Owns ρ i (hp i) b) (hb : w.heap[b]? = some o) (hc : RepC (Mem.add M b o) ρ w i c) (hn : ∀ b', ¬ Owns ρ i c b') :
    MemLe M (Mem.add M b o) ∧ Rel w0 F (Mem.add M b o) ρ (upd hp i c) w := by
  have hM := Mem.add_le (o := o) (hrel.own i b ho).1
  have hold : ∀ j b', Owns ρ j (upd hp i c j) b' → j ≠ i ∧ Owns ρ j (hp j) b' := fun j b' h => by
    by_cases hj : j = i
    · subst hj; rw [upd_same] at h; exact absurd h (hn b')
    · rw [upd_ne _ _ hj] at h; exact ⟨hj, h⟩
  refine ⟨hM, hrel.os, hrel.tape, hrel.output, hrel.size, fun k o' e => ?_, hrel.frm, fun k o' e => ?_, fun j => ?_, fun j b' h => ?_, fun j k b' h1 h2 => hrel.sep j k b' (hold j b' h1).2 (hold k b' h2).2⟩
  · unfold Mem.add at e; split at e
    · rename_i hk; subst hk; cases e; exact hb
    · exact hrel.mem k o' e
  · unfold Mem.add at e; split at e
    · rename_i hk; subst hk; exact (hrel.own i _ ho).2
    · exact hrel.mf k o' e
  · by_cases hj : j = i
    · subst hj; rw [upd_same]; exact hc
    · rw [upd_ne _ _ hj]
      exact (hrel.ch j).mono hM (RhoLe.refl _) (fun _ _ _ e => e)
  · obtain ⟨hj, h'⟩ := hold j b' h
    obtain ⟨h1, h2⟩ := hrel.own j b' h'
    refine ⟨?_, h2⟩
    unfold Mem.add; split
    · rename_i hk; subst hk; exact absurd (hrel.sep j i _ h' ho) hj
    · exact h1
/-- A chunk that owns nothing takes the place of one that owned nothing. -/
theorem Rel.swap (hrel : Rel w0 F M ρ hp w) {i : Nat} (c : Chunk) (hc : RepC M ρ w i c) (hn : ∀ b', ¬ Owns ρ i c b') : Rel w0 F M ρ (upd hp i c) w := by
  have hold : ∀ j b', Owns ρ j (upd hp i c j) b' → j ≠ i ∧ Owns ρ j (hp j) b' := fun j b' h => by
    by_cases hj : j = i
    · subst hj; rw [upd_same] at h; exact absurd h (hn b')
    · rw [upd_ne _ _ hj] at h; exact ⟨hj, h⟩
  refine ⟨hrel.os, hrel.tape, hrel.output, hrel.size, hrel.mem, hrel.frm, hrel.mf, fun j => ?_, fun j b' h => hrel.own j b' (hold j b' h).2, fun j k b' h1 h2 => hrel.sep j k b' (hold j b' h1).2 (hold k b' h2).2⟩
  by_cases hj : j = i
  · subst hj; rw [upd_same]; exact hc
  · rw [upd_ne _ _ hj]; exact hrel.ch j
theorem cellM_add {b o : Nat} {vals : Array Value} {t : TypeId} {fr : Nat × Nat} : cellM (Mem.add M b (.cells vals t fr)) ⟨b, o, none⟩ = vals[o]? := by simp [cellM, Mem.add]
/-- A row becomes data. -/
theorem Rel.freeze (hrel : Rel w0 F M ρ hp w) {i sz : Nat} {f : Bool} {xs : List (List D)} (hi : hp i = .row sz f xs) :
    ∃ M', MemLe M M' ∧ Rel w0 F M' ρ (upd hp i (.imm sz f xs)) w ∧ ∃ l, ρ i = some l ∧ l.sz = sz ∧ l.len = xs.length ∧ RepD M' (.sl (if f then .full else .any) sz xs) (.slice l.base l.len l.cap) ∧ (∀ a, l.base = some a → a.spot = none) := by
  have hc := hrel.ch i
  rw [hi] at hc
  obtain ⟨l, h1, h2, h3, h4, h5, h6, h7, h8⟩ := hc
  have hown : ∀ b', ¬ Owns ρ i (.imm sz f xs) b' := fun b' h => h
  have htag : TagOk (if f then .full else .any) l.base xs.length l.cap := by
    cases f
    · trivial
    · have := h5 rfl; simp [TagOk]; omega
  rcases Nat.eq_zero_or_pos l.cap with h0 | h0
  · have hx : xs = [] := List.eq_nil_of_length_eq_zero (by omega)
    subst hx
    have hd : RepD M (.sl (if f then .full else .any) sz []) (.slice l.base l.len l.cap) := .sl _ [] _ _ _ sz (fun _ _ => undef) h3 (by simp) htag h7 (by simp) (by simp) (by simp)
    exact ⟨M, MemLe.refl _, hrel.swap _ ⟨l, h1, h2, h3, h6, h7, hd⟩ hown, l, h1, h2, h3, hd, h7⟩
  · rcases h8 with h8 | ⟨b, o, vals, t, fr, k1, k2, k3, k4, k5, k6⟩
    · omega
    · have hd : RepD (Mem.add M b (.cells vals t fr)) (.sl (if f then .full else .any) sz xs) (.slice l.base l.len l.cap) := by
        have hM := Mem.add_le (o := Obj.cells vals t fr) (hrel.own i b (by rw [hi]; exact ⟨l, _, h1, k1, rfl, by omega⟩)).1
        refine .sl _ xs _ _ _ sz (fun j l => vals.toList.getD (o + j * sz + l) undef) h3 (by omega) htag h7 (fun j c hj => h6 c (List.mem_of_getElem? hj)) (fun j c l' d hj hl => ?_) (fun j c l' d hj hl => ?_)
        · obtain ⟨v, hv, hr⟩ := k5 j c l' d hj hl
          rw [k1]
          simp only [cellAt]
          have e : o + (j * sz + l') = o + j * sz + l' := by omega
          simp only [cellM_add, e]
          have hv' : vals[o + j * sz + l']? = some v := by simpa using hv
          rw [hv', List.getD_eq_getElem?_getD, hv]; rfl
        · obtain ⟨v, hv, hr⟩ := k5 j c l' d hj hl
          rw [List.getD_eq_getElem?_getD, hv]
          exact hr.mono hM
      obtain ⟨g1, g2⟩ := hrel.tell (i := i) (b := b) (.imm sz f xs) (by rw [hi]; exact ⟨l, _, h1, k1, rfl, by omega⟩) k2 ⟨l, h1, h2, h3, h6, h7, hd⟩ hown
      exact ⟨_, g1, g2, l, h1, h2, h3, hd, h7⟩
theorem RepD.part {tg : Tg} {sz : Nat} {xs : List (List D)} {lb base : Option Addr} {n c cap lo hi : Nat} (h : RepD M (.sl tg sz xs) (.slice lb n c)) (hle : lo ≤ hi) (hhi : hi ≤ xs.length) (hc : hi - lo ≤ cap)
    (hb : lo < hi → base = lb.map (·.add (lo * sz))) (hs : ∀ a, base = some a → a.spot = none) : RepD M (.sl .any sz ((xs.drop lo).take (hi - lo))) (.slice base (hi - lo) cap) := by
  cases h with
  | sl _ _ _ _ _ _ vf hn hcc ht hb' hsz hx hd =>
    have hat : ∀ (j : Nat) (c : List D), ((xs.drop lo).take (hi - lo))[j]? = some c → j < hi - lo ∧ xs[lo + j]? = some c := fun j c hj => by
      rw [List.getElem?_take] at hj
      split at hj
      · rename_i hlt; rw [List.getElem?_drop] at hj; exact ⟨hlt, hj⟩
      · cases hj
    have hlen : ((xs.drop lo).take (hi - lo)).length = hi - lo := by simp; omega
    refine .sl _ _ _ _ _ sz (fun j i => vf (lo + j) i) hlen.symm (by rw [hlen]; exact hc) trivial hs (fun j c hj => hsz _ c (hat j c hj).2) (fun j c i d hj hi' => ?_) (fun j c i d hj hi' => hd _ c i d (hat j c hj).2 hi')
    obtain ⟨h1, h2⟩ := hat j c hj
    have := hx _ c i d h2 hi'
    rw [hb (by omega)]
    unfold cellAt at this ⊢
    cases lb with
    | none => cases this
    | some a =>
      simp only [Option.map_some, addr_add (hb' a rfl)]
      rw [← this]
      congr 2
      simp [Nat.add_mul, Nat.add_assoc]
theorem toD1_ok (hrel : Rel w0 F M ρ hp w) (hs : Sub hr hp) {kf : Bool} {x : A} {v : Value} {d : D} {ws : Writes} (hx : RepA M ρ x v) (h : toD1 kf hr x = some (d, ws)) :
    ∃ M', MemLe M M' ∧ RepD M' d v ∧ Rel w0 F M' ρ (applyW hp ws) w := by
  have htag : ∀ {M' : Mem} {f : Bool} {sz : Nat} {xs : List (List D)} {v : Value}, RepD M' (.sl (if f then .full else .any) sz xs) v → RepD M' (.sl (if kf && f then .full else .any) sz xs) v := fun {M' f sz xs v} h => by
    cases kf <;> cases f <;> simp at h ⊢
    · exact h
    · exact h.any
    · exact h
    · exact h
  unfold toD1 at h
  split at h
  · simp only [Option.some.injEq, Prod.mk.injEq] at h
    obtain ⟨rfl, rfl⟩ := h
    cases hx with
    | d hd => exact ⟨M, MemLe.refl _, hd.dim kf, hrel⟩
  · simp only [Option.some.injEq, Prod.mk.injEq] at h
    obtain ⟨rfl, rfl⟩ := h
    cases hx with
    | d hd => exact ⟨M, MemLe.refl _, hd, hrel⟩
  · rename_i id
    split at h
    · rename_i sz f xs hid
      simp only [Option.some.injEq, Prod.mk.injEq] at h
      obtain ⟨rfl, rfl⟩ := h
      obtain ⟨M', h1, h2, l, h3, h4, h5, h6, h7⟩ := hrel.freeze (hs.live hid (by simp))
      cases hx with
      | row _ l' h8 => rw [h3] at h8; cases h8; exact ⟨M', h1, htag h6, h2⟩
    · rename_i sz f xs hid
      simp only [Option.some.injEq, Prod.mk.injEq] at h
      obtain ⟨rfl, rfl⟩ := h
      have hc := hrel.chr hs id
      rw [hid] at hc
      obtain ⟨l, h1, h2, h3, h4, h5, h6⟩ := hc
      cases hx with
      | row _ l' h8 => rw [h1] at h8; cases h8; exact ⟨M, MemLe.refl _, htag h6, hrel⟩
    · cases h
  · rename_i id lo hi own
    split at h
    · rename_i sz f xs hid
      split at h
      · rename_i hle
        simp only [Option.some.injEq, Prod.mk.injEq] at h
        obtain ⟨rfl, rfl⟩ := h
        obtain ⟨M', h1, h2, l, h3, h4, h5, h6, h7⟩ := hrel.freeze (hs.live hid (by simp))
        cases hx with
        | sub _ _ _ _ l' base cap k1 k2 k3 k4 k5 k6 => rw [h3] at k1; cases k1; exact ⟨M', h1, h6.part k2 hle k3 (by rw [← h4]; exact k4) k6, h2⟩
      · cases h
    · rename_i sz f xs hid
      split at h
      · rename_i hle
        simp only [Option.some.injEq, Prod.mk.injEq] at h
        obtain ⟨rfl, rfl⟩ := h
        have hc := hrel.chr hs id
        rw [hid] at hc
        obtain ⟨l, h1, h2, h3, h4, h5, h6⟩ := hc
        cases hx with
        | sub _ _ _ _ l' base cap k1 k2 k3 k4 k5 k6 => rw [h1] at k1; cases k1; exact ⟨M, MemLe.refl _, h6.part k2 hle k3 (by rw [← h2]; exact k4) k6, hrel⟩
      · cases h
    · cases h
  · rename_i id off len sz
    split at h
    · rename_i cs hid
      split at h
      · rename_i ds hds
        split at h
        · rename_i hl
          simp only [Option.some.injEq, Prod.mk.injEq] at h
          obtain ⟨rfl, rfl⟩ := h
          have hid' := hs.live hid (by simp)
          have hc := hrel.ch id
          rw [hid'] at hc
          obtain ⟨l, b, vals, t, fr, h1, h2, h3, h4, h5, h6⟩ := hc
          have hown : Owns ρ id (hp id) b := by rw [hid']; exact ⟨l, _, h1, h2, rfl⟩
          obtain ⟨g1, g2⟩ := hrel.tell (i := id) (b := b) .dead hown h3 trivial (fun b' h => h)
          refine ⟨_, g1, ?_, g2⟩
          obtain ⟨_, j1, j2⟩ := allD_rep hds h5
          cases hx with
          | bs _ _ _ _ l' b' base cap k1 k2 k3 k4 k5 =>
            rw [h1] at k1; cases k1; rw [h2] at k2; cases k2
            have hld : len * sz ≤ (ds.drop off).length := by simp; omega
            rcases Nat.eq_zero_or_pos len with h0 | h0
            · subst h0
              exact .sl _ _ _ _ _ sz (fun _ _ => undef) (by simp [chunks]) (by simp [chunks]) trivial k5 (by simp [chunks]) (by simp [chunks]) (by simp [chunks])
            · obtain rfl := k4 h0
              have hat : ∀ (j : Nat) (d : D), (ds.drop off)[j]? = some d → ∃ u, vals[off + j]? = some u ∧ RepD M d u := fun j d hj => by
                rw [List.getElem?_drop] at hj
                have hlt : off + j < vals.toList.length := by rw [← j1]; exact (List.getElem?_eq_some_iff.1 hj).1
                exact ⟨vals.toList[off + j], by simpa using List.getElem?_eq_getElem hlt, j2 _ d _ hj (List.getElem?_eq_getElem hlt)⟩
              have := told_sl (M := Mem.add M b (.cells vals t fr)) (sz := sz) (n := len) (cs := ds.drop off) (a := ⟨b, off, none⟩) (vf := fun j => (vals[off + j]?).getD undef) rfl (fun j d hj => by
                  obtain ⟨u, hu, _⟩ := hat j d hj
                  simp only [cellM_add, hu, Option.getD_some]) (fun j d hj => by
                  obtain ⟨u, hu, hr⟩ := hat j d hj
                  rw [hu]; exact hr.mono g1) hld
              cases this with
              | sl _ _ _ _ _ _ vf hn hcc ht hb hsz hxx hd => exact .sl _ _ _ _ _ sz vf hn (by rw [chunks_len]; exact k3) trivial hb hsz hxx hd
        · cases h
      · cases h
    · cases h
  · cases h
theorem Sub.apply (hs : Sub hr hp) : ∀ (ws : Writes), Sub (applyW hr ws) (applyW hp ws) := by
  intro ws
  induction ws generalizing hr hp with
  | nil => exact hs
  | cons p ws ih =>
    refine ih (hr := upd hr p.1 p.2) (hp := upd hp p.1 p.2) (fun i => ?_)
    by_cases hi : i = p.1
    · subst hi; rw [upd_same, upd_same]; exact .inl rfl
    · rw [upd_ne _ _ hi, upd_ne _ _ hi]; exact hs i
theorem applyW_append (hp : Heap) : ∀ (ws us : Writes), applyW hp (ws ++ us) = applyW (applyW hp ws) us := by
  intro ws
  induction ws generalizing hp with
  | nil => intro us; rfl
  | cons p ws ih => intro us; exact ih (upd hp p.1 p.2) us
theorem toDs_ok {kf : Bool} : ∀ {xs : List A} {vs : List Value} {ds : List D} {ws : Writes} {M : Mem} {hp hr : Heap}, Rel w0 F M ρ hp w → Sub hr hp → RepAs M ρ xs vs → toDs kf hr xs = some (ds, ws) →
    ∃ M', MemLe M M' ∧ ds.length = vs.length ∧ (∀ (i : Nat) (d : D) (v : Value), ds[i]? = some d → vs[i]? = some v → RepD M' d v) ∧ Rel w0 F M' ρ (applyW hp ws) w
  | [], vs, ds, ws, M, hp, hr, hrel, hs, hx, h => by
    simp only [toDs, Option.some.injEq, Prod.mk.injEq] at h
    obtain ⟨rfl, rfl⟩ := h
    exact ⟨M, MemLe.refl _, by simpa using hx.1, by simp, hrel⟩
  | x :: xs, vs, ds, ws, M, hp, hr, hrel, hs, hx, h => by
    obtain ⟨v, vs, rfl, hv, hvs⟩ := hx.cases_cons
    simp only [toDs] at h
    split at h
    · rename_i y w1 h1
      split at h
      · rename_i ys w2 h2
        simp only [Option.some.injEq, Prod.mk.injEq] at h
        obtain ⟨rfl, rfl⟩ := h
        obtain ⟨M1, k1, k2, k3⟩ := toD1_ok hrel hs hv h1
        obtain ⟨M2, j1, j2, j3, j4⟩ := toDs_ok k3 (hs.apply w1) (hvs.mono k1 (RhoLe.refl _)) h2
        refine ⟨M2, k1.trans j1, by simp [j2], fun i d u hi hu => ?_, by rw [applyW_append]; exact j4⟩
        cases i with
        | zero => simp at hi hu; subst hi hu; exact k2.mono j1
        | succ i => exact j3 i d u (by simpa using hi) (by simpa using hu)
      · cases h
    · cases h
end
end Go.Vm
end
