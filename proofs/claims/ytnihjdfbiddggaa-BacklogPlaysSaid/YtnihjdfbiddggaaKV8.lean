/- A part of the proof of BacklogPlaysSaid: VmGlue. -/
import Derived.Test.YtnihjdfbiddggaaKV5
import Derived.Test.YtnihjdfbiddggaaKV7
import Derived.ChangeSame
import Derived.RowKit
import Derived.ChangeSlices
import Derived.ReadAgain
/- From runs of the machine to the statements. -/
set_option linter.unusedVariables false
set_option linter.unusedSimpArgs false
set_option linter.unnecessarySimpa false
namespace Go.Vm
open Go.ChangeShapes Go.WideShapes
/-- All memory is told. -/
def heapM (W : World) : Mem := fun k => W.heap[k]?
def Kept (W W' : World) : Prop := W'.os = W.os ∧ W'.output = W.output ∧ ∀ (k : Nat) o, W.heap[k]? = some o → W'.heap[k]? = some o
theorem rel0 (W : World) : Rel W (fun _ => none) (heapM W) (fun _ => none) (hpOf []) W :=
  ⟨rfl, rfl, rfl, Nat.le_refl _, fun _ _ h => h, fun _ _ h => by simp at h, fun _ _ _ => rfl, fun i => by simp [hpOf, RepC], fun i b h => by simp [hpOf, Owns] at h, fun i j b h => by simp [hpOf, Owns] at h⟩
theorem law_calls {P : Program} {kf : Bool} {prog : FuncId → Option CF} (hprog : ∀ w0, ProgOk P w0 prog) (hmix : P.follows .mixedOrders = true) {g : FuncId} {args : List A} {vals : List Value} {H' : List Chunk} {dirty : List Nat}
    (hrun : runW kf prog g args [] = some (.d (.bool true), H', dirty)) {W : World} (hrep : RepAs (heapM W) (fun _ => none) args vals) : Calls P g vals.toArray W fun e W' => e = .returned (.bool true) ∧ Kept W W' := by
  obtain ⟨fn, _, _, _, h⟩ := runW_ok (hprog W) hmix (fun _ => none) g args [] _ _ _ hrun (fun i hi => by simp at hi) (heapM W) (fun _ => none) W vals (rel0 W) (fun i l h => by simp at h) hrep
  refine (h (fun v' w' => v' = .bool true ∧ Kept W w') (fun M' ρ' v' w' h1 _ _ _ h5 h6 _ => ⟨rep_bool h5, h6.os, h6.output, fun k o ho => h6.mem k o (h1 k o ho)⟩)).mono (fun e w' h => ?_)
  obtain ⟨v', rfl, rfl, h2⟩ := h
  exact ⟨rfl, h2⟩
section
variable {H : Type} {enc : TypeId × Value → H} {P : Program} {w w' : World} {base : Nat} {spare : Nat → Bool} {held : Bool}
theorem cell_ext (hx : ∀ (k : Nat) o, w.heap[k]? = some o → w'.heap[k]? = some o) {a : Addr} {v : Value} (h : w.cell? a = some v) : w'.cell? a = some v := by
  unfold World.cell? at h ⊢
  split at h
  · rename_i c x y hc
    rw [hx _ _ hc]; exact h
  · cases h
theorem cells_ext (hx : ∀ (k : Nat) o, w.heap[k]? = some o → w'.heap[k]? = some o) {a : Addr} {n : Nat} {cs : List Value} (h : w.cells? base a n = some cs) : w'.cells? base a n = some cs := by
  unfold World.cells? at h ⊢
  split at h
  · rename_i hb
    rw [if_pos hb]
    exact mapM_mono (fun i y hy => cell_ext hx hy) h
  · cases h
theorem trod_ext (hx : ∀ (k : Nat) o, w.heap[k]? = some o → w'.heap[k]? = some o) : ∀ (fuel : Nat) (t : TypeId) (cs : List Value) (x : DataW H × List MemPlace), DataW.trod enc P w base spare held fuel t cs = some x → DataW.trod enc P w' base spare held fuel t cs = some x
  | 0, t, cs, x, h => by simp [DataW.trod] at h
  | fuel + 1, t, cs, x, h => by
    have ih := trod_ext hx fuel
    have hel : ∀ {a : Addr} {n : Nat} {e : TypeId} {y : DataW H × List MemPlace}, (w.cells? base a n).bind (DataW.trod enc P w base spare held fuel e) = some y → (w'.cells? base a n).bind (DataW.trod enc P w' base spare held fuel e) = some y := fun hy => by
      obtain ⟨c, h1, h2⟩ := Option.bind_eq_some_iff.1 hy
      rw [cells_ext hx h1]; exact ih _ _ _ h2
    unfold DataW.trod at h ⊢
    generalize hu : P.underlying t = u at h ⊢
    split at h <;> first
      | exact h
      | (cases h; done)
      | skip
    · rename_i e a
      obtain ⟨y, h1, h2⟩ := Option.map_eq_some_iff.1 h
      simp only [hel h1, Option.map_some, h2]
    · rename_i e a len cap
      simp only at h ⊢
      split at h
      · rename_i hc
        rw [if_pos hc]
        obtain ⟨els, h1, h2⟩ := Option.bind_eq_some_iff.1 h
        obtain ⟨rest, h3, h4⟩ := Option.map_eq_some_iff.1 h2
        rw [mapM_mono (fun i y hy => hel hy) h1]
        simp only [Option.bind_some]
        have : (if spare a.block = true then (List.range (cap - len)).mapM fun j => (w'.cells? base (a.add ((len + j) * P.cellsOf e)) (P.cellsOf e)).bind (DataW.trod enc P w' base spare held fuel e) else some []) = some rest := by
          split at h3
          · rename_i hs; rw [if_pos hs]; exact mapM_mono (fun i y hy => hel hy) h3
          · rename_i hs; rw [if_neg hs]; exact h3
        rw [this]
        exact congrArg some h4
      · cases h
    · rename_i fs cs
      split at h
      · rename_i hc
        rw [if_pos hc]
        obtain ⟨xs, h1, h2⟩ := Option.map_eq_some_iff.1 h
        rw [mapM_mono (fun f y hy => ih _ _ _ hy) h1]
        exact congrArg some h2
      · cases h
    · rename_i n e cs
      split at h
      · rename_i hc
        rw [if_pos hc]
        obtain ⟨xs, h1, h2⟩ := Option.map_eq_some_iff.1 h
        rw [mapM_mono (fun f y hy => ih _ _ _ hy) h1]
        exact congrArg some h2
      · cases h
    · rename_i ms u v
      split at h
      · exact h
      · obtain ⟨y, h1, h2⟩ := Option.map_eq_some_iff.1 h
        rw [ih _ _ _ h1]
        exact congrArg some h2
      · cases h
    · rename_i k e b
      split at h
      · rename_i es clock hes
        rw [hx _ _ hes]
        simp only
        split at h
        · rename_i hc
          rw [if_pos hc]
          obtain ⟨ents, h1, h2⟩ := Option.bind_eq_some_iff.1 h
          rw [mapM_mono (fun y z hz => ?_) h1]
          · exact h2
          · obtain ⟨key, k1, k2⟩ := Option.bind_eq_some_iff.1 hz
            rw [k1]
            simp only [Option.bind_some]
            split at k2
            · rename_i hf
              rw [if_pos hf]
              obtain ⟨q, q1, q2⟩ := Option.map_eq_some_iff.1 k2
              rw [ih _ _ _ q1]
              exact congrArg some q2
            · cases k2
        · cases h
      · cases h
theorem trodAll_ext (hx : ∀ (k : Nat) o, w.heap[k]? = some o → w'.heap[k]? = some o) : ∀ {ts : List TypeId} {vs : List Value} {ds : List (DataW H)} {ps : List MemPlace}, DataW.TrodAll enc P w base spare held ts vs ds ps → DataW.TrodAll enc P w' base spare held ts vs ds ps
  | [], [], [], _, h => h
  | _ :: _, _ :: _, _ :: _, _, ⟨p, q, ⟨n, h1⟩, h2, e⟩ => ⟨p, q, ⟨n, trod_ext hx _ _ _ _ h1⟩, trodAll_ext hx h2, e⟩
  | [], [], _ :: _, _, h => by simp [DataW.TrodAll] at h
  | [], _ :: _, _, _, h => by simp [DataW.TrodAll] at h
  | _ :: _, [], _, _, h => by simp [DataW.TrodAll] at h
  | _ :: _, _ :: _, [], _, h => by simp [DataW.TrodAll] at h
theorem kept_but {W W' : World} (h : Kept W W') (may : MemPlace → Prop) : W.keptBut W' may := by
  refine ⟨h.1, h.2.1, fun i hi => ?_⟩
  have h1 : W.heap[i]? = some W.heap[i] := by simp [hi]
  have h2 := h.2.2 i _ h1
  rw [h1, h2]
  cases W.heap[i] with
  | cells c t fr => exact ⟨rfl, rfl, rfl, fun _ _ => rfl⟩
  | map es clock => exact .inr ⟨rfl, rfl⟩
  | _ => rfl
theorem kept_frozen {W W' : World} (h : Kept W W') {a : Addr} (ha : a.block < W.heap.size) : W'.frozen? a = W.frozen? a := by
  have h1 : W.heap[a.block]? = some W.heap[a.block] := by simp [ha]
  have h2 := h.2.2 _ _ h1
  unfold World.frozen?
  rw [h1, h2]
/-- A law's answer: true, and all memory as it was. -/
theorem law_post (K : Kids P (fun t => ∃ d, Rowish P d t)) (hz : ∀ t e, (∃ d, Rowish P d t) → P.underlying t = some (.slice e) → 0 < P.cellsOf e) {f : Func} (hp : ∀ t ∈ f.params.toList, ∃ d, Rowish P d t) {s : ChangeSpec} {apart fresh handsOn again : Bool} {W W' : World} {args : Array Value} {ds : List (DataW H)} {before : List MemPlace} {tb : TypeId}
    (hvars : s.vars = []) (hW : DataW.Whole enc P f.params.toList s.vars apart W args.toList ds [] before) (hr : f.resultTypes = #[tb]) (htb : P.underlying tb = some .bool)
    (hs : s.fn H (ds ++ []) = { results := [.lit (.bool true)], args := ds }) (hk : Kept W W') : s.post enc P f apart fresh handsOn again W args (.bool true) W' := by
  have hW0 := hW
  obtain ⟨p, q, hA, hV, rfl, hz', hn⟩ := hW
  rw [hvars] at hV
  have hq : q = [] := by simpa [DataW.TrodVars] using hV
  subst hq
  have hold : ∀ x ∈ p ++ [], (fun b => decide (b < W.heap.size)) x.block = true := fun x hx => by simpa using hW0.lt x hx
  have hargs : ∀ sp : Nat → Bool, (∀ x ∈ p, sp x.block = true) → DataW.TrodAll enc P W' 0 sp true f.params.toList args.toList ds p := fun sp hsp => trodAll_ext hk.2.2 (hA.respare K hz hp hsp)
  have hres : ∀ (b : Nat) (sp : Nat → Bool) (hd : Bool), DataW.TrodAll enc P W' b sp hd f.resultTypes.toList ((Value.bool true).resultList f.resultTypes.size) [.lit (.bool true)] [] := fun b sp hd => by
    rw [hr]
    exact trodAll_mk1 (Go.RowKit.shut_bool htb true)
  refine ⟨ds, [], p ++ [], [], p, [], hW0, by rw [hs]; exact hres _ _ _, by rw [hs]; exact hargs _ (fun x hx => hold x (by simpa using hx)), by rw [hs, hvars]; simp [DataW.TrodVars], World.keptBut_mono (fun x hx => ⟨hx, .inr (.inl (by simpa using hx))⟩) (kept_but hk (· ∈ p ++ [])), fun _ => ?_⟩
  refine ⟨Go.RowKit.ok_one hr rfl (Go.RowKit.okWide_bool_mk htb true), _, [], ([] ++ p) ++ [], ⟨[] ++ p, [], trodAll_append (hargs _ (fun _ _ => rfl)) (hres _ _ _), by rw [hvars]; simp [DataW.TrodVars], rfl, ?_, ?_⟩, ?_⟩
  · intro b off hp'
    have hlt : b < W.heap.size := hW0.lt (.cell b off) (by simpa using hp')
    rw [kept_frozen hk (a := ⟨b, off, none⟩) hlt]
    exact hz' b off (by simpa using hp')
  · intro ha
    simpa using hn ha
  · intro x hx _
    simpa using hx
/-! ### What came in -/
theorem full_of {P : Program} (h : ((List.range P.types.size).all fun t => match P.underlying t with | some (.slice e) => decide (0 < P.cellsOf e) | _ => true) = true) : ∀ t e, (∃ d, Rowish P d t) → P.underlying t = some (.slice e) → 0 < P.cellsOf e := fun t e hx hu => by
  obtain ⟨d, hd⟩ := hx
  have : t < P.types.size := by
    cases d with
    | zero => exact hd
    | succ d =>
      rcases hd with hd | ⟨e', h1, _⟩
      · exact hd
      · rw [hu] at h1; cases h1
  exact slices_full_of P h t e this hu
theorem u8_of_num {n : Int} {M : Mem} {ρ : Rho} {v : Value} (h : (Lit.int .u8 n).wf = true) : RepA M ρ (.d (.int .u8 n)) v = RepA M ρ (.d (.int .u8 (toB n).toNat)) v := by
  have h2 : 0 ≤ n ∧ n ≤ 255 := by simpa [Lit.wf, IntKind.min, IntKind.max, IntKind.signed, IntKind.bits] using h
  rw [← w_toB, w_u8 h2]
theorem u8_of_nums {zs : List Int} (h : ∀ n ∈ zs, (Lit.int .u8 n).wf = true) : (zs.map fun n => [D.int .u8 n]) = u8s (zs.map toB) := by
  simp only [u8s, List.map_map]
  apply List.map_congr_left
  intro n hn
  have h1 := h n hn
  have h2 : 0 ≤ n ∧ n ≤ 255 := by simpa [Lit.wf, IntKind.min, IntKind.max, IntKind.signed, IntKind.bits] using h1
  have h3 : ((toB n).toNat : Int) = n := by
    rw [← w_toB]; exact w_u8 h2
  simp only [Function.comp, h3]
theorem nat_of_num {n : Int} {k : IntKind} (hk : k.signed = false) (h : (Lit.int k n).wf = true) : ∃ m : Nat, n = m ∧ m < 2 ^ k.bits := by
  have h2 : 0 ≤ n ∧ n ≤ 2 ^ k.bits - 1 := by simpa [Lit.wf, IntKind.min, IntKind.max, hk] using h
  refine ⟨n.toNat, by omega, ?_⟩
  have : ((n.toNat : Nat) : Int) < ((2 ^ k.bits : Nat) : Int) := by simp; omega
  omega

theorem rep_of_int {t : TypeId} {k : IntKind} {v : Value} {d : DataW H} {ps : List MemPlace} {r : Reach} {b0 : Nat} (ht : P.underlying t = some (.int k)) (hval : Value.okWide P w r b0 t v) (hd : DataW.Trod enc P w base spare held t v d ps) :
    ∃ n : Int, (Lit.int k n).wf = true ∧ RepA (heapM w) (fun _ => none) (.d (.int k n)) v := by
  obtain ⟨n, rfl, rfl, rfl, hw⟩ := open_int ht hval hd
  exact ⟨n, hw, .d (.int k n)⟩
theorem rep_of_nums {t e : TypeId} {k : IntKind} {v : Value} {d : DataW H} {ps : List MemPlace} {r : Reach} {b0 : Nat} (ht : P.underlying t = some (.slice e)) (he : P.underlying e = some (.int k)) (hc : P.cellsOf e = 1) (hval : Value.okWide P w r b0 t v)
    (hd : DataW.Trod enc P w base spare held t v d ps) : ∃ zs : List Int, (∀ n ∈ zs, (Lit.int k n).wf = true) ∧ zs.length ≤ maxLen ∧ RepA (heapM w) (fun _ => none) (.d (.sl .any 1 (zs.map fun n => [.int k n]))) v := by
  obtain ⟨fuel, hf⟩ := hd
  have hcell : Cell.okWide P w r b0 t v := by
    unfold Value.okWide at hval
    rw [ht] at hval
    exact hval
  unfold Cell.okWide at hcell
  rw [ht] at hcell
  simp only at hcell
  unfold Cell.ok at hcell
  rw [ht] at hcell
  rcases open_ints ht he hc hf with ⟨h1, h2⟩ | ⟨a, len, cap, zs, h1, h2, h3, h4, h5, h6, h7, h8⟩
  · have : v = .slice none 0 0 := by cases v <;> simp_all [Value.cells]
    subst this
    exact ⟨[], by simp, Nat.zero_le _, .d (.sl .any [] none 0 0 1 (fun _ _ => undef) rfl (Nat.le_refl _) trivial (by simp) (by simp) (by simp) (by simp))⟩
  · have : v = .slice (some a) len cap := by cases v <;> simp_all [Value.cells]
    subst this
    have hspot : a.spot = none := hcell.2.2.2.1
    have hlen : len ≤ zs.length := by rw [h5]; split <;> omega
    refine ⟨zs.take len, fun n hn => h8 n (List.mem_of_mem_take hn), by simp; omega, .d (.sl .any _ (some a) len cap 1 (fun j _ => .int k (zs.getD j 0)) (by simp; omega) (by simp; omega) trivial (by simpa using hspot) ?_ ?_ ?_)⟩
    · intro j c hj
      rw [List.getElem?_map] at hj
      obtain ⟨n, hn, rfl⟩ := Option.map_eq_some_iff.1 hj
      rfl
    · intro j c l d hj hl
      rw [List.getElem?_map] at hj
      obtain ⟨n, hn, rfl⟩ := Option.map_eq_some_iff.1 hj
      cases l with
      | zero =>
        have hj' : j < zs.length := by
          have := (List.getElem?_eq_some_iff.1 hn).1
          simp at this; omega
        have := h7 j hj'
        simp only [cellAt, cellM, heapM, Nat.mul_one, Nat.add_zero]
        rw [addr_add hspot] at this
        exact this
      | succ l => simp at hl
    · intro j c l d hj hl
      rw [List.getElem?_map] at hj
      obtain ⟨n, hn, rfl⟩ := Option.map_eq_some_iff.1 hj
      cases l with
      | zero =>
        simp only [List.getElem?_cons_zero, Option.some.injEq] at hl
        subst hl
        have hn' : zs.getD j 0 = n := by
          rw [List.getElem?_take] at hn
          split at hn
          · rw [List.getD_eq_getElem?_getD, hn]; rfl
          · cases hn
        rw [hn']
        exact .int k n
      | succ l => simp at hl
end
end Go.Vm
