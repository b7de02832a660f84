/- A part of the proof of WireBackUptoSaid: VmGlueS. -/
import Derived.Test.YthojpjhnhipfpaaKV8
/- Structs that come in: cell by cell. -/
set_option linter.unusedVariables false
set_option linter.unusedSimpArgs false
namespace Go.Vm
open Go.ChangeShapes Go.WideShapes
section
variable {H : Type} {enc : TypeId × Value → H} {P : Program} {w : World} {base : Nat} {spare : Nat → Bool} {held : Bool}
theorem mapM_each {α β : Type} {f : α → Option β} : ∀ {l : List α} {ys : List β}, l.mapM f = some ys → ∀ a ∈ l, ∃ y, f a = some y
  | [], _, _, a, ha => by cases ha
  | x :: l, ys, h, a, ha => by
    rw [List.mapM_cons] at h
    cases hx : f x with
    | none => rw [hx] at h; cases h
    | some y =>
      rw [hx] at h
      cases hl : l.mapM f with
      | none => simp [hl] at h
      | some zs =>
        rcases List.mem_cons.1 ha with rfl | ha
        · exact ⟨y, hx⟩
        · exact mapM_each hl a ha
/-- A struct that came in: its cells. -/
theorem open_cells {t : TypeId} {fs : Array Field} {v : Value} {d : DataW H} {ps : List MemPlace} {r : Reach} {b0 : Nat} {ts : List TypeId} (ht : P.underlying t = some (.struct fs)) (hts : P.cellTypes P.depth t = some ts) (hl : ts.length = P.cellsOf t)
    (hval : Value.okWide P w r b0 t v) (hd : DataW.Trod enc P w base spare held t v d ps) :
    ∃ cs : Array Value, v = .agg cs ∧ cs.size = ts.length ∧ (∀ (i : Nat) (u : TypeId) (c : Value), ts[i]? = some u → cs[i]? = some c → Cell.okWide P w r b0 u c) ∧
      ∀ f ∈ fs.toList, ∃ fuel x, DataW.trod enc P w base spare held fuel f.type ((cs.toList.drop f.offset).take (P.cellsOf f.type)) = some x := by
  unfold Value.okWide at hval
  rw [ht] at hval
  obtain ⟨cs, rfl, hsz, us, h1, h2, h3⟩ := hval
  rw [hts] at h1
  cases h1
  obtain ⟨fuel, hf⟩ := hd
  refine ⟨cs, rfl, hsz.trans hl.symm, fun i u c hi hc => ?_, fun f hf' => ?_⟩
  · obtain ⟨u', hu, hok⟩ := h3 i c hc
    have hlt : i < ts.length := (List.getElem?_eq_some_iff.1 hi).1
    rw [Nat.mod_eq_of_lt hlt, hi] at hu
    cases hu
    exact hok
  · cases fuel with
    | zero => simp [DataW.trod] at hf
    | succ fuel =>
      unfold DataW.trod at hf
      rw [ht] at hf
      have hcs : (Value.agg cs).cells.toList = cs.toList := rfl
      rw [hcs] at hf
      simp only at hf
      split at hf
      · obtain ⟨xs, q1, q2⟩ := Option.map_eq_some_iff.1 hf
        obtain ⟨y, hy⟩ := mapM_each q1 f hf'
        exact ⟨fuel, y, hy⟩
      · cases hf
/-- One cell of a kind. -/
theorem cell_int {t : TypeId} {k : IntKind} {fuel : Nat} {v : Value} {x : DataW H × List MemPlace} (ht : P.underlying t = some (.int k)) (h : DataW.trod enc P w base spare held fuel t [v] = some x) : ∃ n : Int, v = .int k n ∧ (Lit.int k n).wf = true := by
  cases fuel with
  | zero => simp [DataW.trod] at h
  | succ fuel =>
    unfold DataW.trod at h
    rw [ht] at h
    cases v <;> simp only at h <;> first | cases h; done | skip
    rename_i k' n
    split at h
    · rename_i hc
      obtain ⟨rfl, hw⟩ := hc
      exact ⟨n, rfl, hw⟩
    · cases h
theorem cell_str {t : TypeId} {fuel : Nat} {v : Value} {x : DataW H × List MemPlace} (ht : P.underlying t = some .string) (h : DataW.trod enc P w base spare held fuel t [v] = some x) : ∃ s : ByteArray, v = .string s ∧ s.size ≤ maxLen := by
  cases fuel with
  | zero => simp [DataW.trod] at h
  | succ fuel =>
    unfold DataW.trod at h
    rw [ht] at h
    cases v <;> simp only at h <;> first | cases h; done | skip
    rename_i s
    split at h
    · rename_i hc
      exact ⟨s, rfl, hc⟩
    · cases h
theorem cell_bool {t : TypeId} {fuel : Nat} {v : Value} {x : DataW H × List MemPlace} (ht : P.underlying t = some .bool) (h : DataW.trod enc P w base spare held fuel t [v] = some x) : ∃ b : Bool, v = .bool b := by
  cases fuel with
  | zero => simp [DataW.trod] at h
  | succ fuel =>
    unfold DataW.trod at h
    rw [ht] at h
    cases v <;> simp only at h <;> first | cases h; done | skip
    rename_i b
    exact ⟨b, rfl⟩
theorem cell_nums {t e : TypeId} {k : IntKind} {fuel : Nat} {v : Value} {r : Reach} {b0 : Nat} {x : DataW H × List MemPlace} (ht : P.underlying t = some (.slice e)) (he : P.underlying e = some (.int k)) (hc : P.cellsOf e = 1) (hval : Cell.okWide P w r b0 t v)
    (h : DataW.trod enc P w base spare held fuel t [v] = some x) : (∃ a n c, v = .slice a n c) ∧ ∃ zs : List Int, (∀ n ∈ zs, (Lit.int k n).wf = true) ∧ zs.length ≤ maxLen ∧ RepA (heapM w) (fun _ => none) (.d (.sl .any 1 (zs.map fun n => [.int k n]))) v := by
  have hsl : ∃ a n c, v = .slice a n c := by
    cases fuel with
    | zero => simp [DataW.trod] at h
    | succ fuel =>
      unfold DataW.trod at h
      rw [ht] at h
      cases v <;> simp only at h <;> first | cases h; done | exact ⟨_, _, _, rfl⟩
  refine ⟨hsl, ?_⟩
  obtain ⟨a, n, c, rfl⟩ := hsl
  refine rep_of_nums (r := r) (b0 := b0) (d := x.1) (ps := x.2) (base := base) (spare := spare) (held := held) (enc := enc) ht he hc ?_ ⟨fuel, h⟩
  unfold Value.okWide
  rw [ht]
  exact hval
/-- The same, and what the reading is. -/
theorem rep_of_numsD {t e : TypeId} {k : IntKind} {v : Value} {d : DataW H} {ps : List MemPlace} {r : Reach} {b0 : Nat} (ht : P.underlying t = some (.slice e)) (he : P.underlying e = some (.int k)) (hc : P.cellsOf e = 1) (hval : Value.okWide P w r b0 t v)
    (hd : DataW.Trod enc P w base spare held t v d ps) : ∃ zs : List Int, ((d = .nil ∧ zs = []) ∨ ∃ sp, d = .slice (lits k zs) sp) ∧ (∀ n ∈ zs, (Lit.int k n).wf = true) ∧ zs.length ≤ maxLen ∧ RepA (heapM w) (fun _ => none) (.d (.sl .any 1 (zs.map fun n => [.int k n]))) v := by
  obtain ⟨fuel, hf⟩ := hd
  have hcell : Cell.okWide P w r b0 t v := by
    unfold Value.okWide at hval
    rw [ht] at hval
    exact hval
  unfold Cell.okWide at hcell
  rw [ht] at hcell
  simp only at hcell
  unfold Cell.ok at hcell
  rw [ht] at hcell
  rcases open_ints ht he hc hf with ⟨h1, h2⟩ | ⟨a, len, cap, zs, h1, h2, h3, h4, h5, h6, h7, h8⟩
  · have : v = .slice none 0 0 := by cases v <;> simp_all [Value.cells]
    subst this
    refine ⟨[], .inl ⟨by simpa using congrArg Prod.fst h2, rfl⟩, by simp, Nat.zero_le _, .d (.sl .any [] none 0 0 1 (fun _ _ => undef) rfl (Nat.le_refl _) trivial (by simp) (by simp) (by simp) (by simp))⟩
  · have : v = .slice (some a) len cap := by cases v <;> simp_all [Value.cells]
    subst this
    have hspot : a.spot = none := hcell.2.2.2.1
    have hlen : len ≤ zs.length := by rw [h5]; split <;> omega
    refine ⟨zs.take len, .inr ⟨_, congrArg Prod.fst h6⟩, fun n hn => h8 n (List.mem_of_mem_take hn), by simp; omega, .d (.sl .any _ (some a) len cap 1 (fun j _ => .int k (zs.getD j 0)) (by simp; omega) (by simp; omega) trivial (by simpa using hspot) ?_ ?_ ?_)⟩
    · intro j c hj
      rw [List.getElem?_map] at hj
      obtain ⟨n, hn, rfl⟩ := Option.map_eq_some_iff.1 hj
      rfl
    · intro j c l d hj hl
      rw [List.getElem?_map] at hj
      obtain ⟨n, hn, rfl⟩ := Option.map_eq_some_iff.1 hj
      cases l with
      | zero =>
        have hj' : j < zs.length := by
          have := (List.getElem?_eq_some_iff.1 hn).1
          simp at this; omega
        have := h7 j hj'
        simp only [cellAt, cellM, heapM, Nat.mul_one, Nat.add_zero]
        rw [addr_add hspot] at this
        exact this
      | succ l => simp at hl
    · intro j c l d hj hl
      rw [List.getElem?_map] at hj
      obtain ⟨n, hn, rfl⟩ := Option.map_eq_some_iff.1 hj
      cases l with
      | zero =>
        simp only [List.getElem?_cons_zero, Option.some.injEq] at hl
        subst hl
        have hn' : zs.getD j 0 = n := by
          rw [List.getElem?_take] at hn
          split at hn
          · rw [List.getD_eq_getElem?_getD, hn]; rfl
          · cases hn
        rw [hn']
        exact .int k n
      | succ l => simp at hl
theorem str_of (s : ByteArray) : (⟨s.data.toList.toArray⟩ : ByteArray) = s := by cases s; simp
end
end Go.Vm
