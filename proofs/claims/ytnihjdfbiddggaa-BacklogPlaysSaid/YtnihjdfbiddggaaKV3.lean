/- A part of the proof of BacklogPlaysSaid: VmOpH VmOpI VmOpJ VmOpK VmOpL VmOpM VmOpN VmOpO VmStep. -/
import Derived.Test.YtnihjdfbiddggaaKV2
import Derived.Laws.BytesString
import Derived.Room.Entries
import Derived.Deep.Upon
import Derived.WideKeyRuns
import Derived.MapKept
section
/- Eighth part: what a slice shows; strings from bytes; new variables. -/
set_option linter.unusedVariables false
set_option linter.unusedSimpArgs false
set_option linter.unnecessarySimpa false
namespace Go.Vm
section
variable {P : Program} {w0 : World} {F M : Mem} {ρ : Rho} {hp hr : Heap} {w : World} {nb : Nat}
theorem lies_nil {a : Addr} (h : a.spot = none) : LiesAt M w a [] := ⟨h, by simp⟩
theorem LiesAt.take {a : Addr} {cs : List D} (h : LiesAt M w a cs) (n : Nat) : LiesAt M w a (cs.take n) := ⟨h.1, fun j d hd => by
  rw [List.getElem?_take] at hd
  split at hd
  · exact h.2 j d hd
  · cases hd⟩
theorem row_flat (hrel : Rel w0 F M ρ hp w) (hs : Sub hr hp) {i sz : Nat} {f : Bool} {xs : List (List D)} (h : hr i = .row sz f xs ∨ hr i = .imm sz f xs) {l : Loc} {a : Addr} (hl : ρ i = some l) (ha : l.base = some a) : LiesAt M w a xs.flatten := by
  have hc := hrel.chr hs i
  rcases h with h | h <;> rw [h] at hc
  · obtain ⟨l', h1, h2, h3, h4, h5, h6, h7, h8⟩ := hc
    rw [hl] at h1; cases h1
    rcases h8 with h8 | ⟨b, o, vals, t, fr, k1, k2, k3, k4, k5, k6⟩
    · have hx : xs = [] := List.eq_nil_of_length_eq_zero (by omega)
      subst hx
      exact lies_nil (h7 a ha)
    · rw [ha] at k1; cases k1
      exact flat_lies k2 (k5.flat h6)
  · obtain ⟨l', h1, h2, h3, h5, h6, h7⟩ := hc
    rw [hl] at h1; cases h1
    rcases Nat.eq_zero_or_pos sz with h0 | h0
    · have : xs.flatten = [] := List.eq_nil_of_length_eq_zero (by rw [flat_len h5, h0, Nat.mul_zero])
      rw [this]; exact lies_nil (h6 a ha)
    · exact sl_lies hrel h7 h5 h0 ha
/-- What a value shows as a slice. -/
def Shows (M : Mem) (w : World) (sz : Nat) (xs : List (List D)) (v : Value) : Prop :=
  (∃ s, v = .string s ∧ xs = byteCells s ∧ sz = 1) ∨
  (∃ base cap, v = .slice base xs.length cap ∧ Uni sz xs ∧ (∀ a, base = some a → LiesAt M w a xs.flatten) ∧ (xs.flatten ≠ [] → ∃ a, base = some a))
theorem view_rep (hrel : Rel w0 F M ρ hp w) (hs : Sub hr hp) {x : A} {v : Value} {sz : Nat} {xs : List (List D)} (hx : RepA M ρ x v) (h : view hr x = some (sz, xs)) : Shows M w sz xs v := by
  have pos : ∀ {xs : List (List D)}, Uni sz xs → xs.flatten ≠ [] → 0 < sz ∧ 0 < xs.length := fun {xs} hu hn => by
    have := flat_len hu
    have h0 : 0 < xs.flatten.length := List.length_pos_iff.2 hn
    rw [this] at h0
    exact ⟨Nat.pos_of_mul_pos_left h0, Nat.pos_of_mul_pos_right h0⟩
  unfold view at h
  split at h
  · rename_i tg sz' xs'
    simp only [Option.some.injEq, Prod.mk.injEq] at h
    obtain ⟨rfl, rfl⟩ := h
    obtain ⟨base, cap, rfl, h1, h2⟩ := rep_sl hx
    obtain ⟨b', c', e, _, _, hsp⟩ := h2.parts
    cases e
    refine .inr ⟨base, cap, rfl, h2.uni, fun a ha => ?_, fun hn => ?_⟩
    · rcases Nat.eq_zero_or_pos sz' with h0 | h0
      · have : xs'.flatten = [] := List.eq_nil_of_length_eq_zero (by rw [flat_len h2.uni, h0, Nat.mul_zero])
        rw [this]; exact lies_nil (hsp a ha)
      · exact sl_lies hrel h2 h2.uni h0 ha
    · obtain ⟨p1, p2⟩ := pos h2.uni hn
      have hx0 : xs'[0]? = some xs'[0] := List.getElem?_eq_getElem p2
      exact sl_base h2 hx0 (fun e => by have := h2.uni _ (List.mem_of_getElem? hx0); rw [e] at this; simp at this; omega)
  · simp only [Option.some.injEq, Prod.mk.injEq] at h
    obtain ⟨rfl, rfl⟩ := h
    exact .inl ⟨_, rep_str hx, rfl, rfl⟩
  · rename_i id
    have key : ∀ (f : Bool) (xs' : List (List D)), (hr id = .row sz f xs' ∨ hr id = .imm sz f xs') → Shows M w sz xs' v := fun f xs' hid => by
      obtain ⟨l, k1, k2, k3, k4, k5, k6, k7⟩ := row_place hrel hs hid
      cases hx with
      | row _ l' h3 =>
        rw [k1] at h3; cases h3
        exact .inr ⟨l.base, l.cap, by rw [k3], k5, fun a ha => row_flat hrel hs hid k1 ha, fun hn => k7 (pos k5 hn).1 (pos k5 hn).2⟩
    split at h
    · rename_i hid; simp only [Option.some.injEq, Prod.mk.injEq] at h; obtain ⟨rfl, rfl⟩ := h; exact key _ _ (.inl hid)
    · rename_i hid; simp only [Option.some.injEq, Prod.mk.injEq] at h; obtain ⟨rfl, rfl⟩ := h; exact key _ _ (.inr hid)
    · cases h
  · rename_i id lo hi own
    have key : ∀ (f : Bool) (xs' : List (List D)), (hr id = .row sz f xs' ∨ hr id = .imm sz f xs') → hi ≤ xs'.length → Shows M w sz ((xs'.drop lo).take (hi - lo)) v := fun f xs' hid hle => by
      obtain ⟨l, k1, k2, k3, k4, k5, k6, k7⟩ := row_place hrel hs hid
      cases hx with
      | sub _ _ _ _ l' base cap h3 hlh hcc hb ho hs' =>
        rw [k1] at h3; cases h3
        have hlen : ((xs'.drop lo).take (hi - lo)).length = hi - lo := by simp; omega
        have hu := (k5.drop lo).take (hi - lo)
        refine .inr ⟨base, cap, by rw [hlen], hu, fun a ha => ?_, fun hn => ?_⟩
        · rcases Nat.eq_or_lt_of_le hlh with he | hlt
          · have : (xs'.drop lo).take (hi - lo) = [] := List.eq_nil_of_length_eq_zero (by omega)
            rw [this]; exact lies_nil (hs' a ha)
          · have hbb := hb hlt
            rw [ha] at hbb
            obtain ⟨a', ha', rfl⟩ := Option.map_eq_some_iff.1 hbb.symm
            rw [addr_add (k6 a' ha'), k2, flat_take (k5.drop lo), flat_drop k5]
            exact ((row_flat hrel hs hid k1 ha').drop _).take _
        · obtain ⟨p1, p2⟩ := pos hu hn
          obtain ⟨a, ha⟩ := k7 p1 (by omega)
          exact ⟨_, by rw [hb (by omega), ha]; rfl⟩
    split at h
    · rename_i hid
      split at h
      · rename_i hle; simp only [Option.some.injEq, Prod.mk.injEq] at h; obtain ⟨rfl, rfl⟩ := h; exact key _ _ (.inl hid) hle
      · cases h
    · rename_i hid
      split at h
      · rename_i hle; simp only [Option.some.injEq, Prod.mk.injEq] at h; obtain ⟨rfl, rfl⟩ := h; exact key _ _ (.inr hid) hle
      · cases h
    · cases h
  · rename_i id off len bsz
    split at h
    · rename_i cs hid
      split at h
      · rename_i ds hds
        split at h
        · rename_i hl
          simp only [Option.some.injEq, Prod.mk.injEq] at h
          obtain ⟨rfl, rfl⟩ := h
          have hc := hrel.chr hs id
          rw [hid] at hc
          obtain ⟨l, b, vals, t, fr, h1, h2, h3, h4, h5, h6⟩ := hc
          obtain ⟨_, j1, j2⟩ := allD_rep hds h5
          have hld : len * bsz ≤ (ds.drop off).length := by simp; omega
          cases hx with
          | bs _ _ _ _ l' b' base cap k1 k2 k3 k4 k5 =>
            rw [h1] at k1; cases k1; rw [h2] at k2; cases k2
            have hflat : FlatAt M vals.toList 0 ds := fun j d hd => by
              have hlt : j < vals.toList.length := by rw [← j1]; exact (List.getElem?_eq_some_iff.1 hd).1
              exact ⟨vals.toList[j], by rw [Nat.zero_add]; exact List.getElem?_eq_getElem hlt, j2 _ d _ hd (List.getElem?_eq_getElem hlt)⟩
            refine .inr ⟨base, cap, by rw [chunks_len], chunks_uni hld, fun a ha => ?_, fun hn => ?_⟩
            · rcases Nat.eq_zero_or_pos len with h0 | h0
              · subst h0; exact lies_nil (k5 a ha)
              · rw [k4 h0] at ha; cases ha
                rw [chunks_flat hld]
                have := ((flat_lies h3 hflat).drop off).take (len * bsz)
                simpa using this
            · have := (pos (chunks_uni hld) hn).2
              rw [chunks_len] at this
              exact ⟨_, k4 this⟩
        · cases h
      · cases h
    · cases h
  · cases h
theorem bytesOf_eq : ∀ {xs : List (List D)} {bs : List UInt8}, bytesOf xs = some bs → ∃ ns : List Int, xs = ns.map (fun n => [D.int .u8 n]) ∧ bs = ns.map (fun n => UInt8.ofNat n.toNat)
  | [], bs, h => by simp [bytesOf] at h; exact ⟨[], by simp, by simp [h]⟩
  | c :: xs, bs, h => by
    unfold bytesOf at h
    split at h
    · rename_i e; cases e
    · rename_i n xs' e
      cases e
      split at h
      · rename_i bs' h'
        obtain ⟨ns, rfl, rfl⟩ := bytesOf_eq h'
        cases h
        exact ⟨n :: ns, by simp, by simp⟩
      · cases h
    · cases h
theorem flat_bytes (ns : List Int) : (ns.map (fun n => [D.int .u8 n])).flatten = ns.map (fun n => D.int .u8 n) := by
  induction ns with
  | nil => rfl
  | cons n ns ih => simp [ih]
theorem fold_push : ∀ (ns : List Int) (s : ByteArray), (ns.foldl (fun r n => r.push (UInt8.ofNat n.toNat)) s) = ⟨s.data ++ (ns.map (fun n => UInt8.ofNat n.toNat)).toArray⟩
  | [], s => by simp
  | n :: ns, s => by
    rw [List.foldl_cons, fold_push ns]
    simp [ByteArray.push]
theorem ok_b2s (hrel : Rel w0 F M ρ hp w) (hs : Sub hr hp) {x v : A} {ws : Writes} {vx : Value} (hx : RepA M ρ x vx) {s d e : TypeId} (hs1 : P.underlying s = some (.slice e)) (hd : P.underlying d = some .string) (he : P.underlying e = some (.int .u8))
    {kf : Bool} {cf : CallF} (h : aop kf cf nb hr (.b2s x) = some (v, ws)) : OpOk P w0 F M ρ hp nb (convert s d vx) w v ws := by
  have key : ∀ (sz : Nat) (xs : List (List D)), view hr x = some (sz, xs) → (∀ s, x ≠ .d (.str s)) → (match bytesOf xs with
        | some bs => some (A.d (.str ⟨bs.toArray⟩), ([] : Writes))
        | none => none) = some (v, ws) → OpOk P w0 F M ρ hp nb (convert s d vx) w v ws := by
    intro sz xs hv hns hq
    split at hq
    · rename_i bs hbs
      simp only [Option.some.injEq, Prod.mk.injEq] at hq
      obtain ⟨rfl, rfl⟩ := hq
      obtain ⟨ns, rfl, rfl⟩ := bytesOf_eq hbs
      rcases view_rep hrel hs hx hv with ⟨t, rfl, _, _⟩ | ⟨base, cap, rfl, hu, hl, hn⟩
      · cases hx with
        | d hx => cases hx; exact absurd rfl (hns _)
        | un => simp [view] at hv
      · have hflat := flat_bytes ns
        have hconv : ∀ y, (convert s d (.slice base (ns.map (fun n => [D.int .u8 n])).length cap)).run P w = .ok y w ↔ (Conv.bytesToString (.slice base (ns.map (fun n => [D.int .u8 n])).length cap)).run P w = .ok y w := fun y => by
          simp [convert, run_underlying hs1, run_underlying hd, run_underlying he]
        cases base with
        | none =>
          have : ns = [] := by
            cases ns with
            | nil => rfl
            | cons n ns => obtain ⟨a, ha⟩ := hn (by simp); cases ha
          subst this
          exact OpOk.pure hrel (v' := .string .empty) ((hconv _).2 (by simp [Conv.bytesToString])) (.d (.str _))
        | some a =>
          have hli := hl a rfl
          rw [hflat] at hli
          have hload : (loadCells a ns.length).run P w = .ok (ns.map (Value.int .u8)).toArray w := by
            have := run_loadCells_list (P := P) w a (ns.map (Value.int .u8)) (fun j u hu => by
              rw [List.getElem?_map, Option.map_eq_some_iff] at hu
              obtain ⟨n, hn', rfl⟩ := hu
              obtain ⟨u, h1, h2⟩ := hli.2 j (.int .u8 n) (by rw [List.getElem?_map, hn']; rfl)
              cases h2
              rw [addr_add hli.1]; exact h1)
            simpa using this
          refine OpOk.pure hrel (v' := .string ⟨(ns.map (fun n => UInt8.ofNat n.toNat)).toArray⟩) ((hconv _).2 ?_) (.d (.str _))
          rw [List.length_map, run_bytesToString w a ns.length cap ns hload, fold_push]
          simp [ByteArray.empty, ByteArray.emptyWithCapacity]
          rfl
    · cases hq
  simp only [aop] at h
  split at h
  · split at h
    · rename_i xs hv; exact key _ _ hv (by simp) h
    · cases h
  · split at h
    · rename_i xs hv; exact key _ _ hv (by simp) h
    · cases h
  · split at h
    · rename_i xs hv; exact key _ _ hv (by simp) h
    · cases h
  · cases h
end
end Go.Vm
end
section
/- Ninth part: writing memory. -/
set_option linter.unusedVariables false
set_option linter.unusedSimpArgs false
set_option linter.unnecessarySimpa false
namespace Go.Vm
theorem splice_len {α : Type} {cs vs : List α} {o : Nat} (h : o + vs.length ≤ cs.length) : (splice cs o vs).length = cs.length := by
  simp [splice]; omega
theorem splice_get {α : Type} {cs vs : List α} {o : Nat} (h : o + vs.length ≤ cs.length) (k : Nat) : (splice cs o vs)[k]? = if k < o then cs[k]? else if k < o + vs.length then vs[k - o]? else cs[k]? := by
  unfold splice
  have h1 : (cs.take o).length = o := by simp; omega
  rcases Nat.lt_or_ge k o with hk | hk
  · rw [if_pos hk, List.getElem?_append_left (by omega), List.getElem?_take, if_pos hk]
  · rw [if_neg (by omega), List.getElem?_append_right (by omega), h1]
    rcases Nat.lt_or_ge k (o + vs.length) with hk' | hk'
    · rw [if_pos hk', List.getElem?_append_left (by omega)]
    · rw [if_neg (by omega), List.getElem?_append_right (by omega), List.getElem?_drop]
      congr 1; omega
theorem flat_set {α : Type} {sz : Nat} {ds : List α} {off : Nat} : ∀ {xs : List (List α)} {i : Nat} {c : List α}, Uni sz xs → xs[i]? = some c → off + ds.length ≤ c.length → (xs.set i (splice c off ds)).flatten = splice xs.flatten (i * sz + off) ds
  | [], i, c, _, h, _ => by simp at h
  | x :: xs, 0, c, hu, h, hl => by
    simp at h; subst h
    simp only [List.set_cons_zero, List.flatten_cons, Nat.zero_mul, Nat.zero_add, splice, List.append_assoc]
    rw [List.take_append_of_le_length (by omega), List.drop_append_of_le_length (by omega)]
  | x :: xs, i + 1, c, hu, h, hl => by
    have hx := hu x (by simp)
    simp only [List.set_cons_succ, List.flatten_cons]
    rw [flat_set hu.tail (by simpa using h) hl]
    simp only [splice]
    have e1 : (i + 1) * sz + off = sz + (i * sz + off) := by rw [Nat.succ_mul]; omega
    rw [e1, ← hx, List.take_length_add_append, show x.length + (i * x.length + off) + ds.length = x.length + (i * x.length + off + ds.length) by omega, List.drop_length_add_append]
    simp
theorem flat_put {α : Type} {sz : Nat} {xs ys : List (List α)} (hx : Uni sz xs) (hy : Uni sz ys) (lo : Nat) : (xs.take lo ++ (ys ++ xs.drop (lo + ys.length))).flatten = splice xs.flatten (lo * sz) ys.flatten := by
  simp only [List.flatten_append, splice]
  rw [flat_take hx, flat_drop hx, flat_len hy, Nat.add_mul]
theorem FlatAt.splice {M : Mem} {vals : List Value} {off k : Nat} {ds es : List D} {us : List Value} (h : FlatAt M vals off ds) (hr : RepDs M es us) (hk : k + es.length ≤ ds.length) (hv : off + k + us.length ≤ vals.length) :
    FlatAt M (splice vals (off + k) us) off (splice ds k es) := fun i d hd => by
  rw [splice_get hk] at hd
  rw [splice_get hv]
  have := hr.1
  split at hd
  · rw [if_pos (by omega)]; exact h i d hd
  · rw [if_neg (by omega)]
    split at hd
    · rw [if_pos (by omega), show off + i - (off + k) = i - k by omega]
      have hlt : i - k < us.length := by omega
      exact ⟨us[i - k], List.getElem?_eq_getElem hlt, hr.2 _ d _ hd (List.getElem?_eq_getElem hlt)⟩
    · rw [if_neg (by omega)]; exact h i d hd
theorem RepDs.one {M : Mem} {ds : List D} {us : List Value} (h : RepDs M ds us) : ∀ u ∈ us, u.oneCell' = true := fun u hu => by
  obtain ⟨i, hi⟩ := List.getElem?_of_mem hu
  have hlt : i < ds.length := by rw [h.1]; exact (List.getElem?_eq_some_iff.1 hi).1
  exact (h.2 i ds[i] u (List.getElem?_eq_getElem hlt) hi).one
section
variable {P : Program} {w0 : World} {F M : Mem} {ρ : Rho} {hp hr : Heap} {w : World} {nb : Nat}
theorem setCells_row {b : Nat} {t : TypeId} {fr : Nat × Nat} : ∀ (vs : List Value) (o : Nat) (vals : Array Value) (w : World), w.heap[b]? = some (.cells vals t fr) → o + vs.length ≤ vals.size → w.setCells b o vs = w.setRow b (splice vals.toList o vs).toArray
  | [], o, vals, w, hb, h => by
    have : (splice vals.toList o []).toArray = vals := by simp [splice]
    rw [this, setRow_self w b vals t fr hb]; rfl
  | v :: vs, o, vals, w, hb, h => by
    rw [World.setCells, setCell_eq_setRow w b o vals t fr v hb, setCells_row vs (o + 1) _ _ (setRow_heap w b vals _ t fr hb) (by simp at h ⊢; omega), setRow_setRow]
    congr 2
    have := list_seg_step vals.toList o v vs (by simp at h ⊢; omega)
    simp only [splice, List.length_cons, Array.toList_setIfInBounds] at *
    simpa [Nat.add_assoc, Nat.add_comm, Nat.add_left_comm] using this
theorem frozen_free {b : Nat} {vals : Array Value} {t : TypeId} {fr : Nat × Nat} (hb : w.heap[b]? = some (.cells vals t fr)) (hf : FreeC vals fr) {o : Nat} (ho : o < vals.size) : w.frozen? ⟨b, o, none⟩ = false := by
  obtain ⟨lo, hi⟩ := fr
  simp only [World.frozen?, hb, Bool.and_eq_false_iff, decide_eq_false_iff_not]
  rcases hf with h | h <;> simp only at h <;> omega
theorem cell_some {b : Nat} {vals : Array Value} {t : TypeId} {fr : Nat × Nat} (hb : w.heap[b]? = some (.cells vals t fr)) {o : Nat} (ho : o < vals.size) : (w.cell? ⟨b, o, none⟩).isSome = true := by
  simp [World.cell?, hb, ho]
theorem run_write {b : Nat} {vals : Array Value} {t : TypeId} {fr : Nat × Nat} (hb : w.heap[b]? = some (.cells vals t fr)) (hf : FreeC vals fr) {o : Nat} {vs : List Value} (ho : o + vs.length ≤ vals.size) (h1 : ∀ u ∈ vs, u.oneCell' = true) :
    (storeCells ⟨b, o, none⟩ vs).run P w = .ok () (w.setRow b (splice vals.toList o vs).toArray) := by
  have := run_storeCells_cells (P := P) b o vs 0 w (fun j hj => cell_some hb (by omega)) (fun j hj => frozen_free hb hf (by omega)) h1
  rw [this, Nat.add_zero, setCells_row vs o vals w hb ho]
/-- An own block is written; the chunk's new state holds there. -/
theorem Rel.write (hrel : Rel w0 F M ρ hp w) {i b : Nat} {vals : Array Value} {t : TypeId} {fr : Nat × Nat} (ho : Owns ρ i (hp i) b) (hb : w.heap[b]? = some (.cells vals t fr)) (cs : Array Value) (c : Chunk)
    (hc : RepC M ρ (w.setRow b cs) i c) (hown : ∀ b', Owns ρ i c b' → b' = b) : Rel w0 F M ρ (upd hp i c) (w.setRow b cs) :=
  hrel.set i b c ho rfl rfl rfl (by simp) (fun k o hk e => by rw [setRow_other w b k cs hk]; exact e) hc hown
theorem write_box (hrel : Rel w0 F M ρ hp w) {i : Nat} {cs us : List A} {vs : List Value} (hi : hp i = .box cs) (hv : RepAs M ρ us vs) (h1 : ∀ u ∈ vs, u.oneCell' = true) {o : Nat} (ho : o + us.length ≤ cs.length) :
    ∃ l b vals, ρ i = some l ∧ l.base = some ⟨b, 0, none⟩ ∧ (∀ P : Program, (storeCells ⟨b, o, none⟩ vs).run P w = .ok () (w.setRow b (splice vals o vs).toArray)) ∧ Rel w0 F M ρ (upd hp i (.box (Vm.splice cs o us))) (w.setRow b (splice vals o vs).toArray) := by
  have hc := hrel.ch i
  rw [hi] at hc
  obtain ⟨l, b, vals, t, fr, k1, k2, k3, k4, k5, k6⟩ := hc
  have e1 := hv.1
  have e2 : cs.length = vals.size := by have := k5.1; simpa using this
  refine ⟨l, b, vals.toList, k1, k2, fun P => run_write k3 k4 (by omega) h1, ?_⟩
  refine hrel.write (by rw [hi]; exact ⟨l, _, k1, k2, rfl⟩) k3 _ _ ⟨l, b, _, t, fr, k1, k2, setRow_heap w b vals _ t fr k3, ?_, by simpa using k5.splice hv o, fun u hu => ?_⟩ (fun b' h => ?_)
  · have : (splice vals.toList o vs).toArray.size = vals.size := by
      rw [List.size_toArray, splice_len (by simp; omega)]; simp
    unfold FreeC at *
    rw [this]; exact k4
  · exact oneCell_splice (cs := vals.toList) (fun u hu => k6 u (by simpa using hu)) h1 u (by simpa using hu)
  · obtain ⟨l', a, j1, j2, rfl⟩ := h
    rw [k1] at j1; cases j1; rw [k2] at j2; cases j2; rfl
theorem write_row (hrel : Rel w0 F M ρ hp w) {i sz : Nat} {f : Bool} {xs : List (List D)} {es : List D} {vs : List Value} (hi : hp i = .row sz f xs) (hv : RepDs M es vs) {k : Nat} (hk : k + es.length ≤ xs.length * sz) (hne : 0 < es.length)
    {xs' : List (List D)} (hu : Uni sz xs') (hl : xs'.length = xs.length) (hfl : xs'.flatten = splice xs.flatten k es) :
    ∃ l b o vals, ρ i = some l ∧ l.base = some ⟨b, o, none⟩ ∧ (∀ P : Program, (storeCells ⟨b, o + k, none⟩ vs).run P w = .ok () (w.setRow b (splice vals (o + k) vs).toArray)) ∧ Rel w0 F M ρ (upd hp i (.row sz f xs')) (w.setRow b (splice vals (o + k) vs).toArray) := by
  have hc := hrel.ch i
  rw [hi] at hc
  obtain ⟨l, h1, h2, h3, h4, h5, h6, h7, h8⟩ := hc
  have e1 := hv.1
  rcases h8 with h8 | ⟨b, o, vals, t, fr, k1, k2, k3, k4, k5, k6⟩
  · have : xs.length = 0 := by omega
    rw [this] at hk; omega
  · have hle : xs.length * sz ≤ l.cap * sz := Nat.mul_le_mul_right sz (by omega)
    have hcap : l.cap ≠ 0 := fun h => by rw [h] at hle; omega
    refine ⟨l, b, o, vals.toList, h1, k1, fun P => run_write k2 k3 (by omega) hv.one, ?_⟩
    have hsize : (splice vals.toList (o + k) vs).toArray.size = vals.size := by
      rw [List.size_toArray, splice_len (by simp; omega)]; simp
    refine hrel.write (by rw [hi]; exact ⟨l, _, h1, k1, rfl, hcap⟩) k2 _ _ ⟨l, h1, h2, by omega, h4, h5, hu, h7, .inr ⟨b, o, _, t, fr, k1, setRow_heap w b vals _ t fr k2, ?_, by rw [hsize]; exact k4, ?_, fun u hu => ?_⟩⟩ (fun b' h => ?_)
    · unfold FreeC at *
      rw [hsize]; exact k3
    · refine FlatAt.els hu ?_
      rw [hfl]
      exact (k5.flat h6).splice hv (by rw [flat_len h6]; exact hk) (by simp; omega)
    · exact oneCell_splice (cs := vals.toList) (fun u hu => k6 u (by simpa using hu)) hv.one u (by simpa using hu)
    · obtain ⟨l', a, j1, j2, rfl, _⟩ := h
      rw [h1] at j1; cases j1; rw [k1] at j2; cases j2; rfl
theorem OpOk.write {s : Sem Value} {v' : Value} {v : A} {ws : Writes} {M' : Mem} {w' : World} (h : s.run P w = .ok v' w') (hM : MemLe M M') (hv : RepA M' ρ v v') (hrel : Rel w0 F M' ρ (applyW hp ws) w') : OpOk P w0 F M ρ hp nb s w v ws :=
  ⟨M', ρ, v', w', h, hM, RhoLe.refl _, fun i l hi => .inl hi, hv, hrel⟩
theorem ok_store (hrel : Rel w0 F M ρ hp w) (hs : Sub hr hp) {x y v : A} {ws : Writes} {vx vy : Value} (hx : RepA M ρ x vx) (hy : RepA M ρ y vy) {ty : TypeId} {sz : Nat} (hz : szT P ty = some sz)
    {kf : Bool} {cf : CallF} (h : aop kf cf nb hr (.store sz x y) = some (v, ws)) : OpOk P w0 F M ρ hp nb (do Instr.storeAt ty vx vy; pure undef) w v ws := by
  simp only [aop] at h
  split at h
  · rename_i id off
    split at h
    · rename_i cs hid
      split at h
      · rename_i us hus
        split at h
        · rename_i hb
          simp only [Option.some.injEq, Prod.mk.injEq] at h
          obtain ⟨rfl, rfl⟩ := h
          obtain ⟨h1, h2⟩ := cells_rep hy hus
          have hid' := hs.live hid (by simp)
          obtain ⟨l, b, vals, k1, k2, k3, k4⟩ := write_box (o := off) hrel hid' h1 (fun u hu => h2 u (by simpa using hu)) (by omega)
          cases hx with
          | ptr _ _ l' b' j1 j2 =>
            rw [k1] at j1; cases j1; rw [k2] at j2; cases j2
            have hsz : vy.cells.size = sz := by have := h1.1; simp at this; omega
            exact OpOk.write (v' := undef) (by simp [Instr.storeAt, Instr.sureAddr, storeVar, run_sizeOf hz, hsz, k3 P]) (MemLe.refl _) (.un _) k4
        · cases h
      · cases h
    · cases h
  · rename_i id i off
    split at h
    · rename_i us hus
      split at h
      · rename_i ds w1 hds
        split at h
        · rename_i rsz f xs hid
          split at h
          · rename_i c hc
            split at h
            · rename_i hb
              simp only [Option.some.injEq, Prod.mk.injEq] at h
              obtain ⟨rfl, rfl⟩ := h
              obtain ⟨h1, h2⟩ := cells_rep hy hus
              obtain ⟨M', j1, j2, j3, j4⟩ := toDs_ok hrel hs h1 hds
              have hid' := (hs.apply w1).live hid (by simp)
              have hrow := j4.ch id
              rw [hid'] at hrow
              obtain ⟨l, g1, g2, g3, g4, g5, g6, g7, g8⟩ := hrow
              have hcl := g6 c (List.mem_of_getElem? hc)
              have hi : i < xs.length := (List.getElem?_eq_some_iff.1 hc).1
              have hsz : vy.cells.size = sz := by have := j2; simp at this; omega
              have hmul : (i + 1) * rsz ≤ xs.length * rsz := Nat.mul_le_mul_right rsz hi
              rw [Nat.succ_mul] at hmul
              cases hx with
              | ep _ _ _ l' a e1 e2 =>
                rw [g1] at e1; cases e1
                rcases Nat.eq_zero_or_pos ds.length with h0 | h0
                · have hds0 : ds = [] := List.eq_nil_of_length_eq_zero h0
                  subst hds0
                  have hc0 : vy.cells.toList = [] := List.eq_nil_of_length_eq_zero (by simp at j2; simpa using j2.symm)
                  have hxs : xs.set i (splice c off []) = xs := by
                    have hce : c = xs[i] := by rw [List.getElem?_eq_getElem hi] at hc; exact (Option.some.inj hc).symm
                    simp [splice, hce]
                  refine OpOk.write (v' := undef) (w' := w) (M' := M') ?_ j1 (.un _) ?_
                  · simp [Instr.storeAt, Instr.sureAddr, storeVar, run_sizeOf hz, hsz, hc0, storeCells]
                  · rw [applyW_append, hxs]
                    have := j4.swap (i := id) (.row rsz f xs)
                    have hself : upd (applyW hp w1) id (.row rsz f xs) = applyW hp w1 := by
                      funext k; unfold upd; split
                      · rename_i hk; subst hk; exact hid'.symm
                      · rfl
                    simp only [applyW]
                    rw [hself]; exact j4
                · obtain ⟨l', b, o, vals, k1, k2, k3, k4⟩ := write_row (k := i * rsz + off) j4 hid' ⟨j2, j3⟩ (by omega) h0 (xs' := xs.set i (splice c off ds)) (fun c' hc' => by
                      rcases List.mem_or_eq_of_mem_set hc' with h | h
                      · exact g6 c' h
                      · rw [h, splice_len (by omega)]; exact hcl) (by simp) (flat_set g6 hc (by omega))
                  rw [g1] at k1; cases k1; rw [e2] at k2; cases k2
                  refine OpOk.write (v' := undef) (M' := M') ?_ j1 (.un _) (by rw [applyW_append]; exact k4)
                  have := k3 P
                  rw [← Nat.add_assoc] at this
                  simp [Instr.storeAt, Instr.sureAddr, storeVar, run_sizeOf hz, hsz, g2, this]
                  rw [Nat.add_assoc]
            · cases h
          · cases h
        · cases h
      · cases h
    · cases h
  · cases h
end
end Go.Vm
end
section
/- Tenth part: bytes that a string shares, clear, copy. -/
set_option linter.unusedVariables false
set_option linter.unusedSimpArgs false
set_option linter.unnecessarySimpa false
namespace Go.Vm
section
variable {P : Program} {w0 : World} {F M : Mem} {ρ : Rho} {hp hr : Heap} {w : World} {nb : Nat}
theorem freeze_at {b n : Nat} {vals : Array Value} {t : TypeId} {fr : Nat × Nat} (hb : w.heap[b]? = some (.cells vals t fr)) (hf : FreeC vals fr) (hn : n = vals.size) :
    ∃ fr', (w.freeze ⟨b, n, none⟩ 1).heap[b]? = some (.cells vals t fr') ∧ FreeC vals fr' := by
  obtain ⟨hlt, hv⟩ := Array.getElem?_eq_some_iff.1 hb
  obtain ⟨lo, hi⟩ := fr
  refine ⟨if lo == hi then (n, n + 1) else (min lo n, max hi (n + 1)), ?_, ?_⟩
  · unfold World.freeze
    rw [if_neg (by decide)]
    show (w.heap.modify b _)[b]? = _
    rw [Array.getElem?_eq_getElem (by simpa using hlt), Array.getElem_modify]
    simp [hv]
  · unfold FreeC at *
    split
    · right; simp only; omega
    · rename_i hne
      simp only [beq_iff_eq] at hne
      right
      simp only at hf ⊢
      rcases hf with h | h
      · exact absurd h hne
      · omega
theorem freeze_other {b k : Nat} (n : Nat) (h : k ≠ b) : (w.freeze ⟨b, n, none⟩ 1).heap[k]? = w.heap[k]? := by
  unfold World.freeze
  rw [if_neg (by decide)]
  show (w.heap.modify b _)[k]? = _
  rw [Array.getElem?_modify]
  simp [Ne.symm h]
theorem ok_strish (hrel : Rel w0 F M ρ hp w) (hs : Sub hr hp) {x v : A} {ws : Writes} {vx : Value} (hx : RepA M ρ x vx) {s e0 e : TypeId} (hs0 : P.underlying s = some (.slice e)) (he : P.underlying e = some (.int .u8))
    {kf : Bool} {cf : CallF} (h : aop kf cf nb hr (.strish x) = some (v, ws)) : OpOk P w0 F M ρ hp nb (convert s s vx) w v ws := by
  simp only [aop] at h
  split at h
  · rename_i id
    split at h
    · rename_i sz f c xs hid
      simp only [Option.some.injEq, Prod.mk.injEq] at h
      obtain ⟨rfl, rfl⟩ := h
      have hid' := hs.live hid (by simp)
      have hc := hrel.ch id
      rw [hid'] at hc
      obtain ⟨l, h1, h2, h3, h4, h5, h6, h7, h8⟩ := hc
      rcases h8 with h8 | ⟨b, o, vals, t, fr, k1, k2, k3, k4, k5, k6⟩
      · simp at h3; omega
      · cases hx with
        | row _ l' j1 =>
          rw [h1] at j1; cases j1
          obtain ⟨fr', g1, g2⟩ := freeze_at k2 k3 rfl
          have hcap : l.cap ≠ 0 := by simp at h3; omega
          refine OpOk.write (v' := .slice l.base l.len l.cap) (w' := w.freeze ⟨b, vals.size, none⟩ 1) ?_ (MemLe.refl _) (.row _ l h1) ?_
          · rw [k1]
            simp [convert, run_underlying hs0, run_underlying he, markStringish, shape, freeze, Sem.run, World.shape?, k2]
          · refine hrel.set id b _ (by rw [hid']; exact ⟨l, _, h1, k1, rfl, hcap⟩) ?_ ?_ ?_ ?_ (fun k o' hk e => by rw [freeze_other _ hk]; exact e) ⟨l, h1, h2, h3, h4, h5, h6, h7, .inr ⟨b, o, vals, t, fr', k1, g1, g2, k4, k5, k6⟩⟩ (fun b' hb' => ?_)
            · unfold World.freeze; split <;> rfl
            · unfold World.freeze; split <;> rfl
            · unfold World.freeze; split <;> rfl
            · unfold World.freeze; split <;> simp
            · obtain ⟨l', a, j1, j2, rfl, _⟩ := hb'
              rw [h1] at j1; cases j1; rw [k1] at j2; cases j2; rfl
    · cases h
  · cases h

theorem zeroD_rep {t : TypeId} {z : List D} (h : zeroD P t = some z) : ∃ (i : TypeInfo) (v : Value), P.info? t = some i ∧ i.zero = some v ∧ RepDs M z v.cells.toList := by
  unfold zeroD at h
  cases hz : zeroT P t with
  | none => rw [hz] at h; cases h
  | some zs =>
    rw [hz] at h
    obtain ⟨i, v, h1, h2, h3, h4⟩ := zeroT_rep (M := M) (ρ := fun _ => none) hz
    simp only [Option.bind_some] at h
    refine ⟨i, v, h1, h2, by rw [← mapOpt_len h, h3.1], fun j d u hd hu => ?_⟩
    have hlt : j < zs.length := by rw [mapOpt_len h]; exact (List.getElem?_eq_some_iff.1 hd).1
    obtain ⟨y, k1, k2⟩ := mapOpt_at h j zs[j] (List.getElem?_eq_getElem hlt)
    rw [hd] at k1; cases k1
    have := h3.2 j _ u (List.getElem?_eq_getElem hlt) hu
    generalize zs[j] = q at k2 this
    unfold unD at k2
    split at k2
    · cases k2; cases this with | d hd => exact hd
    · cases k2
theorem zeros_get {z : List D} {cs : Array Value} (h : RepDs M z cs.toList) (hz : 0 < z.length) (n : Nat) : RepDs M (List.replicate n z).flatten ((Array.range (n * cs.size)).map fun i => cs[i % cs.size]!).toList := by
  have hu : Uni z.length (List.replicate n z) := fun c hc => by rw [List.eq_of_mem_replicate hc]
  have hsz : z.length = cs.size := by have := h.1; simpa using this
  refine ⟨by rw [flat_len hu]; simp [hsz], fun i d u hd hu' => ?_⟩
  obtain ⟨h0, c, hc, hd'⟩ := flat_ix hu hd
  rw [List.getElem?_replicate] at hc
  split at hc
  · cases hc
    have hm : i % z.length < cs.size := by rw [← hsz]; exact Nat.mod_lt _ h0
    simp only [Array.toList_map, List.getElem?_map, Option.map_eq_some_iff, Array.toList_range] at hu'
    obtain ⟨k, hk, rfl⟩ := hu'
    have hki : k = i := by
      have := (List.getElem?_eq_some_iff.1 hk).2
      simpa using this.symm
    subst hki
    rw [← hsz, getElem!_pos cs _ (by omega)]
    exact h.2 _ d _ hd' (by rw [Array.getElem?_toList, Array.getElem?_eq_getElem hm])
  · cases hc
theorem ok_clear (hrel : Rel w0 F M ρ hp w) (hs : Sub hr hp) {x v : A} {ws : Writes} {vx : Value} (hx : RepA M ρ x vx) {ts : Array TypeId} (ty : TypeId) {t e : TypeId} {z : List D} {sz : Nat} (ht : ts[0]? = some t) (hu : P.underlying t = some (.slice e)) (hz : zeroD P e = some z)
    {kf : Bool} {cf : CallF} (h : aop kf cf nb hr (.clear z sz x) = some (v, ws)) : OpOk P w0 F M ρ hp nb (Builtin.clear_ ts ty #[vx]) w v ws := by
  simp only [aop] at h
  split at h
  · rename_i id lo hi own
    split at h
    · rename_i rsz f xs hid
      split at h
      · rename_i hc
        obtain ⟨rfl, hzl, h0, hle, hhi⟩ := hc
        simp only [Option.some.injEq, Prod.mk.injEq] at h
        obtain ⟨rfl, rfl⟩ := h
        obtain ⟨l, k1, k2, k3, k4, k5, k6, k7⟩ := row_place hrel hs (.inl hid)
        have hid' := hs.live hid (by simp)
        have hres : RepA M ρ (.tup []) (.tuple #[]) := .tup [] #[] rfl (by simp)
        cases hx with
        | sub _ _ _ _ l' base cap j1 j2 j3 j4 j5 j6 =>
          rw [k1] at j1; cases j1
          rcases Nat.eq_or_lt_of_le hle with he | hlt
          · subst he
            have hxs : xs.take lo ++ (List.replicate (lo - lo) z ++ xs.drop lo) = xs := by simp
            refine OpOk.write (v' := .tuple #[]) (w' := w) ?_ (MemLe.refl _) hres ?_
            · rw [Nat.sub_self]
              cases base <;> simp [Builtin.clear_, ht, run_underlying hu]
            · have hself : upd hp id (.row rsz f xs) = hp := by
                funext k; unfold upd; split
                · rename_i hk; subst hk; exact hid'.symm
                · rfl
              rw [hxs]
              simp only [applyW]
              rw [hself]; exact hrel
          · obtain ⟨i, zv, g1, g2, g3⟩ := zeroD_rep (P := P) (M := M) hz
            have hzs := zeros_get g3 (by omega) (hi - lo)
            have huz : Uni rsz (List.replicate (hi - lo) z) := fun c hc => by rw [List.eq_of_mem_replicate hc]; exact hzl
            have hmul : hi * rsz ≤ xs.length * rsz := Nat.mul_le_mul_right _ hhi
            have hmul2 : hi * rsz = lo * rsz + (hi - lo) * rsz := by rw [← Nat.add_mul]; congr 1; omega
            have hpos : 0 < (hi - lo) * rsz := Nat.mul_pos (by omega) h0
            have hfl := flat_put (sz := rsz) k5 huz lo
            rw [List.length_replicate, show lo + (hi - lo) = hi by omega] at hfl
            obtain ⟨l', b, o, vals, e1, e2, e3, e4⟩ := write_row (k := lo * rsz) (xs' := xs.take lo ++ (List.replicate (hi - lo) z ++ xs.drop hi)) hrel hid' hzs (by rw [flat_len huz]; simp; omega) (by rw [flat_len huz]; simpa using hpos)
              ((k5.take lo).append (huz.append (k5.drop hi))) (by simp; omega) hfl
            rw [k1] at e1; cases e1
            have hbe := j4 hlt
            rw [e2] at hbe
            simp only [Option.map_some, Addr.add_mid, k2] at hbe
            subst hbe
            refine OpOk.write (v' := .tuple #[]) ?_ (MemLe.refl _) hres e4
            have hzc : (Builtin.zeroCells zv.cells (hi - lo)).toList = ((Array.range ((hi - lo) * zv.cells.size)).map fun i => zv.cells[i % zv.cells.size]!).toList := rfl
            have hne : ∃ m, hi - lo = m + 1 := ⟨hi - lo - 1, by omega⟩
            obtain ⟨m, hm⟩ := hne
            have e3' := e3 P
            rw [← hzc, hm] at e3'
            rw [hm]
            simp [Builtin.clear_, ht, run_underlying hu, zeroValue, typeInfo, g1, g2, e3']
            simp [Builtin.zeroCells]
      · cases h
    · cases h
  · cases h
end
end Go.Vm
end
section
/- Eleventh part: new memory. -/
set_option linter.unusedVariables false
set_option linter.unusedSimpArgs false
set_option linter.unnecessarySimpa false
namespace Go.Vm
section
variable {P : Program} {w0 : World} {F M : Mem} {ρ : Rho} {hp hr : Heap} {w : World} {nb : Nat}
theorem RhoLe.upd {i : Nat} {l : Loc} (h : ρ i = none) : RhoLe ρ (upd ρ i (some l)) := fun j l' hj => by
  unfold Vm.upd; split
  · rename_i e; subst e; rw [h] at hj; cases hj
  · exact hj
theorem upd_dom {i : Nat} {l : Loc} {j : Nat} {l' : Loc} (h : upd ρ i (some l) j = some l') : ρ j = some l' ∨ j = i := by
  unfold upd at h; split at h
  · rename_i e; exact .inr e
  · exact .inl h
/-- A row without memory. -/
theorem Rel.newNil (hrel : Rel w0 F M ρ hp w) {i : Nat} (sz : Nat) (hi : ρ i = none) : Rel w0 F M (upd ρ i (some ⟨none, 0, 0, sz⟩)) (upd hp i (.row sz true [])) w := by
  have hr := RhoLe.upd (l := ⟨none, 0, 0, sz⟩) hi
  have hnone : ∀ b', ¬ Owns (upd ρ i (some ⟨none, 0, 0, sz⟩)) i (.row sz true []) b' := fun b' h => by
    obtain ⟨l, a, h1, h2, _⟩ := h
    rw [upd_same] at h1; cases h1; cases h2
  have hold : ∀ j b', Owns (upd ρ i (some ⟨none, 0, 0, sz⟩)) j (upd hp i (.row sz true []) j) b' → Owns ρ j (hp j) b' := fun j b' h => by
    by_cases hj : j = i
    · subst hj; rw [upd_same] at h; exact absurd h (hnone b')
    · rw [upd_ne _ _ hj] at h; exact Owns.back hr (hrel.ch j) h
  refine ⟨hrel.os, hrel.tape, hrel.output, hrel.size, hrel.mem, hrel.frm, hrel.mf, fun j => ?_, fun j b' h => hrel.own j b' (hold j b' h), fun j k b' h1 h2 => hrel.sep j k b' (hold j b' h1) (hold k b' h2)⟩
  by_cases hj : j = i
  · subst hj; rw [upd_same]
    exact ⟨⟨none, 0, 0, sz⟩, upd_same _ _ _, rfl, rfl, Nat.le_refl _, fun _ => rfl, by simp, by simp, .inl rfl⟩
  · rw [upd_ne _ _ hj]
    exact (hrel.ch j).mono (MemLe.refl _) hr (fun _ _ _ e => e)
theorem rowify_ok : ∀ {rz : List (Nat × Nat)} {nb : Nat} {cs cs' : List A} {vs : List Value} {ws : Writes} {ρ : Rho} {hp : Heap}, Rel w0 F M ρ hp w → RepAs M ρ cs vs → (∀ i, nb ≤ i → i < nb + rz.length → ρ i = none) → rowify nb rz cs = some (cs', ws) →
    ∃ ρ', RhoLe ρ ρ' ∧ (∀ i l, ρ' i = some l → ρ i = some l ∨ (nb ≤ i ∧ i < nb + rz.length)) ∧ RepAs M ρ' cs' vs ∧ Rel w0 F M ρ' (applyW hp ws) w
  | [], nb, cs, cs', vs, ws, ρ, hp, hrel, hcs, hf, h => by
    simp only [rowify, Option.some.injEq, Prod.mk.injEq] at h
    obtain ⟨rfl, rfl⟩ := h
    exact ⟨ρ, RhoLe.refl _, fun i l hi => .inl hi, hcs, hrel⟩
  | (off, sz) :: r, nb, cs, cs', vs, ws, ρ, hp, hrel, hcs, hf, h => by
    simp only [rowify] at h
    split at h
    · rename_i z hz
      split at h
      · rename_i cs1 ws1 h1
        simp only [Option.some.injEq, Prod.mk.injEq] at h
        obtain ⟨rfl, rfl⟩ := h
        have hn : ρ nb = none := hf nb (Nat.le_refl _) (by simp)
        have hlt := (List.getElem?_eq_some_iff.1 hz).1
        have hlv : off < vs.length := by rw [← hcs.1]; exact hlt
        have hv : vs[off] = .slice none 0 0 := rep_sl_nil (hcs.2 off _ _ hz (List.getElem?_eq_getElem hlv))
        have hr := RhoLe.upd (l := ⟨none, 0, 0, sz⟩) hn
        have hcs' : RepAs M (upd ρ nb (some ⟨none, 0, 0, sz⟩)) (cs.set off (.row nb)) vs := ⟨by simpa using hcs.1, fun i x v hx hv' => by
          by_cases hi : off = i
          · subst hi
            rw [List.getElem?_set_self hlt] at hx
            cases hx
            rw [List.getElem?_eq_getElem hlv, hv] at hv'
            cases hv'
            exact .row nb ⟨none, 0, 0, sz⟩ (upd_same _ _ _)
          · rw [List.getElem?_set_ne hi] at hx
            exact (hcs.2 i x v hx hv').mono (MemLe.refl _) hr⟩
        obtain ⟨ρ', k1, k2, k3, k4⟩ := rowify_ok (nb := nb + 1) (hrel.newNil sz hn) hcs' (fun i h1 h2 => by
          rw [upd_ne _ _ (by omega)]; exact hf i (by omega) (by simp; omega)) h1
        refine ⟨ρ', hr.trans k1, fun i l hi => ?_, k3, k4⟩
        rcases k2 i l hi with h | h
        · rcases upd_dom h with h | h
          · exact .inl h
          · right; simp; omega
        · right; simp; omega
      · cases h
    · rename_i y hy1 hy2
      obtain ⟨ρ', k1, k2, k3, k4⟩ := rowify_ok (nb := nb + 1) hrel hcs (fun i h1 h2 => hf i (by omega) (by simp; omega)) h
      refine ⟨ρ', k1, fun i l hi => ?_, k3, k4⟩
      rcases k2 i l hi with h | h
      · exact .inl h
      · right; simp; omega
    · cases h
/-- A new variable. -/
theorem new_box (hrel : Rel w0 F M ρ hp w) {i : Nat} (hi : ρ i = none) {cs : List A} {vals : Array Value} (hcs : RepAs M ρ cs vals.toList) (h1 : ∀ u ∈ vals.toList, u.oneCell' = true) (t : TypeId) :
    RhoLe ρ (upd ρ i (some ⟨some ⟨w.heap.size, 0, none⟩, 0, 0, 0⟩)) ∧ Rel w0 F M (upd ρ i (some ⟨some ⟨w.heap.size, 0, none⟩, 0, 0, 0⟩)) (upd hp i (.box cs)) (w.alloc (.cells vals t)) :=
  hrel.new i ⟨some ⟨w.heap.size, 0, none⟩, 0, 0, 0⟩ ⟨w.heap.size, 0, none⟩ (.cells vals t) (.box cs) hi rfl rfl
    (fun ρ' hr hi' => ⟨_, w.heap.size, vals, t, (0, 0), hi', rfl, heap_alloc_new w _, .inl rfl, hcs.mono (MemLe.refl _) hr, fun u hu => h1 u (by simpa using hu)⟩)
theorem new_row (hrel : Rel w0 F M ρ hp w) {i : Nat} (hi : ρ i = none) {xs : List (List D)} {vals : Array Value} {cap sz : Nat} (f : Bool) (hu : Uni sz xs) (hfl : FlatAt M vals.toList 0 xs.flatten) (h1 : ∀ u ∈ vals.toList, u.oneCell' = true) (hc : xs.length ≤ cap)
    (hf : f = true → cap = xs.length) (hv : cap * sz ≤ vals.size) (t : TypeId) :
    RhoLe ρ (upd ρ i (some ⟨some ⟨w.heap.size, 0, none⟩, xs.length, cap, sz⟩)) ∧ Rel w0 F M (upd ρ i (some ⟨some ⟨w.heap.size, 0, none⟩, xs.length, cap, sz⟩)) (upd hp i (.row sz f xs)) (w.alloc (.cells vals t)) :=
  hrel.new i ⟨some ⟨w.heap.size, 0, none⟩, xs.length, cap, sz⟩ ⟨w.heap.size, 0, none⟩ (.cells vals t) (.row sz f xs) hi rfl rfl
    (fun ρ' hr hi' => ⟨_, hi', rfl, rfl, hc, hf, hu, by simp,   .inr ⟨w.heap.size, 0, vals, t, (0, 0), rfl, heap_alloc_new w _, .inl rfl, by show 0 + cap * sz ≤ _; omega, hfl.els hu, fun u hu => h1 u (by simpa using hu)⟩⟩)
theorem new_var (hrel : Rel w0 F M ρ hp w) (hfr : ∀ i, nb ≤ i → i < nb + 8 → ρ i = none) {rz : List (Nat × Nat)} {xs cs : List A} {ws : Writes} {vals : Array Value} (hrz : rz.length ≤ 7) (hx : RepAs M ρ xs vals.toList) (h1 : ∀ u ∈ vals.toList, u.oneCell' = true)
    (h : rowify (nb + 1) rz xs = some (cs, ws)) (t : TypeId) {s : Sem Value} (hs : s.run P w = .ok (.pointer (some ⟨w.heap.size, 0, none⟩)) (w.alloc (.cells vals t))) : OpOk P w0 F M ρ hp nb s w (.ptr nb 0) (ws ++ [(nb, .box cs)]) := by
  obtain ⟨ρ', k1, k2, k3, k4⟩ := rowify_ok hrel hx (fun i a b => hfr i (by omega) (by omega)) h
  have hnb : ρ' nb = none := by
    cases hq : ρ' nb with
    | none => rfl
    | some l =>
      rcases k2 nb l hq with h | h
      · rw [hfr nb (Nat.le_refl _) (by omega)] at h; cases h
      · omega
  obtain ⟨j1, j2⟩ := new_box k4 hnb k3 h1 t
  refine ⟨M, _, _, _, hs, MemLe.refl _, k1.trans j1, fun i l hi => ?_, .ptr nb 0 _ w.heap.size (upd_same _ _ _) rfl, by rw [applyW_append]; exact j2⟩
  rcases upd_dom hi with h | h
  · rcases k2 i l h with h | h
    · exact .inl h
    · right; omega
  · right; omega
theorem ok_alloc (hrel : Rel w0 F M ρ hp w) (hfr : ∀ i, nb ≤ i → i < nb + 8 → ρ i = none) {v : A} {z : List A} {rz : List (Nat × Nat)} {ws : Writes} {t : TypeId} (hz : zeroT P t = some z)
    {kf : Bool} {cf : CallF} (h : aop kf cf nb hr (.alloc z rz) = some (v, ws)) : OpOk P w0 F M ρ hp nb (Instr.alloc t true (.tuple #[])) w v ws := by
  simp only [aop] at h
  split at h
  · rename_i hrz
    split at h
    · rename_i cs ws' h1
      simp only [Option.some.injEq, Prod.mk.injEq] at h
      obtain ⟨rfl, rfl⟩ := h
      obtain ⟨i, zv, g1, g2, g3, g4⟩ := zeroT_rep (M := M) (ρ := ρ) hz
      exact new_var hrel hfr hrz g3 g4 h1 t (by simp [Instr.alloc, zeroValue, typeInfo, g1, g2, newVar, newRow])
    · cases h
  · cases h
theorem ok_box (hrel : Rel w0 F M ρ hp w) (hfr : ∀ i, nb ≤ i → i < nb + 8 → ρ i = none) {x v : A} {vx : Value} (hx : RepA M ρ x vx) {rz : List (Nat × Nat)} {ws : Writes} {t : TypeId} {sz : Nat}
    {kf : Bool} {cf : CallF} (h : aop kf cf nb hr (.box sz x rz) = some (v, ws)) : OpOk P w0 F M ρ hp nb (Instr.box t vx) w v ws := by
  simp only [aop] at h
  split at h
  · rename_i xs hxs
    split at h
    · rename_i hrz
      split at h
      · rename_i cs ws' h1
        simp only [Option.some.injEq, Prod.mk.injEq] at h
        obtain ⟨rfl, rfl⟩ := h
        obtain ⟨g1, g2⟩ := cells_rep hx hxs
        exact new_var hrel hfr hrz.2 g1 (fun u hu => g2 u (by simpa using hu)) h1 t (by simp [Instr.box, newVar, newRow])
      · cases h
    · cases h
  · cases h
/-- A new row's value. -/
theorem OpOk.row (hrel : Rel w0 F M ρ hp w) {M' : Mem} {hp' : Heap} {w' : World} (hM : MemLe M M') (hrel' : Rel w0 F M' ρ hp' w') {ws : Writes} (hws : hp' = applyW hp ws) (hfr : ρ nb = none) {xs : List (List D)} {vals : Array Value} {cap sz : Nat} (f : Bool) (hu : Uni sz xs)
    (hfl : FlatAt M' vals.toList 0 xs.flatten) (h1 : ∀ u ∈ vals.toList, u.oneCell' = true) (hc : xs.length ≤ cap) (hf : f = true → cap = xs.length) (hv : cap * sz ≤ vals.size) (t : TypeId) {s : Sem Value}
    (hs : s.run P w = .ok (.slice (some ⟨w'.heap.size, 0, none⟩) xs.length cap) (w'.alloc (.cells vals t))) : OpOk P w0 F M ρ hp nb s w (.row nb) (ws ++ [(nb, .row sz f xs)]) := by
  obtain ⟨j1, j2⟩ := new_row hrel' hfr f hu hfl h1 hc hf hv t
  refine ⟨M', _, _, _, hs, hM, j1, fun i l hi => ?_, ?_, by rw [applyW_append, ← hws]; exact j2⟩
  · rcases upd_dom hi with h | h
    · exact .inl h
    · right; omega
  · have := RepA.row (M := M') nb _ (upd_same ρ nb (some ⟨some ⟨w'.heap.size, 0, none⟩, xs.length, cap, sz⟩))
    exact this
theorem ok_bslice (hrel : Rel w0 F M ρ hp w) (hs : Sub hr hp) (hfr : ∀ i, nb ≤ i → i < nb + 8 → ρ i = none) {v : A} {ws : Writes} {t e : TypeId} {sz len : Nat} {z : List D} {full : Bool} {ps : List (Nat × A)} {vs : Array (Nat × Value)} (hu : P.underlying t = some (.slice e))
    (hsz : szT P e = some sz) (hz : zeroD P e = some z) (hle : len * sz ≤ 16777216) (hps : PartsRep M ρ (fun i => some (i * sz, sz)) (ps.map fun p => (p.1 * sz, sz, p.2)) vs.toList)
    {kf : Bool} {cf : CallF} (h : aop kf cf nb hr (.bslice sz len (List.replicate len z).flatten full ps) = some (v, ws)) : OpOk P w0 F M ρ hp nb (Instr.buildSlice t len vs) w v ws := by
  simp only [aop] at h
  split at h
  · rename_i hzl
    split at h
    · rename_i cs hcs
      split at h
      · rename_i ds w1 hds
        simp only [Option.some.injEq, Prod.mk.injEq] at h
        obtain ⟨rfl, rfl⟩ := h
        obtain ⟨i, zv, g1, g2, g3⟩ := zeroD_rep (P := P) (M := M) hz
        have hsize : z.length = zv.cells.size := by have := g3.1; simpa using this
        -- the zero cells, as the model lays them
        let Z : Array Value := (Array.range (len * sz)).map fun i => (if len * sz = 0 then (#[] : Array Value) else zv.cells)[i % (if len * sz = 0 then (#[] : Array Value) else zv.cells).size]!
        have hZ : RepDs M (List.replicate len z).flatten Z.toList := by
          rcases Nat.eq_zero_or_pos (len * sz) with h0 | h0
          · have h1 : (List.replicate len z).flatten = [] := List.eq_nil_of_length_eq_zero (by omega)
            have h2 : Z.toList = [] := List.eq_nil_of_length_eq_zero (by simp [Z, h0])
            rw [h1, h2]; exact ⟨rfl, by simp⟩
          · have hlen : 0 < len := Nat.pos_of_mul_pos_right h0
            have hzs : z.length = sz := by
              have huz : Uni z.length (List.replicate len z) := fun c hc => by rw [List.eq_of_mem_replicate hc]
              have := flat_len huz
              rw [hzl, List.length_replicate] at this
              exact (Nat.eq_of_mul_eq_mul_left hlen this).symm
            have hne : ¬ len * sz = 0 := by omega
            have := zeros_get g3 (by rw [hzs]; exact Nat.pos_of_mul_pos_left h0) len
            simp only [Z, if_neg hne]
            rw [← hsize, hzs] at this
            rw [← hsize, hzs]
            exact this
        have hZA : RepAs M ρ ((List.replicate len z).flatten.map A.d) Z.toList := ⟨by simpa using hZ.1, fun j x u hx hu' => by
          rw [List.getElem?_map, Option.map_eq_some_iff] at hx
          obtain ⟨d, hd, rfl⟩ := hx
          exact .d (hZ.2 j d u hd hu')⟩
        obtain ⟨cells, f1, f2, f3⟩ := fill_rep _ Z hps hZA hZ.one hcs
        obtain ⟨M', j1, j2, j3, j4⟩ := toDs_ok hrel hs f2 hds
        have hdl : ds.length = len * sz := by
          have e1 : cs.length = len * sz := by
            have : ∀ (ps : List (Nat × Nat × A)) (cs out : List A), setParts cs ps = some out → out.length = cs.length := by
              intro ps
              induction ps with
              | nil => intro cs out h; simp [setParts] at h; rw [h]
              | cons p ps ih =>
                intro cs out h
                obtain ⟨o, s, x⟩ := p
                simp only [setParts] at h
                split at h
                · rename_i us hus
                  split at h
                  · rename_i hb
                    rw [ih _ _ h, splice_len (by omega)]
                  · cases h
                · cases h
            rw [this _ _ _ hcs, List.length_map, hzl]
          rw [j2, ← f2.1, e1]
        have hcu : Uni sz (chunks sz len ds) := chunks_uni (by omega)
        have hflat : (chunks sz len ds).flatten = ds := by rw [chunks_flat (by omega), ← hdl, List.take_length]
        refine OpOk.row (cap := len) hrel j1 j4 rfl (hfr nb (Nat.le_refl _) (by omega)) full hcu (vals := cells) ?_ f3 (by rw [chunks_len]; exact Nat.le_refl _) (fun _ => by rw [chunks_len]) (by rw [j2] at hdl; simp at hdl; omega) e ?_
        · rw [hflat]
          intro j d hd
          have hlt : j < cells.toList.length := by rw [← j2]; exact (List.getElem?_eq_some_iff.1 hd).1
          exact ⟨cells.toList[j], by rw [Nat.zero_add]; exact List.getElem?_eq_getElem hlt, j3 j d _ hd (List.getElem?_eq_getElem hlt)⟩
        · rw [chunks_len]
          have hno : ¬ (len * sz > 2 ^ 24) := by omega
          have hf1 : Instr.fill (fun i => some (i * sz, sz)) Z vs.toList = some cells := f1
          rcases Nat.eq_zero_or_pos (len * sz) with h0 | h0
          · have hZ0 : Z = #[] := by apply Array.ext'; exact List.eq_nil_of_length_eq_zero (by simp [Z, h0])
            rw [hZ0] at hf1
            have hr0 : Array.range 0 = #[] := rfl
            simp [Instr.buildSlice, run_underlying hu, run_sizeOf hsz, h0, hr0, hf1, newRow]
          · have hne : ¬ len * sz = 0 := by omega
            have hZ1 : Z = (Array.range (len * sz)).map fun i => zv.cells[i % zv.cells.size]! := by simp only [Z, if_neg hne]
            rw [hZ1] at hf1
            have hno' : ¬ (16777216 < len * sz) := by omega
            simp [Instr.buildSlice, run_underlying hu, run_sizeOf hsz, hno', hne, zeroValue, typeInfo, g1, g2, hf1, newRow]
      · cases h
    · cases h
  · cases h
end
end Go.Vm
end
section
/- Twelfth part: make, copy, append. -/
set_option linter.unusedVariables false
set_option linter.unusedSimpArgs false
set_option linter.unnecessarySimpa false
namespace Go.Vm
section
variable {P : Program} {w0 : World} {F M : Mem} {ρ : Rho} {hp hr : Heap} {w : World} {nb : Nat}
theorem wrap64 {a : Int} (h0 : 0 ≤ a) (h1 : a ≤ 9223372036854775807) : IntKind.i64.wrap a = a := by
  simp [IntKind.wrap, IntKind.bits, IntKind.signed]
  omega
theorem ok_mkslice (hrel : Rel w0 F M ρ hp w) (hfr : ∀ i, nb ≤ i → i < nb + 8 → ρ i = none) {n c v : A} {ws : Writes} {vn vc : Value} (hn : RepA M ρ n vn) (hc : RepA M ρ c vc) {t e : TypeId} {z : List D} {full : Bool} {i : TypeInfo} (hu : P.underlying t = some (.slice e)) (hi : P.info? e = some i) (hz : zeroD P e = some z)
    {kf : Bool} {cf : CallF} (h : aop kf cf nb hr (.mkslice z i.size i.bytes full n c) = some (v, ws)) : OpOk P w0 F M ρ hp nb (Instr.makeSlice t vn vc) w v ws := by
  simp only [aop] at h
  split at h
  · rename_i k a k' b
    split at h
    · rename_i hcond
      obtain ⟨rfl, h0, h1, h2, h3, h4⟩ := hcond
      simp only [Option.some.injEq, Prod.mk.injEq] at h
      obtain ⟨rfl, rfl⟩ := h
      obtain rfl := rep_int hn
      obtain rfl := rep_int hc
      obtain ⟨i', zv, g1, g2, g3⟩ := zeroD_rep (P := P) (M := M) hz
      rw [hi] at g1; cases g1
      have hsize : z.length = zv.cells.size := by have := g3.1; simpa using this
      have hu' : Uni i.size (List.replicate a.toNat z) := fun c hc => by rw [List.eq_of_mem_replicate hc]; exact h3
      let Z : Array Value := (Array.range (a.toNat * i.size)).map fun j => (if a.toNat * i.size = 0 then (#[] : Array Value) else zv.cells)[j % (if a.toNat * i.size = 0 then (#[] : Array Value) else zv.cells).size]!
      have hZ : RepDs M (List.replicate a.toNat z).flatten Z.toList := by
        rcases Nat.eq_zero_or_pos (a.toNat * i.size) with q0 | q0
        · have e1 : (List.replicate a.toNat z).flatten = [] := List.eq_nil_of_length_eq_zero (by rw [flat_len hu', List.length_replicate]; exact q0)
          have e2 : Z.toList = [] := List.eq_nil_of_length_eq_zero (by simp [Z, q0])
          rw [e1, e2]; exact ⟨rfl, by simp⟩
        · have hne : ¬ a.toNat * i.size = 0 := by omega
          have := zeros_get g3 (by rw [h3]; exact Nat.pos_of_mul_pos_left q0) a.toNat
          simp only [Z, if_neg hne]
          rw [← hsize, h3] at this
          rw [← hsize, h3]
          exact this
      have hw := wrap64 h0 h2
      have hbig : ¬ (281474976710656 < (i.bytes : Int) * a) := by rw [Int.mul_comm]; omega
      refine OpOk.row (cap := a.toNat) (xs := List.replicate a.toNat z) (vals := Z) (ws := []) hrel (MemLe.refl _) hrel rfl (hfr nb (Nat.le_refl _) (by omega)) full hu' ?_ hZ.one (by simp) (fun _ => by simp) (by simp [Z]) e ?_
      · intro j d hd
        have hlt : j < Z.toList.length := by rw [← hZ.1]; exact (List.getElem?_eq_some_iff.1 hd).1
        exact ⟨Z.toList[j], by rw [Nat.zero_add]; exact List.getElem?_eq_getElem hlt, hZ.2 j d _ hd (List.getElem?_eq_getElem hlt)⟩
      · rw [List.length_replicate]
        have n1 : ¬ (a < 0) := by omega
        rcases Nat.eq_zero_or_pos (a.toNat * i.size) with q0 | q0
        · have hZ0 : Z = #[] := by apply Array.ext'; exact List.eq_nil_of_length_eq_zero (by simp [Z, q0])
          have hr0 : Array.range 0 = #[] := rfl
          rw [hZ0]
          simp [Instr.makeSlice, run_underlying hu, typeInfo, hi, asInt, asIntOf, hw, n1, hbig, sizeOf, q0, hr0, newRow]
        · have hne : ¬ a.toNat * i.size = 0 := by omega
          have hZ1 : Z = (Array.range (a.toNat * i.size)).map fun j => zv.cells[j % zv.cells.size]! := by simp only [Z, if_neg hne]
          rw [hZ1]
          simp [Instr.makeSlice, run_underlying hu, typeInfo, hi, asInt, asIntOf, hw, n1, hbig, sizeOf, hne, zeroValue, g2, newRow]
    · cases h
  · cases h
theorem ok_mkmap (hrel : Rel w0 F M ρ hp w) (hfr : ∀ i, nb ≤ i → i < nb + 8 → ρ i = none) {v : A} {ws : Writes} {t : TypeId} {kf : Bool} {cf : CallF} {agg : Bool} (h : aop kf cf nb hr (.mkmap agg) = some (v, ws)) : OpOk P w0 F M ρ hp nb (Instr.makeMap t none) w v ws := by
  simp only [aop, Option.some.injEq, Prod.mk.injEq] at h
  obtain ⟨rfl, rfl⟩ := h
  obtain ⟨j1, j2⟩ := hrel.new nb ⟨some ⟨w.heap.size, 0, none⟩, 0, 0, 0⟩ ⟨w.heap.size, 0, none⟩ (.map #[] 0) (.map agg []) (hfr nb (Nat.le_refl _) (by omega)) rfl rfl (fun ρ' hr hi' => ⟨_, w.heap.size, #[], 0, hi', rfl, heap_alloc_new w _, trivial⟩)
  refine ⟨M, _, .map (some w.heap.size), _, by simp [Instr.makeMap], MemLe.refl _, j1, fun i l hi => ?_, .map nb _ w.heap.size (upd_same _ _ _) rfl, j2⟩
  rcases upd_dom hi with h | h
  · exact .inl h
  · right; omega
end
end Go.Vm
end
section
/- Thirteenth part: copy, append. -/
set_option linter.unusedVariables false
set_option linter.unusedSimpArgs false
set_option linter.unnecessarySimpa false
namespace Go.Vm
section
variable {P : Program} {w0 : World} {F M : Mem} {ρ : Rho} {hp hr : Heap} {w : World} {nb : Nat}
theorem byteCells_flat (s : ByteArray) : (byteCells s).flatten = s.data.toList.map fun b => D.int .u8 b.toNat := by
  unfold byteCells
  induction s.data.toList with
  | nil => rfl
  | cons b l ih => simp only [List.map_cons, List.flatten_cons, ih]; rfl
theorem byteCells_len (s : ByteArray) : (byteCells s).length = s.size := by simp [byteCells]
theorem byteCells_reps (s : ByteArray) : RepDs M (byteCells s).flatten (Go.byteCells s) := by
  rw [byteCells_flat]
  refine ⟨by simp [Go.byteCells], fun i d u hd hu => ?_⟩
  simp only [Go.byteCells, List.getElem?_map, Option.map_eq_some_iff] at hd hu
  obtain ⟨b, hb, rfl⟩ := hd
  obtain ⟨b', hb', rfl⟩ := hu
  rw [hb] at hb'; cases hb'
  exact .int _ _
/-- What is shown, as the model's functions read it. -/
theorem shows_src {sz ysz : Nat} {ys : List (List D)} {v : Value} (hv : Shows M w ysz ys v) (hok : okSz sz ysz ys = true) : ∃ news : List Value, RepDs M ys.flatten news ∧ news.length = ys.length * sz ∧ Uni sz ys ∧ (∀ w', (Builtin.lenOf v).run P w' = .ok ys.length w') ∧
    (∀ k, k ≤ ys.length → (Builtin.firstCells sz k v).run P w = .ok (news.take (k * sz)).toArray w ∧ (Builtin.firstCells sz k v).run P w.drew = .ok (news.take (k * sz)).toArray w.drew) := by
  rcases hv with ⟨s, rfl, rfl, rfl⟩ | ⟨base, cap, rfl, hu, hl, hn⟩
  · have hus : Uni sz (byteCells s) := by
      simp only [okSz, Bool.or_eq_true, beq_iff_eq, List.isEmpty_iff] at hok
      intro c hc
      rcases hok with rfl | h
      · obtain ⟨b, _, rfl⟩ := List.mem_map.1 hc; rfl
      · rw [h] at hc; cases hc
    refine ⟨Go.byteCells s, byteCells_reps s, ?_, hus, fun w' => by simp [Builtin.lenOf, byteCells_len], fun k hk => ?_⟩
    · rw [← (byteCells_reps (M := M) s).1, flat_len hus]
    · have e : ∀ w' : World, (Builtin.firstCells sz k (.string s)).run P w' = .ok ((Go.byteCells s).take (k * sz)).toArray w' := fun w' => by
        have h1 : ((s.extract 0 k).data.map fun b => Value.int .u8 b.toNat) = ((Go.byteCells s).take (k * sz)).toArray := by
          apply Array.ext'
          have hk' : k * sz = k ∨ Go.byteCells s = [] := by
            simp only [okSz, Bool.or_eq_true, beq_iff_eq, List.isEmpty_iff] at hok
            rcases hok with rfl | h
            · left; omega
            · right
              have := (byteCells_reps (M := M) s).1
              rw [h] at this
              exact List.eq_nil_of_length_eq_zero (by simpa using this.symm)
          rcases hk' with hk' | hk'
          · rw [hk']; simp [Go.byteCells, ByteArray.data_extract, List.map_take]
          · rw [hk']
            have : s.data.toList = [] := by simpa [Go.byteCells] using hk'
            simp [ByteArray.data_extract, this]
        show Result.ok ((s.extract 0 k).data.map fun b => Value.int .u8 b.toNat) w' = _
        rw [h1]
      exact ⟨e w, e w.drew⟩
  · have hus : Uni sz ys := by
      simp only [okSz, Bool.or_eq_true, beq_iff_eq, List.isEmpty_iff] at hok
      rcases hok with rfl | rfl
      · exact hu
      · exact fun c hc => by cases hc
    cases base with
    | none =>
      have hnil : ys.flatten = [] := Classical.byContradiction fun h => by obtain ⟨a, ha⟩ := hn h; cases ha
      refine ⟨[], by rw [hnil]; exact ⟨rfl, by simp⟩, ?_, hus, fun w' => by simp [Builtin.lenOf], fun k hk => ?_⟩
      · rw [← flat_len hus, hnil]; rfl
      · simp [Builtin.firstCells]
    | some a =>
      have hli := hl a rfl
      obtain ⟨news, h1, h2⟩ := list_choose ys.flatten hli.2
      have hcell : ∀ (k j : Nat) u, (news.take (k * sz))[j]? = some u → w.cell? (a.add j) = some u := fun k j u hu' => by
        rw [List.getElem?_take] at hu'
        split at hu'
        · have hlt : j < ys.flatten.length := by rw [← h1]; exact (List.getElem?_eq_some_iff.1 hu').1
          rw [addr_add hli.1]
          exact (h2 j _ u (List.getElem?_eq_getElem hlt) hu').1
        · cases hu'
      refine ⟨news, ⟨h1.symm, fun i d u hd hu' => (h2 i d u hd hu').2⟩, by rw [h1, flat_len hus], hus, fun w' => by simp [Builtin.lenOf], fun k hk => ?_⟩
      have hlen : (news.take (k * sz)).length = k * sz := by
        rw [List.length_take, h1, flat_len hus]
        exact Nat.min_eq_left (Nat.mul_le_mul_right _ hk)
      exact ⟨run_firstCells_some w sz k a ys.length cap _ hlen (hcell k), run_firstCells_some w.drew sz k a ys.length cap _ hlen (fun j u h => hcell k j u h)⟩
theorem ok_copy (hrel : Rel w0 F M ρ hp w) (hs : Sub hr hp) {x y v : A} {ws : Writes} {vx vy : Value} (hx : RepA M ρ x vx) (hy : RepA M ρ y vy) {ts : Array TypeId} (ty : TypeId) {t e : TypeId} {sz : Nat} (ht : ts[0]? = some t) (hu : P.underlying t = some (.slice e)) (hz : szT P e = some sz)
    {kf : Bool} {cf : CallF} (h : aop kf cf nb hr (.copy sz x y) = some (v, ws)) : OpOk P w0 F M ρ hp nb (Builtin.copy_ ts ty #[vx, vy]) w v ws := by
  simp only [aop] at h
  split at h
  · cases h
  · rename_i ysz ys hv
    split at h
    · rename_i id off len bsz
      split at h
      · rename_i cs hid
        split at h
        · rename_i hc
          obtain ⟨rfl, hok, hle⟩ := hc
          simp only [Option.some.injEq, Prod.mk.injEq] at h
          obtain ⟨rfl, rfl⟩ := h
          obtain ⟨news, h1, h2, h3, h4, h5⟩ := shows_src (P := P) (view_rep hrel hs hy hv) hok
          generalize hn : Nat.min ys.length len = n
          have hn1 : n ≤ ys.length := by rw [← hn]; exact Nat.min_le_left _ _
          have hn2 : n ≤ len := by rw [← hn]; exact Nat.min_le_right _ _
          have hm1 : n * bsz ≤ ys.length * bsz := Nat.mul_le_mul_right _ hn1
          have hm2 : n * bsz ≤ len * bsz := Nat.mul_le_mul_right _ hn2
          have hA : RepAs M ρ (((ys.take n).flatten).map A.d) (news.take (n * bsz)) := by
            rw [flat_take h3]
            refine ⟨by rw [List.length_map, List.length_take, List.length_take, h1.1], fun j x u hx' hu' => ?_⟩
            rw [List.getElem?_map, Option.map_eq_some_iff] at hx'
            obtain ⟨d, hd, rfl⟩ := hx'
            rw [List.getElem?_take] at hd hu'
            split at hd
            · rename_i hj; rw [if_pos hj] at hu'; exact .d (h1.2 j d u hd hu')
            · cases hd
          have hid' := hs.live hid (by simp)
          have hlen : (((ys.take n).flatten).map A.d).length = n * bsz := by
            rw [List.length_map, flat_take h3, List.length_take, flat_len h3]; exact Nat.min_eq_left hm1
          obtain ⟨l, b, vals, k1, k2, k3, k4⟩ := write_box (o := off) hrel hid' hA (fun u hu' => h1.one u (List.mem_of_mem_take hu')) (by omega)
          cases hx with
          | bs _ _ _ _ l' b' base cap j1 j2 j3 j4 j5 =>
            rw [k1] at j1; cases j1; rw [k2] at j2; cases j2
            have hfc := (h5 n hn1).1
            rcases Nat.eq_zero_or_pos len with h0 | h0
            · have hn0 : n = 0 := by omega
              subst hn0
              have hself : Vm.splice cs off (((ys.take 0).flatten).map A.d) = cs := by simp [Vm.splice]
              refine OpOk.write (v' := goInt 0) (w' := w) ?_ (MemLe.refl _) (.d (.int _ _)) ?_
              · have hm0 : min ys.length len = 0 := hn
                simp only [Nat.zero_mul, List.take_zero] at hfc
                cases base <;> simp [Builtin.copy_, ht, run_underlying hu, h4, run_sizeOf hz, hm0, hfc, storeCells]
              · rw [hself]
                have e : upd hp id (.box cs) = hp := by
                  funext k; unfold upd; split
                  · rename_i hk; subst hk; exact hid'.symm
                  · rfl
                simp only [applyW]; rw [e]; exact hrel
            · obtain rfl := j4 h0
              refine OpOk.write (v' := goInt n) ?_ (MemLe.refl _) (.d (.int _ _)) k4
              have hm : min ys.length len = n := hn
              simp [Builtin.copy_, ht, run_underlying hu, h4, run_sizeOf hz, hm, hfc, k3 P]
        · cases h
      · cases h
    · cases h
end
end Go.Vm
end
section
/- Fourteenth part: append. -/
set_option linter.unusedVariables false
set_option linter.unusedSimpArgs false
set_option linter.unnecessarySimpa false
namespace Go.Vm
section
variable {P : Program} {w0 : World} {F M : Mem} {ρ : Rho} {hp hr : Heap} {w : World} {nb : Nat}
/-- A chunk that takes what nobody owns. -/
theorem Rel.adopt (hrel : Rel w0 F M ρ hp w) {j : Nat} {l : Loc} (hj : ρ j = none) (c : Chunk) (hc : RepC M (upd ρ j (some l)) w j c)
    (hown : ∀ b', Owns (upd ρ j (some l)) j c b' → M b' = none ∧ F b' = none ∧ ∀ k, ¬ Owns ρ k (hp k) b') : Rel w0 F M (upd ρ j (some l)) (upd hp j c) w := by
  have hr := RhoLe.upd (l := l) hj
  have hold : ∀ k b', k ≠ j → Owns (upd ρ j (some l)) k (upd hp j c k) b' → Owns ρ k (hp k) b' := fun k b' hk h => by
    rw [upd_ne _ _ hk] at h; exact Owns.back hr (hrel.ch k) h
  refine ⟨hrel.os, hrel.tape, hrel.output, hrel.size, hrel.mem, hrel.frm, hrel.mf, fun k => ?_, fun k b' h => ?_, fun k k' b' h1 h2 => ?_⟩
  · by_cases hk : k = j
    · subst hk; rw [upd_same]; exact hc
    · rw [upd_ne _ _ hk]; exact (hrel.ch k).mono (MemLe.refl _) hr (fun _ _ _ e => e)
  · by_cases hk : k = j
    · subst hk; rw [upd_same] at h; exact ⟨(hown b' h).1, (hown b' h).2.1⟩
    · exact hrel.own k b' (hold k b' hk h)
  · by_cases hk : k = j
    · by_cases hk' : k' = j
      · rw [hk, hk']
      · subst hk; rw [upd_same] at h1
        exact absurd (hold k' b' hk' h2) ((hown b' h1).2.2 k')
    · by_cases hk' : k' = j
      · subst hk'; rw [upd_same] at h2
        exact absurd (hold k b' hk h1) ((hown b' h2).2.2 k)
      · exact hrel.sep k k' b' (hold k b' hk h1) (hold k' b' hk' h2)
theorem src_of {sz : Nat} {tx : TypeId} {v : Value} {ys : List (List D)} {news : List Value} (hk : (∃ e', P.underlying tx = some (.slice e')) ∨ P.underlying tx = some .string) (h1 : RepDs M ys.flatten news) (h2 : news.length = ys.length * sz) (h4 : ∀ w', (Builtin.lenOf v).run P w' = .ok ys.length w')
    (h5 : ∀ k, k ≤ ys.length → (Builtin.firstCells sz k v).run P w = .ok (news.take (k * sz)).toArray w ∧ (Builtin.firstCells sz k v).run P w.drew = .ok (news.take (k * sz)).toArray w.drew) : Src P sz tx v ys.length news w := by
  have h6 := h5 ys.length (Nat.le_refl _)
  rw [← h2, List.take_length] at h6
  exact ⟨hk, h4, h6.1, h6.2, h2, h1.one⟩
/-- There is room behind the row's part. -/
theorem app_room (hrel : Rel w0 F M ρ hp w) {id sz : Nat} {f : Bool} {xs ys : List (List D)} (hid : hp id = .row sz f xs) {l : Loc} (hl : ρ id = some l) (hne : l.cap ≠ 0) {lo hi : Nat} (hlo : lo ≤ hi) (hhi : hi ≤ xs.length) {news : List Value} (h1 : RepDs M ys.flatten news) (hu : Uni sz ys)
    (hroom : hi + ys.length ≤ l.cap) (hnb : ρ nb = none) {t tx ty e : TypeId} {i : TypeInfo} (ht : P.underlying t = some (.slice e)) (hi' : P.info? e = some i) (hsz : i.size = sz) {v : Value} (hsrc : Src P sz tx v ys.length news w) :
    ∃ b o w', l.base = some ⟨b, o, none⟩ ∧ (Builtin.append_ #[t, tx] ty #[.slice (some ⟨b, o + lo * sz, none⟩) (hi - lo) (l.cap - lo), v]).run P w = .ok (.slice (some ⟨b, o + lo * sz, none⟩) (hi - lo + ys.length) (l.cap - lo)) w' ∧
      Rel w0 F M (upd ρ nb (some ⟨some ⟨b, o + lo * sz, none⟩, hi - lo + ys.length, l.cap - lo, sz⟩)) (upd (upd hp id .dead) nb (.row sz false ((xs.drop lo).take (hi - lo) ++ ys))) w' := by
  have hc := hrel.ch id
  rw [hid] at hc
  obtain ⟨l', g1, g2, g3, g4, g5, g6, g7, g8⟩ := hc
  rw [hl] at g1; cases g1
  rcases g8 with g8 | ⟨b, o, vals, tt, fr, k1, k2, k3, k4, k5, k6⟩
  · exact absurd g8 hne
  · have hidnb : nb ≠ id := fun h => by rw [h] at hnb; rw [hl] at hnb; cases hnb
    have hown : Owns ρ id (hp id) b := by rw [hid]; exact ⟨l, _, hl, k1, rfl, hne⟩
    have hnl := hsrc.newsLen
    have hcapm : (hi + ys.length) * sz ≤ l.cap * sz := Nat.mul_le_mul_right _ hroom
    rw [Nat.add_mul] at hcapm
    have hoff : o + lo * sz + (hi - lo) * sz = o + hi * sz := by rw [Nat.add_assoc, ← Nat.add_mul]; congr 2; omega
    have hfit : o + hi * sz + news.length ≤ vals.size := by omega
    have hrun := run_append_room_src (P := P) w t tx ty e i ht hi' b (o + lo * sz) (hi - lo) (l.cap - lo) v ys.length news (by rw [hsz]; exact hsrc) (by omega)
      (fun j hj => cell_some k2 (by rw [hsz]; omega)) (fun j hj => frozen_free k2 k3 (by rw [hsz]; omega))
    rw [hsz, hoff, setCells_row news _ vals w k2 hfit] at hrun
    refine ⟨b, o, _, k1, hrun, ?_⟩
    have hsize : (splice vals.toList (o + hi * sz) news).toArray.size = vals.size := by
      rw [List.size_toArray, splice_len (by simp; omega)]; simp
    -- first the old row is forgotten, with the world
    have hA : Rel w0 F M ρ (upd hp id .dead) (w.setRow b (splice vals.toList (o + hi * sz) news).toArray) :=
      hrel.write hown k2 _ .dead trivial (fun b' h => h.elim)
    have hux : Uni sz ((xs.drop lo).take (hi - lo)) := Uni.take (Uni.drop g6 lo) _
    refine hA.adopt hnb _ ⟨_, upd_same _ _ _, rfl, by simp; omega, by show hi - lo + ys.length ≤ l.cap - lo; omega, by simp, hux.append hu, by simp, .inr ⟨b, o + lo * sz, _, tt, fr, rfl, setRow_heap w b vals _ tt fr k2, ?_, ?_, ?_, fun u hu' => ?_⟩⟩ (fun b' h => ?_)
    · unfold FreeC at *
      rw [hsize]; exact k3
    · rw [hsize]
      show o + lo * sz + (l.cap - lo) * sz ≤ vals.size
      have : lo * sz + (l.cap - lo) * sz = l.cap * sz := by rw [← Nat.add_mul]; congr 1; omega
      omega
    · refine FlatAt.els (hux.append hu) ?_
      rw [List.flatten_append, flat_take (Uni.drop g6 lo), flat_drop g6]
      have hxl := flat_len g6
      have hm1 : hi * sz ≤ xs.length * sz := Nat.mul_le_mul_right _ hhi
      have hm2 : lo * sz + (hi - lo) * sz = hi * sz := by rw [← Nat.add_mul]; congr 1; omega
      have hlen1 : ((xs.flatten.drop (lo * sz)).take ((hi - lo) * sz)).length = (hi - lo) * sz := by simp only [List.length_take, List.length_drop, hxl]; omega
      refine FlatAt.append ?_ ?_
      · have hbase : FlatAt M vals.toList (o + lo * sz) ((xs.flatten.drop (lo * sz)).take ((hi - lo) * sz)) := ((k5.flat g6).drop _).take _
        refine hbase.congr (fun j ha hb => ?_)
        rw [splice_get (by simp; omega), if_pos (by omega)]
      · rw [hlen1, hoff]
        intro j d hd
        have hj : j < news.length := by rw [← h1.1]; exact (List.getElem?_eq_some_iff.1 hd).1
        refine ⟨news[j], ?_, h1.2 j d _ hd (List.getElem?_eq_getElem hj)⟩
        rw [splice_get (by simp; omega), if_neg (by omega), if_pos (by omega), Nat.add_sub_cancel_left]
        exact List.getElem?_eq_getElem hj
    · exact oneCell_splice (cs := vals.toList) (fun u hu => k6 u (by simpa using hu)) h1.one u (by simpa using hu')
    · obtain ⟨l', a, j1, j2, rfl, _⟩ := h
      rw [upd_same] at j1; cases j1; cases j2
      refine ⟨(hrel.own id b hown).1, (hrel.own id b hown).2, fun k hk => ?_⟩
      by_cases hki : k = id
      · subst hki; rw [upd_same] at hk; exact hk
      · rw [upd_ne _ _ hki] at hk; exact hki (hrel.sep k id _ hk hown)
theorem grown_ge (w : World) (need old : Nat) (e : TypeId) : need ≤ grownCap w need old e := by simp [grownCap, Question.cut]
/-- There is none: a new row. -/
theorem app_grow (hrel : Rel w0 F M ρ hp w) {hp' : Heap} {ws : Writes} (hws : hp' = applyW hp ws) (hrel' : Rel w0 F M ρ hp' w.drew) {sz : Nat} {xs ys : List (List D)} {olds news : List Value} (hxu : Uni sz xs) (hyu : Uni sz ys) (h0 : RepDs M xs.flatten olds) (h1 : RepDs M ys.flatten news) (hnb : ρ nb = none)
    {t tx ty e : TypeId} {i : TypeInfo} {z : List D} (ht : P.underlying t = some (.slice e)) (hi : P.info? e = some i) (hz : zeroD P e = some z) (hzl : z.length = i.size) (hsz : i.size = sz) {v : Value} (hsrc : Src P sz tx v ys.length news w) {base : Option Addr} {cap : Nat}
    (hold : (Builtin.firstCells sz xs.length (.slice base xs.length cap)).run P w.drew = .ok olds.toArray w.drew) (hg : cap < xs.length + ys.length) (hb : (xs.length + ys.length) * i.bytes ≤ 140737488355328) (h63 : xs.length + ys.length ≤ 140737488355328) :
    OpOk P w0 F M ρ hp nb (Builtin.append_ #[t, tx] ty #[.slice base xs.length cap, v]) w (.row nb) (ws ++ [(nb, .row sz false (xs ++ ys))]) := by
  obtain ⟨i', zv, q1, q2, q3⟩ := zeroD_rep (P := P) (M := M) hz
  rw [hi] at q1; cases q1
  have hsize : z.length = zv.cells.size := by have := q3.1; simpa using this
  have hnext := Nat.mul_le_mul_right i.bytes (Room.nextslicecap_le' hg)
  rw [Nat.mul_assoc] at hnext
  have hrun := run_append_grow_src (P := P) w t tx ty e i zv ht hi q2 base xs.length cap olds (by rw [hsz]; exact hold) v ys.length news (by rw [hsz]; exact hsrc) hg (by omega) (by omega)
  have hge := grown_ge w (xs.length + ys.length) cap e
  generalize grownCap w (xs.length + ys.length) cap e = g at hrun hge
  have hol := h0.1
  rw [flat_len hxu] at hol
  have hnl := hsrc.newsLen
  have hzeros : (Builtin.zeroCells zv.cells (g - (xs.length + ys.length))).size = (g - (xs.length + ys.length)) * sz := by
    rw [size_zeroCells, ← hsize, hzl, hsz]
  have hvl : ((olds ++ news).toArray ++ Builtin.zeroCells zv.cells (g - (xs.length + ys.length))).toList = olds ++ (news ++ (Builtin.zeroCells zv.cells (g - (xs.length + ys.length))).toList) := by simp
  refine OpOk.row (xs := xs ++ ys) (cap := g) (vals := (olds ++ news).toArray ++ Builtin.zeroCells zv.cells (g - (xs.length + ys.length))) (w' := w.drew) hrel (MemLe.refl _) hrel' hws hnb false (hxu.append hyu) ?_ ?_ (by simpa using hge) (by simp) ?_ e (by simpa using hrun)
  · rw [hvl, List.flatten_append]
    refine FlatAt.append (fun j d hd => ?_) (fun j d hd => ?_)
    · have hj : j < olds.length := by rw [← h0.1]; exact (List.getElem?_eq_some_iff.1 hd).1
      exact ⟨olds[j], by rw [Nat.zero_add, List.getElem?_append_left hj]; exact List.getElem?_eq_getElem hj, h0.2 j d _ hd (List.getElem?_eq_getElem hj)⟩
    · have hj : j < news.length := by rw [← h1.1]; exact (List.getElem?_eq_some_iff.1 hd).1
      refine ⟨news[j], ?_, h1.2 j d _ hd (List.getElem?_eq_getElem hj)⟩
      rw [Nat.zero_add, h0.1, List.getElem?_append_right (by omega), Nat.add_sub_cancel_left, List.getElem?_append_left hj]
      exact List.getElem?_eq_getElem hj
  · rw [hvl]
    intro u hu
    rcases List.mem_append.1 hu with h | h
    · exact h0.one u h
    · rcases List.mem_append.1 h with h | h
      · exact h1.one u h
      · simp only [Builtin.zeroCells, Array.toList_map, List.mem_map] at h
        obtain ⟨k, hk, rfl⟩ := h
        have hk' : k < (g - (xs.length + ys.length)) * zv.cells.size := by simpa using hk
        have hpos : 0 < zv.cells.size := Nat.pos_of_mul_pos_left (Nat.zero_lt_of_lt hk')
        have hm := Nat.mod_lt k hpos
        rw [getElem!_pos zv.cells _ hm]
        exact q3.one _ (by simp)
  · rw [Array.size_append, hzeros]
    simp only [List.size_toArray, List.length_append]
    have : g * sz = (xs.length + ys.length) * sz + (g - (xs.length + ys.length)) * sz := by rw [← Nat.add_mul]; congr 1; omega
    rw [this, Nat.add_mul]; omega
theorem take_drop_whole {α : Type} (xs : List α) : (xs.drop 0).take (xs.length - 0) = xs := by simp
theorem ok_app (hrel : Rel w0 F M ρ hp w) (hs : Sub hr hp) (hfr : ∀ i, nb ≤ i → i < nb + 8 → ρ i = none) {x y v : A} {ws : Writes} {vx vy : Value} (hx : RepA M ρ x vx) (hy : RepA M ρ y vy) (ty : TypeId) {t tx e : TypeId} {i : TypeInfo} {z : List D}
    (ht : P.underlying t = some (.slice e)) (hk : (∃ e', P.underlying tx = some (.slice e')) ∨ P.underlying tx = some .string) (hi : P.info? e = some i) (hz : zeroD P e = some z) (hzl : z.length = i.size)
    {kf : Bool} {cf : CallF} (h : aop kf cf nb hr (.app i.size i.bytes x y) = some (v, ws)) : OpOk P w0 F M ρ hp nb (Builtin.append_ #[t, tx] ty #[vx, vy]) w v ws := by
  have hnb : ρ nb = none := hfr nb (Nat.le_refl _) (by omega)
  simp only [aop] at h
  split at h
  · cases h
  · rename_i ysz ys hv
    split at h
    · rename_i hok
      obtain ⟨news, h1, h2, h3, h4, h5⟩ := shows_src (P := P) (view_rep hrel hs hy hv) hok
      have hsrc := src_of (tx := tx) hk h1 h2 h4 h5
      have nothing : ∀ (base : Option Addr) (n cap : Nat), ys = [] → n ≤ cap → (Builtin.append_ #[t, tx] ty #[.slice base n cap, vy]).run P w = .ok (.slice base n cap) w := fun base n cap hys hle => by
        subst hys
        have hn : news = [] := List.eq_nil_of_length_eq_zero (by simpa using h2)
        subst hn
        exact run_append_nothing w t tx ty e i ht hi base n cap hle vy hsrc
      split at h
      · rename_i tg xsz xs
        split at h
        · rename_i hem
          simp only [Option.some.injEq, Prod.mk.injEq] at h
          obtain ⟨rfl, rfl⟩ := h
          obtain ⟨base, cap, rfl, hcap, hd⟩ := rep_sl hx
          exact OpOk.pure hrel (nothing base _ cap (by simpa using hem) hcap) hx
        · rename_i hem
          split at h
          · rename_i hc
            obtain ⟨htg, hokx, hb, h63⟩ := hc
            simp only [Option.some.injEq, Prod.mk.injEq] at h
            obtain ⟨rfl, rfl⟩ := h
            obtain ⟨olds, g1, g2, g3, g4, g5⟩ := shows_src (P := P) (view_rep hrel hs hx (by rfl)) hokx
            obtain ⟨base, cap, rfl, hcap, hd⟩ := rep_sl hx
            have hcl : cap = xs.length := by
              obtain ⟨b', c', e, _, ht', _⟩ := hd.parts
              cases e
              cases tg <;> simp [Tg.isFull] at htg
              · exact ht'
              · obtain ⟨_, q1, q2⟩ := ht'; omega
            have hpos : 0 < ys.length := List.length_pos_iff.2 (by simpa using hem)
            have hold := (g5 xs.length (Nat.le_refl _)).2
            rw [← g2, List.take_length] at hold
            have := app_grow (ws := []) (nb := nb) (ty := ty) hrel rfl (hrel.drew _) g3 h3 g1 h1 hnb ht hi hz hzl rfl hsrc hold (by omega) hb h63
            exact this
          · cases h
      · rename_i id
        split at h
        · rename_i rsz f xs hid
          split at h
          · rename_i hc
            obtain ⟨rfl, hb, h63⟩ := hc
            simp only [Option.some.injEq, Prod.mk.injEq] at h
            obtain ⟨rfl, rfl⟩ := h
            have hid' := hs.live hid (by simp)
            obtain ⟨l, k1, k2, k3, k4, k5, k6, k7⟩ := row_place hrel hs (.inl hid)
            have hidnb : nb ≠ id := fun h => by rw [h, k1] at hnb; cases hnb
            have hview : view hr (.row id) = some (i.size, xs) := by simp [view, hid]
            obtain ⟨olds, g1, g2, g3, g4, g5⟩ := shows_src (P := P) (sz := i.size) (view_rep hrel hs hx hview) (by simp [okSz])
            cases hx with
            | row _ l' j1 =>
              rw [k1] at j1; cases j1
              rcases Nat.lt_or_ge l.cap (xs.length + ys.length) with hg | hg
              · have hold := (g5 xs.length (Nat.le_refl _)).2
                rw [← g2, List.take_length] at hold
                rw [k3] at *
                exact app_grow (ws := [(id, .dead)]) (ty := ty) hrel rfl ((hrel.kill id).drew _) g3 h3 g1 h1 hnb ht hi hz hzl rfl hsrc hold hg hb h63
              · rcases Nat.eq_zero_or_pos l.cap with h0 | h0
                · have hx0 : xs = [] := List.eq_nil_of_length_eq_zero (by omega)
                  have hy0 : ys = [] := List.eq_nil_of_length_eq_zero (by omega)
                  subst hx0 hy0
                  have hA := (hrel.kill id).adopt (l := l) hnb (.row i.size false []) ⟨l, upd_same _ _ _, k2, k3, k4, by simp, by simp, k6, .inl h0⟩ (fun b' h => by
                    obtain ⟨l', a, q1, q2, _, q3⟩ := h
                    rw [upd_same] at q1; cases q1; exact absurd h0 q3)
                  refine ⟨M, _, _, w, nothing l.base l.len l.cap rfl k4, MemLe.refl _, RhoLe.upd hnb, fun j l' hj => ?_, .row nb l (upd_same _ _ _), hA⟩
                  rcases upd_dom hj with h | h
                  · exact .inl h
                  · right; omega
                · obtain ⟨b, o, w', q1, q2, q3⟩ := app_room (nb := nb) (ty := ty) hrel hid' k1 (by omega) (Nat.zero_le _) (Nat.le_refl _) h1 h3 hg hnb ht hi rfl hsrc
                  rw [take_drop_whole] at q3
                  simp only [Nat.zero_mul, Nat.add_zero, Nat.sub_zero] at q2 q3
                  rw [← k3, ← q1] at q2
                  refine ⟨M, _, _, w', q2, MemLe.refl _, RhoLe.upd hnb, fun j l' hj => ?_, ?_, q3⟩
                  · rcases upd_dom hj with h | h
                    · exact .inl h
                    · right; omega
                  · have := RepA.row (M := M) nb _ (upd_same ρ nb (some ⟨some ⟨b, o, none⟩, xs.length + ys.length, l.cap, i.size⟩))
                    rw [q1, k3]
                    exact this
          · cases h
        · cases h
      · rename_i id lo hi' own
        split at h
        · rename_i rsz f xs hid
          split at h
          · rename_i hc
            obtain ⟨rfl, rfl, h0sz, hle, hhi⟩ := hc
            have hid' := hs.live hid (by simp)
            obtain ⟨l, k1, k2, k3, k4, k5, k6, k7⟩ := row_place hrel hs (.inl hid)
            have hidnb : nb ≠ id := fun h => by rw [h, k1] at hnb; cases hnb
            have hxl : ((xs.drop lo).take (hi' - lo)).length = hi' - lo := by simp; omega
            have hview : view hr (.sub id lo hi' true) = some (i.size, (xs.drop lo).take (hi' - lo)) := by simp [view, hid, hhi]
            obtain ⟨olds, g1, g2, g3, g4, g5⟩ := shows_src (P := P) (sz := i.size) (view_rep hrel hs hx hview) (by simp [okSz])
            cases hx with
            | sub _ _ _ _ l' base cap j1 j2 j3 j4 j5 j6 =>
              rw [k1] at j1; cases j1
              obtain ⟨hcap, hbase⟩ := j5 rfl
              split at h
              · rename_i hin
                simp only [Option.some.injEq, Prod.mk.injEq] at h
                obtain ⟨rfl, rfl⟩ := h
                rcases Nat.eq_zero_or_pos ys.length with hy0 | hy0
                · have hys : ys = [] := List.eq_nil_of_length_eq_zero hy0
                  subst hys
                  have hself : xs.take hi' ++ ([] ++ xs.drop (hi' + ([] : List (List D)).length)) = xs := by simp
                  refine OpOk.write (v' := .slice base (hi' - lo) cap) (w' := w) (nothing base _ cap rfl j3) (MemLe.refl _) (.sub _ _ _ _ l base cap k1 hle j3 j4 j5 j6) ?_
                  rw [hself]
                  have e : upd hp id (.row i.size f xs) = hp := by
                    funext k; unfold upd; split
                    · rename_i hk; subst hk; exact hid'.symm
                    · rfl
                  simp only [applyW]; rw [e]; exact hrel
                · have hyf : 0 < ys.flatten.length := by rw [flat_len h3]; exact Nat.mul_pos hy0 h0sz
                  have hmul : (hi' + ys.length) * i.size ≤ xs.length * i.size := Nat.mul_le_mul_right _ hin
                  rw [Nat.add_mul] at hmul
                  obtain ⟨l', b, o, vals, e1, e2, e3, e4⟩ := write_row (k := hi' * i.size) (xs' := xs.take hi' ++ (ys ++ xs.drop (hi' + ys.length))) hrel hid' h1 (by rw [flat_len h3]; exact hmul) hyf
                    ((k5.take hi').append (h3.append (k5.drop _))) (by simp; omega) (flat_put k5 h3 hi')
                  rw [k1] at e1; cases e1
                  have hbe := hbase (by omega)
                  rw [e2] at hbe
                  simp only [Option.map_some, Addr.add_mid, k2] at hbe
                  -- the same stores, by the model's append
                  have hc := hrel.ch id
                  rw [hid'] at hc
                  obtain ⟨l'', m1, m2, m3, m4, m5, m6, m7, m8⟩ := hc
                  rw [k1] at m1; cases m1
                  rcases m8 with m8 | ⟨b', o', vals', tt, fr, n1, n2, n3, n4, n5, n6⟩
                  · omega
                  · rw [e2] at n1; cases n1
                    have hoff : o + lo * i.size + (hi' - lo) * i.size = o + hi' * i.size := by rw [Nat.add_assoc, ← Nat.add_mul]; congr 2; omega
                    have hnl := hsrc.newsLen
                    have hfit : o + hi' * i.size + news.length ≤ vals'.size := by
                      have : xs.length * i.size ≤ l.cap * i.size := Nat.mul_le_mul_right _ (by omega)
                      omega
                    have hrun := run_append_room_src (P := P) w t tx ty e i ht hi b (o + lo * i.size) (hi' - lo) cap vy ys.length news hsrc (by omega)
                      (fun j hj => cell_some n2 (by omega)) (fun j hj => frozen_free n2 n3 (by omega))
                    rw [hoff, setCells_row news _ vals' w n2 hfit] at hrun
                    have hw' : w.setRow b (splice vals'.toList (o + hi' * i.size) news).toArray = w.setRow b (splice vals (o + hi' * i.size) news).toArray := by
                      have h3' := run_write (P := P) n2 n3 hfit h1.one
                      rw [e3 P] at h3'
                      injection h3' with _ hh
                      exact hh.symm
                    rw [hw'] at hrun
                    rw [← hbe] at hrun
                    refine OpOk.write hrun (MemLe.refl _) ?_ e4
                    have hr := RepA.sub (M := M) id lo (hi' + ys.length) true l base cap k1 (by omega) (by omega) (fun hlt => by rw [hbase (by omega)]) (fun _ => ⟨hcap, hbase⟩) j6
                    rw [show hi' + ys.length - lo = hi' - lo + ys.length by omega] at hr
                    exact hr
              · rename_i hin
                split at h
                · rename_i hb
                  simp only [Option.some.injEq, Prod.mk.injEq] at h
                  obtain ⟨rfl, rfl⟩ := h
                  rcases Nat.lt_or_ge cap (hi' - lo + ys.length) with hg | hg
                  · have hold := (g5 _ (Nat.le_refl _)).2
                    rw [← g2, List.take_length] at hold
                    rw [hxl] at hold
                    have := app_grow (ws := [(id, .dead)]) (ty := ty) (xs := (xs.drop lo).take (hi' - lo)) hrel rfl ((hrel.kill id).drew _) g3 h3 g1 h1 hnb ht hi hz hzl rfl hsrc (by rw [hxl]; exact hold) (by rw [hxl]; exact hg) (by rw [hxl]; exact hb.1) (by rw [hxl]; exact hb.2)
                    rw [hxl] at this
                    exact this
                  · obtain ⟨b, o, w', q1, q2, q3⟩ := app_room (nb := nb) (ty := ty) hrel hid' k1 (by omega) hle hhi h1 h3 (by omega) hnb ht hi rfl hsrc
                    have hbe := hbase (by omega)
                    rw [q1] at hbe
                    simp only [Option.map_some, Addr.add_mid, k2] at hbe
                    rw [← hbe, ← hcap] at q2
                    refine ⟨M, _, _, w', q2, MemLe.refl _, RhoLe.upd hnb, fun j l' hj => ?_, ?_, q3⟩
                    · rcases upd_dom hj with h | h
                      · exact .inl h
                      · right; omega
                    · have := RepA.row (M := M) nb _ (upd_same ρ nb (some ⟨some ⟨b, o + lo * i.size, none⟩, hi' - lo + ys.length, l.cap - lo, i.size⟩))
                      rw [hbe, hcap]
                      exact this
                · cases h
          · cases h
        · cases h
      · cases h
    · cases h
end
end Go.Vm
end
section
/- Fifteenth part: maps. -/
set_option linter.unusedVariables false
set_option linter.unusedSimpArgs false
set_option linter.unnecessarySimpa false
namespace Go.Vm
section
variable {P : Program} {w0 : World} {F M : Mem} {ρ : Rho} {hp hr : Heap} {w : World} {nb : Nat}
theorem cellsEq_len : ∀ {ks : List BK} {ds es : List D} {b : Bool}, cellsEq ks ds es = some b → b = true → ds = es := by
  intro ks
  induction ks with
  | nil =>
    intro ds es b h hb
    cases ds <;> cases es <;> simp [cellsEq] at h
    rfl
  | cons k ks ih =>
    intro ds es b h hb
    subst hb
    cases ds with
    | nil => cases k <;> simp [cellsEq] at h
    | cons x xs =>
      cases es with
      | nil => cases k <;> cases x <;> simp [cellsEq] at h
      | cons y ys =>
        cases k <;> cases x <;> cases y <;> simp only [cellsEq] at h <;> first
          | (cases h; done)
          | skip
        · split at h
          · rename_i hjk
            split at h
            · rename_i he
              subst hjk
              rw [ih h rfl, eq_of_beq he]
            · cases h
          · cases h
        · rename_i a b
          split at h
          · rename_i he
            have hab : a = b := by
              rw [← beq_toListBytes] at he
              exact (MapKept.bytes_beq _ _).1 he
            rw [ih h rfl, hab]
          · cases h
        · split at h
          · rename_i he
            rw [ih h rfl, eq_of_beq he]
          · cases h
/-- Arrays of whole numbers, compared. -/
theorem run_items (d : Nat) {e : TypeId} {q : IntKind} (hu : P.underlying e = some (.int q)) (X Y : Array Value) (w : World) : ∀ (n k : Nat) (ds es : List D) (b : Bool),
    (∀ (i : Nat) (d : D), ds[i]? = some d → ∃ u, X[k + i]? = some u ∧ RepD M d u) → (∀ (i : Nat) (d : D), es[i]? = some d → ∃ u, Y[k + i]? = some u ∧ RepD M d u) → cellsEq (List.replicate n .int) ds es = some b →
    (Op.eqItems (d + 1) e 1 X Y (List.range' k n)).run P w = .ok b w
  | 0, k, ds, es, b, hx, hy, h => by
    cases ds <;> cases es <;> simp [cellsEq] at h
    subst h
    simp [Op.eqItems]
  | n + 1, k, ds, es, b, hx, hy, h => by
    have hpart : ∀ (Z : Array Value) (u : Value), Z[k]? = some u → (part e Z (k * 1)).run P w = .ok u w := fun Z u hz => by
      have ha : aggT P e = some false := by simp [aggT, hu, isAggD]
      unfold part
      simp [Sem.run_bind, run_isAgg ha w, hz]
    have hrest : ∀ (z : D) (zs : List D) (Z : Array Value), (∀ (i : Nat) (d : D), (z :: zs)[i]? = some d → ∃ u, Z[k + i]? = some u ∧ RepD M d u) → ∀ (i : Nat) (d : D), zs[i]? = some d → ∃ u, Z[k + 1 + i]? = some u ∧ RepD M d u := fun z zs Z hz i d hi => by
      rw [Nat.add_assoc, Nat.add_comm 1 i]
      exact hz (i + 1) d (by simpa using hi)
    rw [List.replicate_succ] at h
    cases ds with
    | nil => simp [cellsEq] at h
    | cons x xs =>
      cases es with
      | nil => cases x <;> simp [cellsEq] at h
      | cons y ys =>
        obtain ⟨u, hu1, hu2⟩ := hx 0 _ rfl
        obtain ⟨v, hv1, hv2⟩ := hy 0 _ rfl
        cases x <;> cases y <;> simp only [cellsEq] at h <;> first
          | (cases h; done)
          | skip
        split at h
        · rename_i hjk
          subst hjk
          cases hu2; cases hv2
          rw [List.range'_succ]
          simp only [Op.eqItems, Sem.run_bind, hpart _ _ hu1, hpart _ _ hv1, Result.andThen_ok, run_equalIn_int w d e _ _ _ _ hu]
          split at h
          · rename_i he
            simp only [he, Bool.not_true, Bool.false_eq_true, if_false]
            exact run_items d hu X Y w n (k + 1) xs ys b (hrest _ _ _ hx) (hrest _ _ _ hy) h
          · rename_i he
            cases h
            simp only [he, Bool.not_false, if_true, Sem.run_pure]
        · cases h
theorem reps_at {ds : List D} {X : Array Value} (h : RepDs M ds X.toList) : ∀ (i : Nat) (d : D), ds[i]? = some d → ∃ u, X[0 + i]? = some u ∧ RepD M d u := fun i d hi => by
  have hlt : i < X.toList.length := by rw [← h.1]; exact (List.getElem?_eq_some_iff.1 hi).1
  exact ⟨X.toList[i], by rw [Nat.zero_add]; simpa using List.getElem?_eq_getElem hlt, h.2 i d _ hi (List.getElem?_eq_getElem hlt)⟩
/-- Keys, compared. -/
theorem run_keyEq {kt : TypeId} {agg : Bool} {ks : List BK} (hs : keyShape P kt = some (agg, ks)) {ds es : List D} {b : Bool} {u v : Value} (hu : RepKey M agg ds u) (hv : RepKey M agg es v) (h : cellsEq ks ds es = some b) (w : World) :
    (Op.equal kt u v).run P w = .ok b w ∧ ∀ kd, P.underlying kt = some kd → ∀ b', Instr.sameNow kd u v = some b' → b' = b := by
  unfold keyShape at hs
  split at hs
  · rename_i q hk
    cases hs
    obtain ⟨d, rfl, hd⟩ := hu
    obtain ⟨e, rfl, he⟩ := hv
    cases d <;> cases e <;> simp only [cellsEq] at h <;> first
      | (cases h; done)
      | skip
    split at h
    · rename_i hjk
      subst hjk
      cases hd; cases he
      have hb : ∀ (x y : Int), (if (x == y) = true then some true else some false) = some b → b = (x == y) := fun x y hh => by
        cases hxy : (x == y) <;> rw [hxy] at hh <;> simp at hh <;> exact hh
      have := hb _ _ h
      subst this
      refine ⟨run_equalIn_int w 9999 kt _ _ _ _ hk, fun kd hkd b' hb' => ?_⟩
      rw [hk] at hkd; cases hkd
      simpa [Instr.sameNow] using hb'.symm
    · cases h
  · rename_i hk
    cases hs
    obtain ⟨d, rfl, hd⟩ := hu
    obtain ⟨e, rfl, he⟩ := hv
    cases d <;> cases e <;> simp only [cellsEq] at h <;> first
      | (cases h; done)
      | skip
    rename_i x y
    cases hd; cases he
    have hb : b = (x.toList == y.toList) := by
      cases hxy : (x.toList == y.toList) <;> rw [hxy] at h <;> simp at h <;> exact h
    subst hb
    refine ⟨run_equalIn_string w 9999 kt _ _ hk, fun kd hkd b' hb' => ?_⟩
    rw [hk] at hkd; cases hkd
    simp [Instr.sameNow] at hb'
    rw [← hb', beq_toListBytes]
  · rename_i n e hk
    split at hs
    · rename_i q he hse
      cases hs
      obtain ⟨X, rfl, hX⟩ := hu
      obtain ⟨Y, rfl, hY⟩ := hv
      unfold szT at hse
      obtain ⟨i, hi, hi1⟩ := Option.map_eq_some_iff.1 hse
      have hcell : P.cellsOf e = 1 := by simp [Program.cellsOf, hi, hi1]
      refine ⟨?_, fun kd hkd b' hb' => ?_⟩
      · show (Op.equalIn (9999 + 1) kt (.agg X) (.agg Y)).run P w = _
        rw [run_equalIn_array w 9999 X Y hk hi, hcell, List.range_eq_range']
        exact run_items 9998 he X Y w n 0 ds es b (reps_at hX) (reps_at hY) h
      · rw [hk] at hkd; cases hkd
        simp [Instr.sameNow] at hb'
    · cases hs
  · cases hs
/-- A key is looked for. -/
theorem find_ok {kt : TypeId} {kd : TypeDesc} {agg : Bool} {ks : List BK} (hs : keyShape P kt = some (agg, ks)) (hkd : P.underlying kt = some kd) {key : List D} {k : Value} (hk : RepKey M agg key k) (w : World) : ∀ (kvs : List (List D × D)) (es : List MapEntry) (i : Nat) (r : Option D), KvsAt M agg kvs es → kfind ks key kvs = some r →
    ∃ res, (Instr.findAsking kt k es i).run P w = .ok res w ∧ (∀ a, Instr.findNow kd k es i = some a → a = res) ∧ (match r with | none => res = none | some d => ∃ j u, res = some (i + j, u) ∧ RepD M d u)
  | [], [], i, r, _, h => by
    simp only [kfind, Option.some.injEq] at h
    subst h
    exact ⟨none, rfl, fun a h => by simp [Instr.findNow] at h; exact h.symm, rfl⟩
  | [], _ :: _, i, r, hc, h => hc.elim
  | _ :: _, [], i, r, hc, h => hc.elim
  | (k', v) :: kvs, e :: es, i, r, ⟨h1, h2, h3⟩, h => by
    simp only [kfind] at h
    split at h
    · rename_i hc
      cases h
      obtain ⟨q1, q2⟩ := run_keyEq hs hk h1 hc w
      refine ⟨some (i, e.val), by simp [Instr.findAsking, q1], fun a ha => ?_, 0, e.val, rfl, h2⟩
      simp only [Instr.findNow] at ha
      split at ha
      · cases ha; rfl
      · rename_i hh; have := q2 kd hkd _ hh; cases this
      · cases ha
    · rename_i hc
      obtain ⟨q1, q2⟩ := run_keyEq hs hk h1 hc w
      obtain ⟨res, g1, g2, g3⟩ := find_ok hs hkd hk w kvs es (i + 1) r h3 h
      refine ⟨res, by simp [Instr.findAsking, q1, g1], fun a ha => ?_, ?_⟩
      · simp only [Instr.findNow] at ha
        split at ha
        · rename_i hh; have := q2 kd hkd _ hh; cases this
        · exact g2 a ha
        · cases ha
      · cases r with
        | none => exact g3
        | some d => obtain ⟨j, u, e1, e2⟩ := g3; exact ⟨j + 1, u, by rw [e1]; congr 2; omega, e2⟩
    · cases h
theorem run_find {kt : TypeId} {agg : Bool} {ks : List BK} (hs : keyShape P kt = some (agg, ks)) {key : List D} {k : Value} (hk : RepKey M agg key k) (w : World) {kvs : List (List D × D)} {es : List MapEntry} {r : Option D} (hc : KvsAt M agg kvs es) (h : kfind ks key kvs = some r) :
    ∃ res, (Instr.findKey kt k es).run P w = .ok res w ∧ (match r with | none => res = none | some d => ∃ j u, res = some (j, u) ∧ RepD M d u) := by
  have : ∃ kd, P.underlying kt = some kd := by
    unfold keyShape at hs
    split at hs
    · exact ⟨_, by assumption⟩
    · exact ⟨_, by assumption⟩
    · exact ⟨_, by assumption⟩
    · cases hs
  obtain ⟨kd, hkd⟩ := this
  obtain ⟨res, g1, g2, g3⟩ := find_ok hs hkd hk w kvs es 0 r hc h
  refine ⟨res, ?_, ?_⟩
  · unfold Instr.findKey
    simp only [Sem.run_bind, run_underlying hkd, Result.andThen_ok]
    cases hf : Instr.findNow kd k es 0 with
    | none => exact g1
    | some a => rw [g2 a hf]; rfl
  · cases r with
    | none => exact g3
    | some d => obtain ⟨j, u, e1, e2⟩ := g3; exact ⟨0 + j, u, e1, e2⟩
/-- A key is checked. -/
theorem run_checkKey' {kt : TypeId} {agg : Bool} {ks : List BK} (hs : keyShape P kt = some (agg, ks)) {key : List D} {k : Value} (hk : RepKey M agg key k) (hl : key.length = ks.length) (w : World) (em : Bool) : ∀ m, (Instr.checkKey em (m + 2) kt k).run P w = .ok () w := by
  intro m
  unfold keyShape at hs
  split at hs
  · rename_i q hu
    cases hs
    obtain ⟨d, rfl, hd⟩ := hk
    simp [Instr.checkKey, run_underlying hu]
  · rename_i hu
    cases hs
    obtain ⟨d, rfl, hd⟩ := hk
    simp [Instr.checkKey, run_underlying hu]
  · rename_i n e hu
    split at hs
    · rename_i q he hse
      cases hs
      obtain ⟨X, rfl, hX⟩ := hk
      simp at hl
      have ha : aggT P e = some false := by simp [aggT, he, isAggD]
      have hstep : ∀ i, i < n → ∃ u, X[i]? = some u := fun i hi => by
        have := hX.1
        simp at this
        exact ⟨X[i], by simp⟩
      have hfor : ∀ (c k : Nat), k + c ≤ n → (forIn (List.range' k c) PUnit.unit (fun (i : Nat) (r : PUnit) => (do
          Instr.checkKey em (m + 1) e (← part e X (i * (← sizeOf e)))
          pure (ForInStep.yield PUnit.unit) : Sem (ForInStep PUnit)))).run P w = .ok PUnit.unit w := by
        intro c
        induction c with
        | zero => intro k hk; simp
        | succ c ih =>
          intro k hk
          obtain ⟨u, hu'⟩ := hstep k (by omega)
          rw [List.range'_succ]
          have hp : (part e X k).run P w = .ok u w := by
            unfold part
            simp [Sem.run_bind, run_isAgg ha w, hu']
          have hck : (Instr.checkKey em (m + 1) e u).run P w = .ok () w := by
            simp [Instr.checkKey, run_underlying he]
          simp only [List.forIn_cons, Sem.run_bind, run_sizeOf hse w, Result.andThen_ok, Nat.mul_one, hp, hck, Sem.run_pure]
          exact ih (k + 1) (by omega)
      have := hfor n 0 (by omega)
      rw [Instr.checkKey]
      simp only [Sem.run_bind, run_underlying hu, Result.andThen_ok]
      simp only [Std.Legacy.Range.forIn_eq_forIn_range', Std.Legacy.Range.size, Nat.sub_zero, Nat.add_one_sub_one, Nat.div_one]
      simp [Sem.run_bind] at this ⊢
      simp [this]
    · cases hs
  · cases hs
theorem keyOf_rep {agg : Bool} {k : A} {key : List D} {v : Value} (hk : RepA M ρ k v) (h : keyOf agg k = some key) : RepKey M agg key v := by
  unfold keyOf at h
  split at h
  · cases hk with
    | agg _ us hl hh h1 =>
      obtain ⟨_, h4, h5⟩ := allD_rep h (vs := us.toList) ⟨by simpa using hl, fun i x v a b => hh i x v a (by simpa using b)⟩
      exact ⟨us, rfl, h4, h5⟩
  · cases h
    cases hk with
    | d hd => exact ⟨_, rfl, hd⟩
  · cases h
theorem zeroOne_rep {t : TypeId} {z : D} (h : zeroOne P t = some z) : ∃ (i : TypeInfo) (v : Value), P.info? t = some i ∧ i.zero = some v ∧ RepD M z v := by
  unfold zeroOne at h
  split at h
  · rename_i v hv
    cases hi : P.info? t with
    | none => rw [hi] at hv; cases hv
    | some i =>
      rw [hi] at hv
      refine ⟨i, v, rfl, hv, ?_⟩
      obtain ⟨y, h1, h2⟩ := Option.bind_eq_some_iff.1 h
      unfold ofCell at h1
      split at h1
      · have := ofVal_rep (M := M) (ρ := fun _ => none) h1
        unfold unD at h2
        split at h2
        · cases h2; cases this with | d hd => exact hd
        · cases h2
      · cases h1
  · cases h
theorem run_look {t kt e : TypeId} {agg ok : Bool} {ks : List BK} {z : D} (hu : P.underlying t = some (.map kt e)) (hs : keyShape P kt = some (agg, ks)) (hz : zeroOne P e = some z) {key : List D} {vk : Value} (hk : RepKey M agg key vk) (hl : key.length = ks.length)
    {kvs : List (List D × D)} {es : Array MapEntry} {r : Option D} (hc : KvsAt M agg kvs es.toList) (h : kfind ks key kvs = some r) {vm : Value} (hvm : (vm = .map none ∧ es = #[]) ∨ ∃ b ck, vm = .map (some b) ∧ w.heap[b]? = some (.map es ck)) :
    ∃ u, (Instr.lookup t vm vk ok).run P w = .ok u w ∧ RepA M ρ (if ok then .tup [.d (r.getD z), .d (.bool r.isSome)] else .d (r.getD z)) u := by
  obtain ⟨res, h1, h2⟩ := run_find hs hk w hc h
  have hck : (Instr.checkKey es.isEmpty 10000 kt vk).run P w = .ok () w := run_checkKey' hs hk hl w es.isEmpty 9998
  have fin : ∀ (d : D) (u : Value) (b : Bool), RepD M d u → RepA M ρ (if ok then .tup [.d d, .d (.bool b)] else .d d) (if ok then .tuple #[u, .bool b] else u) := fun d u b hd => by
    cases ok
    · exact .d hd
    · refine .tup _ _ rfl (fun i x v hx hv => ?_)
      match i with
      | 0 => simp at hx hv; subst hx hv; exact .d hd
      | 1 => simp at hx hv; subst hx hv; exact .d (.bool _)
      | i + 2 => simp at hx
  have hes : (match vm with
      | .map none => pure #[]
      | .map (some r) => do
        let .map es _ ← getObj r | stuck "Lookup: map expected"
        pure es
      | _ => stuck "Lookup: map expected" : Sem (Array MapEntry)).run P w = .ok es w := by
    rcases hvm with ⟨rfl, rfl⟩ | ⟨b, ck, rfl, hb⟩
    · rfl
    · simp [Sem.run_bind, MapKept.run_getObj_map hb]
  cases r with
  | none =>
    subst h2
    obtain ⟨i, zv, g1, g2, g3⟩ := zeroOne_rep (P := P) (M := M) hz
    refine ⟨if ok then .tuple #[zv, .bool false] else zv, ?_, fin z zv false g3⟩
    rcases hvm with ⟨rfl, rfl⟩ | ⟨b, ck, rfl, hb⟩
    · simp only [Array.isEmpty_empty] at hck
      simp only [] at h1
      simp [Instr.lookup, Sem.run_bind, run_underlying hu, hck, h1, zeroValue, typeInfo, g1, g2]
    · simp [Instr.lookup, Sem.run_bind, run_underlying hu, MapKept.run_getObj_map hb, hck, h1, zeroValue, typeInfo, g1, g2]
  | some d =>
    obtain ⟨j, u, rfl, hd⟩ := h2
    refine ⟨if ok then .tuple #[u, .bool true] else u, ?_, fin d u true hd⟩
    rcases hvm with ⟨rfl, rfl⟩ | ⟨b, ck, rfl, hb⟩
    · simp only [Array.isEmpty_empty] at hck
      simp only [] at h1
      simp [Instr.lookup, Sem.run_bind, run_underlying hu, hck, h1]
    · simp [Instr.lookup, Sem.run_bind, run_underlying hu, MapKept.run_getObj_map hb, hck, h1]
theorem ok_look (hrel : Rel w0 F M ρ hp w) (hs' : Sub hr hp) {m k v : A} {ws : Writes} {vm vk : Value} (hm : RepA M ρ m vm) (hk : RepA M ρ k vk) {t kt e : TypeId} {agg ok : Bool} {ks : List BK} {z : D} (hu : P.underlying t = some (.map kt e)) (hs : keyShape P kt = some (agg, ks)) (hz : zeroOne P e = some z)
    {kf : Bool} {cf : CallF} (h : aop kf cf nb hr (.look ks agg ok z m k) = some (v, ws)) : OpOk P w0 F M ρ hp nb (Instr.lookup t vm vk ok) w v ws := by
  simp only [aop] at h
  split at h
  · rename_i key hkey
    split at h
    · rename_i hl
      split at h
      · rename_i r hr'
        simp only [Option.some.injEq, Prod.mk.injEq] at h
        obtain ⟨rfl, rfl⟩ := h
        have hkr := keyOf_rep hk hkey
        split at hr'
        · rename_i id
          split at hr'
          · rename_i agg' kvs hid
            split at hr'
            · rename_i hag
              subst hag
              have hc := hrel.chr hs' id
              rw [hid] at hc
              obtain ⟨l, b, es, ck, h1, h2, h3, h4⟩ := hc
              cases hm with
              | map _ l' b' k1 k2 =>
                rw [h1] at k1; cases k1; rw [h2] at k2; cases k2
                obtain ⟨u, g1, g2⟩ := run_look (ρ := ρ) (ok := ok) hu hs hz hkr hl h4 hr' (w := w) (.inr ⟨b, ck, rfl, h3⟩)
                exact OpOk.pure hrel g1 g2
            · cases hr'
          · cases hr'
        · cases hr'
          cases hm with
          | d hd =>
            cases hd
            obtain ⟨u, g1, g2⟩ := run_look (ρ := ρ) (ok := ok) (kvs := []) (es := #[]) (r := none) hu hs hz hkr hl trivial rfl (w := w) (.inl ⟨rfl, rfl⟩)
            exact OpOk.pure hrel g1 g2
        · cases hr'
      · cases h
    · cases h
  · cases h
theorem put_ok {kt : TypeId} {kd : TypeDesc} {agg : Bool} {ks : List BK} (hs : keyShape P kt = some (agg, ks)) (hkd : P.underlying kt = some kd) {key : List D} {k : Value} (hk : RepKey M agg key k) (x : D) (w : World) : ∀ (kvs kvs' : List (List D × D)) (es : List MapEntry) (i : Nat), KvsAt M agg kvs es → kput ks key x kvs = some kvs' →
    ∃ res, (Instr.findAsking kt k es i).run P w = .ok res w ∧ (∀ a, Instr.findNow kd k es i = some a → a = res) ∧ ((res = none ∧ kvs' = kvs ++ [(key, x)]) ∨ ∃ j u, res = some (i + j, u) ∧ (∃ v, kvs[j]? = some (key, v)) ∧ kvs' = kvs.set j (key, x))
  | [], kvs', [], i, _, h => by
    simp only [kput, Option.some.injEq] at h
    subst h
    exact ⟨none, rfl, fun a h => by simp [Instr.findNow] at h; exact h.symm, .inl ⟨rfl, rfl⟩⟩
  | [], _, _ :: _, i, hc, h => hc.elim
  | _ :: _, _, [], i, hc, h => hc.elim
  | (k', v) :: kvs, kvs', e :: es, i, ⟨h1, h2, h3⟩, h => by
    simp only [kput] at h
    split at h
    · rename_i hc
      cases h
      obtain ⟨q1, q2⟩ := run_keyEq hs hk h1 hc w
      have he := cellsEq_len hc rfl
      refine ⟨some (i, e.val), by simp [Instr.findAsking, q1], fun a ha => ?_, .inr ⟨0, e.val, rfl, ⟨v, by simp [he]⟩, rfl⟩⟩
      simp only [Instr.findNow] at ha
      split at ha
      · cases ha; rfl
      · rename_i hh; have := q2 kd hkd _ hh; cases this
      · cases ha
    · rename_i hc
      split at h
      · rename_i r hr
        cases h
        obtain ⟨q1, q2⟩ := run_keyEq hs hk h1 hc w
        obtain ⟨res, g1, g2, g3⟩ := put_ok hs hkd hk x w kvs r es (i + 1) h3 hr
        refine ⟨res, by simp [Instr.findAsking, q1, g1], fun a ha => ?_, ?_⟩
        · simp only [Instr.findNow] at ha
          split at ha
          · rename_i hh; have := q2 kd hkd _ hh; cases this
          · exact g2 a ha
          · cases ha
        · rcases g3 with ⟨rfl, rfl⟩ | ⟨j, u, rfl, ⟨v', hv'⟩, rfl⟩
          · exact .inl ⟨rfl, rfl⟩
          · exact .inr ⟨j + 1, u, by congr 2; omega, ⟨v', by simpa using hv'⟩, rfl⟩
      · cases h
    · cases h
theorem KvsAt.push {agg : Bool} {key : List D} {x : D} {e : MapEntry} (hk : RepKey M agg key e.key) (hv : RepD M x e.val) : ∀ {kvs : List (List D × D)} {es : List MapEntry}, KvsAt M agg kvs es → KvsAt M agg (kvs ++ [(key, x)]) (es ++ [e])
  | [], [], _ => ⟨hk, hv, trivial⟩
  | [], _ :: _, h => h.elim
  | _ :: _, [], h => h.elim
  | (_, _) :: r, _ :: es, ⟨h1, h2, h3⟩ => ⟨h1, h2, KvsAt.push hk hv h3⟩
theorem KvsAt.modify {agg : Bool} {key : List D} {x : D} {f : MapEntry → MapEntry} : ∀ {kvs : List (List D × D)} {es : List MapEntry} {j : Nat}, KvsAt M agg kvs es → (∀ e, es[j]? = some e → RepKey M agg key (f e).key ∧ RepD M x (f e).val) → KvsAt M agg (kvs.set j (key, x)) (es.modify j f)
  | [], [], j, _, _ => by cases j <;> trivial
  | [], _ :: _, _, h, _ => h.elim
  | _ :: _, [], _, h, _ => h.elim
  | (_, _) :: r, e :: es, 0, ⟨h1, h2, h3⟩, hf => ⟨(hf e rfl).1, (hf e rfl).2, h3⟩
  | (_, _) :: r, e :: es, j + 1, ⟨h1, h2, h3⟩, hf => ⟨h1, h2, KvsAt.modify h3 (fun e he => hf e (by simpa using he))⟩
theorem KvsAt.at {agg : Bool} : ∀ {kvs : List (List D × D)} {es : List MapEntry} {j : Nat} {key : List D} {v : D}, KvsAt M agg kvs es → kvs[j]? = some (key, v) → ∃ e, es[j]? = some e ∧ RepKey M agg key e.key
  | [], _, _, _, _, _, h => by simp at h
  | _ :: _, [], _, _, _, h, _ => h.elim
  | (_, _) :: r, e :: es, 0, _, _, ⟨h1, h2, h3⟩, h => by simp at h; obtain ⟨rfl, rfl⟩ := h; exact ⟨e, rfl, h1⟩
  | (_, _) :: r, e :: es, j + 1, _, _, ⟨h1, h2, h3⟩, h => by
    obtain ⟨e', h4, h5⟩ := KvsAt.at h3 (j := j) (by simpa using h)
    exact ⟨e', by simpa using h4, h5⟩
theorem run_stays (old new : Value) (w : World) : ∃ k w', (Instr.keyThatStays old new).run P w = .ok k w' ∧ (k = new ∨ k = old) ∧ (w' = w ∨ w' = w.drew) := by
  unfold Instr.keyThatStays
  split
  · exact ⟨new, w, rfl, .inl rfl, .inl rfl⟩
  · refine ⟨_, w.drew, by simp [Question.forced]; rfl, ?_, .inr rfl⟩
    split <;> simp
theorem ok_mput (hrel : Rel w0 F M ρ hp w) (hs' : Sub hr hp) {m k x v : A} {ws : Writes} {vm vk vx : Value} (hm : RepA M ρ m vm) (hk : RepA M ρ k vk) (hx : RepA M ρ x vx) {t kt e : TypeId} {agg : Bool} {ks : List BK} (hu : P.underlying t = some (.map kt e)) (hs : keyShape P kt = some (agg, ks))
    {kf : Bool} {cf : CallF} (h : aop kf cf nb hr (.mput ks agg m k x) = some (v, ws)) : OpOk P w0 F M ρ hp nb (do Instr.mapUpdate t vm vk vx; pure undef) w v ws := by
  have hkd : ∃ kd, P.underlying kt = some kd := by
    unfold keyShape at hs
    split at hs
    · exact ⟨_, by assumption⟩
    · exact ⟨_, by assumption⟩
    · exact ⟨_, by assumption⟩
    · cases hs
  obtain ⟨kd, hkd⟩ := hkd
  simp only [aop] at h
  split at h
  · rename_i id key d w1 hkey hd
    split at h
    · rename_i agg' kvs hid
      split at h
      · rename_i hag
        obtain ⟨rfl, hl⟩ := hag
        split at h
        · rename_i kvs' hput
          simp only [Option.some.injEq, Prod.mk.injEq] at h
          obtain ⟨rfl, rfl⟩ := h
          obtain ⟨M', j1, j2, j3⟩ := toD1_ok hrel hs' hx hd
          have hkr := (keyOf_rep hk hkey).mono j1
          have hid' := (hs'.apply w1).live hid (by simp)
          have hc := j3.ch id
          rw [hid'] at hc
          obtain ⟨l, b, es, ck, h1, h2, h3, h4⟩ := hc
          have hown : Owns ρ id (applyW hp w1 id) b := by rw [hid']; exact ⟨l, _, h1, h2, rfl⟩
          cases hm with
          | map _ l' b' k1 k2 =>
            rw [h1] at k1; cases k1; rw [h2] at k2; cases k2
            obtain ⟨res, g1, g2, g3⟩ := put_ok hs hkd hkr d w kvs kvs' es.toList 0 h4 hput
            have hfind : (Instr.findKey kt vk es.toList).run P w = .ok res w := by
              unfold Instr.findKey
              simp only [Sem.run_bind, run_underlying hkd, Result.andThen_ok]
              cases hf : Instr.findNow kd vk es.toList 0 with
              | none => exact g1
              | some a => rw [g2 a hf]; rfl
            have hck : (Instr.checkKey false 10000 kt vk).run P w = .ok () w := run_checkKey' hs hkr hl w false 9998
            have fin : ∀ (w' : World) (es' : Array MapEntry) (ck' : Nat), w'.heap = w.heap.setIfInBounds b (.map es' ck') → w'.os = w.os → w'.tape = w.tape → w'.output = w.output → KvsAt M' agg' kvs' es'.toList → Rel w0 F M' ρ (applyW hp (w1 ++ [(id, .map agg' kvs')])) w' := by
              intro w' es' ck' q1 q2 q3 q4 q5
              rw [applyW_append]
              obtain ⟨e1, e2⟩ := MapKept.heap_set h3 (o' := .map es' ck')
              refine j3.set id b _ hown q2 q3 q4 (by rw [q1]; simp) (fun k o hk e => by rw [q1, e2 k hk]; exact e) ⟨l, b, es', ck', h1, h2, by rw [q1]; exact e1, q5⟩ (fun b' hb' => ?_)
              obtain ⟨l', a, i1, i2, rfl⟩ := hb'
              rw [h1] at i1; cases i1; rw [h2] at i2; cases i2; rfl
            rcases g3 with ⟨rfl, rfl⟩ | ⟨j, u, rfl, ⟨v', hv'⟩, rfl⟩
            · refine OpOk.write (M' := M') (v' := undef) (w' := { w with heap := w.heap.setIfInBounds b (.map (es.push { key := vk, val := vx, born := ck }) (ck + 1)) }) ?_ j1 (.un _) (fin _ _ _ rfl rfl rfl rfl ?_)
              · simp [Instr.mapUpdate, Sem.run_bind, run_underlying hu, MapKept.run_getObj_map h3, hck, hfind, MapKept.run_setObj_map _ h3]
              · rw [Array.toList_push]; exact h4.push hkr j2
            · obtain ⟨e0, he0, he1⟩ := KvsAt.at h4 hv'
              have he0' : es[j]? = some e0 := by simpa using he0
              obtain ⟨kk, w', s1, s2, s3⟩ := run_stays (P := P) e0.key vk w
              have hw'heap : w'.heap = w.heap := by rcases s3 with rfl | rfl <;> rfl
              have hb' : w'.heap[b]? = some (.map es ck) := by rw [hw'heap]; exact h3
              rw [Nat.zero_add] at hfind
              refine OpOk.write (M' := M') (v' := undef) (w' := { w' with heap := w'.heap.setIfInBounds b (.map (es.modify j fun e => { e with key := kk, val := vx }) ck) }) ?_ j1 (.un _) (fin _ (es.modify j fun e => { e with key := kk, val := vx }) ck (by rw [← hw'heap]) ?_ ?_ ?_ ?_)
              · simp [Instr.mapUpdate, Sem.run_bind, run_underlying hu, MapKept.run_getObj_map h3, hck, hfind, he0', s1, MapKept.run_setObj_map _ hb']
              · rcases s3 with rfl | rfl <;> rfl
              · rcases s3 with rfl | rfl <;> rfl
              · rcases s3 with rfl | rfl <;> rfl
              · rw [Array.toList_modify]
                refine h4.modify (fun e he => ⟨?_, j2⟩)
                rcases s2 with rfl | rfl
                · exact hkr
                · exact he1
        · cases h
      · cases h
    · cases h
  · cases h
end
end Go.Vm
end
section
/- One operation of the code: what the evaluator gives, the model gives. -/
set_option linter.unusedVariables false
set_option linter.unusedSimpArgs false
set_option linter.unnecessarySimpa false
namespace Go.Vm
/-- An operation without its hints. -/
def COp.strip {α : Type} : COp α → COp α
  | .alloc z _ => .alloc z []
  | .box s x _ => .box s x []
  | .bslice s n z _ ps => .bslice s n z false ps
  | .mkslice z s b _ n c => .mkslice z s b false n c
  | c => c
def COp.hinted {α : Type} : COp α → Bool
  | .alloc .. | .box .. | .bslice .. | .mkslice .. => true
  | _ => false
theorem strip_eq {α : Type} {c d : COp α} (h : c.strip = d) (hd : d.hinted = false) : c = d := by
  cases c <;> first
    | exact h
    | (subst h; cases hd)
theorem strip_alloc {α : Type} {c : COp α} {z : List A} (h : c.strip = .alloc z []) : ∃ rz, c = .alloc z rz := by
  cases c <;> simp [COp.strip] at h
  subst h; exact ⟨_, rfl⟩
theorem strip_box {α : Type} {c : COp α} {s : Nat} {x : α} (h : c.strip = .box s x []) : ∃ rz, c = .box s x rz := by
  cases c <;> simp [COp.strip] at h
  obtain ⟨rfl, rfl⟩ := h; exact ⟨_, rfl⟩
theorem strip_bslice {α : Type} {c : COp α} {s n : Nat} {z : List D} {ps : List (Nat × α)} (h : c.strip = .bslice s n z false ps) : ∃ f, c = .bslice s n z f ps := by
  cases c <;> simp [COp.strip] at h
  obtain ⟨rfl, rfl, rfl, rfl⟩ := h; exact ⟨_, rfl⟩
theorem strip_mkslice {α : Type} {c : COp α} {s b : Nat} {z : List D} {x y : α} (h : c.strip = .mkslice z s b false x y) : ∃ f, c = .mkslice z s b f x y := by
  cases c <;> simp [COp.strip] at h
  obtain ⟨rfl, rfl, rfl, rfl, rfl⟩ := h; exact ⟨_, rfl⟩
section
variable {P : Program} {w0 : World} {F M : Mem} {ρ : Rho} {hp hr : Heap} {w : World} {nb : Nat}
/-- What a function's call gives. -/
def CallOk (P : Program) (w0 : World) (F : Mem) (callf : CallF) : Prop := ∀ (g : FuncId) (args : List A) (hr : Heap) (nb : Nat) (v : A) (ws : Writes), callf g args hr nb = some (v, ws) →
  ∀ (hp : Heap) (M : Mem) (ρ : Rho) (w : World) (vals : List Value), Rel w0 F M ρ hp w → Sub hr hp → (∀ i, nb ≤ i → i < nb + 8 → ρ i = none) → RepAs M ρ args vals →
    ∃ fn, P.funcs[g]? = some fn ∧ (fn.name == "runtime.NumGoroutine") = false ∧ fn.body.isNone = false ∧ ∀ post : Value → World → Prop,
      (∀ M' ρ' v' w', MemLe M M' → RhoLe ρ ρ' → (∀ i l, ρ' i = some l → ρ i = some l ∨ (nb ≤ i ∧ i < nb + 8)) → RepA M' ρ' v v' → Rel w0 F M' ρ' (applyW hp ws) w' → post v' w') →
      Calls P g vals.toArray w (fun e w' => ∃ v', e = .returned v' ∧ post v' w')
def Goes (P : Program) (w0 : World) (F M : Mem) (ρ : Rho) (hp : Heap) (nb : Nat) (o : Oper) (a : Act) (w : World) (v : A) (ws : Writes) : Prop :=
  ∀ (next : Act → World → Prop) (Q : Exit → Act → World → Prop), (∀ M' ρ' v' w', MemLe M M' → RhoLe ρ ρ' → (∀ i l, ρ' i = some l → ρ i = some l ∨ (nb ≤ i ∧ i < nb + 8)) → RepA M' ρ' v v' → Rel w0 F M' ρ' (applyW hp ws) w' → next (a.put o.dst v') w') →
    o.wp P a w next Q
theorem Goes.of {o : Oper} {a : Act} {s : Sem Value} {v : A} {ws : Writes} (hex : execOp a.eval o = (do pure (Next.value (← s)))) (h : OpOk P w0 F M ρ hp nb s w v ws) : Goes P w0 F M ρ hp nb o a w v ws := by
  intro next Q hn
  obtain ⟨M', ρ', v', w', h1, h2, h3, h4, h5, h6⟩ := h
  unfold Oper.wp
  rw [hex]
  simp only [Sem.run_bind, h1, Result.andThen_ok, Sem.run_pure]
  exact hn M' ρ' v' w' h2 h3 h4 h5 h6
theorem Goes.ofU {o : Oper} {a : Act} {s : Sem Unit} {v : A} {ws : Writes} (hex : execOp a.eval o = (do s; pure Next.skip)) (h : OpOk P w0 F M ρ hp nb (do s; pure undef) w v ws) : Goes P w0 F M ρ hp nb o a w v ws := by
  intro next Q hn
  obtain ⟨M', ρ', v', w', h1, h2, h3, h4, h5, h6⟩ := h
  unfold Oper.wp
  rw [hex]
  simp only [Sem.run_bind] at h1 ⊢
  cases hs : s.run P w with
  | ok u w1 =>
    rw [hs] at h1
    simp only [Result.andThen_ok, Sem.run_pure] at h1 ⊢
    injection h1 with e1 e2
    subst e1 e2
    exact hn M' ρ' _ _ h2 h3 h4 h5 h6
  | halt x w1 => rw [hs] at h1; simp [Result.andThen] at h1
theorem parts_struct {sl : Nat → A} {a : Act} (hsl : ∀ k, RepA M ρ (sl k) (a.tmps.getD k undef)) {pl : List (Nat × Nat)} : ∀ {ps : List (Nat × Operand)} {l : List (Nat × Nat × COpd)}, mapOpt (fun p : Nat × Operand => match pl[p.1]?, compOpd p.2 with
        | some f, some x => some (f.1, f.2, x)
        | _, _ => none) ps = some l → PartsRep M ρ (fun i => pl[i]?) (l.map fun p => (p.1, p.2.1, val sl p.2.2)) (ps.map fun p => (p.1, a.eval p.2))
  | [], l, h => by simp [mapOpt] at h; subst h; exact .nil
  | p :: ps, l, h => by
    simp only [mapOpt] at h
    split at h
    · rename_i y ys h1 h2
      cases h
      split at h1
      · rename_i f x hf hx
        cases h1
        exact .cons f.1 f.2 p.1 _ _ _ _ hf (opd_rep hsl hx) (parts_struct hsl h2)
      · cases h1
    · cases h
theorem parts_array {sl : Nat → A} {a : Act} (hsl : ∀ k, RepA M ρ (sl k) (a.tmps.getD k undef)) {s : Nat} : ∀ {ps : List (Nat × Operand)} {l : List (Nat × Nat × COpd)}, mapOpt (fun p : Nat × Operand => (compOpd p.2).map fun x => (p.1 * s, s, x)) ps = some l →
    PartsRep M ρ (fun i => some (i * s, s)) (l.map fun p => (p.1, p.2.1, val sl p.2.2)) (ps.map fun p => (p.1, a.eval p.2))
  | [], l, h => by simp [mapOpt] at h; subst h; exact .nil
  | p :: ps, l, h => by
    simp only [mapOpt] at h
    split at h
    · rename_i y ys h1 h2
      cases h
      obtain ⟨x, hx, rfl⟩ := Option.map_eq_some_iff.1 h1
      exact .cons _ _ p.1 _ _ _ _ rfl (opd_rep hsl hx) (parts_array hsl h2)
    · cases h
theorem parts_slice {sl : Nat → A} {a : Act} (hsl : ∀ k, RepA M ρ (sl k) (a.tmps.getD k undef)) {s : Nat} : ∀ {ps : List (Nat × Operand)} {l : List (Nat × COpd)}, mapOpt (fun p : Nat × Operand => (compOpd p.2).map fun x => (p.1, x)) ps = some l →
    PartsRep M ρ (fun i => some (i * s, s)) ((l.map fun p => (p.1, val sl p.2)).map fun p => (p.1 * s, s, p.2)) (ps.map fun p => (p.1, a.eval p.2))
  | [], l, h => by simp [mapOpt] at h; subst h; exact .nil
  | p :: ps, l, h => by
    simp only [mapOpt] at h
    split at h
    · rename_i y ys h1 h2
      cases h
      obtain ⟨x, hx, rfl⟩ := Option.map_eq_some_iff.1 h1
      exact .cons _ _ p.1 _ _ _ _ rfl (opd_rep hsl hx) (parts_slice hsl h2)
    · cases h
theorem opt_rep {sl : Nat → A} {a : Act} (hsl : ∀ k, RepA M ρ (sl k) (a.tmps.getD k undef)) {x : Option Operand} {c : Option COpd} (h : optOpd x = some c) : RepO M ρ (c.map (val sl)) (x.map a.eval) ∧ (c.isSome = x.isSome) := by
  cases x with
  | none => simp [optOpd] at h; subst h; exact ⟨trivial, rfl⟩
  | some x =>
    simp only [optOpd, Option.map_eq_some_iff] at h
    obtain ⟨y, h1, rfl⟩ := h
    exact ⟨opd_rep hsl h1, rfl⟩
theorem sound_builtin {sl : Nat → A} {a : Act} (hsl : ∀ k, RepA M ρ (sl k) (a.tmps.getD k undef)) (hrel : Rel w0 F M ρ hp w) (hs : Sub hr hp) (hfr : ∀ i, nb ≤ i → i < nb + 8 → ρ i = none) {o : Oper} {c : Call} (ho : o.op = .call c) {b : Builtin} (hb : c.callee = .builtin b) {args : List COpd}
    (hargs : mapOpt compOpd c.args.toList = some args) {co : COp COpd} (hco : compBuiltin P b c.argTypes args = some co.strip) {kf : Bool} {cf : CallF} {v : A} {ws : Writes} (h : aop kf cf nb hr (co.mapO (val sl)) = some (v, ws)) : Goes P w0 F M ρ hp nb o a w v ws := by
  have hreps := opds_rep hsl hargs
  have hlist : ∀ l : List Value, c.args.toList.map a.eval = l → c.args.map a.eval = l.toArray := fun l hl => by apply Array.ext'; simp [hl]
  have hex : ∀ s : Sem Value, builtin b c.argTypes o.type (c.args.map fun | .const _ => true | _ => false) (c.args.map a.eval) = (do pure (Next.value (← s))) → execOp a.eval o = (do pure (Next.value (← s))) := fun s hs => by
    simp only [execOp, ho, resolve, hb, invoke]
    exact hs
  unfold compBuiltin at hco
  split at hco
  · -- len
    rename_i x
    obtain ⟨v0, us, e0, hv0, hus⟩ := hreps.cases_cons
    have hu0 : us = [] := List.eq_nil_of_length_eq_zero (by have := hus.1; simpa using this.symm)
    subst hu0
    split at hco
    · rename_i hu
      have := strip_eq (Option.some.inj hco).symm rfl
      subst this
      obtain ⟨t, ht, hu⟩ := Option.bind_eq_some_iff.1 hu
      exact .of (hex _ (by rw [hlist _ e0]; rfl)) (ok_len hrel hs hv0 o.type ht hu (.inl ⟨rfl, rfl⟩) h)
    · rename_i hu
      have := strip_eq (Option.some.inj hco).symm rfl
      subst this
      obtain ⟨t, ht, hu⟩ := Option.bind_eq_some_iff.1 hu
      exact .of (hex _ (by rw [hlist _ e0]; rfl)) (ok_len hrel hs hv0 o.type ht hu (.inr (.inl ⟨rfl, _, rfl⟩)) h)
    · rename_i hu
      have := strip_eq (Option.some.inj hco).symm rfl
      subst this
      obtain ⟨t, ht, hu⟩ := Option.bind_eq_some_iff.1 hu
      exact .of (hex _ (by rw [hlist _ e0]; rfl)) (ok_len hrel hs hv0 o.type ht hu (.inr (.inr ⟨rfl, _, _, rfl⟩)) h)
    · cases hco
  · -- append
    rename_i x y
    obtain ⟨v0, us, e0, hv0, hus⟩ := hreps.cases_cons
    obtain ⟨v1, us', e1, hv1, hus'⟩ := hus.cases_cons
    have hu0 : us' = [] := List.eq_nil_of_length_eq_zero (by have := hus'.1; simpa using this.symm)
    subst hu0 e1
    split at hco
    · rename_i t0 t1 hts
      have hts' : c.argTypes = #[t0, t1] := by apply Array.ext'; simpa using hts
      have key : ∀ e, P.underlying t0 = some (.slice e) → ((∃ e', P.underlying t1 = some (.slice e')) ∨ P.underlying t1 = some .string) → (match P.info? e, zeroD P e with
          | some i, some z => if z.length = i.size then some (COp.app i.size i.bytes x y) else none
          | _, _ => none) = some co.strip → Goes P w0 F M ρ hp nb o a w v ws := by
        intro e h0 h1 hq
        split at hq
        · rename_i i z hi hz
          split at hq
          · rename_i hzl
            have := strip_eq (Option.some.inj hq).symm rfl
            subst this
            refine .of (hex _ ?_) (ok_app hrel hs hfr hv0 hv1 o.type h0 h1 hi hz hzl h)
            rw [hlist _ e0, hts']; rfl
          · cases hq
        · cases hq
      split at hco
      · rename_i h0 h1; exact key _ h0 (.inl ⟨_, h1⟩) hco
      · rename_i h0 h1; exact key _ h0 (.inr h1) hco
      · cases hco
    · cases hco
  · -- copy
    rename_i x y
    obtain ⟨v0, us, e0, hv0, hus⟩ := hreps.cases_cons
    obtain ⟨v1, us', e1, hv1, hus'⟩ := hus.cases_cons
    have hu0 : us' = [] := List.eq_nil_of_length_eq_zero (by have := hus'.1; simpa using this.symm)
    subst hu0 e1
    split at hco
    · rename_i e hu
      obtain ⟨s, hsz, hc⟩ := Option.map_eq_some_iff.1 hco
      have := strip_eq hc.symm rfl
      subst this
      obtain ⟨t, ht, hu⟩ := Option.bind_eq_some_iff.1 hu
      exact .of (hex _ (by rw [hlist _ e0]; rfl)) (ok_copy hrel hs hv0 hv1 o.type ht hu hsz h)
    · cases hco
  · -- clear
    rename_i x
    obtain ⟨v0, us, e0, hv0, hus⟩ := hreps.cases_cons
    have hu0 : us = [] := List.eq_nil_of_length_eq_zero (by have := hus.1; simpa using this.symm)
    subst hu0
    split at hco
    · rename_i e hu
      split at hco
      · rename_i s z hsz hz
        have := strip_eq (Option.some.inj hco).symm rfl
        subst this
        obtain ⟨t, ht, hu⟩ := Option.bind_eq_some_iff.1 hu
        exact .of (hex _ (by rw [hlist _ e0]; rfl)) (ok_clear hrel hs hv0 o.type ht hu hz h)
      · cases hco
    · cases hco
  · -- min
    rename_i x ys
    have := strip_eq (Option.some.inj hco).symm rfl
    subst this
    obtain ⟨v0, us, e0, hv0, hus⟩ := hreps.cases_cons
    exact .of (hex _ (by rw [hlist _ e0]; rfl)) (ok_min hrel hv0 hus c.argTypes o.type h)
  · rename_i x ys
    have := strip_eq (Option.some.inj hco).symm rfl
    subst this
    obtain ⟨v0, us, e0, hv0, hus⟩ := hreps.cases_cons
    exact .of (hex _ (by rw [hlist _ e0]; rfl)) (ok_max hrel hv0 hus c.argTypes o.type h)
  · cases hco
theorem isU8_eq {e : TypeId} (h : isU8 P e = true) : P.underlying e = some (.int .u8) := by
  unfold isU8 at h
  split at h
  · assumption
  · cases h
theorem op_sound {sl : Nat → A} {a : Act} (hsl : ∀ k, RepA M ρ (sl k) (a.tmps.getD k undef)) (hrel : Rel w0 F M ρ hp w) (hs : Sub hr hp) (hfr : ∀ i, nb ≤ i → i < nb + 8 → ρ i = none) {cf : CallF} (hcf : CallOk P w0 F cf) {o : Oper} {co : COp COpd} (hco : compOp P o.op = some co.strip) {kf : Bool}
    {v : A} {ws : Writes} (h : aop kf cf nb hr (co.mapO (val sl)) = some (v, ws)) : Goes P w0 F M ρ hp nb o a w v ws := by
  have hre : ∀ {x : Operand} {c : COpd}, compOpd x = some c → RepA M ρ (val sl c) (a.eval x) := fun {x c} hx => opd_rep hsl hx
  generalize ho : o.op = op at hco
  cases op <;> simp only [compOp] at hco <;> try (cases hco; done)
  case move x =>
    obtain ⟨c, hc, hq⟩ := Option.map_eq_some_iff.1 hco
    have := strip_eq hq.symm rfl; subst this
    simp only [COp.mapO, aop, Option.some.injEq, Prod.mk.injEq] at h
    obtain ⟨rfl, rfl⟩ := h
    exact .of (s := pure (a.eval x)) (by simp [execOp, ho]) (OpOk.pure hrel rfl (hre hc))
  case assign x =>
    obtain ⟨c, hc, hq⟩ := Option.map_eq_some_iff.1 hco
    have := strip_eq hq.symm rfl; subst this
    simp only [COp.mapO, aop, Option.some.injEq, Prod.mk.injEq] at h
    obtain ⟨rfl, rfl⟩ := h
    exact .of (s := pure (a.eval x)) (by simp [execOp, ho]) (OpOk.pure hrel rfl (hre hc))
  case pick c x y =>
    split at hco
    · rename_i c' x' y' hc hx hy
      have := strip_eq (Option.some.inj hco).symm rfl; subst this
      exact .of (by simp [execOp, ho]) (ok_pick hrel (hre hc) (hre hx) (hre hy) h)
    · cases hco
  case alloc e =>
    obtain ⟨z, hz, hq⟩ := Option.map_eq_some_iff.1 hco
    obtain ⟨rz, rfl⟩ := strip_alloc hq.symm
    exact .of (by simp only [execOp, ho]) (ok_alloc hrel hfr hz h)
  case box e x =>
    split at hco
    · rename_i s x' hz hx
      obtain ⟨rz, rfl⟩ := strip_box (Option.some.inj hco).symm
      exact .of (by simp only [execOp, ho]) (ok_box (t := e) hrel hfr (hre hx) h)
    · cases hco
  case build t ps =>
    split at hco
    · rename_i z fs hz hu
      split at hco
      · rename_i pl hpl
        obtain ⟨l, hl, hq⟩ := Option.map_eq_some_iff.1 hco
        have := strip_eq hq.symm rfl; subst this
        exact .of (by simp only [execOp, ho]) (ok_build hrel hz (vs := ps.map fun p => (p.1, a.eval p.2)) (by rw [Array.toList_map]; exact parts_struct hsl hl) (.inl ⟨fs, pl, hu, hpl, rfl⟩) h)
      · cases hco
    · rename_i z n e hz hu
      split at hco
      · rename_i s hsz
        obtain ⟨l, hl, hq⟩ := Option.map_eq_some_iff.1 hco
        have := strip_eq hq.symm rfl; subst this
        exact .of (by simp only [execOp, ho]) (ok_build hrel hz (vs := ps.map fun p => (p.1, a.eval p.2)) (by rw [Array.toList_map]; exact parts_array hsl hl) (.inr ⟨n, e, s, hu, hsz, rfl⟩) h)
      · cases hco
    · cases hco
  case buildSlice t len ps =>
    split at hco
    · rename_i e hu
      split at hco
      · rename_i s z hsz hz
        split at hco
        · rename_i hle
          obtain ⟨l, hl, hq⟩ := Option.map_eq_some_iff.1 hco
          obtain ⟨f, rfl⟩ := strip_bslice hq.symm
          exact .of (by simp only [execOp, ho]) (ok_bslice hrel hs hfr (vs := ps.map fun p => (p.1, a.eval p.2)) hu hsz hz hle (by rw [Array.toList_map]; exact parts_slice hsl hl) h)
        · cases hco
      · cases hco
    · cases hco
  case load t x =>
    split at hco
    · rename_i ag s x' ha hsz hx
      have := strip_eq (Option.some.inj hco).symm rfl; subst this
      exact .of (by simp only [execOp, ho]) (ok_load hrel hs (hre hx) ha hsz h)
    · cases hco
  case store t x y =>
    split at hco
    · rename_i s x' y' hsz hx hy
      have := strip_eq (Option.some.inj hco).symm rfl; subst this
      exact .ofU (by simp only [execOp, ho]) (ok_store hrel hs (hre hx) (hre hy) hsz h)
    · cases hco
  case nilCheck x =>
    obtain ⟨c, hc, hq⟩ := Option.map_eq_some_iff.1 hco
    have := strip_eq hq.symm rfl; subst this
    obtain ⟨rfl, rfl, hv⟩ := ok_nilck hrel (hre hc) h
    refine .of (s := pure (a.eval x)) ?_ (OpOk.pure hrel rfl (hre hc))
    rcases hv with ⟨p, hp'⟩ | ⟨f, cs, hp'⟩ <;> simp [execOp, ho, hp']
  case binOp op t x y b =>
    split at hco
    · rename_i x' y' hx hy
      split at hco
      · rename_i fs hu
        split at hco
        · rename_i ks hk
          have := strip_eq (Option.some.inj hco).symm rfl; subst this
          exact .of (by simp only [execOp, ho]) (ok_eqs hrel (hre hx) (hre hy) hk (.inl ⟨rfl, rfl⟩) x y h)
        · rename_i ks hk
          have := strip_eq (Option.some.inj hco).symm rfl; subst this
          exact .of (by simp only [execOp, ho]) (ok_eqs hrel (hre hx) (hre hy) hk (.inr ⟨rfl, rfl⟩) x y h)
        · cases hco
      · rename_i hu
        have := strip_eq (Option.some.inj hco).symm rfl; subst this
        exact .of (by simp only [execOp, ho]) (ok_bin hrel (hre hx) (hre hy) hu trivial x y h)
      · rename_i hu
        have := strip_eq (Option.some.inj hco).symm rfl; subst this
        exact .of (by simp only [execOp, ho]) (ok_bin hrel (hre hx) (hre hy) hu trivial x y h)
      · rename_i hu
        have := strip_eq (Option.some.inj hco).symm rfl; subst this
        exact .of (by simp only [execOp, ho]) (ok_bin hrel (hre hx) (hre hy) hu rfl x y h)
      · rename_i hu
        have := strip_eq (Option.some.inj hco).symm rfl; subst this
        exact .of (by simp only [execOp, ho]) (ok_bin (bk := .ptr) hrel (hre hx) (hre hy) hu ⟨_, rfl⟩ x y h)
      · rename_i hu
        have := strip_eq (Option.some.inj hco).symm rfl; subst this
        exact .of (by simp only [execOp, ho]) (ok_bin (bk := .sl) hrel (hre hx) (hre hy) hu ⟨_, rfl⟩ x y h)
      · cases hco
    · cases hco
  case unOp op t x =>
    obtain ⟨c, hc, hq⟩ := Option.map_eq_some_iff.1 hco
    have := strip_eq hq.symm rfl; subst this
    exact .of (by simp only [execOp, ho]) (ok_un hrel (hre hc) h)
  case convert s d x =>
    split at hco
    · rename_i hs1 hd hx
      have := strip_eq (Option.some.inj hco).symm rfl; subst this
      exact .of (by simp only [execOp, ho]) (ok_conv hrel (hre hx) hs1 hd h)
    · rename_i x' hs1 hd hx
      have := strip_eq (Option.some.inj hco).symm rfl; subst this
      exact .of (by simp only [execOp, ho]) (ok_same hrel (hre hx) hs1 hd h)
    · rename_i hs1 hd hx
      split at hco
      · rename_i hc
        simp only [Bool.and_eq_true, beq_iff_eq] at hc
        obtain ⟨rfl, hm⟩ := hc
        have := strip_eq (Option.some.inj hco).symm rfl; subst this
        rw [hs1] at hd; cases hd
        exact .of (by simp only [execOp, ho]) (ok_strish (e0 := 0) hrel hs (hre hx) hs1 (isU8_eq hm) h)
      · cases hco
    · rename_i hs1 hd hx
      split at hco
      · rename_i hm
        have := strip_eq (Option.some.inj hco).symm rfl; subst this
        exact .of (by simp only [execOp, ho]) (ok_b2s hrel hs (hre hx) hs1 hd (isU8_eq hm) h)
      · cases hco
    · cases hco
  case sliceToArrayPointer t x =>
    split at hco
    · rename_i n e x' hu hx
      have := strip_eq (Option.some.inj hco).symm rfl; subst this
      exact .of (by simp only [execOp, ho]) (ok_s2a hrel (hre hx) hu h)
    · cases hco
  case makeFunc fn first caps =>
    cases fn <;> simp only [compOp] at hco <;> try (cases hco; done)
    rename_i f
    split at hco
    · rename_i hf
      obtain ⟨cs, hc, hq⟩ := Option.map_eq_some_iff.1 hco
      have := strip_eq hq.symm rfl; subst this
      have hfirst : first.map a.eval = #[] := by
        have : first = #[] := by simpa using hf
        rw [this]; simp
      have := ok_mkfn (P := P) (vs := caps.map a.eval) hrel (by rw [Array.toList_map]; exact opds_rep hsl hc) h
      rw [← hfirst] at this
      exact .of (by simp only [execOp, ho]) this
    · cases hco
  case makeMap t r =>
    cases r with
    | some => simp only [compOp] at hco; cases hco
    | none =>
      simp only [compOp] at hco
      split at hco
      · obtain ⟨s, hc, hq⟩ := Option.map_eq_some_iff.1 hco
        have := strip_eq hq.symm rfl; subst this
        exact .of (by simp only [execOp, ho]; rfl) (ok_mkmap hrel hfr h)
      · cases hco
  case makeSlice t n c =>
    split at hco
    · rename_i e n' c' hu hn hc
      split at hco
      · rename_i i z hi hz
        obtain ⟨f, rfl⟩ := strip_mkslice (Option.some.inj hco).symm
        exact .of (by simp only [execOp, ho]) (ok_mkslice hrel hfr (hre hn) (hre hc) hu hi hz h)
      · cases hco
    · cases hco
  case slice t x lo hi mx =>
    split at hco
    · rename_i x' lo' hi' mx' hx hlo hhi hmx
      obtain ⟨rlo, _⟩ := opt_rep hsl hlo
      obtain ⟨rhi, _⟩ := opt_rep hsl hhi
      obtain ⟨rmx, emx⟩ := opt_rep hsl hmx
      split at hco
      · rename_i hu
        split at hco
        · rename_i hn
          have hmn : mx' = none := by simpa using hn
          subst hmn
          have hmx0 : mx = none := by cases mx <;> simp at emx ⊢
          subst hmx0
          have := strip_eq (Option.some.inj hco).symm rfl; subst this
          exact .of (by simp only [execOp, ho]; rfl) (ok_slStr hrel (hre hx) rlo rhi hu h)
        · cases hco
      · rename_i e hu
        split at hco
        · rename_i hcode
          obtain ⟨s, hsz, hq⟩ := Option.map_eq_some_iff.1 hco
          have := strip_eq hq.symm rfl; subst this
          exact .of (by simp only [execOp, ho]) (ok_slSl hrel hs (hre hx) rlo rhi rmx (by
            intro hm
            simp only [Option.isSome_map] at hm ⊢
            cases hh : hi'.isSome with
            | true => rfl
            | false => rw [hm, hh] at hcode; simp at hcode) hu hsz h)
        · cases hco
      · rename_i n e hu
        split at hco
        · rename_i hn
          have hmn : mx' = none := by simpa using hn
          subst hmn
          have hmx0 : mx = none := by cases mx <;> simp at emx ⊢
          subst hmx0
          obtain ⟨s, hsz, hq⟩ := Option.map_eq_some_iff.1 hco
          have := strip_eq hq.symm rfl; subst this
          exact .of (by simp only [execOp, ho]; rfl) (ok_slArr hrel hs (hre hx) rlo rhi (.inl hu) hsz h)
        · cases hco
      · rename_i t' hu
        split at hco
        · rename_i n e hu'
          split at hco
          · rename_i hn
            have hmn : mx' = none := by simpa using hn
            subst hmn
            have hmx0 : mx = none := by cases mx <;> simp at emx ⊢
            subst hmx0
            obtain ⟨s, hsz, hq⟩ := Option.map_eq_some_iff.1 hco
            have := strip_eq hq.symm rfl; subst this
            exact .of (by simp only [execOp, ho]; rfl) (ok_slArr hrel hs (hre hx) rlo rhi (.inr ⟨_, hu, hu'⟩) hsz h)
          · cases hco
        · cases hco
      · cases hco
    · cases hco
  case fieldAddr t x i =>
    split at hco
    · rename_i fs x' hu hx
      split at hco
      · rename_i f hf
        split at hco
        · rename_i n hn
          have := strip_eq (Option.some.inj hco).symm rfl; subst this
          exact .of (by simp only [execOp, ho]) (ok_fa hrel (hre hx) hu hf hn h)
        · cases hco
      · cases hco
    · cases hco
  case field t x i =>
    split at hco
    · rename_i fs x' hu hx
      split at hco
      · rename_i f hf
        split at hco
        · rename_i s ag hsz ha
          have := strip_eq (Option.some.inj hco).symm rfl; subst this
          exact .of (by simp only [execOp, ho]) (ok_fld hrel (hre hx) hu hf ha hsz h)
        · cases hco
      · cases hco
    · cases hco
  case indexAddr t x i =>
    split at hco
    · rename_i x' i' hx hi
      split at hco
      · rename_i e hu
        obtain ⟨s, hsz, hq⟩ := Option.map_eq_some_iff.1 hco
        have := strip_eq hq.symm rfl; subst this
        exact .of (by simp only [execOp, ho]) (ok_ia hrel hs (hre hx) (hre hi) hu hsz h)
      · rename_i n e hu
        obtain ⟨s, hsz, hq⟩ := Option.map_eq_some_iff.1 hco
        have := strip_eq hq.symm rfl; subst this
        exact .of (by simp only [execOp, ho]) (ok_iaArr hrel (hre hx) (hre hi) hu hsz h)
      · cases hco
    · cases hco
  case index t x i =>
    split at hco
    · rename_i x' i' hx hi
      split at hco
      · rename_i hu
        have := strip_eq (Option.some.inj hco).symm rfl; subst this
        exact .of (by simp only [execOp, ho]) (ok_idxStr hrel (hre hx) (hre hi) hu h)
      · rename_i n e hu
        split at hco
        · rename_i s ag hsz ha
          have := strip_eq (Option.some.inj hco).symm rfl; subst this
          exact .of (by simp only [execOp, ho]) (ok_idxArr hrel (hre hx) (hre hi) hu ha hsz h)
        · cases hco
      · cases hco
    · cases hco
  case lookup t m k ok =>
    split at hco
    · rename_i kt e m' k' hu hm hk
      split at hco
      · rename_i s z hks hz
        have := strip_eq (Option.some.inj hco).symm rfl; subst this
        exact .of (by simp only [execOp, ho]) (ok_look hrel hs (hre hm) (hre hk) hu hks hz h)
      · cases hco
    · cases hco
  case mapUpdate t m k x =>
    split at hco
    · rename_i kt e m' k' x' hu hm hk hx
      obtain ⟨s, hks, hq⟩ := Option.map_eq_some_iff.1 hco
      have := strip_eq hq.symm rfl; subst this
      exact .ofU (by simp only [execOp, ho]) (ok_mput hrel hs (hre hm) (hre hk) (hre hx) hu hks h)
    · cases hco
  case insert t m k x =>
    split at hco
    · rename_i kt e m' k' x' hu hm hk hx
      obtain ⟨s, hks, hq⟩ := Option.map_eq_some_iff.1 hco
      have := strip_eq hq.symm rfl; subst this
      exact .ofU (by simp only [execOp, ho]) (ok_mput hrel hs (hre hm) (hre hk) (hre hx) hu hks h)
    · cases hco
  case extract x i =>
    obtain ⟨c, hc, hq⟩ := Option.map_eq_some_iff.1 hco
    have := strip_eq hq.symm rfl; subst this
    exact .of (by simp only [execOp, ho]) (ok_ext hrel (hre hc) h)
  case call c =>
    split at hco
    · rename_i args hargs
      split at hco
      · rename_i b hb
        exact sound_builtin hsl hrel hs hfr ho hb hargs hco h
      · rename_i f hf
        obtain ⟨fc, hfc, hq⟩ := Option.map_eq_some_iff.1 hco
        have := strip_eq hq.symm rfl; subst this
        have hfv := hre hfc
        simp only [COp.mapO, aop] at h
        generalize val sl fc = fa at hfv h
        split at h
        · rename_i g cap
          have hargs' := opds_rep hsl hargs
          generalize hvf : a.eval f = vf at hfv
          cases hfv with
          | fn _ _ cvs hl hh =>
            have hcap : RepAs M ρ cap cvs.toList := ⟨by simpa using hl, fun i x v p q => hh i x v p (by simpa using q)⟩
            obtain ⟨fn, h1, h2, h3, h4⟩ := hcf g _ hr nb v ws h hp M ρ w _ hrel hs hfr (hargs'.append hcap)
            intro next Q hn
            have hcall := h4 (fun v' w' => next (a.put o.dst v') w') hn
            have harr : (c.args.map a.eval ++ cvs) = (c.args.toList.map a.eval ++ cvs.toList).toArray := by
              apply Array.ext'; simp
            have hex : (execOp a.eval o).run P w = .ok (.enter g (c.args.map a.eval ++ cvs)) w := by
              have h2' : ¬ fn.name = "runtime.NumGoroutine" := by simpa using h2
              have h3' : ¬ fn.body = none := fun e => by rw [e] at h3; cases h3
              simp [execOp, ho, resolve, hf, hvf, Deferred.ofValue, invoke, callFunc, h1, h2', h3']
            unfold Oper.wp
            rw [hex, Oper.upon_enter, harr]
            exact Calls.mono hcall (fun e w' he => by
              obtain ⟨v', rfl, hp'⟩ := he
              exact hp')
        · cases h
      · cases hco
    · cases hco
end
end Go.Vm
end
