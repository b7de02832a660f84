/- A part of the proof of BacklogPlaysSaid: VmEval VmStepE VmWp. -/
import Derived.Test.YtnihjdfbiddggaaKV5
section
/- Evaluation by rewriting: states as lists, what is left to do as a constant, so that nothing is looked into before its time. -/
set_option linter.unusedVariables false
set_option linter.unusedSimpArgs false
set_option linter.unnecessarySimpa false
namespace Go.Vm
universe u
/-! ### States as lists -/
def gS : List (Nat × A) → Nat → A
  | [], _ => .un
  | (j, v) :: r, k => if j = k then v else gS r k
def gH : List (Nat × Chunk) → Nat → Chunk
  | [], _ => .dead
  | (j, c) :: r, k => if j = k then c else gH r k
theorem gS_cons (j : Nat) (v : A) (r : List (Nat × A)) (k : Nat) : gS ((j, v) :: r) k = if j = k then v else gS r k := rfl
theorem gS_nil (k : Nat) : gS [] k = .un := rfl
theorem gH_cons (j : Nat) (v : Chunk) (r : List (Nat × Chunk)) (k : Nat) : gH ((j, v) :: r) k = if j = k then v else gH r k := rfl
theorem gH_nil (k : Nat) : gH [] k = .dead := rfl
theorem upd_gS (L : List (Nat × A)) (k : Nat) (v : A) : upd (gS L) k v = gS ((k, v) :: L) := by
  funext j; simp only [upd, gS]; by_cases h : j = k
  · subst h; simp
  · simp [h, Ne.symm h]
theorem upd_gH (L : List (Nat × Chunk)) (k : Nat) (c : Chunk) : upd (gH L) k c = gH ((k, c) :: L) := by
  funext j; simp only [upd, gH]; by_cases h : j = k
  · subst h; simp
  · simp [h, Ne.symm h]
theorem applyW_nil (hp : Heap) : applyW hp [] = hp := rfl
theorem applyW_cons (L : List (Nat × Chunk)) (k : Nat) (c : Chunk) (r : Writes) : applyW (gH L) ((k, c) :: r) = applyW (gH ((k, c) :: L)) r := by
  show applyW (upd (gH L) k c) r = _
  rw [upd_gH]
def setL : Option Nat → A → List (Nat × A) → List (Nat × A)
  | some k, v, L => (k, v) :: L
  | none, _, L => L
theorem setL_some (k : Nat) (v : A) (L : List (Nat × A)) : setL (some k) v L = (k, v) :: L := rfl
theorem setL_none (v : A) (L : List (Nat × A)) : setL none v L = L := rfl
theorem setDst_gS (L : List (Nat × A)) (d : Option Nat) (v : A) : setDst (gS L) d v = gS (setL d v L) := by
  cases d with
  | none => rfl
  | some k => exact upd_gS L k v
/-- Slots that are kept. -/
def mL (L : List (Nat × A)) : List Nat → List (Nat × A)
  | [] => []
  | k :: ks => (k, gS L k) :: mL L ks
theorem mL_nil (L : List (Nat × A)) : mL L [] = [] := rfl
theorem mL_cons (L : List (Nat × A)) (k : Nat) (ks : List Nat) : mL L (k :: ks) = (k, gS L k) :: mL L ks := rfl
theorem mask_gS (L : List (Nat × A)) : ∀ ks : List Nat, mask ks (gS L) = gS (mL L ks)
  | [] => rfl
  | k :: ks => by
    have h := mask_gS L ks
    unfold mask at h ⊢
    rw [List.foldr_cons, h, upd_gS]
    rfl
/-! ### What is looked at in time -/
/-- What another argument hangs on is left alone by simp. -/
class Dep {α : Sort u} (a : α) : Type where
instance {α : Sort u} (a : α) : Dep a := {}
def ob {α β : Type} (x : Option α) (k : α → Option β) [Dep k] : Option β := match x with
  | some a => k a
  | none => none
theorem ob_some {α β : Type} (a : α) (k : α → Option β) : ob (some a) k = k a := rfl
theorem ob_none {α β : Type} (k : α → Option β) : ob none k = none := rfl
def oc {β : Type} (c : Chunk) (k : Chunk → Option β) [Dep k] : Option β := k c
theorem oc_box {β : Type} (cs : List A) (k : Chunk → Option β) : oc (.box cs) k = k (.box cs) := rfl
theorem oc_row {β : Type} (sz : Nat) (f : Bool) (xs : List (List D)) (k : Chunk → Option β) : oc (.row sz f xs) k = k (.row sz f xs) := rfl
theorem oc_imm {β : Type} (sz : Nat) (f : Bool) (xs : List (List D)) (k : Chunk → Option β) : oc (.imm sz f xs) k = k (.imm sz f xs) := rfl
theorem oc_map {β : Type} (a : Bool) (xs : List (List D × D)) (k : Chunk → Option β) : oc (.map a xs) k = k (.map a xs) := rfl
def ifs {β : Type} (c : Prop) [Decidable c] (x : Option β) [Dep x] : Option β := if c then x else none
theorem ifs_pos {β : Type} {c : Prop} [Decidable c] {x : Option β} (h : c) : ifs c x = x := if_pos h
theorem ifs_true {β : Type} {x : Option β} : ifs True x = x := if_pos trivial
section
variable (kf : Bool) (cf : CallF) (nb : Nat) (hp : Heap)
/-! ### Operations -/
theorem o_mv (x : A) : aop kf cf nb hp (.mv x) = some (x, []) := rfl
theorem o_same (s : ByteArray) : aop kf cf nb hp (.same (.d (.str s))) = some (.d (.str s), []) := rfl
theorem o_pick (t : Bool) (a b : A) : aop kf cf nb hp (.pick (.d (.bool t)) a b) = some (if t then a else b, []) := rfl
theorem o_pickt (a b : A) : aop kf cf nb hp (.pick (.d (.bool true)) a b) = some (a, []) := rfl
theorem o_pickf (a b : A) : aop kf cf nb hp (.pick (.d (.bool false)) a b) = some (b, []) := rfl
theorem o_alloc (z : List A) : aop kf cf nb hp (.alloc z []) = some (.ptr nb 0, [(nb, .box z)]) := rfl
def allocK (nb : Nat) (p : List A × Writes) : Option (A × Writes) := some (.ptr nb 0, p.2 ++ [(nb, .box p.1)])
theorem allocK_eq (cs : List A) (ws : Writes) : allocK nb (cs, ws) = some (.ptr nb 0, ws ++ [(nb, .box cs)]) := rfl
theorem o_allocR (z : List A) (p : Nat × Nat) (rz : List (Nat × Nat)) : aop kf cf nb hp (.alloc z (p :: rz)) = ifs ((p :: rz).length ≤ 7) (ob (rowify (nb + 1) (p :: rz) z) (allocK nb)) := by
  show (if (p :: rz).length ≤ 7 then _ else none) = _
  unfold ifs
  split
  · cases rowify (nb + 1) (p :: rz) z <;> rfl
  · rfl
theorem rowify_nil (n : Nat) (cs : List A) : rowify n [] cs = some (cs, []) := rfl
def rowifyK (n : Nat) (sz : Nat) (p : List A × Writes) : Option (List A × Writes) := some (p.1, (n, .row sz true []) :: p.2)
theorem rowifyK_eq (n sz : Nat) (cs : List A) (ws : Writes) : rowifyK n sz (cs, ws) = some (cs, (n, .row sz true []) :: ws) := rfl
def rowifyC (n : Nat) (off sz : Nat) (r : List (Nat × Nat)) (cs : List A) : Option A → Option (List A × Writes)
  | some (.d (.sl .nil z [])) => ob (rowify (n + 1) r (cs.set off (.row n))) (rowifyK n sz)
  | some _ => rowify (n + 1) r cs
  | none => none
theorem rowify_cons (n off sz : Nat) (r : List (Nat × Nat)) (cs : List A) : rowify n ((off, sz) :: r) cs = rowifyC n off sz r cs cs[off]? := by
  simp only [rowify]
  generalize cs[off]? = o
  split
  · simp only [rowifyC]
    cases rowify (n + 1) r (cs.set off (.row n)) <;> rfl
  · rename_i x hno
    unfold rowifyC
    split
    · rename_i z e; cases e; exact absurd rfl (hno z)
    · rfl
    · rename_i e; cases e
  · rfl
theorem rowifyC_nil (n off sz z : Nat) (r : List (Nat × Nat)) (cs : List A) : rowifyC n off sz r cs (some (.d (.sl .nil z []))) = ob (rowify (n + 1) r (cs.set off (.row n))) (rowifyK n sz) := rfl
theorem rowifyC_row (n off sz i : Nat) (r : List (Nat × Nat)) (cs : List A) : rowifyC n off sz r cs (some (.row i)) = rowify (n + 1) r cs := rfl
theorem o_box (sz : Nat) (x : A) : aop kf cf nb hp (.box sz x []) = ob (cellsOf x) (fun xs => ifs (xs.length = sz) (some (.ptr nb 0, [(nb, .box xs)]))) := by
  simp only [aop]
  cases cellsOf x with
  | none => rfl
  | some xs => simp only [ob, ifs, rowify]; split <;> simp_all
def boxK (nb : Nat) (rz : List (Nat × Nat)) (sz : Nat) (xs : List A) : Option (A × Writes) := ifs (xs.length = sz ∧ rz.length ≤ 7) (ob (rowify (nb + 1) rz xs) (allocK nb))
theorem boxK_eq (rz : List (Nat × Nat)) (sz : Nat) (xs : List A) : boxK nb rz sz xs = ifs (xs.length = sz ∧ rz.length ≤ 7) (ob (rowify (nb + 1) rz xs) (allocK nb)) := rfl
theorem o_boxR (sz : Nat) (x : A) (p : Nat × Nat) (rz : List (Nat × Nat)) : aop kf cf nb hp (.box sz x (p :: rz)) = ob (cellsOf x) (boxK nb (p :: rz) sz) := by
  simp only [aop]
  cases cellsOf x with
  | none => rfl
  | some xs =>
    simp only [ob, boxK, ifs]
    split
    · cases rowify (nb + 1) (p :: rz) xs <;> rfl
    · rfl
theorem cellsOf_d (x : D) : cellsOf (.d x) = some [.d x] := rfl
theorem cellsOf_agg (cs : List A) : cellsOf (.agg cs) = some cs := rfl
theorem cellsOf_ptr (i o : Nat) : cellsOf (.ptr i o) = some [.ptr i o] := rfl
theorem cellsOf_row (i : Nat) : cellsOf (.row i) = some [.row i] := rfl
theorem cellsOf_sub (i a b : Nat) (w : Bool) : cellsOf (.sub i a b w) = some [.sub i a b w] := rfl
theorem cellsOf_bs (i a b c : Nat) : cellsOf (.bs i a b c) = some [.bs i a b c] := rfl
theorem cellsOf_ep (i a b : Nat) : cellsOf (.ep i a b) = some [.ep i a b] := rfl
theorem cellsOf_dp (cs : List D) : cellsOf (.dp cs) = some [.dp cs] := rfl
theorem cellsOf_fn (f : FuncId) (cs : List A) : cellsOf (.fn f cs) = some [.fn f cs] := rfl
theorem cellsOf_map (i : Nat) : cellsOf (.map i) = some [.map i] := rfl
theorem o_build (z : List A) (ps : List (Nat × Nat × A)) : aop kf cf nb hp (.build z ps) = ob (setParts z ps) (fun cs => some (.agg cs, [])) := by
  simp only [aop]
  cases setParts z ps <;> rfl
theorem setParts_nil (cs : List A) : setParts cs [] = some cs := rfl
theorem setParts_cons (cs : List A) (off sz : Nat) (v : A) (r : List (Nat × Nat × A)) : setParts cs ((off, sz, v) :: r) = ob (cellsOf v) (fun vs => ifs (vs.length = sz ∧ off + sz ≤ cs.length) (setParts (splice cs off vs) r)) := by
  simp only [setParts]
  cases cellsOf v with
  | none => rfl
  | some vs => simp only [ob, ifs]
/-- Cells in place of cells, one after the other. -/
def spl {α : Type} : List α → Nat → List α → List α
  | cs, 0, vs => vs ++ cs.drop vs.length
  | [], _ + 1, vs => vs
  | c :: cs, n + 1, vs => c :: spl cs n vs
theorem splice_spl {α : Type} (cs : List α) (off : Nat) (vs : List α) : splice cs off vs = spl cs off vs := by
  unfold splice
  induction cs generalizing off with
  | nil => cases off <;> simp [spl]
  | cons c cs ih =>
    cases off with
    | zero => simp [spl]
    | succ n =>
      simp only [spl, List.take_succ_cons, List.cons_append, ← ih]
      rw [show n + 1 + vs.length = (n + vs.length) + 1 by omega, List.drop_succ_cons]
theorem spl_zero {α : Type} (cs vs : List α) : spl cs 0 vs = vs ++ cs.drop vs.length := by cases cs <;> rfl
theorem spl_succ {α : Type} (c : α) (cs : List α) (n : Nat) (vs : List α) : spl (c :: cs) (n + 1) vs = c :: spl cs n vs := rfl
theorem setParts_one (cs : List A) (off sz : Nat) (v : A) (r : List (Nat × Nat × A)) : setParts cs ((off, sz, v) :: r) = ob (cellsOf v) (fun vs => ifs (vs.length = sz ∧ off + sz ≤ cs.length) (setParts (spl cs off vs) r)) := by
  rw [setParts_cons]
  cases cellsOf v with
  | none => rfl
  | some vs => simp only [ob, ifs, splice_spl]
def bslK (nb sz len : Nat) (full : Bool) (p : List D × Writes) : Option (A × Writes) := some (.row nb, p.2 ++ [(nb, .row sz full (chunks sz len p.1))])
theorem bslK_eq (sz len : Nat) (full : Bool) (ds : List D) (ws : Writes) : bslK nb sz len full (ds, ws) = some (.row nb, ws ++ [(nb, .row sz full (chunks sz len ds))]) := rfl
def bslC (kf : Bool) (hp : Heap) (nb sz len : Nat) (full : Bool) (cs : List A) : Option (A × Writes) := ob (toDs kf hp cs) (bslK nb sz len full)
theorem bslC_eq (sz len : Nat) (full : Bool) (cs : List A) : bslC kf hp nb sz len full cs = ob (toDs kf hp cs) (bslK nb sz len full) := rfl
theorem o_bslice (sz len : Nat) (z : List D) (full : Bool) (ps : List (Nat × A)) : aop kf cf nb hp (.bslice sz len z full ps) = ifs (z.length = len * sz) (ob (setParts (z.map A.d) (ps.map fun p => (p.1 * sz, sz, p.2))) (bslC kf hp nb sz len full)) := by
  simp only [aop, ifs]
  split
  · cases setParts (z.map A.d) (ps.map fun p => (p.1 * sz, sz, p.2)) with
    | none => rfl
    | some cs =>
      simp only [ob, bslC]
      cases toDs kf hp cs <;> rfl
  · rfl
theorem chunks_nil {α : Type} (sz : Nat) (l : List α) : chunks sz 0 l = [] := rfl
theorem chunks_cons {α : Type} (sz n : Nat) (l : List α) : chunks sz (n + 1) l = l.take sz :: chunks sz n (l.drop sz) := rfl
/-! data of cells -/
theorem toDs_nil : toDs kf hp [] = some ([], []) := rfl
def toDsK (y : D) (w : Writes) (p : List D × Writes) : Option (List D × Writes) := some (y :: p.1, w ++ p.2)
theorem toDsK_eq (y : D) (w : Writes) (ys : List D) (ws : Writes) : toDsK y w (ys, ws) = some (y :: ys, w ++ ws) := rfl
def toDsC (kf : Bool) (hp : Heap) (xs : List A) (p : D × Writes) : Option (List D × Writes) := ob (toDs kf (applyW hp p.2) xs) (toDsK p.1 p.2)
theorem toDsC_eq (xs : List A) (y : D) (w : Writes) : toDsC kf hp xs (y, w) = ob (toDs kf (applyW hp w) xs) (toDsK y w) := rfl
theorem toDs_cons (x : A) (xs : List A) : toDs kf hp (x :: xs) = ob (toD1 kf hp x) (toDsC kf hp xs) := by
  simp only [toDs]
  cases toD1 kf hp x with
  | none => rfl
  | some p =>
    obtain ⟨y, w⟩ := p
    simp only [ob, toDsC]
    cases toDs kf (applyW hp w) xs <;> rfl
theorem toD1_int (k : IntKind) (n : Int) : toD1 kf hp (.d (.int k n)) = some (.int k n, []) := rfl
theorem toD1_bool (b : Bool) : toD1 kf hp (.d (.bool b)) = some (.bool b, []) := rfl
theorem toD1_str (s : ByteArray) : toD1 kf hp (.d (.str s)) = some (.str s, []) := rfl
theorem toD1_sl (t : Tg) (sz : Nat) (xs : List (List D)) : toD1 kf hp (.d (.sl t sz xs)) = some (.sl (t.dim kf) sz xs, []) := rfl
theorem toD1_nilp : toD1 kf hp (.d .nilp) = some (.nilp, []) := rfl
theorem toD1_nilf : toD1 kf hp (.d .nilf) = some (.nilf, []) := rfl
theorem toD1_nilm : toD1 kf hp (.d .nilm) = some (.nilm, []) := rfl
def toD1R (kf : Bool) (id : Nat) : Chunk → Option (D × Writes)
  | .row sz f xs => some (.sl (if kf && f then .full else .any) sz xs, [(id, .imm sz f xs)])
  | .imm sz f xs => some (.sl (if kf && f then .full else .any) sz xs, [])
  | _ => none
theorem toD1_row (id : Nat) : toD1 kf hp (.row id) = oc (hp id) (toD1R kf id) := by
  simp only [toD1, oc]
  cases hp id <;> rfl
theorem toD1R_row (id sz : Nat) (f : Bool) (xs : List (List D)) : toD1R kf id (.row sz f xs) = some (.sl (if kf && f then .full else .any) sz xs, [(id, .imm sz f xs)]) := rfl
theorem toD1R_imm (id sz : Nat) (f : Bool) (xs : List (List D)) : toD1R kf id (.imm sz f xs) = some (.sl (if kf && f then .full else .any) sz xs, []) := rfl
def toD1S (id lo hi : Nat) : Chunk → Option (D × Writes)
  | .row sz f xs => ifs (hi ≤ xs.length) (some (.sl .any sz ((xs.drop lo).take (hi - lo)), [(id, .imm sz f xs)]))
  | .imm sz _ xs => ifs (hi ≤ xs.length) (some (.sl .any sz ((xs.drop lo).take (hi - lo)), []))
  | _ => none
theorem toD1_sub (id lo hi : Nat) (w : Bool) : toD1 kf hp (.sub id lo hi w) = oc (hp id) (toD1S id lo hi) := by
  simp only [toD1, oc]
  cases hp id <;> rfl
theorem toD1S_row (id lo hi sz : Nat) (f : Bool) (xs : List (List D)) : toD1S id lo hi (.row sz f xs) = ifs (hi ≤ xs.length) (some (.sl .any sz ((xs.drop lo).take (hi - lo)), [(id, .imm sz f xs)])) := rfl
theorem toD1S_imm (id lo hi sz : Nat) (f : Bool) (xs : List (List D)) : toD1S id lo hi (.imm sz f xs) = ifs (hi ≤ xs.length) (some (.sl .any sz ((xs.drop lo).take (hi - lo)), [])) := rfl
theorem dim_any (b : Bool) : Tg.dim b .any = .any := rfl
theorem dim_full : Tg.dim false .full = .any := rfl
theorem dim_nil : Tg.dim false .nil = .any := rfl
theorem dim_made (b : Bool) : Tg.dim b .made = .any := rfl
theorem dim_fullk : Tg.dim true .full = .full := rfl
theorem dim_nilk : Tg.dim true .nil = .full := rfl
theorem dim_false (t : Tg) : Tg.dim false t = .any := by cases t <;> rfl
/-! memory -/
theorem takeAgg_t (sz : Nat) (cs : List A) : takeAgg true sz cs = ifs (sz ≤ cs.length) (some (.agg (cs.take sz))) := rfl
theorem takeAgg_f (sz : Nat) (x : A) (cs : List A) : takeAgg false sz (x :: cs) = some x := rfl
def ret0 (v : A) : Option (A × Writes) := some (v, [])
theorem ret0_eq (v : A) : ret0 v = some (v, []) := rfl
def loadB (agg : Bool) (sz off : Nat) : Chunk → Option (A × Writes)
  | .box cs => ob (takeAgg agg sz (cs.drop off)) ret0
  | _ => none
theorem loadB_box (agg : Bool) (sz off : Nat) (cs : List A) : loadB agg sz off (.box cs) = ob (takeAgg agg sz (cs.drop off)) ret0 := rfl
theorem o_load_ptr (agg : Bool) (sz id off : Nat) : aop kf cf nb hp (.load agg sz (.ptr id off)) = oc (hp id) (loadB agg sz off) := by
  simp only [aop, oc]
  cases hp id <;> first | rfl | (simp only [loadB, ob]; cases takeAgg agg sz (List.drop off _) <;> rfl)
def loadE (agg : Bool) (sz off i : Nat) : Chunk → Option (A × Writes)
  | .row _ _ xs | .imm _ _ xs => ob xs[i]? (fun c => ob (takeAgg agg sz ((c.drop off).map A.d)) ret0)
  | _ => none
theorem loadE_row (agg : Bool) (sz off i z : Nat) (f : Bool) (xs : List (List D)) : loadE agg sz off i (.row z f xs) = ob xs[i]? (fun c => ob (takeAgg agg sz ((c.drop off).map A.d)) ret0) := rfl
theorem loadE_imm (agg : Bool) (sz off i z : Nat) (f : Bool) (xs : List (List D)) : loadE agg sz off i (.imm z f xs) = ob xs[i]? (fun c => ob (takeAgg agg sz ((c.drop off).map A.d)) ret0) := rfl
theorem o_load_ep (agg : Bool) (sz id i off : Nat) : aop kf cf nb hp (.load agg sz (.ep id i off)) = oc (hp id) (loadE agg sz off i) := by
  have key : ∀ xs : List (List D), (match xs[i]? with | some c => (match takeAgg agg sz ((c.drop off).map A.d) with | some v => some (v, []) | none => none) | none => none : Option (A × Writes)) = ob xs[i]? (fun c => ob (takeAgg agg sz ((c.drop off).map A.d)) ret0) := fun xs => by
    cases xs[i]? with
    | none => rfl
    | some c => simp only [ob]; cases takeAgg agg sz ((c.drop off).map A.d) <;> rfl
  simp only [aop, oc]
  cases hp id <;> first | rfl | exact key _
theorem o_load_dp (agg : Bool) (sz : Nat) (cs : List D) : aop kf cf nb hp (.load agg sz (.dp cs)) = ob (takeAgg agg sz (cs.map A.d)) ret0 := by
  simp only [aop]
  cases takeAgg agg sz (cs.map A.d) <;> rfl
def storeB (id off sz : Nat) (vs : List A) : Chunk → Option (A × Writes)
  | .box cs => ifs (vs.length = sz ∧ off + sz ≤ cs.length) (some (.un, [(id, .box (spl cs off vs))]))
  | _ => none
theorem storeB_box (id off sz : Nat) (vs cs : List A) : storeB id off sz vs (.box cs) = ifs (vs.length = sz ∧ off + sz ≤ cs.length) (some (.un, [(id, .box (spl cs off vs))])) := rfl
theorem o_store_ptr (sz id off : Nat) (v : A) : aop kf cf nb hp (.store sz (.ptr id off) v) = ob (cellsOf v) (fun vs => oc (hp id) (storeB id off sz vs)) := by
  simp only [aop, oc]
  cases cellsOf v with
  | none => cases hp id <;> rfl
  | some vs => cases hp id <;> first | rfl | (simp only [ob, storeB, ifs, splice_spl])
def storeE2 (id i off sz : Nat) (ds : List D) (ws : Writes) : Chunk → Option (A × Writes)
  | .row rsz f xs => ob xs[i]? (fun c => ifs (ds.length = sz ∧ off + sz ≤ c.length) (some (.un, ws ++ [(id, .row rsz f (xs.set i (spl c off ds)))])))
  | _ => none
theorem storeE2_row (id i off sz : Nat) (ds : List D) (ws : Writes) (rsz : Nat) (f : Bool) (xs : List (List D)) : storeE2 id i off sz ds ws (.row rsz f xs) = ob xs[i]? (fun c => ifs (ds.length = sz ∧ off + sz ≤ c.length) (some (.un, ws ++ [(id, .row rsz f (xs.set i (spl c off ds)))]))) := rfl
def storeE (hp : Heap) (id i off sz : Nat) (p : List D × Writes) : Option (A × Writes) := oc (applyW hp p.2 id) (storeE2 id i off sz p.1 p.2)
theorem storeE_eq (id i off sz : Nat) (ds : List D) (ws : Writes) : storeE hp id i off sz (ds, ws) = oc (applyW hp ws id) (storeE2 id i off sz ds ws) := rfl
theorem o_store_ep (sz id i off : Nat) (v : A) : aop kf cf nb hp (.store sz (.ep id i off) v) = ob (cellsOf v) (fun vs => ob (toDs kf hp vs) (storeE hp id i off sz)) := by
  simp only [aop]
  cases cellsOf v with
  | none => rfl
  | some vs =>
    simp only [ob]
    cases toDs kf hp vs with
    | none => rfl
    | some p =>
      obtain ⟨ds, ws⟩ := p
      simp only [storeE, oc]
      cases applyW hp ws id with
      | row rsz f xs =>
        simp only [storeE2]
        cases xs[i]? with
        | none => rfl
        | some c => simp only [ob, ifs, splice_spl]
      | _ => rfl
theorem o_nilck_ptr (i o : Nat) : aop kf cf nb hp (.nilck (.ptr i o)) = some (.ptr i o, []) := rfl
theorem o_nilck_ep (i k o : Nat) : aop kf cf nb hp (.nilck (.ep i k o)) = some (.ep i k o, []) := rfl
theorem o_nilck_dp (cs : List D) : aop kf cf nb hp (.nilck (.dp cs)) = some (.dp cs, []) := rfl
theorem o_nilck_fn (f : FuncId) (cs : List A) : aop kf cf nb hp (.nilck (.fn f cs)) = some (.fn f cs, []) := rfl
theorem o_bin (k : BK) (op : BinOp) (x y : A) : aop kf cf nb hp (.bin k op x y) = ob (abin k op x y) ret0 := by
  simp only [aop]
  cases abin k op x y <;> rfl
section
variable (k j : IntKind) (a b : Int)
theorem b_add : abin .int .add (.d (.int k a)) (.d (.int k b)) = some (.d (.int k (k.wrap (a + b)))) := by simp [abin, arith]
theorem b_sub : abin .int .sub (.d (.int k a)) (.d (.int k b)) = some (.d (.int k (k.wrap (a - b)))) := by simp [abin, arith]
theorem b_mul : abin .int .mul (.d (.int k a)) (.d (.int k b)) = some (.d (.int k (k.wrap (a * b)))) := by simp [abin, arith]
theorem b_quo (h : b ≠ 0) : abin .int .quo (.d (.int k a)) (.d (.int k b)) = some (.d (.int k (k.wrap (a.tdiv b)))) := by simp [abin, arith, h]
theorem b_rem (h : b ≠ 0) : abin .int .rem (.d (.int k a)) (.d (.int k b)) = some (.d (.int k (a.tmod b))) := by simp [abin, arith, h]
theorem b_eql : abin .int .eql (.d (.int k a)) (.d (.int k b)) = some (.d (.bool (decide (a = b)))) := by simp [abin, arith]; rfl
theorem b_neq : abin .int .neq (.d (.int k a)) (.d (.int k b)) = some (.d (.bool (decide (a ≠ b)))) := by
  simp only [abin, arith, Bool.or_eq_true, decide_true, Bool.or_true, if_true, Option.some.injEq, A.d.injEq, D.bool.injEq]
  by_cases h : a = b <;> simp [h]
theorem b_lss : abin .int .lss (.d (.int k a)) (.d (.int k b)) = some (.d (.bool (decide (a < b)))) := by simp [abin, arith]
theorem b_leq : abin .int .leq (.d (.int k a)) (.d (.int k b)) = some (.d (.bool (decide (a ≤ b)))) := by simp [abin, arith]
theorem b_gtr : abin .int .gtr (.d (.int k a)) (.d (.int k b)) = some (.d (.bool (decide (b < a)))) := by simp [abin, arith]
theorem b_geq : abin .int .geq (.d (.int k a)) (.d (.int k b)) = some (.d (.bool (decide (b ≤ a)))) := by simp [abin, arith]
theorem b_shl (h : 0 ≤ b) : abin .int .shl (.d (.int k a)) (.d (.int j b)) = some (.d (.int k (k.wrap (a * 2 ^ (Nat.min b.toNat k.bits))))) := by
  have : ¬ b < 0 := by omega
  simp [abin, arith, BinOp.isShift, this]
theorem b_shr (h : 0 ≤ b) : abin .int .shr (.d (.int k a)) (.d (.int j b)) = some (.d (.int k (a.fdiv (2 ^ (Nat.min b.toNat k.bits))))) := by
  have : ¬ b < 0 := by omega
  simp [abin, arith, BinOp.isShift, this]
theorem b_and : abin .int .and (.d (.int k a)) (.d (.int k b)) = some (.d (.int k (k.wrap ((BitVec.ofInt k.bits a &&& BitVec.ofInt k.bits b).toNat)))) := by simp [abin, arith, abits]
theorem b_or : abin .int .or (.d (.int k a)) (.d (.int k b)) = some (.d (.int k (k.wrap ((BitVec.ofInt k.bits a ||| BitVec.ofInt k.bits b).toNat)))) := by simp [abin, arith, abits]
theorem b_andNot : abin .int .andNot (.d (.int k a)) (.d (.int k b)) = some (.d (.int k (k.wrap ((BitVec.ofInt k.bits a &&& ~~~(BitVec.ofInt k.bits b)).toNat)))) := by simp [abin, arith, abits]
end
theorem b_sadd (a b : ByteArray) (h : a.size + b.size ≤ 9223372036854775807) : abin .str .add (.d (.str a)) (.d (.str b)) = some (.d (.str (a ++ b))) := by simp [abin, h]
theorem b_seq (a b : ByteArray) : abin .str .eql (.d (.str a)) (.d (.str b)) = some (.d (.bool (decide (a = b)))) := by
  have : (a.toList == b.toList) = decide (a = b) := by
    rw [Bool.eq_iff_iff]
    constructor
    · intro h
      rw [← beq_toListBytes] at h
      simpa using (MapKept.bytes_beq _ _).1 h
    · intro h
      have h := of_decide_eq_true h
      subst h; simp
  simp [abin, this]
theorem b_sne (a b : ByteArray) : abin .str .neq (.d (.str a)) (.d (.str b)) = some (.d (.bool (decide (a ≠ b)))) := by
  have h := b_seq a b
  simp only [abin, Option.some.injEq, A.d.injEq, D.bool.injEq] at h ⊢
  rw [h]; by_cases e : a = b <;> simp [e]
theorem b_beq (a b : Bool) : abin .bool .eql (.d (.bool a)) (.d (.bool b)) = some (.d (.bool (a == b))) := rfl
theorem b_bne (a b : Bool) : abin .bool .neq (.d (.bool a)) (.d (.bool b)) = some (.d (.bool (!(a == b)))) := rfl
theorem b_peq (i o : Nat) : abin .ptr .eql (.ptr i o) (.d .nilp) = some (.d (.bool false)) := rfl
theorem b_pne (i o : Nat) : abin .ptr .neq (.ptr i o) (.d .nilp) = some (.d (.bool true)) := rfl
theorem b_eeq (i k o : Nat) : abin .ptr .eql (.ep i k o) (.d .nilp) = some (.d (.bool false)) := rfl
theorem b_ene (i k o : Nat) : abin .ptr .neq (.ep i k o) (.d .nilp) = some (.d (.bool true)) := rfl
theorem b_neq0 : abin .ptr .eql (.d .nilp) (.d .nilp) = some (.d (.bool true)) := rfl
theorem b_nne0 : abin .ptr .neq (.d .nilp) (.d .nilp) = some (.d (.bool false)) := rfl
theorem o_eqs (ks : List BK) (neg : Bool) (xs ys : List A) : aop kf cf nb hp (.eqs ks neg (.agg xs) (.agg ys)) = ob (allD xs) (fun ds => ob (allD ys) (fun es => ob (cellsEq ks ds es) (fun b => some (.d (.bool (if neg then !b else b)), [])))) := by
  simp only [aop]
  cases allD xs with
  | none => rfl
  | some ds =>
    cases allD ys with
    | none => rfl
    | some es => simp only [ob]; cases cellsEq ks ds es <;> rfl
theorem allD_nil : allD [] = some [] := rfl
theorem allD_cons (x : D) (xs : List A) : allD (.d x :: xs) = ob (allD xs) (fun ys => some (x :: ys)) := by
  simp only [allD, unD]
  cases allD xs <;> rfl
theorem o_un_neg (k : IntKind) (n : Int) : aop kf cf nb hp (.un .neg (.d (.int k n))) = some (.d (.int k (k.wrap (0 - n))), []) := rfl
theorem o_un_not (b : Bool) : aop kf cf nb hp (.un .not (.d (.bool b))) = some (.d (.bool (!b)), []) := rfl
theorem o_conv (j k : IntKind) (n : Int) : aop kf cf nb hp (.conv k (.d (.int j n))) = some (.d (.int k (k.wrap n)), []) := rfl
/-! slices -/
def viewR : Chunk → Option (Nat × List (List D))
  | .row sz _ xs | .imm sz _ xs => some (sz, xs)
  | _ => none
theorem viewR_row (sz : Nat) (f : Bool) (xs : List (List D)) : viewR (.row sz f xs) = some (sz, xs) := rfl
theorem viewR_imm (sz : Nat) (f : Bool) (xs : List (List D)) : viewR (.imm sz f xs) = some (sz, xs) := rfl
theorem view_sl (t : Tg) (sz : Nat) (xs : List (List D)) : view hp (.d (.sl t sz xs)) = some (sz, xs) := rfl
theorem view_str (s : ByteArray) : view hp (.d (.str s)) = some (1, byteCells s) := rfl
theorem view_row (id : Nat) : view hp (.row id) = oc (hp id) viewR := by
  simp only [view, oc]; cases hp id <;> rfl
def viewS (lo hi : Nat) : Chunk → Option (Nat × List (List D))
  | .row sz _ xs | .imm sz _ xs => ifs (hi ≤ xs.length) (some (sz, (xs.drop lo).take (hi - lo)))
  | _ => none
theorem viewS_row (lo hi sz : Nat) (f : Bool) (xs : List (List D)) : viewS lo hi (.row sz f xs) = ifs (hi ≤ xs.length) (some (sz, (xs.drop lo).take (hi - lo))) := rfl
theorem viewS_imm (lo hi sz : Nat) (f : Bool) (xs : List (List D)) : viewS lo hi (.imm sz f xs) = ifs (hi ≤ xs.length) (some (sz, (xs.drop lo).take (hi - lo))) := rfl
theorem view_sub (id lo hi : Nat) (w : Bool) : view hp (.sub id lo hi w) = oc (hp id) (viewS lo hi) := by
  simp only [view, oc]; cases hp id <;> rfl
def b2sK (p : Nat × List (List D)) : Option (A × Writes) := ob (bytesOf p.2) (fun bs => some (.d (.str ⟨bs.toArray⟩), []))
theorem b2sK_eq (n : Nat) (xs : List (List D)) : b2sK (n, xs) = ob (bytesOf xs) (fun bs => some (.d (.str ⟨bs.toArray⟩), [])) := rfl
theorem o_b2s_sl (t : Tg) (sz : Nat) (xs : List (List D)) : aop kf cf nb hp (.b2s (.d (.sl t sz xs))) = ob (bytesOf xs) (fun bs => some (.d (.str ⟨bs.toArray⟩), [])) := by
  simp only [aop, view]
  cases bytesOf xs <;> rfl
theorem o_b2s_row (id : Nat) : aop kf cf nb hp (.b2s (.row id)) = ob (view hp (.row id)) b2sK := by
  simp only [aop]
  cases view hp (.row id) with
  | none => rfl
  | some p => obtain ⟨n, xs⟩ := p; simp only [ob, b2sK]; cases bytesOf xs <;> rfl
theorem o_b2s_sub (id lo hi : Nat) (w : Bool) : aop kf cf nb hp (.b2s (.sub id lo hi w)) = ob (view hp (.sub id lo hi w)) b2sK := by
  simp only [aop]
  cases view hp (.sub id lo hi w) with
  | none => rfl
  | some p => obtain ⟨n, xs⟩ := p; simp only [ob, b2sK]; cases bytesOf xs <;> rfl
theorem o_s2a (n : Nat) (t : Tg) (sz : Nat) (xs : List (List D)) : aop kf cf nb hp (.s2a n (.d (.sl t sz xs))) = ifs (n ≤ xs.length ∧ 0 < sz ∧ 0 < n) (some (.dp (xs.take n).flatten, [])) := rfl
def strC (id : Nat) : Chunk → Option (A × Writes)
  | .row sz f xs => ifs (xs.isEmpty = false) (some (.row id, [(id, .row sz f xs)]))
  | _ => none
theorem strC_row (id sz : Nat) (f : Bool) (xs : List (List D)) : strC id (.row sz f xs) = ifs (xs.isEmpty = false) (some (.row id, [(id, .row sz f xs)])) := rfl
theorem o_strish (id : Nat) : aop kf cf nb hp (.strish (.row id)) = oc (hp id) (strC id) := by
  simp only [aop, oc]
  cases hp id with
  | row sz f xs => cases xs <;> simp [strC, ifs]
  | _ => rfl
theorem o_mkfn (f : FuncId) (cs : List A) : aop kf cf nb hp (.mkfn f cs) = some (.fn f cs, []) := rfl
theorem o_mkmap (agg : Bool) : aop kf cf nb hp (.mkmap agg) = some (.map nb, [(nb, .map agg [])]) := rfl
theorem o_mkslice (z : List D) (sz bytes : Nat) (full : Bool) (j k : IntKind) (a b : Int) : aop kf cf nb hp (.mkslice z sz bytes full (.d (.int j a)) (.d (.int k b))) = ifs (a = b ∧ 0 ≤ a ∧ a * bytes ≤ 281474976710656 ∧ a ≤ 9223372036854775807 ∧ z.length = sz ∧ 0 < bytes) (some (.row nb, [(nb, .row sz full (List.replicate a.toNat z))])) := rfl
def cutB (len : Nat) (lo : Option A) (h : Nat) : Option (Nat × Nat) := ob (cutLo h lo) (fun l => some (l, h))
theorem cut_eq (len : Nat) (lo hi : Option A) : cut len lo hi = ob (cutHi len hi) (fun h => ob (cutLo h lo) (fun l => some (l, h))) := by
  unfold cut
  cases cutHi len hi with
  | none => rfl
  | some h => simp only [ob]; cases cutLo h lo <;> rfl
theorem cutHi_none (len : Nat) : cutHi len none = some len := rfl
theorem cutLo_none (len : Nat) : cutLo len none = some 0 := rfl
theorem cutHi_some (len : Nat) (k : IntKind) (h : Int) : cutHi len (some (.d (.int k h))) = ifs (0 ≤ h ∧ h ≤ (len : Int)) (some h.toNat) := rfl
theorem cutLo_some (len : Nat) (k : IntKind) (h : Int) : cutLo len (some (.d (.int k h))) = ifs (0 ≤ h ∧ h ≤ (len : Int)) (some h.toNat) := rfl
def slStrK (s : ByteArray) (p : Nat × Nat) : Option (A × Writes) := some (.d (.str (s.extract p.1 p.2)), [])
theorem slStrK_eq (s : ByteArray) (l h : Nat) : slStrK s (l, h) = some (.d (.str (s.extract l h)), []) := rfl
theorem o_slStr (s : ByteArray) (lo hi : Option A) : aop kf cf nb hp (.slStr (.d (.str s)) lo hi) = ob (cut s.size lo hi) (slStrK s) := by
  simp only [aop]
  cases cut s.size lo hi <;> rfl
def slSlK (t : Tg) (sz : Nat) (xs : List (List D)) (p : Nat × Nat) : Option (A × Writes) := some (.d (.sl t sz ((xs.drop p.1).take (p.2 - p.1))), [])
theorem slSlK_eq (t : Tg) (sz : Nat) (xs : List (List D)) (l h : Nat) : slSlK t sz xs (l, h) = some (.d (.sl t sz ((xs.drop l).take (h - l))), []) := rfl
theorem o_slSl_sl (sz : Nat) (t : Tg) (sz' : Nat) (xs : List (List D)) (lo hi : Option A) : aop kf cf nb hp (.slSl sz (.d (.sl t sz' xs)) lo hi none) = ifs (okSz sz sz' xs = true) (ob (cut xs.length lo hi) (slSlK (if t.isFull && hi.isNone then .full else .any) sz xs)) := by
  simp only [aop, ifs]
  split
  · cases cut xs.length lo hi <;> rfl
  · rfl
def slSlM (m : Nat) (sz : Nat) (xs : List (List D)) (p : Nat × Nat) : Option (A × Writes) := some (.d (.sl (if p.2 = m then .full else .any) sz ((xs.drop p.1).take (p.2 - p.1))), [])
theorem slSlM_eq (m : Nat) (sz : Nat) (xs : List (List D)) (l h : Nat) : slSlM m sz xs (l, h) = some (.d (.sl (if h = m then .full else .any) sz ((xs.drop l).take (h - l))), []) := rfl
theorem o_slSl_slM (sz : Nat) (t : Tg) (sz' : Nat) (xs : List (List D)) (lo hi : Option A) (k : IntKind) (m : Int) : aop kf cf nb hp (.slSl sz (.d (.sl t sz' xs)) lo hi (some (.d (.int k m)))) = ifs (okSz sz sz' xs = true) (ifs (0 ≤ m ∧ m ≤ (xs.length : Int)) (ob (cut m.toNat lo hi) (slSlM m.toNat sz xs))) := by
  simp only [aop, ifs]
  split
  · split
    · cases cut m.toNat lo hi <;> rfl
    · rfl
  · rfl
theorem okSz_self (sz : Nat) (xs : List (List D)) : okSz sz sz xs = true := by simp [okSz]
theorem okSz_nil (sz sz' : Nat) : okSz sz sz' [] = true := by simp [okSz]
def rowLenC (sz : Nat) : Chunk → Option Nat
  | .row rsz _ xs | .imm rsz _ xs => ifs (rsz = sz) (some xs.length)
  | _ => none
theorem rowLenC_row (sz rsz : Nat) (f : Bool) (xs : List (List D)) : rowLenC sz (.row rsz f xs) = ifs (rsz = sz) (some xs.length) := rfl
theorem rowLenC_imm (sz rsz : Nat) (f : Bool) (xs : List (List D)) : rowLenC sz (.imm rsz f xs) = ifs (rsz = sz) (some xs.length) := rfl
theorem rowLen_eq (sz id : Nat) : rowLen sz hp id = oc (hp id) (rowLenC sz) := by
  simp only [rowLen, oc]; cases hp id <;> rfl
def subK (id o : Nat) (w : Bool) (p : Nat × Nat) : Option (A × Writes) := some (.sub id (o + p.1) (o + p.2) w, [])
theorem subK_eq (id o : Nat) (w : Bool) (l h : Nat) : subK id o w (l, h) = some (.sub id (o + l) (o + h) w, []) := rfl
theorem o_slSl_row (sz id : Nat) (lo hi : Option A) : aop kf cf nb hp (.slSl sz (.row id) lo hi none) = ob (rowLen sz hp id) (fun n => ob (cut n lo hi) (subK id 0 true)) := by
  simp only [aop]
  cases rowLen sz hp id with
  | none => rfl
  | some n => simp only [ob]; cases cut n lo hi <;> simp [subK]
theorem o_slSl_rowM (sz id : Nat) (lo hi : Option A) (k : IntKind) (m : Int) : aop kf cf nb hp (.slSl sz (.row id) lo hi (some (.d (.int k m)))) = ob (rowLen sz hp id) (fun n => ifs (0 ≤ m ∧ m ≤ (n : Int)) (ob (cut m.toNat lo hi) (subK id 0 false))) := by
  simp only [aop]
  cases rowLen sz hp id with
  | none => rfl
  | some n =>
    simp only [ob, ifs]
    split
    · cases cut m.toNat lo hi <;> simp [subK]
    · rfl
def subLim (w : Bool) (n o e : Nat) (hi : Option A) : Nat := if w && hi.isSome then n - o else e - o
theorem subLim_none (w : Bool) (n o e : Nat) : subLim w n o e none = e - o := by simp [subLim]
theorem subLim_false (n o e : Nat) (hi : Option A) : subLim false n o e hi = e - o := by simp [subLim]
theorem subLim_true (n o e : Nat) (x : A) : subLim true n o e (some x) = n - o := by simp [subLim]
theorem o_slSl_sub (sz id o e : Nat) (w : Bool) (lo hi : Option A) : aop kf cf nb hp (.slSl sz (.sub id o e w) lo hi none) = ob (rowLen sz hp id) (fun n => ifs (o ≤ e ∧ e ≤ n) (ob (cut (subLim w n o e hi) lo hi) (subK id o w))) := by
  simp only [aop, subLim]
  cases rowLen sz hp id with
  | none => rfl
  | some n =>
    simp only [ob, ifs]
    split
    · cases cut (if w && hi.isSome then n - o else e - o) lo hi <;> rfl
    · rfl
def slDpK (n sz : Nat) (cs : List D) (p : Nat × Nat) : Option (A × Writes) := ifs (n * sz ≤ cs.length) (some (.d (.sl .any sz (((chunks sz n cs).drop p.1).take (p.2 - p.1))), []))
theorem slDpK_eq (n sz : Nat) (cs : List D) (l h : Nat) : slDpK n sz cs (l, h) = ifs (n * sz ≤ cs.length) (some (.d (.sl .any sz (((chunks sz n cs).drop l).take (h - l))), [])) := rfl
theorem o_slArr_dp (n sz : Nat) (cs : List D) (lo hi : Option A) : aop kf cf nb hp (.slArr n sz (.dp cs) lo hi) = ob (cut n lo hi) (slDpK n sz cs) := by
  simp only [aop]
  cases cut n lo hi <;> rfl
def slBoxC (n sz id off l h : Nat) : Chunk → Option (A × Writes)
  | .box cs => ifs (off + n * sz ≤ cs.length) (some (.bs id (off + l * sz) (h - l) sz, []))
  | _ => none
theorem slBoxC_box (n sz id off l h : Nat) (cs : List A) : slBoxC n sz id off l h (.box cs) = ifs (off + n * sz ≤ cs.length) (some (.bs id (off + l * sz) (h - l) sz, [])) := rfl
def slBoxK (hp : Heap) (n sz id off : Nat) (p : Nat × Nat) : Option (A × Writes) := oc (hp id) (slBoxC n sz id off p.1 p.2)
theorem slBoxK_eq (n sz id off l h : Nat) : slBoxK hp n sz id off (l, h) = oc (hp id) (slBoxC n sz id off l h) := rfl
theorem o_slArr_ptr (n sz id off : Nat) (lo hi : Option A) : aop kf cf nb hp (.slArr n sz (.ptr id off) lo hi) = ob (cut n lo hi) (slBoxK hp n sz id off) := by
  simp only [aop]
  cases cut n lo hi with
  | none => rfl
  | some p => obtain ⟨l, h⟩ := p; simp only [ob, slBoxK, oc]; cases hp id <;> rfl
theorem o_fa_ptr (off id o : Nat) : aop kf cf nb hp (.fa off (.ptr id o)) = some (.ptr id (o + off), []) := rfl
theorem o_fa_ep (off id i o : Nat) : aop kf cf nb hp (.fa off (.ep id i o)) = some (.ep id i (o + off), []) := rfl
theorem o_fa_dp (off : Nat) (cs : List D) : aop kf cf nb hp (.fa off (.dp cs)) = some (.dp (cs.drop off), []) := rfl
theorem o_fld (agg : Bool) (off sz : Nat) (cs : List A) : aop kf cf nb hp (.fld agg off sz (.agg cs)) = ob (takeAgg agg sz (cs.drop off)) ret0 := by
  simp only [aop]
  cases takeAgg agg sz (cs.drop off) <;> rfl
theorem o_ia_sl (sz : Nat) (t : Tg) (sz' : Nat) (xs : List (List D)) (k : IntKind) (j : Int) : aop kf cf nb hp (.ia sz (.d (.sl t sz' xs)) (.d (.int k j))) = ifs (sz' = sz ∧ 0 < sz ∧ 0 ≤ j ∧ j < (xs.length : Int)) (ob xs[j.toNat]? (fun c => some (.dp c, []))) := by
  simp only [aop, ifs]
  split
  · cases xs[j.toNat]? <;> rfl
  · rfl
def iaC (sz id : Nat) (j : Int) : Chunk → Option (A × Writes)
  | .row rsz _ xs | .imm rsz _ xs => ifs (rsz = sz ∧ 0 < sz ∧ 0 ≤ j ∧ j < (xs.length : Int)) (some (.ep id j.toNat 0, []))
  | _ => none
theorem iaC_row (sz id : Nat) (j : Int) (rsz : Nat) (f : Bool) (xs : List (List D)) : iaC sz id j (.row rsz f xs) = ifs (rsz = sz ∧ 0 < sz ∧ 0 ≤ j ∧ j < (xs.length : Int)) (some (.ep id j.toNat 0, [])) := rfl
theorem iaC_imm (sz id : Nat) (j : Int) (rsz : Nat) (f : Bool) (xs : List (List D)) : iaC sz id j (.imm rsz f xs) = ifs (rsz = sz ∧ 0 < sz ∧ 0 ≤ j ∧ j < (xs.length : Int)) (some (.ep id j.toNat 0, [])) := rfl
theorem o_ia_row (sz id : Nat) (k : IntKind) (j : Int) : aop kf cf nb hp (.ia sz (.row id) (.d (.int k j))) = oc (hp id) (iaC sz id j) := by
  simp only [aop, oc]; cases hp id <;> rfl
def iaS (sz id lo hi : Nat) (j : Int) : Chunk → Option (A × Writes)
  | .row rsz _ xs | .imm rsz _ xs => ifs (rsz = sz ∧ 0 < sz ∧ 0 ≤ j ∧ j < ((hi - lo : Nat) : Int) ∧ hi ≤ xs.length) (some (.ep id (lo + j.toNat) 0, []))
  | _ => none
theorem iaS_row (sz id lo hi : Nat) (j : Int) (rsz : Nat) (f : Bool) (xs : List (List D)) : iaS sz id lo hi j (.row rsz f xs) = ifs (rsz = sz ∧ 0 < sz ∧ 0 ≤ j ∧ j < ((hi - lo : Nat) : Int) ∧ hi ≤ xs.length) (some (.ep id (lo + j.toNat) 0, [])) := rfl
theorem iaS_imm (sz id lo hi : Nat) (j : Int) (rsz : Nat) (f : Bool) (xs : List (List D)) : iaS sz id lo hi j (.imm rsz f xs) = ifs (rsz = sz ∧ 0 < sz ∧ 0 ≤ j ∧ j < ((hi - lo : Nat) : Int) ∧ hi ≤ xs.length) (some (.ep id (lo + j.toNat) 0, [])) := rfl
theorem o_ia_sub (sz id lo hi : Nat) (w : Bool) (k : IntKind) (j : Int) : aop kf cf nb hp (.ia sz (.sub id lo hi w) (.d (.int k j))) = oc (hp id) (iaS sz id lo hi j) := by
  simp only [aop, oc]; cases hp id <;> rfl
theorem o_ia_bs (sz id off len bsz : Nat) (k : IntKind) (j : Int) : aop kf cf nb hp (.ia sz (.bs id off len bsz) (.d (.int k j))) = ifs (bsz = sz ∧ 0 ≤ j ∧ j < (len : Int)) (some (.ptr id (off + j.toNat * sz), [])) := rfl
theorem o_iaArr_dp (n sz : Nat) (cs : List D) (k : IntKind) (j : Int) : aop kf cf nb hp (.iaArr n sz (.dp cs) (.d (.int k j))) = ifs (0 ≤ j ∧ j < (n : Int)) (some (.dp (cs.drop (j.toNat * sz)), [])) := rfl
theorem o_iaArr_ptr (n sz id off : Nat) (k : IntKind) (j : Int) : aop kf cf nb hp (.iaArr n sz (.ptr id off) (.d (.int k j))) = ifs (0 ≤ j ∧ j < (n : Int)) (some (.ptr id (off + j.toNat * sz), [])) := rfl
theorem o_idxStr (s : ByteArray) (k : IntKind) (j : Int) : aop kf cf nb hp (.idxStr (.d (.str s)) (.d (.int k j))) = ifs (0 ≤ j) (ob s.data[j.toNat]? (fun b => some (.d (.int .u8 b.toNat), []))) := by
  simp only [aop, ifs]
  split
  · cases s.data[j.toNat]? <;> rfl
  · rfl
theorem o_idxArr (agg : Bool) (n sz : Nat) (cs : List A) (k : IntKind) (j : Int) : aop kf cf nb hp (.idxArr agg n sz (.agg cs) (.d (.int k j))) = ifs (0 ≤ j ∧ j < (n : Int)) (ob (takeAgg agg sz (cs.drop (j.toNat * sz))) ret0) := by
  simp only [aop, ifs]
  split
  · cases takeAgg agg sz (cs.drop (j.toNat * sz)) <;> rfl
  · rfl
def lookK (ok : Bool) (z : D) (r : Option D) : Option (A × Writes) := some (if ok then .tup [.d (r.getD z), .d (.bool r.isSome)] else .d (r.getD z), [])
theorem lookK_eq (ok : Bool) (z : D) (r : Option D) : lookK ok z r = some (if ok then .tup [.d (r.getD z), .d (.bool r.isSome)] else .d (r.getD z), []) := rfl
def lookC (ks : List BK) (agg : Bool) (key : List D) : Chunk → Option (Option D)
  | .map agg' kvs => ifs (agg' = agg) (kfind ks key kvs)
  | _ => none
theorem lookC_map (ks : List BK) (agg agg' : Bool) (key : List D) (kvs : List (List D × D)) : lookC ks agg key (.map agg' kvs) = ifs (agg' = agg) (kfind ks key kvs) := rfl
theorem o_look (ks : List BK) (agg ok : Bool) (z : D) (id : Nat) (k : A) : aop kf cf nb hp (.look ks agg ok z (.map id) k) = ob (keyOf agg k) (fun key => ifs (key.length = ks.length) (ob (oc (hp id) (lookC ks agg key)) (lookK ok z))) := by
  simp only [aop]
  cases keyOf agg k with
  | none => rfl
  | some key =>
    simp only [ob, ifs, oc]
    split
    · cases hp id with
      | map agg' kvs =>
        simp only [lookC, ifs]
        by_cases h : agg' = agg
        · simp only [if_pos h]; cases kfind ks key kvs <;> rfl
        · simp only [if_neg h]
      | _ => rfl
    · rfl
theorem o_look_nil (ks : List BK) (agg ok : Bool) (z : D) (k : A) : aop kf cf nb hp (.look ks agg ok z (.d .nilm) k) = ob (keyOf agg k) (fun key => ifs (key.length = ks.length) (lookK ok z none)) := by
  simp only [aop]
  cases keyOf agg k with
  | none => rfl
  | some key => simp only [ob, ifs]; split <;> rfl
theorem keyOf_t (cs : List A) : keyOf true (.agg cs) = allD cs := rfl
theorem keyOf_f (x : D) : keyOf false (.d x) = some [x] := rfl
def mputC2 (id : Nat) (agg : Bool) (ws : Writes) (kvs : List (List D × D)) : Option (A × Writes) := some (.un, ws ++ [(id, .map agg kvs)])
theorem mputC2_eq (id : Nat) (agg : Bool) (ws : Writes) (kvs : List (List D × D)) : mputC2 id agg ws kvs = some (.un, ws ++ [(id, .map agg kvs)]) := rfl
def mputC (ks : List BK) (agg : Bool) (id : Nat) (key : List D) (x : D) (ws : Writes) : Chunk → Option (A × Writes)
  | .map agg' kvs => ifs (agg' = agg ∧ key.length = ks.length) (ob (kput ks key x kvs) (mputC2 id agg ws))
  | _ => none
theorem mputC_map (ks : List BK) (agg agg' : Bool) (id : Nat) (key : List D) (x : D) (ws : Writes) (kvs : List (List D × D)) : mputC ks agg id key x ws (.map agg' kvs) = ifs (agg' = agg ∧ key.length = ks.length) (ob (kput ks key x kvs) (mputC2 id agg ws)) := rfl
def mputK (hp : Heap) (ks : List BK) (agg : Bool) (id : Nat) (key : List D) (p : D × Writes) : Option (A × Writes) := oc (applyW hp p.2 id) (mputC ks agg id key p.1 p.2)
theorem mputK_eq (ks : List BK) (agg : Bool) (id : Nat) (key : List D) (x : D) (ws : Writes) : mputK hp ks agg id key (x, ws) = oc (applyW hp ws id) (mputC ks agg id key x ws) := rfl
theorem o_mput (ks : List BK) (agg : Bool) (id : Nat) (k v : A) : aop kf cf nb hp (.mput ks agg (.map id) k v) = ob (keyOf agg k) (fun key => ob (toD1 kf hp v) (mputK hp ks agg id key)) := by
  simp only [aop]
  cases keyOf agg k with
  | none => rfl
  | some key =>
    simp only [ob]
    cases toD1 kf hp v with
    | none => rfl
    | some p =>
      obtain ⟨x, ws⟩ := p
      simp only [mputK, oc]
      cases applyW hp ws id with
      | map agg' kvs =>
        simp only [mputC, ifs]
        split
        · cases kput ks key x kvs <;> rfl
        · rfl
      | _ => rfl
theorem o_ext (i : Nat) (vs : List A) : aop kf cf nb hp (.ext i (.tup vs)) = ob vs[i]? ret0 := by
  simp only [aop]
  cases vs[i]? <;> rfl
def lenNK (n : Nat) : Option (A × Writes) := some (.d (.int .i64 n), [])
theorem lenNK_eq (n : Nat) : lenNK n = some (.d (.int .i64 n), []) := rfl
theorem o_len (k : BK) (x : A) : aop kf cf nb hp (.len k x) = ob (lenK k hp x) lenNK := by
  simp only [aop]
  cases lenK k hp x <;> rfl
theorem len_str (s : ByteArray) : lenK .str hp (.d (.str s)) = some s.size := rfl
theorem len_sl (t : Tg) (sz : Nat) (xs : List (List D)) : lenK .sl hp (.d (.sl t sz xs)) = some xs.length := rfl
def lenC : Chunk → Option Nat
  | .row _ _ xs | .imm _ _ xs => some xs.length
  | .map _ kvs => none
  | _ => none
theorem lenC_row (sz : Nat) (f : Bool) (xs : List (List D)) : lenC (.row sz f xs) = some xs.length := rfl
theorem lenC_imm (sz : Nat) (f : Bool) (xs : List (List D)) : lenC (.imm sz f xs) = some xs.length := rfl
theorem len_row (id : Nat) : lenK .sl hp (.row id) = oc (hp id) lenC := by
  simp only [lenK, lenOf, oc]; cases hp id <;> rfl
theorem len_sub (id lo hi : Nat) (w : Bool) : lenK .sl hp (.sub id lo hi w) = some (hi - lo) := rfl
theorem len_bs (id off n sz : Nat) : lenK .sl hp (.bs id off n sz) = some n := rfl
def lenM : Chunk → Option Nat
  | .map _ kvs => some kvs.length
  | _ => none
theorem len_map (id : Nat) : lenK .map hp (.map id) = oc (hp id) lenM := by
  simp only [lenK, oc]; cases hp id <;> rfl
theorem lenM_map (a : Bool) (kvs : List (List D × D)) : lenM (.map a kvs) = some kvs.length := rfl
/-! append -/
def appSl (nb sz bytes : Nat) (tg : Tg) (xsz : Nat) (xs : List (List D)) (p : Nat × List (List D)) : Option (A × Writes) :=
  ifs (okSz sz p.1 p.2 = true) (if p.2.isEmpty then some (.d (.sl tg xsz xs), []) else ifs (tg.isFull = true ∧ okSz sz xsz xs = true ∧ (xs.length + p.2.length) * bytes ≤ 140737488355328 ∧ xs.length + p.2.length ≤ 140737488355328) (some (.row nb, [(nb, .row sz false (xs ++ p.2))])))
theorem appSl_eq (sz bytes : Nat) (tg : Tg) (xsz : Nat) (xs : List (List D)) (ysz : Nat) (ys : List (List D)) : appSl nb sz bytes tg xsz xs (ysz, ys) = ifs (okSz sz ysz ys = true) (if ys.isEmpty then some (.d (.sl tg xsz xs), []) else ifs (tg.isFull = true ∧ okSz sz xsz xs = true ∧ (xs.length + ys.length) * bytes ≤ 140737488355328 ∧ xs.length + ys.length ≤ 140737488355328) (some (.row nb, [(nb, .row sz false (xs ++ ys))]))) := rfl
theorem o_app_sl (sz bytes : Nat) (tg : Tg) (xsz : Nat) (xs : List (List D)) (y : A) : aop kf cf nb hp (.app sz bytes (.d (.sl tg xsz xs)) y) = ob (view hp y) (appSl nb sz bytes tg xsz xs) := by
  simp only [aop]
  cases view hp y with
  | none => rfl
  | some p => obtain ⟨ysz, ys⟩ := p; simp only [ob, appSl, ifs]
def appRC (nb sz bytes id : Nat) (ys : List (List D)) : Chunk → Option (A × Writes)
  | .row rsz _ xs => ifs (rsz = sz ∧ (xs.length + ys.length) * bytes ≤ 140737488355328 ∧ xs.length + ys.length ≤ 140737488355328) (some (.row nb, [(id, .dead), (nb, .row sz false (xs ++ ys))]))
  | _ => none
theorem appRC_row (sz bytes id : Nat) (ys : List (List D)) (rsz : Nat) (f : Bool) (xs : List (List D)) : appRC nb sz bytes id ys (.row rsz f xs) = ifs (rsz = sz ∧ (xs.length + ys.length) * bytes ≤ 140737488355328 ∧ xs.length + ys.length ≤ 140737488355328) (some (.row nb, [(id, .dead), (nb, .row sz false (xs ++ ys))])) := rfl
def appRow (nb : Nat) (hp : Heap) (sz bytes id : Nat) (p : Nat × List (List D)) : Option (A × Writes) := ifs (okSz sz p.1 p.2 = true) (oc (hp id) (appRC nb sz bytes id p.2))
theorem appRow_eq (sz bytes id ysz : Nat) (ys : List (List D)) : appRow nb hp sz bytes id (ysz, ys) = ifs (okSz sz ysz ys = true) (oc (hp id) (appRC nb sz bytes id ys)) := rfl
theorem o_app_row (sz bytes id : Nat) (y : A) : aop kf cf nb hp (.app sz bytes (.row id) y) = ob (view hp y) (appRow nb hp sz bytes id) := by
  simp only [aop]
  cases view hp y with
  | none => rfl
  | some p =>
    obtain ⟨ysz, ys⟩ := p
    simp only [ob, appRow, ifs, oc]
    split
    · cases hp id <;> rfl
    · rfl
def appSC (nb sz bytes id lo hi : Nat) (own : Bool) (ys : List (List D)) : Chunk → Option (A × Writes)
  | .row rsz f xs => ifs (rsz = sz ∧ own = true ∧ 0 < sz ∧ lo ≤ hi ∧ hi ≤ xs.length) (
      if hi + ys.length ≤ xs.length then some (.sub id lo (hi + ys.length) true, [(id, .row rsz f (xs.take hi ++ (ys ++ xs.drop (hi + ys.length))))])
      else ifs ((hi - lo + ys.length) * bytes ≤ 140737488355328 ∧ hi - lo + ys.length ≤ 140737488355328) (some (.row nb, [(id, .dead), (nb, .row sz false ((xs.drop lo).take (hi - lo) ++ ys))])))
  | _ => none
theorem appSC_row (sz bytes id lo hi : Nat) (own : Bool) (ys : List (List D)) (rsz : Nat) (f : Bool) (xs : List (List D)) : appSC nb sz bytes id lo hi own ys (.row rsz f xs) = ifs (rsz = sz ∧ own = true ∧ 0 < sz ∧ lo ≤ hi ∧ hi ≤ xs.length) (
      if hi + ys.length ≤ xs.length then some (.sub id lo (hi + ys.length) true, [(id, .row rsz f (xs.take hi ++ (ys ++ xs.drop (hi + ys.length))))])
      else ifs ((hi - lo + ys.length) * bytes ≤ 140737488355328 ∧ hi - lo + ys.length ≤ 140737488355328) (some (.row nb, [(id, .dead), (nb, .row sz false ((xs.drop lo).take (hi - lo) ++ ys))]))) := rfl
def appSub (nb : Nat) (hp : Heap) (sz bytes id lo hi : Nat) (own : Bool) (p : Nat × List (List D)) : Option (A × Writes) := ifs (okSz sz p.1 p.2 = true) (oc (hp id) (appSC nb sz bytes id lo hi own p.2))
theorem appSub_eq (sz bytes id lo hi : Nat) (own : Bool) (ysz : Nat) (ys : List (List D)) : appSub nb hp sz bytes id lo hi own (ysz, ys) = ifs (okSz sz ysz ys = true) (oc (hp id) (appSC nb sz bytes id lo hi own ys)) := rfl
theorem o_app_sub (sz bytes id lo hi : Nat) (own : Bool) (y : A) : aop kf cf nb hp (.app sz bytes (.sub id lo hi own) y) = ob (view hp y) (appSub nb hp sz bytes id lo hi own) := by
  simp only [aop]
  cases view hp y with
  | none => rfl
  | some p =>
    obtain ⟨ysz, ys⟩ := p
    simp only [ob, appSub, ifs, oc]
    split
    · cases hp id <;> rfl
    · rfl
def copyC (sz id off len bsz : Nat) (ys : List (List D)) : Chunk → Option (A × Writes)
  | .box cs => ifs (bsz = sz ∧ off + len * sz ≤ cs.length) (some (.d (.int .i64 (Nat.min ys.length len)), [(id, .box (spl cs off (((ys.take (Nat.min ys.length len)).flatten).map A.d)))]))
  | _ => none
theorem copyC_box (sz id off len bsz : Nat) (ys : List (List D)) (cs : List A) : copyC sz id off len bsz ys (.box cs) = ifs (bsz = sz ∧ off + len * sz ≤ cs.length) (some (.d (.int .i64 (Nat.min ys.length len)), [(id, .box (spl cs off (((ys.take (Nat.min ys.length len)).flatten).map A.d)))])) := rfl
def copyK (hp : Heap) (sz id off len bsz : Nat) (p : Nat × List (List D)) : Option (A × Writes) := ifs (okSz sz p.1 p.2 = true) (oc (hp id) (copyC sz id off len bsz p.2))
theorem copyK_eq (sz id off len bsz ysz : Nat) (ys : List (List D)) : copyK hp sz id off len bsz (ysz, ys) = ifs (okSz sz ysz ys = true) (oc (hp id) (copyC sz id off len bsz ys)) := rfl
theorem o_copy (sz id off len bsz : Nat) (y : A) : aop kf cf nb hp (.copy sz (.bs id off len bsz) y) = ob (view hp y) (copyK hp sz id off len bsz) := by
  simp only [aop]
  cases view hp y with
  | none => rfl
  | some p =>
    obtain ⟨ysz, ys⟩ := p
    simp only [ob, copyK, ifs, oc]
    cases hp id with
    | box cs =>
      simp only [copyC, ifs, splice_spl]
      by_cases h : okSz sz ysz ys = true <;> simp [h]
    | _ => by_cases h : okSz sz ysz ys = true <;> simp [h, copyC]
def clearC (z : List D) (sz id lo hi : Nat) : Chunk → Option (A × Writes)
  | .row rsz f xs => ifs (rsz = sz ∧ z.length = sz ∧ 0 < sz ∧ lo ≤ hi ∧ hi ≤ xs.length) (some (.tup [], [(id, .row rsz f (xs.take lo ++ (List.replicate (hi - lo) z ++ xs.drop hi)))]))
  | _ => none
theorem clearC_row (z : List D) (sz id lo hi rsz : Nat) (f : Bool) (xs : List (List D)) : clearC z sz id lo hi (.row rsz f xs) = ifs (rsz = sz ∧ z.length = sz ∧ 0 < sz ∧ lo ≤ hi ∧ hi ≤ xs.length) (some (.tup [], [(id, .row rsz f (xs.take lo ++ (List.replicate (hi - lo) z ++ xs.drop hi)))])) := rfl
theorem o_clear (z : List D) (sz id lo hi : Nat) (w : Bool) : aop kf cf nb hp (.clear z sz (.sub id lo hi w)) = oc (hp id) (clearC z sz id lo hi) := by
  simp only [aop, oc]; cases hp id <;> rfl
theorem o_min (x : A) (ys : List A) : aop kf cf nb hp (.min x ys) = ob (minI ys (fun a b => if b < a then b else a) x) ret0 := by
  simp only [aop]
  cases minI ys (fun a b => if b < a then b else a) x <;> rfl
theorem o_max (x : A) (ys : List A) : aop kf cf nb hp (.max x ys) = ob (minI ys (fun a b => if b > a then b else a) x) ret0 := by
  simp only [aop]
  cases minI ys (fun a b => if b > a then b else a) x <;> rfl
theorem minI_one (k : IntKind) (x y : Int) (f : Int → Int → Int) : minI [.d (.int k y)] f (.d (.int k x)) = some (.d (.int k (f x y))) := by simp [minI, minStep]
theorem o_call (f : FuncId) (cap args : List A) : aop kf cf nb hp (.call (.fn f cap) args) = cf f (args ++ cap) hp nb := rfl
end
end Go.Vm
end
section
/- A step's frame: what an operation looks at, where it writes. -/
set_option linter.unusedVariables false
set_option linter.unusedSimpArgs false
set_option linter.unnecessarySimpa false
namespace Go.Vm
def AgreeOn (ids : List Nat) (h1 h2 : Heap) : Prop := ∀ i, i ∈ ids → h1 i = h2 i
theorem restrict_agree (hp : Heap) (ids : List Nat) : AgreeOn ids (restrict hp ids) hp := fun i hi => by simp [restrict, hi]
theorem AgreeOn.sub {a b : List Nat} {h1 h2 : Heap} (h : AgreeOn b h1 h2) (hs : ∀ i, i ∈ a → i ∈ b) : AgreeOn a h1 h2 := fun i hi => h i (hs i hi)
theorem AgreeOn.apply {ids : List Nat} {h1 h2 : Heap} (h : AgreeOn ids h1 h2) : ∀ ws : Writes, AgreeOn ids (applyW h1 ws) (applyW h2 ws) := by
  intro ws
  induction ws generalizing h1 h2 with
  | nil => exact h
  | cons p ws ih =>
    refine ih (h1 := upd h1 p.1 p.2) (h2 := upd h2 p.1 p.2) (fun i hi => ?_)
    unfold upd; split
    · rfl
    · exact h i hi
theorem view_agree {h1 h2 : Heap} {x : A} (h : AgreeOn (ids1 x) h1 h2) : view h1 x = view h2 x := by
  cases x <;> first | rfl | (rename_i y; cases y <;> rfl) | (simp only [view]; rw [h _ (by simp [ids1])])
theorem toD1_agree {kf : Bool} {h1 h2 : Heap} {x : A} (h : AgreeOn (ids1 x) h1 h2) : toD1 kf h1 x = toD1 kf h2 x := by
  cases x <;> first | rfl | (rename_i y; cases y <;> rfl) | (simp only [toD1]; rw [h _ (by simp [ids1])])
theorem toDs_agree {kf : Bool} : ∀ {xs : List A} {h1 h2 : Heap}, AgreeOn (xs.flatMap ids1) h1 h2 → toDs kf h1 xs = toDs kf h2 xs
  | [], h1, h2, h => rfl
  | x :: xs, h1, h2, h => by
    simp only [toDs]
    rw [toD1_agree (h.sub (fun i hi => by simp [hi]))]
    cases toD1 kf h2 x with
    | none => rfl
    | some p =>
      obtain ⟨y, w⟩ := p
      simp only
      rw [toDs_agree (xs := xs) ((h.sub (fun i hi => by simp only [List.flatMap_cons, List.mem_append]; exact .inr hi)).apply w)]
theorem ids_setParts : ∀ {ps : List (Nat × Nat × A)} {cs out : List A}, setParts cs ps = some out → ∀ i, i ∈ out.flatMap ids1 → i ∈ cs.flatMap ids1 ∨ i ∈ ps.flatMap fun p => ids2 p.2.2
  | [], cs, out, h, i, hi => by simp only [setParts, Option.some.injEq] at h; subst h; exact .inl hi
  | (off, sz, v) :: r, cs, out, h, i, hi => by
    simp only [setParts] at h
    split at h
    · rename_i vs hv
      split at h
      · rcases ids_setParts h i hi with h1 | h1
        · unfold splice at h1
          simp only [List.flatMap_append, List.mem_append] at h1
          rcases h1 with h1 | h1 | h1
          · left
            obtain ⟨x, hx, hx'⟩ := List.mem_flatMap.1 h1
            exact List.mem_flatMap.2 ⟨x, List.mem_of_mem_take hx, hx'⟩
          · right
            rw [List.flatMap_cons, List.mem_append]
            left
            cases v <;> simp only [cellsOf, Option.some.injEq, reduceCtorEq] at hv <;> subst hv <;> first | exact h1 | (simpa [ids2] using h1)
          · left
            obtain ⟨x, hx, hx'⟩ := List.mem_flatMap.1 h1
            exact List.mem_flatMap.2 ⟨x, List.mem_of_mem_drop hx, hx'⟩
        · right
          rw [List.flatMap_cons, List.mem_append]
          exact .inr h1
      · cases h
    · cases h
theorem ids_cells {v : A} {vs : List A} (h : cellsOf v = some vs) : ∀ i, i ∈ vs.flatMap ids1 → i ∈ ids2 v := fun i hi => by
  cases v <;> simp only [cellsOf, Option.some.injEq, reduceCtorEq] at h <;> subst h <;> first | exact hi | (simpa [ids2] using hi)
def COp.isCall {α : Type} : COp α → Bool
  | .call .. => true
  | _ => false
theorem rowLen_agree {sz id : Nat} {h1 h2 : Heap} (h : h1 id = h2 id) : rowLen sz h1 id = rowLen sz h2 id := by simp only [rowLen]; rw [h]
theorem ids_d (ds : List D) : (ds.map A.d).flatMap ids1 = [] := by
  induction ds with
  | nil => rfl
  | cons d ds ih => simp only [List.map_cons, List.flatMap_cons, ih]; rfl
theorem foot_heap {co : COp A} (hc : co.isCall = false) (h1 h2 : Heap) : foot h1 co = foot h2 co := by
  cases co <;> first | rfl | cases hc
theorem aop_agree {kf : Bool} {cf : CallF} {nb : Nat} {co : COp A} (hc : co.isCall = false) {h1 h2 : Heap} (h : AgreeOn (foot h2 co) h1 h2) : aop kf cf nb h1 co = aop kf cf nb h2 co := by
  cases co with
  | call => cases hc
  | bslice sz len z full ps =>
    simp only [aop]
    split
    · cases hs : setParts (z.map A.d) (ps.map fun p => (p.1 * sz, sz, p.2)) with
      | none => rfl
      | some cs =>
        simp only
        rw [toDs_agree (h.sub (fun i hi => ?_))]
        rcases ids_setParts hs i hi with h' | h'
        · rw [ids_d] at h'; simp at h'
        · simp only [foot]
          simpa [List.flatMap_map] using h'
    · rfl
  | load agg sz x => cases x <;> first | rfl | (rename_i y; cases y <;> rfl) | (simp only [aop]; rw [h _ (by simp [foot, ids1])])
  | store sz x v =>
    cases x with
    | ptr id off => simp only [aop]; rw [h _ (by simp [foot])]
    | ep id i off =>
      simp only [aop]
      cases hv : cellsOf v with
      | none => rfl
      | some vs =>
        simp only
        rw [toDs_agree (h.sub (fun j hj => by simp only [foot, List.mem_append]; exact .inr (ids_cells hv j hj)))]
        cases toDs kf h2 vs with
        | none => rfl
        | some p =>
          obtain ⟨ds, ws⟩ := p
          simp only
          rw [h.apply ws id (by simp [foot, ids1])]
    | _ => rfl
  | b2s x =>
    cases x with
    | row id => simp only [aop]; rw [view_agree (h1 := h1) (h2 := h2) (x := .row id) h]
    | sub id lo hi w => simp only [aop]; rw [view_agree (h1 := h1) (h2 := h2) (x := .sub id lo hi w) h]
    | d y => cases y <;> rfl
    | _ => rfl
  | strish x => cases x <;> first | rfl | (rename_i y; cases y <;> rfl) | (simp only [aop]; rw [h _ (by simp [foot, ids1])])
  | slSl sz x lo hi mx => cases x <;> first | rfl | (rename_i y; cases y <;> rfl) | (simp only [aop]; rw [rowLen_agree (h _ (by simp [foot, ids1]))])
  | slArr n sz x lo hi => cases x <;> first | rfl | (rename_i y; cases y <;> rfl) | (simp only [aop]; rw [h _ (by simp [foot, ids1])])
  | ia sz x i => cases x <;> first | rfl | (rename_i y; cases y <;> rfl) | (simp only [aop]; rw [h _ (by simp [foot, ids1])])
  | look ks agg ok z m k => cases m <;> first | rfl | (rename_i y; cases y <;> rfl) | (simp only [aop]; rw [h _ (by simp [foot, ids1])])
  | len k x => cases x <;> first | rfl | (rename_i y; cases y <;> rfl) | (simp only [aop, lenK, lenOf]; rw [h _ (by simp [foot, ids1])])
  | clear z sz x => cases x <;> first | rfl | (rename_i y; cases y <;> rfl) | (simp only [aop]; rw [h _ (by simp [foot, ids1])])
  | app sz bytes x y =>
    simp only [aop]
    rw [view_agree (h.sub (fun i hi => by simp [foot, hi]))]
    cases view h2 y with
    | none => rfl
    | some p =>
      obtain ⟨ysz, ys⟩ := p
      cases x <;> first | rfl | (rename_i y; cases y <;> rfl) | (simp only; rw [h _ (by simp [foot, ids1])])
  | copy sz x y =>
    simp only [aop]
    rw [view_agree (h.sub (fun i hi => by simp [foot, hi]))]
    cases view h2 y with
    | none => rfl
    | some p =>
      obtain ⟨ysz, ys⟩ := p
      cases x <;> first | rfl | (rename_i y; cases y <;> rfl) | (simp only; rw [h _ (by simp [foot, ids1])])
  | mput ks agg m k v =>
    simp only [aop]
    rw [toD1_agree (h.sub (fun i hi => by simp [foot, hi]))]
    cases m <;> first
      | rfl
      | (rename_i y; cases y <;> rfl)
      | (cases keyOf agg k with
         | none => rfl
         | some key =>
           cases toD1 kf h2 v with
           | none => rfl
           | some p =>
             obtain ⟨x, ws⟩ := p
             simp only
             rw [h.apply ws _ (by simp [foot, ids1])])
  | _ => rfl
/-! ### Where it writes -/
def Within (fp : List Nat) (nb : Nat) (ws : Writes) : Prop := ∀ p ∈ ws, p.1 ∈ fp ∨ (nb ≤ p.1 ∧ p.1 < nb + 8)
theorem Within.nil (fp : List Nat) (nb : Nat) : Within fp nb [] := fun p hp => by simp at hp
theorem toD1_within {kf : Bool} {hp : Heap} {x : A} {d : D} {ws : Writes} {nb : Nat} (h : toD1 kf hp x = some (d, ws)) : Within (ids1 x) nb ws := by
  cases x with
  | d y => cases y <;> simp only [toD1, Option.some.injEq, Prod.mk.injEq] at h <;> rw [← h.2] <;> exact Within.nil _ _
  | row id =>
    simp only [toD1] at h
    split at h <;> simp only [Option.some.injEq, Prod.mk.injEq, reduceCtorEq] at h
    · rw [← h.2]; intro p hp; simp at hp; subst hp; exact .inl (by simp [ids1])
    · rw [← h.2]; exact Within.nil _ _
  | sub id lo hi w =>
    simp only [toD1] at h
    split at h <;> (try cases h) <;> split at h <;> simp only [Option.some.injEq, Prod.mk.injEq, reduceCtorEq] at h
    · rw [← h.2]; intro p hp; simp at hp; subst hp; exact .inl (by simp [ids1])
    · rw [← h.2]; exact Within.nil _ _
  | bs id off len sz =>
    simp only [toD1] at h
    split at h <;> (try cases h) <;> split at h <;> (try cases h) <;> split at h <;> simp only [Option.some.injEq, Prod.mk.injEq, reduceCtorEq] at h
    rw [← h.2]; intro p hp; simp at hp; subst hp; exact .inl (by simp [ids1])
  | _ => simp [toD1] at h
theorem toDs_within {kf : Bool} {nb : Nat} : ∀ {xs : List A} {hp : Heap} {ds : List D} {ws : Writes}, toDs kf hp xs = some (ds, ws) → Within (xs.flatMap ids1) nb ws
  | [], hp, ds, ws, h => by simp only [toDs, Option.some.injEq, Prod.mk.injEq] at h; rw [← h.2]; exact Within.nil _ _
  | x :: xs, hp, ds, ws, h => by
    simp only [toDs] at h
    split at h
    · rename_i y w h1
      split at h
      · rename_i ys us h2
        simp only [Option.some.injEq, Prod.mk.injEq] at h
        rw [← h.2]
        intro p hp
        rcases List.mem_append.1 hp with hp | hp
        · exact (toD1_within (nb := nb) h1 p hp).imp (fun q => by simp [q]) id
        · exact (toDs_within h2 p hp).imp (fun q => by rw [List.flatMap_cons, List.mem_append]; exact .inr q) id
      · cases h
    · cases h
theorem rowify_within : ∀ {rz : List (Nat × Nat)} {n : Nat} {cs cs' : List A} {ws : Writes}, rowify n rz cs = some (cs', ws) → ∀ p ∈ ws, n ≤ p.1 ∧ p.1 < n + rz.length
  | [], n, cs, cs', ws, h, p, hp => by simp only [rowify, Option.some.injEq, Prod.mk.injEq] at h; rw [← h.2] at hp; simp at hp
  | (off, sz) :: r, n, cs, cs', ws, h, p, hp => by
    simp only [rowify] at h
    split at h
    · split at h
      · rename_i cs2 ws2 h2
        simp only [Option.some.injEq, Prod.mk.injEq] at h
        rw [← h.2] at hp
        rcases List.mem_cons.1 hp with hp | hp
        · subst hp; simp
        · have := rowify_within h2 p hp
          simp only [List.length_cons]; omega
      · cases h
    · have := rowify_within h p hp
      simp only [List.length_cons]; omega
    · cases h
theorem Within.new {fp : List Nat} {nb : Nat} {ws : Writes} (h : ∀ p ∈ ws, nb ≤ p.1 ∧ p.1 < nb + 8) : Within fp nb ws := fun p hp => .inr (h p hp)
theorem aop_within {kf : Bool} {cf : CallF} {nb : Nat} {co : COp A} (hc : co.isCall = false) {hp : Heap} {v : A} {ws : Writes} (h : aop kf cf nb hp co = some (v, ws)) : Within (foot hp co) nb ws := by
  have triv : ∀ {u : A} {us : Writes}, some (u, ([] : Writes)) = some (v, ws) → Within (foot hp co) nb ws := fun e => by
    simp only [Option.some.injEq, Prod.mk.injEq] at e
    rw [← e.2]; exact Within.nil _ _
  cases co with
  | call => cases hc
  | alloc z rz =>
    simp only [aop] at h
    split at h
    · rename_i hl
      split at h
      · rename_i cs us h1
        simp only [Option.some.injEq, Prod.mk.injEq] at h
        rw [← h.2]
        refine Within.new (fun p hp => ?_)
        rcases List.mem_append.1 hp with hp | hp
        · have := rowify_within h1 p hp; omega
        · simp at hp; subst hp; simp
      · cases h
    · cases h
  | box sz x rz =>
    simp only [aop] at h
    split at h
    · split at h
      · rename_i hl
        split at h
        · rename_i cs us h1
          simp only [Option.some.injEq, Prod.mk.injEq] at h
          rw [← h.2]
          refine Within.new (fun p hp => ?_)
          rcases List.mem_append.1 hp with hp | hp
          · have := rowify_within h1 p hp; omega
          · simp at hp; subst hp; simp
        · cases h
      · cases h
    · cases h
  | bslice sz len z full ps =>
    simp only [aop] at h
    split at h
    · split at h
      · rename_i cs hs
        split at h
        · rename_i ds us h1
          simp only [Option.some.injEq, Prod.mk.injEq] at h
          rw [← h.2]
          intro p hp
          rcases List.mem_append.1 hp with hp | hp
          · refine (toDs_within (nb := nb) h1 p hp).imp (fun q => ?_) id
            rcases ids_setParts hs _ q with h' | h'
            · rw [ids_d] at h'; simp at h'
            · simp only [foot]; simpa [List.flatMap_map] using h'
          · simp at hp; subst hp; exact .inr ⟨by simp, by simp⟩
        · cases h
      · cases h
    · cases h
  | store sz x v0 =>
    simp only [aop] at h
    split at h
    · split at h
      · split at h
        · split at h
          · simp only [Option.some.injEq, Prod.mk.injEq] at h
            rw [← h.2]; intro p hp; simp at hp; subst hp; exact .inl (by simp [foot])
          · cases h
        · cases h
      · cases h
    · split at h
      · rename_i vs hv
        split at h
        · rename_i ds us h1
          split at h
          · split at h
            · split at h
              · simp only [Option.some.injEq, Prod.mk.injEq] at h
                rw [← h.2]
                intro p hp
                rcases List.mem_append.1 hp with hp | hp
                · exact (toDs_within (nb := nb) h1 p hp).imp (fun q => by simp only [foot, List.mem_append]; exact .inr (ids_cells hv _ q)) id
                · simp at hp; subst hp; exact .inl (by simp [foot, ids1])
              · cases h
            · cases h
          · cases h
        · cases h
      · cases h
    · cases h
  | strish x =>
    simp only [aop] at h
    split at h
    · split at h
      · simp only [Option.some.injEq, Prod.mk.injEq] at h
        rw [← h.2]; intro p hp; simp at hp; subst hp; exact .inl (by simp [foot, ids1])
      · cases h
    · cases h
  | mkmap agg =>
    simp only [aop, Option.some.injEq, Prod.mk.injEq] at h
    rw [← h.2]; exact Within.new (fun p hp => by simp at hp; subst hp; simp)
  | mkslice z sz bytes full n c =>
    simp only [aop] at h
    split at h
    · split at h
      · simp only [Option.some.injEq, Prod.mk.injEq] at h
        rw [← h.2]; exact Within.new (fun p hp => by simp at hp; subst hp; simp)
      · cases h
    · cases h
  | app sz bytes x y =>
    simp only [aop] at h
    split at h
    · cases h
    · split at h
      · split at h
        · split at h
          · simp only [Option.some.injEq, Prod.mk.injEq] at h
            rw [← h.2]; exact Within.nil _ _
          · split at h
            · simp only [Option.some.injEq, Prod.mk.injEq] at h
              rw [← h.2]; exact Within.new (fun p hp => by simp at hp; subst hp; simp)
            · cases h
        · split at h
          · split at h
            · simp only [Option.some.injEq, Prod.mk.injEq] at h
              rw [← h.2]; intro p hp; simp at hp
              rcases hp with rfl | rfl
              · exact .inl (by simp [foot, ids1])
              · exact .inr ⟨by simp, by simp⟩
            · cases h
          · cases h
        · split at h
          · split at h
            · split at h
              · simp only [Option.some.injEq, Prod.mk.injEq] at h
                rw [← h.2]; intro p hp; simp at hp; subst hp; exact .inl (by simp [foot, ids1])
              · split at h
                · simp only [Option.some.injEq, Prod.mk.injEq] at h
                  rw [← h.2]; intro p hp; simp at hp
                  rcases hp with rfl | rfl
                  · exact .inl (by simp [foot, ids1])
                  · exact .inr ⟨by simp, by simp⟩
                · cases h
            · cases h
          · cases h
        · cases h
      · cases h
  | copy sz x y =>
    simp only [aop] at h
    split at h
    · cases h
    · split at h
      · split at h
        · split at h
          · simp only [Option.some.injEq, Prod.mk.injEq] at h
            rw [← h.2]; intro p hp; simp at hp; subst hp; exact .inl (by simp [foot, ids1])
          · cases h
        · cases h
      · cases h
  | clear z sz x =>
    simp only [aop] at h
    split at h
    · split at h
      · split at h
        · simp only [Option.some.injEq, Prod.mk.injEq] at h
          rw [← h.2]; intro p hp; simp at hp; subst hp; exact .inl (by simp [foot, ids1])
        · cases h
      · cases h
    · cases h
  | mput ks agg m k v0 =>
    simp only [aop] at h
    split at h
    · rename_i id key x us hm hk hd
      split at h
      · split at h
        · split at h
          · simp only [Option.some.injEq, Prod.mk.injEq] at h
            rw [← h.2]
            intro p hp
            rcases List.mem_append.1 hp with hp | hp
            · exact (toD1_within (nb := nb) hd p hp).imp (fun q => by simp [foot, q]) (fun q => q)
            · simp at hp; subst hp; exact .inl (by simp [foot, ids1])
          · cases h
        · cases h
      · cases h
    · cases h
  | _ =>
    simp only [aop] at h
    first
      | exact triv (u := v) (us := ws) (by simpa using h)
      | (repeat' (first | (cases h; done) | (simp only [Option.some.injEq, Prod.mk.injEq, reduceCtorEq] at h; rw [← h.2]; exact Within.nil _ _) | split at h))
end Go.Vm
end
section
/- What is to be shown of a piece of code; rules for rewriting. -/
set_option linter.unusedVariables false
set_option linter.unusedSimpArgs false
set_option linter.unnecessarySimpa false
namespace Go.Vm
section
variable (kf : Bool) (prog : FuncId → Option CF) (cf : CallF)
def wpW (c : CCode) (s : St) (Q : Ex → St → Prop) [Dep c] [Dep Q] : Prop := ∃ ex s', execW kf prog c s = some (ex, s') ∧ Q ex s'
def seqK (b : CCode) (Q : Ex → St → Prop) : Ex → St → Prop
  | .normal, s => wpW kf prog b s Q
  | .exit j, s => Q (.exit j) s
  | .ret, s => Q .ret s
def blockK (id : Nat) (Q : Ex → St → Prop) : Ex → St → Prop
  | .exit j, s => if j = id then Q .normal s else Q (.exit j) s
  | .normal, s => Q .normal s
  | .ret, s => Q .ret s
def loopK (J : St → Prop) (Q : Ex → St → Prop) : Ex → St → Prop
  | .normal, s => J s
  | .exit j, s => Q (.exit j) s
  | .ret, s => Q .ret s
def condK (v : A) (a b : CCode) (s : St) (Q : Ex → St → Prop) [Dep a] [Dep b] [Dep Q] : Prop := match v with
  | .d (.bool t) => if t then wpW kf prog a s Q else wpW kf prog b s Q
  | _ => False
@[congr] theorem seqK_congr {b : CCode} {e e' : Ex} {s s' : St} {Q : Ex → St → Prop} (h : e = e') (hs : s = s') : seqK kf prog b Q e s = seqK kf prog b Q e' s' := by rw [h, hs]
@[congr] theorem blockK_congr {id : Nat} {e e' : Ex} {s s' : St} {Q : Ex → St → Prop} (h : e = e') (hs : s = s') : blockK id Q e s = blockK id Q e' s' := by rw [h, hs]
@[congr] theorem loopK_congr {J : St → Prop} {e e' : Ex} {s s' : St} {Q : Ex → St → Prop} (h : e = e') (hs : s = s') : loopK J Q e s = loopK J Q e' s' := by rw [h, hs]
variable {kf prog}
theorem exS {e : Ex} {s : St} {Q : Ex → St → Prop} : (∃ ex s', some (e, s) = some (ex, s') ∧ Q ex s') ↔ Q e s :=
  ⟨fun ⟨_, _, h, hq⟩ => (by cases h; exact hq), fun h => ⟨_, _, rfl, h⟩⟩
theorem exN {Q : Ex → St → Prop} : (∃ ex s', (none : Option (Ex × St)) = some (ex, s') ∧ Q ex s') ↔ False :=
  ⟨fun ⟨_, _, h, _⟩ => (by cases h), fun h => False.elim h⟩
theorem wp_skip' (s : St) (Q : Ex → St → Prop) : wpW kf prog .skip s Q = Q .normal s := by
  unfold wpW; rw [execW_skip, eq_iff_iff]; exact exS
theorem wp_exit' (id : Nat) (s : St) (Q : Ex → St → Prop) : wpW kf prog (.exit id) s Q = Q (.exit id) s := by
  unfold wpW; rw [execW_exit, eq_iff_iff]; exact exS
theorem wp_ret' (s : St) (Q : Ex → St → Prop) : wpW kf prog .ret s Q = Q .ret s := by
  unfold wpW; rw [execW_ret, eq_iff_iff]; exact exS
theorem wp_seq' (a b : CCode) (s : St) (Q : Ex → St → Prop) : wpW kf prog (.seq a b) s Q = wpW kf prog a s (seqK kf prog b Q) := by
  unfold wpW
  rw [execW_seq, eq_iff_iff]
  cases execW kf prog a s with
  | none => rw [exN, exN]
  | some p =>
    obtain ⟨e, s1⟩ := p
    cases e with
    | normal => rw [exS]; rfl
    | ret => rw [exS, exS]; exact Iff.rfl
    | exit j => rw [exS, exS]; exact Iff.rfl
theorem seqK_n (b : CCode) (Q : Ex → St → Prop) (s : St) : seqK kf prog b Q .normal s = wpW kf prog b s Q := rfl
theorem seqK_e (b : CCode) (Q : Ex → St → Prop) (j : Nat) (s : St) : seqK kf prog b Q (.exit j) s = Q (.exit j) s := rfl
theorem seqK_r (b : CCode) (Q : Ex → St → Prop) (s : St) : seqK kf prog b Q .ret s = Q .ret s := rfl
theorem wp_block' (id : Nat) (c : CCode) (s : St) (Q : Ex → St → Prop) : wpW kf prog (.block id c) s Q = wpW kf prog c s (blockK id Q) := by
  unfold wpW
  rw [execW_block, eq_iff_iff]
  cases execW kf prog c s with
  | none => rw [exN, exN]
  | some p =>
    obtain ⟨e, s1⟩ := p
    cases e with
    | normal => rw [exS, exS]; exact Iff.rfl
    | ret => rw [exS, exS]; exact Iff.rfl
    | exit j =>
      rw [exS]
      by_cases h : j = id
      · simp only [if_pos h, blockK]; exact exS
      · simp only [if_neg h, blockK]; exact exS
theorem blockK_n (id : Nat) (Q : Ex → St → Prop) (s : St) : blockK id Q .normal s = Q .normal s := rfl
theorem blockK_r (id : Nat) (Q : Ex → St → Prop) (s : St) : blockK id Q .ret s = Q .ret s := rfl
theorem blockK_e (id j : Nat) (Q : Ex → St → Prop) (s : St) : blockK id Q (.exit j) s = if j = id then Q .normal s else Q (.exit j) s := rfl
theorem wp_cond' (c : COpd) (a b : CCode) (s : St) (Q : Ex → St → Prop) : wpW kf prog (.cond c a b) s Q = condK kf prog (val s.sl c) a b s Q := by
  unfold wpW
  rw [execW_cond]
  cases val s.sl c with
  | d x =>
    cases x with
    | bool t => cases t <;> simp [condK, wpW]
    | _ => simp [condK]
  | _ => simp [condK]
theorem condK_t (a b : CCode) (s : St) (Q : Ex → St → Prop) : condK kf prog (.d (.bool true)) a b s Q = wpW kf prog a s Q := by simp [condK]
theorem condK_f (a b : CCode) (s : St) (Q : Ex → St → Prop) : condK kf prog (.d (.bool false)) a b s Q = wpW kf prog b s Q := by simp [condK]
/-- A test that is not decided: both ways. -/
theorem condK_of {p : Prop} [Decidable p] {a b : CCode} {s : St} {Q : Ex → St → Prop} (h1 : p → wpW kf prog a s Q) (h2 : ¬ p → wpW kf prog b s Q) : condK kf prog (.d (.bool (decide p))) a b s Q := by
  by_cases h : p <;> simp [condK, h, h1, h2]
theorem condK_ofB {t : Bool} {a b : CCode} {s : St} {Q : Ex → St → Prop} (h1 : t = true → wpW kf prog a s Q) (h2 : t = false → wpW kf prog b s Q) : condK kf prog (.d (.bool t)) a b s Q := by
  cases t <;> simp [condK, h1, h2]
theorem loopK_n (J : St → Prop) (Q : Ex → St → Prop) (s : St) : loopK J Q .normal s = J s := rfl
theorem loopK_e (J : St → Prop) (Q : Ex → St → Prop) (j : Nat) (s : St) : loopK J Q (.exit j) s = Q (.exit j) s := rfl
theorem loopK_r (J : St → Prop) (Q : Ex → St → Prop) (s : St) : loopK J Q .ret s = Q .ret s := rfl
theorem wp_mono {c : CCode} {s : St} {Q Q' : Ex → St → Prop} (h : wpW kf prog c s Q) (hq : ∀ e s, Q e s → Q' e s) : wpW kf prog c s Q' := by
  obtain ⟨e, s', h1, h2⟩ := h
  exact ⟨e, s', h1, hq _ _ h2⟩
/-- A loop: what holds at the head of each round, and how many rounds are left at most. -/
theorem wp_loop' {keep : List (Nat × Option Nat)} {c : CCode} {Q : Ex → St → Prop} (I : Nat → St → Prop) (step : ∀ n s, I n s → wpW kf prog c s (loopK (fun s' => ∃ k, k < n ∧ I k (gc keep s')) Q)) {n : Nat} {s : St} (h0 : I n (gc keep s)) : wpW kf prog (.loop keep c) s Q := by
  induction n using Nat.strongRecOn generalizing s with
  | _ n ih =>
    obtain ⟨e, s', h1, h2⟩ := step n _ h0
    unfold wpW
    rw [execW_loop, h1]
    cases e with
    | normal =>
      obtain ⟨k, hk, hI⟩ := h2
      exact ih k hk hI
    | exit j => exact ⟨_, _, rfl, h2⟩
    | ret => exact ⟨_, _, rfl, h2⟩
/-- The same; what is to be shown behind a round is not looked into. -/
theorem wp_loopJ {keep : List (Nat × Option Nat)} {c : CCode} {Q : Ex → St → Prop} (I : Nat → St → Prop) (step : ∀ n s (J : St → Prop), (∀ k s', k < n → I k (gc keep s') → J s') → I n s → wpW kf prog c s (loopK J Q)) {n : Nat} {s : St} (h0 : I n (gc keep s)) : wpW kf prog (.loop keep c) s Q :=
  wp_loop' I (fun n s h => step n s _ (fun k s' hk h' => ⟨k, hk, h'⟩) h) h0
/-- One round of a loop by hand. -/
theorem wp_loop1 {keep : List (Nat × Option Nat)} {c : CCode} {Q : Ex → St → Prop} {s : St} (h : wpW kf prog c (gc keep s) (loopK (fun s' => wpW kf prog (.loop keep c) s' Q) Q)) : wpW kf prog (.loop keep c) s Q := by
  obtain ⟨e, s', h1, h2⟩ := h
  unfold wpW
  rw [execW_loop, h1]
  cases e with
  | normal => exact h2
  | exit j => exact ⟨_, _, rfl, h2⟩
  | ret => exact ⟨_, _, rfl, h2⟩
/-! ### Regions -/
def addF (m : Nat) (dy : List Nat) : Writes → List Nat
  | [] => []
  | (k, _) :: ws => if k < m then (if dy.contains k then addF m dy ws else k :: addF m dy ws) else addF m dy ws
def addD (m : Nat) (ws : Writes) (dy : List Nat) : List Nat := dy ++ addF m dy ws
theorem addD_eq (m : Nat) (ws : Writes) (dy : List Nat) : dy ++ (ws.map (·.1)).filter (fun i => i < m && !dy.contains i) = addD m ws dy := by
  unfold addD
  congr 1
  induction ws with
  | nil => rfl
  | cons p ws ih =>
    obtain ⟨k, c⟩ := p
    simp only [List.map_cons, List.filter_cons, addF, ih]
    by_cases h : k < m
    · by_cases h2 : k ∈ dy <;> simp [h, h2]
    · simp [h]
theorem addD_nil (m : Nat) (dy : List Nat) : addD m [] dy = dy := by simp [addD, addF]
theorem addD_zero (ws : Writes) (dy : List Nat) : addD 0 ws dy = dy := by
  have : addF 0 dy ws = [] := by
    induction ws with
    | nil => rfl
    | cons p ws ih => obtain ⟨k, c⟩ := p; simp [addF, ih]
  simp [addD, this]
def nin : List Nat → Nat → Bool
  | [], _ => false
  | j :: r, k => if j = k then true else nin r k
theorem nin_nil (k : Nat) : nin [] k = false := rfl
theorem nin_cons (j : Nat) (r : List Nat) (k : Nat) : nin (j :: r) k = if j = k then true else nin r k := rfl
theorem nin_eq (l : List Nat) (k : Nat) : l.contains k = nin l k := by
  induction l with
  | nil => rfl
  | cons j r ih =>
    simp only [nin, ← ih, List.contains_cons]
    by_cases h : j = k
    · subst h; simp
    · have : (k == j) = false := by simp; exact fun e => h e.symm
      simp [this, h]
theorem addD_cons (m k : Nat) (c : Chunk) (ws : Writes) (dy : List Nat) : addD (m + 1) ((k, c) :: ws) dy = dy ++ (if k < m + 1 then (if nin dy k then addF (m + 1) dy ws else k :: addF (m + 1) dy ws) else addF (m + 1) dy ws) := by
  simp only [addD, addF, nin_eq]
theorem addF_nil (m : Nat) (dy : List Nat) : addF m dy [] = [] := rfl
theorem addF_cons (m k : Nat) (c : Chunk) (ws : Writes) (dy : List Nat) : addF m dy ((k, c) :: ws) = if k < m then (if nin dy k then addF m dy ws else k :: addF m dy ws) else addF m dy ws := by
  simp only [addF, nin_eq]
variable (kf)
def opsW0 (nb : Nat) : List CO → Nat → St → (St → Prop) → Prop
  | [], _, s, Q => Q s
  | o :: r, i, s, Q => ∃ s' f w, astep kf cf o (nb + 8 * i) s = some (s', f, w) ∧ opsW0 nb r (i + 1) s' Q
def opsD0 (nb : Nat) : List CO → Nat → St → List (CO × List Nat × List Nat) → (St → List (CO × List Nat × List Nat) → Prop) → Prop
  | [], _, s, acc, Q => Q s acc
  | o :: r, i, s, acc, Q => ∃ s' f w, astep kf cf o (nb + 8 * i) s = some (s', f, w) ∧ opsD0 nb r (i + 1) s' (acc ++ [(o, f, w)]) Q
def opsW (nb : Nat) (os : List CO) (i : Nat) (s : St) (Q : St → Prop) [Dep Q] : Prop := opsW0 kf cf nb os i s Q
def opsD (nb : Nat) (os : List CO) (i : Nat) (s : St) (acc : List (CO × List Nat × List Nat)) (Q : St → List (CO × List Nat × List Nat) → Prop) [Dep acc] [Dep Q] : Prop := opsD0 kf cf nb os i s acc Q
variable {kf cf}
theorem opsW_of0 {nb : Nat} : ∀ {os : List CO} {i : Nat} {s : St} {Q : St → Prop}, opsW0 kf cf nb os i s Q ↔ ∃ s' l, aops kf cf nb os i s = some (s', l) ∧ Q s'
  | [], i, s, Q => by simp [opsW0, aops]
  | o :: r, i, s, Q => by
    simp only [opsW0, aops]
    constructor
    · rintro ⟨s', f, w, h1, h2⟩
      obtain ⟨s2, l, h3, h4⟩ := opsW_of0.1 h2
      exact ⟨s2, (o, f, w) :: l, by rw [h1]; simp only; rw [h3], h4⟩
    · rintro ⟨s2, l, h1, h2⟩
      split at h1
      · rename_i s' f w h3
        split at h1
        · rename_i s3 l' h4
          simp only [Option.some.injEq, Prod.mk.injEq] at h1
          obtain ⟨rfl, rfl⟩ := h1
          exact ⟨s', f, w, h3, opsW_of0.2 ⟨_, _, h4, h2⟩⟩
        · cases h1
      · cases h1
theorem opsW_of {nb : Nat} {os : List CO} {i : Nat} {s : St} {Q : St → Prop} : opsW kf cf nb os i s Q ↔ ∃ s' l, aops kf cf nb os i s = some (s', l) ∧ Q s' := opsW_of0
theorem opsD_of0 {nb : Nat} : ∀ {os : List CO} {i : Nat} {s : St} {acc : List (CO × List Nat × List Nat)} {Q : St → List (CO × List Nat × List Nat) → Prop}, opsD0 kf cf nb os i s acc Q ↔ ∃ s' l, aops kf cf nb os i s = some (s', l) ∧ Q s' (acc ++ l)
  | [], i, s, acc, Q => by
    simp only [opsD0, aops]
    exact ⟨fun h => ⟨s, [], rfl, by simpa using h⟩, fun ⟨_, _, h, hq⟩ => by cases h; simpa using hq⟩
  | o :: r, i, s, acc, Q => by
    simp only [opsD0, aops]
    constructor
    · rintro ⟨s', f, w, h1, h2⟩
      obtain ⟨s2, l, h3, h4⟩ := opsD_of0.1 h2
      exact ⟨s2, (o, f, w) :: l, by rw [h1]; simp only; rw [h3], by simpa using h4⟩
    · rintro ⟨s2, l, h1, h2⟩
      split at h1
      · rename_i s' f w h3
        split at h1
        · rename_i s3 l' h4
          simp only [Option.some.injEq, Prod.mk.injEq] at h1
          obtain ⟨rfl, rfl⟩ := h1
          exact ⟨s', f, w, h3, opsD_of0.2 ⟨_, _, h4, by simpa using h2⟩⟩
        · cases h1
      · cases h1
theorem opsD_of {nb : Nat} {os : List CO} {i : Nat} {s : St} {acc : List (CO × List Nat × List Nat)} {Q : St → List (CO × List Nat × List Nat) → Prop} : opsD kf cf nb os i s acc Q ↔ ∃ s' l, aops kf cf nb os i s = some (s', l) ∧ Q s' (acc ++ l) := opsD_of0
def keepL (keep : Option (List Nat)) (sl : Nat → A) : Nat → A := match keep with
  | some ks => mask ks sl
  | none => sl
theorem keepL_some (ks : List Nat) (L : List (Nat × A)) : keepL (some ks) (gS L) = gS (mL L ks) := mask_gS L ks
theorem keepL_none (sl : Nat → A) : keepL none sl = sl := rfl
def regK (keep : Option (List Nat)) (nx : Nat) (Q : Ex → St → Prop) (s : St) : Prop := Q .normal ⟨keepL keep s.sl, s.hp, nx, s.m, s.dirty⟩
@[congr] theorem regK_congr {keep : Option (List Nat)} {nx nx' : Nat} {s s' : St} {Q : Ex → St → Prop} (h : nx = nx') (hs : s = s') : regK keep nx Q s = regK keep nx' Q s' := by rw [h, hs]
theorem regK_eq (keep : Option (List Nat)) (nx n0 m : Nat) (Q : Ex → St → Prop) (sl : Nat → A) (hp : Heap) (dy : List Nat) : regK keep nx Q ⟨sl, hp, n0, m, dy⟩ = Q .normal ⟨keepL keep sl, hp, nx, m, dy⟩ := rfl
def regD (keep : Option (List Nat)) (nx : Nat) (Q : Ex → St → Prop) (s : St) (l : List (CO × List Nat × List Nat)) : Prop := pairsOk l 0 = true ∧ Q .normal ⟨keepL keep s.sl, s.hp, nx, s.m, s.dirty⟩
theorem regD_of {keep : Option (List Nat)} {nx n0 m : Nat} {Q : Ex → St → Prop} {sl : Nat → A} {hp : Heap} {dy : List Nat} {l : List (CO × List Nat × List Nat)} (h : pairsOk l 0 = true) (hq : Q .normal ⟨keepL keep sl, hp, nx, m, dy⟩) : regD keep nx Q ⟨sl, hp, n0, m, dy⟩ l := ⟨h, hq⟩
theorem wp_reg' (os : List CO) (keep : Option (List Nat)) (sl : Nat → A) (hp : Heap) (nx m : Nat) (dy : List Nat) (Q : Ex → St → Prop) : wpW kf prog (.reg os false keep) ⟨sl, hp, nx, m, dy⟩ Q = opsW kf (callW kf prog) nx os 0 ⟨sl, hp, nx, m, dy⟩ (regK keep (nx + 8 * os.length) Q) := by
  rw [eq_iff_iff, opsW_of]
  unfold wpW
  rw [execW_reg]
  cases aops kf (callW kf prog) nx os 0 ⟨sl, hp, nx, m, dy⟩ with
  | none => simp
  | some p =>
    obtain ⟨s', l⟩ := p
    simp only [Bool.false_and, Bool.false_eq_true, if_false]
    rw [exS]
    exact ⟨fun h => ⟨s', l, rfl, h⟩, fun ⟨_, _, h, hq⟩ => by cases h; exact hq⟩
theorem wp_regD' (os : List CO) (keep : Option (List Nat)) (sl : Nat → A) (hp : Heap) (nx m : Nat) (dy : List Nat) (Q : Ex → St → Prop) : wpW kf prog (.reg os true keep) ⟨sl, hp, nx, m, dy⟩ Q = opsD kf (callW kf prog) nx os 0 ⟨sl, hp, nx, m, dy⟩ [] (regD keep (nx + 8 * os.length) Q) := by
  rw [eq_iff_iff, opsD_of]
  unfold wpW
  rw [execW_reg]
  cases aops kf (callW kf prog) nx os 0 ⟨sl, hp, nx, m, dy⟩ with
  | none => simp
  | some p =>
    obtain ⟨s', l⟩ := p
    by_cases h : pairsOk l 0 = true
    · simp only [h, Bool.not_true, Bool.and_false, Bool.false_eq_true, if_false]
      rw [exS]
      exact ⟨fun hq => ⟨s', l, rfl, h, hq⟩, fun ⟨_, _, h, hq⟩ => by cases h; exact hq.2⟩
    · have h' : pairsOk l 0 = false := by simpa using h
      simp only [h', Bool.not_false, Bool.and_true, if_true]
      rw [exN]
      exact ⟨fun h => h.elim, fun ⟨_, _, e, hq⟩ => by cases e; exact h hq.1⟩
def opK (x : Option (A × Writes)) (k : A × Writes → Prop) [Dep k] : Prop := ∃ p, x = some p ∧ k p
theorem opK_some (p : A × Writes) (k : A × Writes → Prop) : opK (some p) k = k p := by simp [opK]
theorem opK_of {x : Option (A × Writes)} {k : A × Writes → Prop} {p : A × Writes} (h : x = some p) (hk : k p) : opK x k := ⟨p, h, hk⟩
theorem astep_op {o : COp COpd} (hc : o.isCall = false) (d : Option Nat) (b nb : Nat) (s : St) : astep kf cf ⟨d, o, none, b⟩ nb s = match aop kf cf nb s.hp (o.mapO (val s.sl)) with
    | some (v, ws) => some ({ s with sl := setDst s.sl d v, hp := applyW s.hp ws, dirty := addD s.m ws s.dirty }, foot s.hp (o.mapO (val s.sl)), ws.map (·.1))
    | none => none := by
  have hc' : (o.mapO (val s.sl)).isCall = false := by cases o <;> first | rfl | cases hc
  unfold astep
  simp only [wantedA]
  rw [aop_agree hc' (h1 := restrict s.hp (foot s.hp (o.mapO (val s.sl)))) (h2 := s.hp) (restrict_agree _ _)]
  cases hv : aop kf cf nb s.hp (o.mapO (val s.sl)) with
  | none => rfl
  | some p =>
    obtain ⟨v, ws⟩ := p
    have hw := aop_within hc' hv
    simp only
    rw [if_pos, addD_eq]
    rw [List.all_eq_true]
    intro p hp
    rcases hw p hp with h | h
    · simp [h]
    · simp [h]
def stK (nb : Nat) (d : Option Nat) (r : List CO) (i : Nat) (L : List (Nat × A)) (hp : Heap) (nx m : Nat) (dy : List Nat) (Q : St → Prop) (p : A × Writes) : Prop :=
  opsW kf cf nb r (i + 1) ⟨gS (setL d p.1 L), applyW hp p.2, nx, m, addD m p.2 dy⟩ Q
@[congr] theorem stK_congr {nb : Nat} {d : Option Nat} {r : List CO} {i : Nat} {L : List (Nat × A)} {hp : Heap} {nx m : Nat} {dy : List Nat} {Q : St → Prop} {p p' : A × Writes} (h : p = p') : stK (kf := kf) (cf := cf) nb d r i L hp nx m dy Q p = stK (kf := kf) (cf := cf) nb d r i L hp nx m dy Q p' := by rw [h]
variable (kf cf)
theorem stK_eq (nb : Nat) (d : Option Nat) (r : List CO) (i : Nat) (L : List (Nat × A)) (hp : Heap) (nx m : Nat) (dy : List Nat) (Q : St → Prop) (v : A) (ws : Writes) : stK (kf := kf) (cf := cf) nb d r i L hp nx m dy Q (v, ws) = opsW kf cf nb r (i + 1) ⟨gS (setL d v L), applyW hp ws, nx, m, addD m ws dy⟩ Q := rfl
theorem opsW_nil (nb i : Nat) (s : St) (Q : St → Prop) : opsW kf cf nb [] i s Q = Q s := rfl
theorem opsW_op (nb : Nat) (d : Option Nat) (o : COp COpd) (b : Nat) (r : List CO) (i : Nat) (L : List (Nat × A)) (hp : Heap) (nx m : Nat) (dy : List Nat) (Q : St → Prop) (hc : o.isCall = false) :
    opsW kf cf nb (⟨d, o, none, b⟩ :: r) i ⟨gS L, hp, nx, m, dy⟩ Q = opK (aop kf cf (nb + 8 * i) hp (o.mapO (val (gS L)))) (stK (kf := kf) (cf := cf) nb d r i L hp nx m dy Q) := by
  rw [eq_iff_iff]
  simp only [opsW, opsW0]
  rw [astep_op hc]
  simp only
  cases aop kf cf (nb + 8 * i) hp (o.mapO (val (gS L))) with
  | none => simp [opK]
  | some p =>
    obtain ⟨v, ws⟩ := p
    simp only [opK_some, stK, setDst_gS]
    constructor
    · rintro ⟨s', f, w, h1, h2⟩
      simp only [Option.some.injEq, Prod.mk.injEq] at h1
      obtain ⟨rfl, _, _⟩ := h1
      exact h2
    · intro h
      exact ⟨_, _, _, rfl, h⟩
def okW (fp : List Nat) (nb : Nat) (ws : Writes) : Bool := ws.all fun p => fp.contains p.1 || (nb ≤ p.1 && p.1 < nb + 8)
/-- A call. -/
theorem opsW_call {nb : Nat} {d : Option Nat} {f : COpd} {as : List COpd} {b : Nat} {r : List CO} {i : Nat} {L : List (Nat × A)} {hp : Heap} {nx m : Nat} {dy : List Nat} {Q : St → Prop} {v : A} {ws : Writes} {fp : List Nat}
    (hf : reach hp 1000 (val (gS L) f :: as.map (val (gS L))) [] = fp)
    (h : aop kf cf (nb + 8 * i) (restrict hp fp) (.call (val (gS L) f) (as.map (val (gS L)))) = some (v, ws)) (hw : okW fp (nb + 8 * i) ws = true)
    (hk : opsW kf cf nb r (i + 1) ⟨gS (setL d v L), applyW hp ws, nx, m, addD m ws dy⟩ Q) : opsW kf cf nb (⟨d, .call f as, none, b⟩ :: r) i ⟨gS L, hp, nx, m, dy⟩ Q := by
  simp only [opsW, opsW0]
  refine ⟨⟨gS (setL d v L), applyW hp ws, nx, m, addD m ws dy⟩, fp, ws.map (·.1), ?_, hk⟩
  subst hf
  unfold astep
  simp only [wantedA, COp.mapO, foot]
  rw [h]
  simp only
  have hw' : (ws.all fun p => (reach hp 1000 (val (gS L) f :: as.map (val (gS L))) []).contains p.1 || (decide (nb + 8 * i ≤ p.1) && decide (p.1 < nb + 8 * i + 8))) = true := hw
  simp only [hw', if_true, addD_eq, setDst_gS]
/-- An operation that is guarded. -/
theorem opsW_gt {nb : Nat} {d : Option Nat} {o : COp COpd} {j : Nat} {want : Bool} {b : Nat} {r : List CO} {i : Nat} {s : St} {Q : St → Prop} (hg : s.sl j = .d (.bool want)) (h : opsW kf cf nb (⟨d, o, none, b⟩ :: r) i s Q) : opsW kf cf nb (⟨d, o, some (j, want), b⟩ :: r) i s Q := by
  simp only [opsW, opsW0] at h ⊢
  obtain ⟨s', f, w, h1, h2⟩ := h
  refine ⟨s', f, w, ?_, h2⟩
  unfold astep at h1 ⊢
  simp only [wantedA, hg, beq_self_eq_true] at h1 ⊢
  exact h1
theorem opsW_gf {nb : Nat} {d : Option Nat} {o : COp COpd} {j : Nat} {want : Bool} {b : Nat} {r : List CO} {i : Nat} {L : List (Nat × A)} {hp : Heap} {nx m : Nat} {dy : List Nat} {Q : St → Prop} (hg : gS L j = .d (.bool (!want)) ∨ gS L j = .tup []) (h : opsW kf cf nb r (i + 1) ⟨gS (setL d (.tup []) L), hp, nx, m, dy⟩ Q) : opsW kf cf nb (⟨d, o, some (j, want), b⟩ :: r) i ⟨gS L, hp, nx, m, dy⟩ Q := by
  simp only [opsW, opsW0]
  refine ⟨_, [], [], ?_, h⟩
  unfold astep
  rcases hg with hg | hg
  · cases want <;> simp only [wantedA, hg, setDst_gS, beq_iff_eq, Bool.not_true, Bool.not_false] <;> rfl
  · simp only [wantedA, hg, setDst_gS]
end
end Go.Vm
end
