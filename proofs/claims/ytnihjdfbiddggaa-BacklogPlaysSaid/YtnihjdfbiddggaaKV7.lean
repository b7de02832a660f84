/- A part of the proof of BacklogPlaysSaid: VmRules VmRulesW VmCallR VmSet VmArith. -/
import Derived.Test.YtnihjdfbiddggaaKV6
section
/- Rules for rewriting: operands, the head of a loop, the begin and the end of a call. -/
set_option linter.unusedVariables false
set_option linter.unusedSimpArgs false
set_option linter.unnecessarySimpa false
namespace Go.Vm
theorem val_t (L : List (Nat × A)) (k : Nat) : val (gS L) (.t k) = gS L k := rfl
theorem val_c (L : List (Nat × A)) (a : A) : val (gS L) (.c a) = a := rfl
section
variable {α β : Type} (f : α → β)
theorem p_mv (x : α) : (COp.mv x).mapO f = .mv (f x) := rfl
theorem p_pick (c a b : α) : (COp.pick c a b).mapO f = .pick (f c) (f a) (f b) := rfl
theorem p_alloc (z : List A) (rz : List (Nat × Nat)) : (COp.alloc z rz : COp α).mapO f = .alloc z rz := rfl
theorem p_box (sz : Nat) (x : α) (rz : List (Nat × Nat)) : (COp.box sz x rz).mapO f = .box sz (f x) rz := rfl
def mapP (f : α → β) : List (Nat × Nat × α) → List (Nat × Nat × β)
  | [] => []
  | (i, j, x) :: r => (i, j, f x) :: mapP f r
theorem mapP_nil : mapP f [] = [] := rfl
theorem mapP_cons (i j : Nat) (x : α) (r : List (Nat × Nat × α)) : mapP f ((i, j, x) :: r) = (i, j, f x) :: mapP f r := rfl
theorem p_build (z : List A) (ps : List (Nat × Nat × α)) : (COp.build z ps).mapO f = .build z (mapP f ps) := by
  have : (ps.map fun p => (p.1, p.2.1, f p.2.2)) = mapP f ps := by
    induction ps with
    | nil => rfl
    | cons p ps ih => obtain ⟨i, j, x⟩ := p; simp only [List.map_cons, ih, mapP]
  simp only [COp.mapO, this]
def mapQ (f : α → β) : List (Nat × α) → List (Nat × β)
  | [] => []
  | (i, x) :: r => (i, f x) :: mapQ f r
theorem mapQ_nil : mapQ f [] = [] := rfl
theorem mapQ_cons (i : Nat) (x : α) (r : List (Nat × α)) : mapQ f ((i, x) :: r) = (i, f x) :: mapQ f r := rfl
theorem p_bslice (sz ln : Nat) (z : List D) (full : Bool) (ps : List (Nat × α)) : (COp.bslice sz ln z full ps).mapO f = .bslice sz ln z full (mapQ f ps) := by
  have : (ps.map fun p => (p.1, f p.2)) = mapQ f ps := by
    induction ps with
    | nil => rfl
    | cons p ps ih => obtain ⟨i, x⟩ := p; simp only [List.map_cons, ih, mapQ]
  simp only [COp.mapO, this]
theorem p_load (a : Bool) (s : Nat) (x : α) : (COp.load a s x).mapO f = .load a s (f x) := rfl
theorem p_store (s : Nat) (x v : α) : (COp.store s x v).mapO f = .store s (f x) (f v) := rfl
theorem p_nilck (x : α) : (COp.nilck x).mapO f = .nilck (f x) := rfl
theorem p_bin (k : BK) (op : BinOp) (x y : α) : (COp.bin k op x y).mapO f = .bin k op (f x) (f y) := rfl
theorem p_eqs (ks : List BK) (n : Bool) (x y : α) : (COp.eqs ks n x y).mapO f = .eqs ks n (f x) (f y) := rfl
theorem p_un (op : UnOp) (x : α) : (COp.un op x).mapO f = .un op (f x) := rfl
theorem p_conv (k : IntKind) (x : α) : (COp.conv k x).mapO f = .conv k (f x) := rfl
theorem p_same (x : α) : (COp.same x).mapO f = .same (f x) := rfl
theorem p_strish (x : α) : (COp.strish x).mapO f = .strish (f x) := rfl
theorem p_b2s (x : α) : (COp.b2s x).mapO f = .b2s (f x) := rfl
theorem p_s2a (n : Nat) (x : α) : (COp.s2a n x).mapO f = .s2a n (f x) := rfl
theorem p_mkfn (g : FuncId) (cs : List α) : (COp.mkfn g cs).mapO f = .mkfn g (cs.map f) := rfl
theorem p_mkmap (a : Bool) : (COp.mkmap a : COp α).mapO f = .mkmap a := rfl
theorem p_mkslice (z : List D) (s b : Nat) (full : Bool) (n c : α) : (COp.mkslice z s b full n c).mapO f = .mkslice z s b full (f n) (f c) := rfl
def mapM1 (f : α → β) : Option α → Option β
  | none => none
  | some x => some (f x)
theorem mapM1_none : mapM1 f none = none := rfl
theorem mapM1_some (x : α) : mapM1 f (some x) = some (f x) := rfl
theorem mapM1_eq (x : Option α) : x.map f = mapM1 f x := by cases x <;> rfl
theorem p_slStr (x : α) (lo hi : Option α) : (COp.slStr x lo hi).mapO f = .slStr (f x) (mapM1 f lo) (mapM1 f hi) := by simp only [COp.mapO, mapM1_eq]
theorem p_slSl (s : Nat) (x : α) (lo hi mx : Option α) : (COp.slSl s x lo hi mx).mapO f = .slSl s (f x) (mapM1 f lo) (mapM1 f hi) (mapM1 f mx) := by simp only [COp.mapO, mapM1_eq]
theorem p_slArr (n s : Nat) (x : α) (lo hi : Option α) : (COp.slArr n s x lo hi).mapO f = .slArr n s (f x) (mapM1 f lo) (mapM1 f hi) := by simp only [COp.mapO, mapM1_eq]
theorem p_fa (o : Nat) (x : α) : (COp.fa o x).mapO f = .fa o (f x) := rfl
theorem p_fld (a : Bool) (o s : Nat) (x : α) : (COp.fld a o s x).mapO f = .fld a o s (f x) := rfl
theorem p_ia (s : Nat) (x i : α) : (COp.ia s x i).mapO f = .ia s (f x) (f i) := rfl
theorem p_iaArr (n s : Nat) (x i : α) : (COp.iaArr n s x i).mapO f = .iaArr n s (f x) (f i) := rfl
theorem p_idxStr (x i : α) : (COp.idxStr x i).mapO f = .idxStr (f x) (f i) := rfl
theorem p_idxArr (a : Bool) (n s : Nat) (x i : α) : (COp.idxArr a n s x i).mapO f = .idxArr a n s (f x) (f i) := rfl
theorem p_look (ks : List BK) (a ok : Bool) (z : D) (m k : α) : (COp.look ks a ok z m k).mapO f = .look ks a ok z (f m) (f k) := rfl
theorem p_mput (ks : List BK) (a : Bool) (m k v : α) : (COp.mput ks a m k v).mapO f = .mput ks a (f m) (f k) (f v) := rfl
theorem p_ext (i : Nat) (x : α) : (COp.ext i x).mapO f = .ext i (f x) := rfl
theorem p_len (k : BK) (x : α) : (COp.len k x).mapO f = .len k (f x) := rfl
theorem p_app (s b : Nat) (x y : α) : (COp.app s b x y).mapO f = .app s b (f x) (f y) := rfl
theorem p_copy (s : Nat) (x y : α) : (COp.copy s x y).mapO f = .copy s (f x) (f y) := rfl
theorem p_clear (z : List D) (s : Nat) (x : α) : (COp.clear z s x).mapO f = .clear z s (f x) := rfl
theorem p_min (x : α) (ys : List α) : (COp.min x ys).mapO f = .min (f x) (ys.map f) := rfl
theorem p_max (x : α) (ys : List α) : (COp.max x ys).mapO f = .max (f x) (ys.map f) := rfl
end
/-! the parts of a new slice: place, cells -/
def mapR (sz : Nat) : List (Nat × A) → List (Nat × Nat × A)
  | [] => []
  | (i, x) :: r => (i * sz, sz, x) :: mapR sz r
theorem mapR_nil (sz : Nat) : mapR sz [] = [] := rfl
theorem mapR_cons (sz i : Nat) (x : A) (r : List (Nat × A)) : mapR sz ((i, x) :: r) = (i * sz, sz, x) :: mapR sz r := rfl
theorem mapR_eq (sz : Nat) (ps : List (Nat × A)) : (ps.map fun p => (p.1 * sz, sz, p.2)) = mapR sz ps := by
  induction ps with
  | nil => rfl
  | cons p ps ih => obtain ⟨i, x⟩ := p; simp only [List.map_cons, ih, mapR]
def dA : List D → List A
  | [] => []
  | x :: r => .d x :: dA r
theorem dA_nil : dA [] = [] := rfl
theorem dA_cons (x : D) (r : List D) : dA (x :: r) = .d x :: dA r := rfl
theorem dA_eq (ds : List D) : ds.map A.d = dA ds := by
  induction ds with
  | nil => rfl
  | cons d ds ih => simp only [List.map_cons, ih, dA]
theorem q_bslice (kf : Bool) (cf : CallF) (nb : Nat) (hp : Heap) (sz len : Nat) (z : List D) (full : Bool) (ps : List (Nat × A)) : aop kf cf nb hp (.bslice sz len z full ps) = ifs (z.length = len * sz) (ob (setParts (dA z) (mapR sz ps)) (bslC kf hp nb sz len full)) := by
  rw [o_bslice, mapR_eq, dA_eq]
/-! ### Numbers anew -/
def rP (c : Nat → A) : Option Nat → A
  | some j => c j
  | none => .un
theorem rP_some (c : Nat → A) (j : Nat) : rP c (some j) = c j := rfl
theorem rP_none (c : Nat → A) : rP c none = .un := rfl
section
variable (σ : Nat → Option Nat)
theorem ren_d (x : D) : ren σ (.d x) = .d x := rfl
theorem ren_dp (x : List D) : ren σ (.dp x) = .dp x := rfl
theorem ren_un : ren σ .un = .un := rfl
theorem ren_ptr (i o : Nat) : ren σ (.ptr i o) = rP (fun j => .ptr j o) (σ i) := by simp only [ren]; cases σ i <;> rfl
theorem ren_row (i : Nat) : ren σ (.row i) = rP .row (σ i) := by simp only [ren]; cases σ i <;> rfl
theorem ren_sub (i lo hi : Nat) (w : Bool) : ren σ (.sub i lo hi w) = rP (fun j => .sub j lo hi w) (σ i) := by simp only [ren]; cases σ i <;> rfl
theorem ren_bs (i o n z : Nat) : ren σ (.bs i o n z) = rP (fun j => .bs j o n z) (σ i) := by simp only [ren]; cases σ i <;> rfl
theorem ren_ep (i k o : Nat) : ren σ (.ep i k o) = rP (fun j => .ep j k o) (σ i) := by simp only [ren]; cases σ i <;> rfl
theorem ren_map (i : Nat) : ren σ (.map i) = rP .map (σ i) := by simp only [ren]; cases σ i <;> rfl
theorem ren_agg (cs : List A) : ren σ (.agg cs) = .agg (renL σ cs) := by simp only [ren]
theorem ren_tup (cs : List A) : ren σ (.tup cs) = .tup (renL σ cs) := by simp only [ren]
theorem ren_fn (f : FuncId) (cs : List A) : ren σ (.fn f cs) = .fn f (renL σ cs) := by simp only [ren]
theorem renL_nil : renL σ [] = [] := by simp only [renL]
theorem renL_cons (x : A) (xs : List A) : renL σ (x :: xs) = ren σ x :: renL σ xs := by simp only [renL]
theorem renC_box (cs : List A) : renC σ (.box cs) = .box (renL σ cs) := rfl
theorem renC_row (sz : Nat) (f : Bool) (xs : List (List D)) : renC σ (.row sz f xs) = .row sz f xs := rfl
theorem renC_imm (sz : Nat) (f : Bool) (xs : List (List D)) : renC σ (.imm sz f xs) = .imm sz f xs := rfl
theorem renC_map (a : Bool) (xs : List (List D × D)) : renC σ (.map a xs) = .map a xs := rfl
theorem renC_dead : renC σ .dead = .dead := rfl
end
theorem fwd_eq (ids : List Nat) (i : Nat) : fwd ids i = idxIn i ids 0 := rfl
theorem idxIn_nil (i n : Nat) : idxIn i [] n = none := rfl
theorem idxIn_cons (i j : Nat) (r : List Nat) (n : Nat) : idxIn i (j :: r) n = if j = i then some n else idxIn i r (n + 1) := rfl
def nth : List Nat → Nat → Option Nat
  | [], _ => none
  | j :: r, k => if k = 0 then some j else nth r (k - 1)
theorem nth_nil (k : Nat) : nth [] k = none := rfl
theorem nth_cons (j : Nat) (r : List Nat) (k : Nat) : nth (j :: r) k = if k = 0 then some j else nth r (k - 1) := rfl
theorem bwd_eq (all : List Nat) (i : Nat) : bwd all i = nth all i := by
  unfold bwd
  induction all generalizing i with
  | nil => rfl
  | cons j r ih => cases i <;> simp [nth, ih]
def pkL (hp : Heap) (ids : List Nat) : List Nat → List Chunk
  | [] => []
  | i :: r => renC (fwd ids) (hp i) :: pkL hp ids r
theorem pkL_nil (hp : Heap) (ids : List Nat) : pkL hp ids [] = [] := rfl
theorem pkL_cons (hp : Heap) (ids : List Nat) (i : Nat) (r : List Nat) : pkL hp ids (i :: r) = renC (fwd ids) (hp i) :: pkL hp ids r := rfl
theorem packL_eq (hp : Heap) (ids : List Nat) : packL hp ids = pkL hp ids ids := by
  unfold packL
  generalize hg : ids = js
  have key : ∀ ks : List Nat, (ks.map fun i => renC (fwd js) (hp i)) = pkL hp js ks := fun ks => by
    induction ks with
    | nil => rfl
    | cons k ks ih => simp only [List.map_cons, ih, pkL]
  exact key js
def numH : Nat → List Chunk → List (Nat × Chunk)
  | _, [] => []
  | k, c :: r => (k, c) :: numH (k + 1) r
theorem numH_nil (k : Nat) : numH k [] = [] := rfl
theorem numH_cons (k : Nat) (c : Chunk) (r : List Chunk) : numH k (c :: r) = (k, c) :: numH (k + 1) r := rfl
theorem numH_at : ∀ (l : List Chunk) (k i : Nat), gH (numH k l) i = if k ≤ i then (l[i - k]?).getD .dead else .dead
  | [], k, i => by simp [numH, gH]
  | c :: r, k, i => by
    simp only [numH, gH]
    by_cases h : k = i
    · subst h; simp
    · rw [if_neg h, numH_at r (k + 1) i]
      by_cases h2 : k ≤ i
      · rw [if_pos (by omega), if_pos h2, show i - k = (i - (k + 1)) + 1 by omega]
        simp
      · rw [if_neg (by omega), if_neg h2]
theorem hpOf_eq (l : List Chunk) : hpOf l = gH (numH 0 l) := by
  funext i
  rw [numH_at]
  simp [hpOf]
def numS : Nat → List A → List (Nat × A)
  | _, [] => []
  | k, c :: r => (k, c) :: numS (k + 1) r
theorem numS_nil (k : Nat) : numS k [] = [] := rfl
theorem numS_cons (k : Nat) (c : A) (r : List A) : numS k (c :: r) = (k, c) :: numS (k + 1) r := rfl
theorem numS_at : ∀ (l : List A) (k i : Nat), gS (numS k l) i = if k ≤ i then (l[i - k]?).getD .un else .un
  | [], k, i => by simp [numS, gS]
  | c :: r, k, i => by
    simp only [numS, gS]
    by_cases h : k = i
    · subst h; simp
    · rw [if_neg h, numS_at r (k + 1) i]
      by_cases h2 : k ≤ i
      · rw [if_pos (by omega), if_pos h2, show i - k = (i - (k + 1)) + 1 by omega]
        simp
      · rw [if_neg (by omega), if_neg h2]
/-! ### What is reached -/
def rC (hp : Heap) (n : Nat) (xs : List A) (acc : List Nat) (i : Nat) : Bool → List Nat
  | true => reach hp n xs acc
  | false => match hp i with
    | .box cs => reach hp n (cs ++ xs) (acc ++ [i])
    | _ => reach hp n xs (acc ++ [i])
def rB (hp : Heap) (n : Nat) (xs : List A) (acc : List Nat) (i : Nat) : Chunk → List Nat
  | .box cs => reach hp n (cs ++ xs) (acc ++ [i])
  | _ => reach hp n xs (acc ++ [i])
theorem rC_t (hp : Heap) (n : Nat) (xs : List A) (acc : List Nat) (i : Nat) : rC hp n xs acc i true = reach hp n xs acc := rfl
theorem rC_f (hp : Heap) (n : Nat) (xs : List A) (acc : List Nat) (i : Nat) : rC hp n xs acc i false = rB hp n xs acc i (hp i) := rfl
theorem rB_box (hp : Heap) (n : Nat) (xs : List A) (acc : List Nat) (i : Nat) (cs : List A) : rB hp n xs acc i (.box cs) = reach hp n (cs ++ xs) (acc ++ [i]) := rfl
theorem rB_row (hp : Heap) (n : Nat) (xs : List A) (acc : List Nat) (i sz : Nat) (f : Bool) (l : List (List D)) : rB hp n xs acc i (.row sz f l) = reach hp n xs (acc ++ [i]) := rfl
theorem rB_imm (hp : Heap) (n : Nat) (xs : List A) (acc : List Nat) (i sz : Nat) (f : Bool) (l : List (List D)) : rB hp n xs acc i (.imm sz f l) = reach hp n xs (acc ++ [i]) := rfl
theorem rB_map (hp : Heap) (n : Nat) (xs : List A) (acc : List Nat) (i : Nat) (a : Bool) (l : List (List D × D)) : rB hp n xs acc i (.map a l) = reach hp n xs (acc ++ [i]) := rfl
theorem rB_dead (hp : Heap) (n : Nat) (xs : List A) (acc : List Nat) (i : Nat) : rB hp n xs acc i .dead = reach hp n xs (acc ++ [i]) := rfl
section
variable (hp : Heap) (n : Nat) (xs : List A) (acc : List Nat)
theorem reach_nil : reach hp (n + 1) [] acc = acc := rfl
theorem reach_d (x : D) : reach hp (n + 1) (.d x :: xs) acc = reach hp n xs acc := rfl
theorem reach_dp (x : List D) : reach hp (n + 1) (.dp x :: xs) acc = reach hp n xs acc := rfl
theorem reach_un : reach hp (n + 1) (.un :: xs) acc = reach hp n xs acc := rfl
theorem reach_agg (cs : List A) : reach hp (n + 1) (.agg cs :: xs) acc = reach hp n (cs ++ xs) acc := rfl
theorem reach_tup (cs : List A) : reach hp (n + 1) (.tup cs :: xs) acc = reach hp n (cs ++ xs) acc := rfl
theorem reach_fn (f : FuncId) (cs : List A) : reach hp (n + 1) (.fn f cs :: xs) acc = reach hp n (cs ++ xs) acc := rfl
theorem reach_key (i : Nat) : (if acc.contains i then reach hp n xs acc
      else match hp i with
        | .box cs => reach hp n (cs ++ xs) (acc ++ [i])
        | _ => reach hp n xs (acc ++ [i])) = rC hp n xs acc i (nin acc i) := by
  rw [nin_eq]
  cases nin acc i <;> rfl
theorem reach_ptr (i o : Nat) : reach hp (n + 1) (.ptr i o :: xs) acc = rC hp n xs acc i (nin acc i) := reach_key hp n xs acc i
theorem reach_row (i : Nat) : reach hp (n + 1) (.row i :: xs) acc = rC hp n xs acc i (nin acc i) := reach_key hp n xs acc i
theorem reach_sub (i a b : Nat) (w : Bool) : reach hp (n + 1) (.sub i a b w :: xs) acc = rC hp n xs acc i (nin acc i) := reach_key hp n xs acc i
theorem reach_bs (i a b c : Nat) : reach hp (n + 1) (.bs i a b c :: xs) acc = rC hp n xs acc i (nin acc i) := reach_key hp n xs acc i
theorem reach_ep (i a b : Nat) : reach hp (n + 1) (.ep i a b :: xs) acc = rC hp n xs acc i (nin acc i) := reach_key hp n xs acc i
theorem reach_map (i : Nat) : reach hp (n + 1) (.map i :: xs) acc = rC hp n xs acc i (nin acc i) := reach_key hp n xs acc i
end
/-! ### The head of a loop -/
def cellsL (hp : Heap) : Nat → Nat → List A
  | _, 0 => []
  | i, n + 1 => boxC (hp i) ++ cellsL hp (i + 1) n
theorem boxC_box (cs : List A) : boxC (.box cs) = cs := rfl
theorem boxC_row (sz : Nat) (f : Bool) (l : List (List D)) : boxC (.row sz f l) = [] := rfl
theorem boxC_imm (sz : Nat) (f : Bool) (l : List (List D)) : boxC (.imm sz f l) = [] := rfl
theorem boxC_map (a : Bool) (l : List (List D × D)) : boxC (.map a l) = [] := rfl
theorem boxC_dead : boxC .dead = [] := rfl
theorem cellsL_zero (hp : Heap) (i : Nat) : cellsL hp i 0 = [] := rfl
theorem cellsL_succ (hp : Heap) (i n : Nat) : cellsL hp i (n + 1) = boxC (hp i) ++ cellsL hp (i + 1) n := rfl
theorem cellsL_eq (hp : Heap) (m : Nat) : ((List.range m).flatMap fun i => boxC (hp i)) = cellsL hp 0 m := by
  have key : ∀ (n k : Nat), ((List.range' k n).flatMap fun i => boxC (hp i)) = cellsL hp k n := fun n => by
    induction n with
    | zero => intro k; rfl
    | succ n ih => intro k; rw [List.range'_succ, List.flatMap_cons, ih]; rfl
  rw [List.range_eq_range']
  exact key m 0
def upto : Nat → Nat → List Nat
  | _, 0 => []
  | i, n + 1 => i :: upto (i + 1) n
theorem upto_zero (i : Nat) : upto i 0 = [] := rfl
theorem upto_succ (i n : Nat) : upto i (n + 1) = i :: upto (i + 1) n := rfl
theorem range_upto (m : Nat) : List.range m = upto 0 m := by
  have key : ∀ (n k : Nat), List.range' k n = upto k n := fun n => by
    induction n with
    | zero => intro k; rfl
    | succ n ih => intro k; rw [List.range'_succ, ih]; rfl
  rw [List.range_eq_range']
  exact key m 0
theorem cellsU_eq (hp : Heap) (m : Nat) : ((upto 0 m).flatMap fun i => boxC (hp i)) = cellsL hp 0 m := by rw [← range_upto, cellsL_eq]
def rS (k sz : Nat) (r : List (Nat × Option Nat)) (L : List (Nat × A)) (nb : Nat) : A → (Nat → A) × Writes
  | .d (.sl .nil _ []) => let p := rowSlots r (gS ((k, .row nb) :: L)) (nb + 1); (p.1, (nb, .row sz true []) :: p.2)
  | _ => rowSlots r (gS L) nb
def rSK (nb sz : Nat) (p : (Nat → A) × Writes) : (Nat → A) × Writes := (p.1, (nb, .row sz true []) :: p.2)
theorem rSK_eq (nb sz : Nat) (f : Nat → A) (ws : Writes) : rSK nb sz (f, ws) = (f, (nb, .row sz true []) :: ws) := rfl
theorem rS_nil (k sz z : Nat) (r : List (Nat × Option Nat)) (L : List (Nat × A)) (nb : Nat) : rS k sz r L nb (.d (.sl .nil z [])) = rSK nb sz (rowSlots r (gS ((k, .row nb) :: L)) (nb + 1)) := rfl
theorem rS_row (k sz i : Nat) (r : List (Nat × Option Nat)) (L : List (Nat × A)) (nb : Nat) : rS k sz r L nb (.row i) = rowSlots r (gS L) nb := rfl
theorem rS_sub (k sz i lo hi : Nat) (w : Bool) (r : List (Nat × Option Nat)) (L : List (Nat × A)) (nb : Nat) : rS k sz r L nb (.sub i lo hi w) = rowSlots r (gS L) nb := rfl
theorem rS_any (k sz z : Nat) (xs : List (List D)) (r : List (Nat × Option Nat)) (L : List (Nat × A)) (nb : Nat) : rS k sz r L nb (.d (.sl .any z xs)) = rowSlots r (gS L) nb := rfl
theorem rS_full (k sz z : Nat) (xs : List (List D)) (r : List (Nat × Option Nat)) (L : List (Nat × A)) (nb : Nat) : rS k sz r L nb (.d (.sl .full z xs)) = rowSlots r (gS L) nb := rfl
theorem rS_un (k sz : Nat) (r : List (Nat × Option Nat)) (L : List (Nat × A)) (nb : Nat) : rS k sz r L nb .un = rowSlots r (gS L) nb := rfl
theorem rowSlots_nil (sl : Nat → A) (nb : Nat) : rowSlots [] sl nb = (sl, []) := rfl
theorem rowSlots_none (k : Nat) (r : List (Nat × Option Nat)) (sl : Nat → A) (nb : Nat) : rowSlots ((k, none) :: r) sl nb = rowSlots r sl nb := rfl
theorem rowSlots_some (k sz : Nat) (r : List (Nat × Option Nat)) (L : List (Nat × A)) (nb : Nat) : rowSlots ((k, some sz) :: r) (gS L) nb = rS k sz r L nb (gS L k) := by
  simp only [rowSlots]
  generalize gS L k = x
  unfold rS
  split
  · rw [upd_gS]
  · rename_i hno
    split
    · rename_i z; exact absurd rfl (hno z)
    · rfl
def keysL : List (Nat × Option Nat) → List Nat
  | [] => []
  | (k, _) :: r => k :: keysL r
theorem keysL_nil : keysL [] = [] := rfl
theorem keysL_cons (k : Nat) (o : Option Nat) (r : List (Nat × Option Nat)) : keysL ((k, o) :: r) = k :: keysL r := rfl
theorem keysL_eq (l : List (Nat × Option Nat)) : l.map (·.1) = keysL l := by
  induction l with
  | nil => rfl
  | cons p l ih => obtain ⟨k, o⟩ := p; simp only [List.map_cons, ih, keysL]
def valsL (L : List (Nat × A)) : List Nat → List A
  | [] => []
  | k :: r => gS L k :: valsL L r
theorem valsL_nil (L : List (Nat × A)) : valsL L [] = [] := rfl
theorem valsL_cons (L : List (Nat × A)) (k : Nat) (r : List Nat) : valsL L (k :: r) = gS L k :: valsL L r := rfl
theorem valsL_eq (L : List (Nat × A)) (ks : List Nat) : ks.map (gS L) = valsL L ks := by
  induction ks with
  | nil => rfl
  | cons k ks ih => simp only [List.map_cons, ih, valsL]
def rnS (σ : Nat → Option Nat) (L : List (Nat × A)) : List Nat → List (Nat × A)
  | [] => []
  | k :: r => (k, ren σ (gS L k)) :: rnS σ L r
theorem rnS_nil (σ : Nat → Option Nat) (L : List (Nat × A)) : rnS σ L [] = [] := rfl
theorem rnS_cons (σ : Nat → Option Nat) (L : List (Nat × A)) (k : Nat) (r : List Nat) : rnS σ L (k :: r) = (k, ren σ (gS L k)) :: rnS σ L r := rfl
theorem rnS_eq (σ : Nat → Option Nat) (L : List (Nat × A)) (ks : List Nat) : ks.foldr (fun k g => upd g k (ren σ (gS L k))) (fun _ => .un) = gS (rnS σ L ks) := by
  induction ks with
  | nil => rfl
  | cons k ks ih => rw [List.foldr_cons, ih, upd_gS]; rfl
/-- The state at the head of a loop, once it is known what is reached. -/
def gc3 (ks : List Nat) (L : List (Nat × A)) (hp : Heap) (m : Nat) (dy : List Nat) (ids : List Nat) : St := ⟨gS (rnS (fwd ids) L ks), gH (numH 0 (pkL hp ids ids)), ids.length, m, dy⟩
def gc2 (ks : List Nat) (hp : Heap) (m : Nat) (dy : List Nat) (L : List (Nat × A)) : St := gc3 ks L hp m dy (reach hp 1000 (cellsL hp 0 m ++ valsL L ks) (upto 0 m))
def gc1 (keep : List (Nat × Option Nat)) (hp : Heap) (m : Nat) (dy : List Nat) (p : (Nat → A) × Writes) : St :=
  { m := m, dirty := dy, sl := (keep.map (·.1)).foldr (fun k g => upd g k (ren (fwd (reach (applyW hp p.2) 1000 (((List.range m).flatMap fun i => boxC (applyW hp p.2 i)) ++ (keep.map (·.1)).map p.1) (List.range m))) (p.1 k))) (fun _ => .un), hp := hpOf (packL (applyW hp p.2) (reach (applyW hp p.2) 1000 (((List.range m).flatMap fun i => boxC (applyW hp p.2 i)) ++ (keep.map (·.1)).map p.1) (List.range m))),
    nx := (reach (applyW hp p.2) 1000 (((List.range m).flatMap fun i => boxC (applyW hp p.2 i)) ++ (keep.map (·.1)).map p.1) (List.range m)).length }
theorem gc_eq (keep : List (Nat × Option Nat)) (L : List (Nat × A)) (hp : Heap) (nx m : Nat) (dy : List Nat) : gc keep ⟨gS L, hp, nx, m, dy⟩ = gc1 keep hp m dy (rowSlots keep (gS L) nx) := rfl
theorem gc1_eq (keep : List (Nat × Option Nat)) (hp : Heap) (m : Nat) (dy : List Nat) (L : List (Nat × A)) (ws : Writes) : gc1 keep hp m dy (gS L, ws) = gc2 (keysL keep) (applyW hp ws) m dy L := by
  simp only [gc1, gc2, gc3, keysL_eq, valsL_eq, cellsU_eq, rnS_eq, hpOf_eq, packL_eq, range_upto]
theorem gc2_eq (ks : List Nat) (hp : Heap) (m : Nat) (dy : List Nat) (L : List (Nat × A)) : gc2 ks hp m dy L = gc3 ks L hp m dy (reach hp 1000 (cellsL hp 0 m ++ valsL L ks) (upto 0 m)) := rfl
theorem gc3_nil (ks : List Nat) (L : List (Nat × A)) (hp : Heap) (m : Nat) (dy : List Nat) : gc3 ks L hp m dy [] = ⟨gS (rnS (fwd []) L ks), gH [], 0, m, dy⟩ := rfl
theorem gc3_cons (ks : List Nat) (L : List (Nat × A)) (hp : Heap) (m : Nat) (dy : List Nat) (i : Nat) (r : List Nat) : gc3 ks L hp m dy (i :: r) = ⟨gS (rnS (fwd (i :: r)) L ks), gH (numH 0 (pkL hp (i :: r) (i :: r))), (i :: r).length, m, dy⟩ := rfl
/-! ### The begin and the end of a call -/
def enterE (rows : List (Nat × Nat)) (args : List A) (H : List Chunk) : St := ⟨gS (numS 0 (argsIn rows args 0 H.length).1), gH (numH 0 (H ++ (argsIn rows args 0 H.length).2)), (H ++ (argsIn rows args 0 H.length).2).length, H.length, []⟩
theorem enterE_eq (rows : List (Nat × Nat)) (args : List A) (H : List Chunk) : enterE rows args H = ⟨gS (numS 0 (argsIn rows args 0 H.length).1), gH (numH 0 (H ++ (argsIn rows args 0 H.length).2)), (H ++ (argsIn rows args 0 H.length).2).length, H.length, []⟩ := rfl
theorem enter_eqE (c : CF) (args : List A) (H : List Chunk) : enter c args H = enterE c.rowArgs args H := by
  unfold enter enterE
  rw [hpOf_eq]
  congr 1
  funext i
  rw [numS_at]
  simp
theorem argsIn_none (args : List A) (i nb : Nat) : argsIn [] args i nb = (args, []) := by
  induction args generalizing i with
  | nil => rfl
  | cons x xs ih => simp [argsIn, ih]
def lkp : List (Nat × Nat) → Nat → Option Nat
  | [], _ => none
  | (k, v) :: r, i => if k = i then some v else lkp r i
theorem lkp_nil (i : Nat) : lkp [] i = none := rfl
theorem lkp_cons (k v : Nat) (r : List (Nat × Nat)) (i : Nat) : lkp ((k, v) :: r) i = if k = i then some v else lkp r i := rfl
theorem lkp_eq (l : List (Nat × Nat)) (i : Nat) : l.lookup i = lkp l i := by
  induction l with
  | nil => rfl
  | cons p l ih =>
    obtain ⟨k, v⟩ := p
    simp only [lkp, ← ih, List.lookup_cons]
    by_cases h : k = i
    · subst h; simp
    · have : (i == k) = false := by simp; exact fun e => h e.symm
      simp [this, h]
def aK (p : List A × List Chunk) (x : A) (cs : List Chunk) : List A × List Chunk := (x :: p.1, cs ++ p.2)
theorem aK_eq (xs : List A) (cs : List Chunk) (x : A) (ds : List Chunk) : aK (xs, cs) x ds = (x :: xs, ds ++ cs) := rfl
def aI (rows : List (Nat × Nat)) (xs : List A) (i nb : Nat) : Option Nat → A → List A × List Chunk
  | some sz, .d (.sl .nil _ []) => aK (argsIn rows xs (i + 1) (nb + 1)) (.row nb) [.row sz true []]
  | _, y => aK (argsIn rows xs (i + 1) nb) y []
theorem aI_none (rows : List (Nat × Nat)) (xs : List A) (i nb : Nat) (x : A) : aI rows xs i nb none x = aK (argsIn rows xs (i + 1) nb) x [] := rfl
theorem aI_nil (rows : List (Nat × Nat)) (xs : List A) (i nb sz z : Nat) : aI rows xs i nb (some sz) (.d (.sl .nil z [])) = aK (argsIn rows xs (i + 1) (nb + 1)) (.row nb) [.row sz true []] := rfl
theorem aI_row (rows : List (Nat × Nat)) (xs : List A) (i nb sz j : Nat) : aI rows xs i nb (some sz) (.row j) = aK (argsIn rows xs (i + 1) nb) (.row j) [] := rfl
theorem aI_sub (rows : List (Nat × Nat)) (xs : List A) (i nb sz j lo hi : Nat) (w : Bool) : aI rows xs i nb (some sz) (.sub j lo hi w) = aK (argsIn rows xs (i + 1) nb) (.sub j lo hi w) [] := rfl
theorem aI_any (rows : List (Nat × Nat)) (xs : List A) (i nb sz z : Nat) (l : List (List D)) : aI rows xs i nb (some sz) (.d (.sl .any z l)) = aK (argsIn rows xs (i + 1) nb) (.d (.sl .any z l)) [] := rfl
theorem argsIn_emp (rows : List (Nat × Nat)) (i nb : Nat) : argsIn rows [] i nb = ([], []) := rfl
theorem argsIn_cons (rows : List (Nat × Nat)) (x : A) (xs : List A) (i nb : Nat) : argsIn rows (x :: xs) i nb = aI rows xs i nb (lkp rows i) x := by
  simp only [argsIn, lkp_eq]
  generalize lkp rows i = o
  unfold aI
  split
  · rfl
  · rename_i hno
    split
    · rename_i sz z; exact absurd rfl (hno sz z rfl)
    · rfl
def leaveK (kf : Bool) (res : List CRes) (keep : Bool) (rows : List (Nat × Nat)) (dl : Option (List Nat)) (m : Nat) (R : A × List Chunk × List Nat) : Ex → St → Prop
  | .ret, s => leave kf ⟨.skip, res, [], keep, rows, none, dl⟩ m s = some R
  | .normal, s => leave kf ⟨.skip, res, [], keep, rows, none, dl⟩ m s = some R
  | _, _ => False
def leaveS (kf : Bool) (res : List CRes) (keep : Bool) (rows : List (Nat × Nat)) (dl : Option (List Nat)) (m : Nat) (s : St) : Option (A × List Chunk × List Nat) := leave kf ⟨.skip, res, [], keep, rows, none, dl⟩ m s
@[congr] theorem leaveK_congr {kf : Bool} {res : List CRes} {keep : Bool} {rows : List (Nat × Nat)} {dl : Option (List Nat)} {m : Nat} {R : A × List Chunk × List Nat} {e e' : Ex} {s s' : St} (h : e = e') (hs : s = s') : leaveK kf res keep rows dl m R e s = leaveK kf res keep rows dl m R e' s' := by rw [h, hs]
theorem leaveK_r (kf : Bool) (res : List CRes) (keep : Bool) (rows : List (Nat × Nat)) (dl : Option (List Nat)) (m : Nat) (R : A × List Chunk × List Nat) (s : St) : leaveK kf res keep rows dl m R .ret s = (leaveS kf res keep rows dl m s = some R) := rfl
theorem leaveK_n (kf : Bool) (res : List CRes) (keep : Bool) (rows : List (Nat × Nat)) (dl : Option (List Nat)) (m : Nat) (R : A × List Chunk × List Nat) (s : St) : leaveK kf res keep rows dl m R .normal s = (leaveS kf res keep rows dl m s = some R) := rfl
theorem run_of {kf : Bool} {prog : FuncId → Option CF} {f : FuncId} {b : CCode} {res : List CRes} {ra : List (Nat × Nat)} {keep : Bool} {rr : List (Nat × Nat)} {cl : Option Nat} {dl : Option (List Nat)} (hf : prog f = some ⟨b, res, ra, keep, rr, cl, dl⟩) {args : List A} {H : List Chunk} {R : A × List Chunk × List Nat}
    (h : wpW kf prog b (enterE ra args H) (leaveK kf res keep rr dl H.length R)) : runW kf prog f args H = some R := by
  obtain ⟨e, s, h1, h2⟩ := h
  rw [runW_eq hf, enter_eqE, h1]
  cases e with
  | ret => exact h2
  | normal => exact h2
  | exit j => exact h2.elim
theorem run_ex {kf : Bool} {prog : FuncId → Option CF} {f : FuncId} {b : CCode} {res : List CRes} {ra : List (Nat × Nat)} {keep : Bool} {rr : List (Nat × Nat)} {cl : Option Nat} {dl : Option (List Nat)} (hf : prog f = some ⟨b, res, ra, keep, rr, cl, dl⟩) {args : List A} {H : List Chunk} {X : A × List Chunk × List Nat → Prop}
    (h : wpW kf prog b (enterE ra args H) (fun e s => ∃ R, X R ∧ leaveK kf res keep rr dl H.length R e s)) : ∃ R, X R ∧ runW kf prog f args H = some R := by
  obtain ⟨e, s, h1, R, hX, h2⟩ := h
  exact ⟨R, hX, run_of hf ⟨e, s, h1, h2⟩⟩
def resC (agg : Bool) (sz off : Nat) : Chunk → Option A
  | .box cs => takeAgg agg sz (cs.drop off)
  | _ => none
theorem resC_box (agg : Bool) (sz off : Nat) (cs : List A) : resC agg sz off (.box cs) = takeAgg agg sz (cs.drop off) := rfl
def resP (hp : Heap) (agg : Bool) (sz : Nat) : A → Option A
  | .ptr id off => resC agg sz off (hp id)
  | _ => none
theorem resP_ptr (hp : Heap) (agg : Bool) (sz id off : Nat) : resP hp agg sz (.ptr id off) = resC agg sz off (hp id) := rfl
theorem resOf_tmp (L : List (Nat × A)) (hp : Heap) (nx m : Nat) (dy : List Nat) (t : Nat) : resOf ⟨gS L, hp, nx, m, dy⟩ (.tmp t) = some (gS L t) := rfl
theorem resOf_cell (L : List (Nat × A)) (hp : Heap) (nx m : Nat) (dy : List Nat) (t : Nat) (agg : Bool) (sz : Nat) : resOf ⟨gS L, hp, nx, m, dy⟩ (.cell t agg sz) = resP hp agg sz (gS L t) := by
  simp only [resOf]
  cases gS L t <;> first | rfl | (simp only [resP, resC]; rename_i i o; cases hp i <;> rfl)
theorem resAll_nil (s : St) : resAll s [] = some [] := rfl
theorem resAll_cons (s : St) (r : CRes) (rs : List CRes) : resAll s (r :: rs) = ob (resOf s r) (fun v => ob (resAll s rs) (fun vs => some (v :: vs))) := by
  simp only [resAll]
  cases resOf s r with
  | none => rfl
  | some v => cases resAll s rs <;> rfl
def lv2 (dy : List Nat) (vs : List A) (hp : Heap) (ids : List Nat) : A × List Chunk × List Nat := (one (renL (fwd ids) vs), pkL hp ids ids, dy)
theorem lv2_nil (dy : List Nat) (vs : List A) (hp : Heap) : lv2 dy vs hp [] = (one (renL (fwd []) vs), [], dy) := rfl
theorem lv2_cons (dy : List Nat) (vs : List A) (hp : Heap) (i : Nat) (r : List Nat) : lv2 dy vs hp (i :: r) = (one (renL (fwd (i :: r)) vs), pkL hp (i :: r) (i :: r), dy) := rfl
def allN : List Nat → List Nat → Bool
  | [], _ => true
  | i :: r, l => if nin l i then allN r l else false
theorem allN_nil (l : List Nat) : allN [] l = true := rfl
theorem allN_cons (i : Nat) (r l : List Nat) : allN (i :: r) l = if nin l i then allN r l else false := rfl
theorem allN_eq (d l : List Nat) : (d.all fun i => l.contains i) = allN d l := by
  induction d with
  | nil => rfl
  | cons i r ih => rw [List.all_cons, ih, nin_eq]; simp only [allN]; cases nin l i <;> rfl
def lvD : Option (List Nat) → List Nat → Option (List Nat)
  | none, d => some d
  | some l, d => ifs (allN d l = true) (some l)
theorem lvD_none (d : List Nat) : lvD none d = some d := rfl
theorem lvD_some (l d : List Nat) : lvD (some l) d = ifs (allN d l = true) (some l) := rfl
def lv1 (dl : Option (List Nat)) (m : Nat) (dy : List Nat) (vs : List A) (hp : Heap) : Option (A × List Chunk × List Nat) := ob (lvD dl dy) (fun d => some (lv2 d vs hp (reach hp 1000 vs (reach hp 1000 (cellsL hp 0 m) (upto 0 m)))))
theorem lv1_eq (dl : Option (List Nat)) (m : Nat) (dy : List Nat) (vs : List A) (hp : Heap) : lv1 dl m dy vs hp = ob (lvD dl dy) (fun d => some (lv2 d vs hp (reach hp 1000 vs (reach hp 1000 (cellsL hp 0 m) (upto 0 m))))) := rfl
/-- Rows that become data: those of them that came in were written. -/
def lvF (dl : Option (List Nat)) (m : Nat) (dy : List Nat) (hp : Heap) (p : List A × Writes) : Option (A × List Chunk × List Nat) := lv1 dl m (dy ++ addF m dy p.2) p.1 (applyW hp p.2)
theorem lvF_eq (dl : Option (List Nat)) (m : Nat) (dy : List Nat) (hp : Heap) (vs : List A) (ws : Writes) : lvF dl m dy hp (vs, ws) = lv1 dl m (dy ++ addF m dy ws) vs (applyW hp ws) := rfl
def lvR (dl : Option (List Nat)) (m nx : Nat) (dy : List Nat) (hp : Heap) (p : List A × List Chunk) : Option (A × List Chunk × List Nat) := lv1 dl m dy p.1 (applyC hp nx p.2)
theorem lvR_eq (dl : Option (List Nat)) (m nx : Nat) (dy : List Nat) (hp : Heap) (vs : List A) (cs : List Chunk) : lvR dl m nx dy hp (vs, cs) = lv1 dl m dy vs (applyC hp nx cs) := rfl
theorem applyC_nil (hp : Heap) (nb : Nat) : applyC hp nb [] = hp := rfl
theorem applyC_cons (L : List (Nat × Chunk)) (nb : Nat) (c : Chunk) (r : List Chunk) : applyC (gH L) nb (c :: r) = applyC (gH ((nb, c) :: L)) (nb + 1) r := by
  simp only [applyC, upd_gH]
theorem leaveS_eq (kf : Bool) (res : List CRes) (keep : Bool) (rows : List (Nat × Nat)) (dl : Option (List Nat)) (m : Nat) (sl : Nat → A) (hp : Heap) (nx m' : Nat) (dy : List Nat) : leaveS kf res keep rows dl m ⟨sl, hp, nx, m', dy⟩ = ob (resAll ⟨sl, hp, nx, m', dy⟩ res) (fun vs => if keep then lvR dl m nx dy hp (rowResR rows vs 0 nx) else lvF dl m dy hp (freezeR kf [] vs 0 hp)) := by
  unfold leaveS leave
  simp only
  cases resAll ⟨sl, hp, nx, m', dy⟩ res with
  | none => rfl
  | some vs =>
    simp only [ob]
    cases keep with
    | true =>
      simp only [if_true, lvR, lv1, lv2, cellsU_eq, range_upto, packL_eq, List.append_nil, allN_eq]
      cases dl with
      | none => rfl
      | some l => by_cases h : allN dy l = true <;> simp [lvD, ifs, ob, h]
    | false =>
      have := addD_eq m (freezeR kf [] vs 0 hp).2 dy
      simp only [Bool.false_eq_true, if_false, lvF, lv1, lv2, cellsU_eq, range_upto, packL_eq, allN_eq]
      rw [this]
      cases dl with
      | none => rfl
      | some l => by_cases h : allN (addD m (freezeR kf [] vs 0 hp).2 dy) l = true <;> simp only [addD] at h ⊢ <;> simp [lvD, ifs, ob, h]
theorem rowResR_none (xs : List A) (i nb : Nat) : rowResR [] xs i nb = (xs, []) := by
  have keyL : ∀ (xs : List A) (i nb : Nat), ∃ j, rowResL [] xs i nb = (xs, [], j) := fun xs => by
    induction xs with
    | nil => intro i nb; exact ⟨i, rfl⟩
    | cons x xs ih =>
      intro i nb
      obtain ⟨j, hj⟩ := ih (i + 1) nb
      exact ⟨j, by simp [rowResL, hj]⟩
  induction xs generalizing i nb with
  | nil => rfl
  | cons x xs ih =>
    simp only [rowResR]
    split
    · rename_i cs
      obtain ⟨j, hj⟩ := keyL cs i nb
      simp [hj, ih]
    · simp [ih]
theorem one_one (x : A) : one [x] = x := rfl
theorem one_nil : one [] = .tup [] := rfl
theorem one_two (x y : A) (r : List A) : one (x :: y :: r) = .tup (x :: y :: r) := rfl
/-! rows become data, in results and in arguments -/
def fzK (q : List A × Writes) (x : A) (ws : Writes) : List A × Writes := (x :: q.1, ws ++ q.2)
theorem fzK_eq (xs : List A) (us : Writes) (x : A) (ws : Writes) : fzK (xs, us) x ws = (x :: xs, ws ++ us) := rfl
def fzR (kf : Bool) (rows : List (Nat × Nat)) (xs : List A) (i : Nat) (hp : Heap) (p : A × Writes) : List A × Writes := fzK (freezeR kf rows xs (i + 1) (applyW hp p.2)) p.1 p.2
theorem fzR_eq (kf : Bool) (rows : List (Nat × Nat)) (xs : List A) (i : Nat) (hp : Heap) (x : A) (ws : Writes) : fzR kf rows xs i hp (x, ws) = fzK (freezeR kf rows xs (i + 1) (applyW hp ws)) x ws := rfl
theorem freezeR_nil (kf : Bool) (rows : List (Nat × Nat)) (i : Nat) (hp : Heap) : freezeR kf rows [] i hp = ([], []) := rfl
theorem freezeR_cons (kf : Bool) (rows : List (Nat × Nat)) (x : A) (xs : List A) (i : Nat) (hp : Heap) : freezeR kf rows (x :: xs) i hp = fzR kf rows xs i hp (if (rows.lookup i).isSome then (x, []) else freezeA kf hp x) := rfl
theorem fz_int (kf : Bool) (hp : Heap) (k : IntKind) (n : Int) : freezeA kf hp (.d (.int k n)) = (.d (.int k n), []) := rfl
theorem fz_bool (kf : Bool) (hp : Heap) (b : Bool) : freezeA kf hp (.d (.bool b)) = (.d (.bool b), []) := rfl
theorem fz_str (kf : Bool) (hp : Heap) (s : ByteArray) : freezeA kf hp (.d (.str s)) = (.d (.str s), []) := rfl
theorem fz_sl (kf : Bool) (hp : Heap) (t : Tg) (sz : Nat) (xs : List (List D)) : freezeA kf hp (.d (.sl t sz xs)) = (.d (.sl (t.dim kf) sz xs), []) := rfl
theorem fz_nilp (kf : Bool) (hp : Heap) : freezeA kf hp (.d .nilp) = (.d .nilp, []) := rfl
theorem fz_nilf (kf : Bool) (hp : Heap) : freezeA kf hp (.d .nilf) = (.d .nilf, []) := rfl
theorem fz_nilm (kf : Bool) (hp : Heap) : freezeA kf hp (.d .nilm) = (.d .nilm, []) := rfl
theorem fz_ptr (kf : Bool) (hp : Heap) (i o : Nat) : freezeA kf hp (.ptr i o) = (.ptr i o, []) := rfl
theorem fz_ep (kf : Bool) (hp : Heap) (i k o : Nat) : freezeA kf hp (.ep i k o) = (.ep i k o, []) := rfl
theorem fz_dp (kf : Bool) (hp : Heap) (cs : List D) : freezeA kf hp (.dp cs) = (.dp cs, []) := rfl
theorem fz_tup (kf : Bool) (hp : Heap) (cs : List A) : freezeA kf hp (.tup cs) = (.tup cs, []) := rfl
theorem fz_fn (kf : Bool) (hp : Heap) (f : FuncId) (cs : List A) : freezeA kf hp (.fn f cs) = (.fn f cs, []) := rfl
theorem fz_map (kf : Bool) (hp : Heap) (i : Nat) : freezeA kf hp (.map i) = (.map i, []) := rfl
theorem fz_un (kf : Bool) (hp : Heap) : freezeA kf hp .un = (.un, []) := rfl
def fzC (kf : Bool) (x : A) (id : Nat) : Chunk → A × Writes
  | .row sz f xs => (.d (.sl (if kf && f then .full else .any) sz xs), [(id, .imm sz f xs)])
  | .imm sz f xs => (.d (.sl (if kf && f then .full else .any) sz xs), [])
  | _ => (x, [])
theorem fzC_row (kf : Bool) (x : A) (id sz : Nat) (f : Bool) (xs : List (List D)) : fzC kf x id (.row sz f xs) = (.d (.sl (if kf && f then .full else .any) sz xs), [(id, .imm sz f xs)]) := rfl
theorem fzC_imm (kf : Bool) (x : A) (id sz : Nat) (f : Bool) (xs : List (List D)) : fzC kf x id (.imm sz f xs) = (.d (.sl (if kf && f then .full else .any) sz xs), []) := rfl
theorem fz_row (kf : Bool) (hp : Heap) (id : Nat) : freezeA kf hp (.row id) = fzC kf (.row id) id (hp id) := by
  simp only [freezeA, freeze1, toD1, fzC]
  cases hp id <;> rfl
theorem fz_agg (kf : Bool) (hp : Heap) (cs : List A) : freezeA kf hp (.agg cs) = (.agg (freezeL kf cs hp).1, (freezeL kf cs hp).2) := rfl
theorem freezeL_nil (kf : Bool) (hp : Heap) : freezeL kf [] hp = ([], []) := rfl
def flK (kf : Bool) (xs : List A) (hp : Heap) (p : A × Writes) : List A × Writes := fzK (freezeL kf xs (applyW hp p.2)) p.1 p.2
theorem flK_eq (kf : Bool) (xs : List A) (hp : Heap) (x : A) (ws : Writes) : flK kf xs hp (x, ws) = fzK (freezeL kf xs (applyW hp ws)) x ws := rfl
theorem freezeL_cons (kf : Bool) (x : A) (xs : List A) (hp : Heap) : freezeL kf (x :: xs) hp = flK kf xs hp (freeze1 kf hp x) := rfl
theorem f1_int (kf : Bool) (hp : Heap) (k : IntKind) (n : Int) : freeze1 kf hp (.d (.int k n)) = (.d (.int k n), []) := rfl
theorem f1_bool (kf : Bool) (hp : Heap) (b : Bool) : freeze1 kf hp (.d (.bool b)) = (.d (.bool b), []) := rfl
theorem f1_str (kf : Bool) (hp : Heap) (s : ByteArray) : freeze1 kf hp (.d (.str s)) = (.d (.str s), []) := rfl
theorem f1_sl (kf : Bool) (hp : Heap) (t : Tg) (sz : Nat) (xs : List (List D)) : freeze1 kf hp (.d (.sl t sz xs)) = (.d (.sl (t.dim kf) sz xs), []) := rfl
theorem f1_nilp (kf : Bool) (hp : Heap) : freeze1 kf hp (.d .nilp) = (.d .nilp, []) := rfl
theorem f1_row (kf : Bool) (hp : Heap) (id : Nat) : freeze1 kf hp (.row id) = fzC kf (.row id) id (hp id) := by
  simp only [freeze1, toD1, fzC]
  cases hp id <;> rfl
theorem lk_hit (k v : Nat) (l : List (Nat × Nat)) : List.lookup k ((k, v) :: l) = some v := by simp [List.lookup]
theorem lk_miss (k j v : Nat) (l : List (Nat × Nat)) (h : k ≠ j) : List.lookup k ((j, v) :: l) = List.lookup k l := by
  have : (k == j) = false := by simp [h]
  simp [List.lookup, this]
def fzS (x : A) (id lo hi : Nat) : Chunk → A × Writes
  | .row sz f xs => if hi ≤ xs.length then (.d (.sl .any sz ((xs.drop lo).take (hi - lo))), [(id, .imm sz f xs)]) else (x, [])
  | .imm sz _ xs => if hi ≤ xs.length then (.d (.sl .any sz ((xs.drop lo).take (hi - lo))), []) else (x, [])
  | _ => (x, [])
theorem fzS_row (x : A) (id lo hi sz : Nat) (f : Bool) (xs : List (List D)) (h : hi ≤ xs.length) : fzS x id lo hi (.row sz f xs) = (.d (.sl .any sz ((xs.drop lo).take (hi - lo))), [(id, .imm sz f xs)]) := if_pos h
theorem fzS_imm (x : A) (id lo hi sz : Nat) (f : Bool) (xs : List (List D)) (h : hi ≤ xs.length) : fzS x id lo hi (.imm sz f xs) = (.d (.sl .any sz ((xs.drop lo).take (hi - lo))), []) := if_pos h
theorem f1_sub (kf : Bool) (hp : Heap) (id lo hi : Nat) (c : Bool) : freeze1 kf hp (.sub id lo hi c) = fzS (.sub id lo hi c) id lo hi (hp id) := by
  simp only [freeze1, toD1, fzS]
  cases hp id with
  | row sz f xs => by_cases h : hi ≤ xs.length <;> simp [h]
  | imm sz f xs => by_cases h : hi ≤ xs.length <;> simp [h]
  | _ => rfl
theorem fz_sub (kf : Bool) (hp : Heap) (id lo hi : Nat) (c : Bool) : freezeA kf hp (.sub id lo hi c) = fzS (.sub id lo hi c) id lo hi (hp id) := f1_sub kf hp id lo hi c
/-! ### Guards; regions in any order -/
def gdK (v : A) (w : Bool) (X Y : Prop) [Dep X] [Dep Y] : Prop := match v with
  | .d (.bool t) => if t == w then X else Y
  | .tup [] => Y
  | _ => False
theorem gdK_tt (X Y : Prop) : gdK (.d (.bool true)) true X Y = X := rfl
theorem gdK_tf (X Y : Prop) : gdK (.d (.bool true)) false X Y = Y := rfl
theorem gdK_ft (X Y : Prop) : gdK (.d (.bool false)) true X Y = Y := rfl
theorem gdK_ff (X Y : Prop) : gdK (.d (.bool false)) false X Y = X := rfl
theorem gdK_no (w : Bool) (X Y : Prop) : gdK (.tup []) w X Y = Y := rfl
section
variable (kf : Bool) (cf : CallF)
theorem astep_g (o : COp COpd) (d : Option Nat) (j : Nat) (w : Bool) (b nb : Nat) (L : List (Nat × A)) (hp : Heap) (nx m : Nat) (dy : List Nat) : astep kf cf ⟨d, o, some (j, w), b⟩ nb ⟨gS L, hp, nx, m, dy⟩ = match wantedA (gS L) (some (j, w)) with
    | none => none
    | some false => some (⟨gS (setL d (.tup []) L), hp, nx, m, dy⟩, [], [])
    | some true => astep kf cf ⟨d, o, none, b⟩ nb ⟨gS L, hp, nx, m, dy⟩ := by
  unfold astep
  simp only
  cases wantedA (gS L) (some (j, w)) with
  | none => rfl
  | some t =>
    cases t with
    | false => simp only [setDst_gS]
    | true => rfl
theorem opsW_g (nb : Nat) (d : Option Nat) (o : COp COpd) (j : Nat) (w : Bool) (b : Nat) (r : List CO) (i : Nat) (L : List (Nat × A)) (hp : Heap) (nx m : Nat) (dy : List Nat) (Q : St → Prop) :
    opsW kf cf nb (⟨d, o, some (j, w), b⟩ :: r) i ⟨gS L, hp, nx, m, dy⟩ Q = gdK (gS L j) w (opsW kf cf nb (⟨d, o, none, b⟩ :: r) i ⟨gS L, hp, nx, m, dy⟩ Q) (opsW kf cf nb r (i + 1) ⟨gS (setL d (.tup []) L), hp, nx, m, dy⟩ Q) := by
  rw [eq_iff_iff]
  simp only [opsW, opsW0, astep_g, wantedA]
  generalize gS L j = v
  have hT : ∀ (s0 : St) (X : Prop), (∃ s' f w, some (s0, ([] : List Nat), ([] : List Nat)) = some (s', f, w) ∧ opsW kf cf nb r (i + 1) s' Q) ↔ opsW kf cf nb r (i + 1) s0 Q := fun s0 X =>
    ⟨fun ⟨_, _, _, h, hq⟩ => (by cases h; exact hq), fun h => ⟨_, _, _, rfl, h⟩⟩
  cases v with
  | d x =>
    cases x with
    | bool t =>
      cases t <;> cases w <;> first
        | exact Iff.rfl
        | exact hT _ True
    | _ => exact ⟨fun ⟨_, _, _, h, _⟩ => (by cases h), fun h => h.elim⟩
  | tup cs =>
    cases cs with
    | nil => exact hT _ True
    | cons c cs => exact ⟨fun ⟨_, _, _, h, _⟩ => (by cases h), fun h => h.elim⟩
  | _ => exact ⟨fun ⟨_, _, _, h, _⟩ => (by cases h), fun h => h.elim⟩
theorem opsD_g (nb : Nat) (d : Option Nat) (o : COp COpd) (j : Nat) (w : Bool) (b : Nat) (r : List CO) (i : Nat) (L : List (Nat × A)) (hp : Heap) (nx m : Nat) (dy : List Nat) (acc : List (CO × List Nat × List Nat)) (Q : St → List (CO × List Nat × List Nat) → Prop) :
    opsD kf cf nb (⟨d, o, some (j, w), b⟩ :: r) i ⟨gS L, hp, nx, m, dy⟩ acc Q = gdK (gS L j) w (∃ s' f ws, astep kf cf ⟨d, o, none, b⟩ (nb + 8 * i) ⟨gS L, hp, nx, m, dy⟩ = some (s', f, ws) ∧ opsD kf cf nb r (i + 1) s' (acc ++ [(⟨d, o, some (j, w), b⟩, f, ws)]) Q) (opsD kf cf nb r (i + 1) ⟨gS (setL d (.tup []) L), hp, nx, m, dy⟩ (acc ++ [(⟨d, o, some (j, w), b⟩, [], [])]) Q) := by
  rw [eq_iff_iff]
  simp only [opsD, opsD0, astep_g, wantedA]
  generalize gS L j = v
  have hT : ∀ (s0 : St), (∃ s' f ws, some (s0, ([] : List Nat), ([] : List Nat)) = some (s', f, ws) ∧ opsD kf cf nb r (i + 1) s' (acc ++ [(⟨d, o, some (j, w), b⟩, f, ws)]) Q) ↔ opsD kf cf nb r (i + 1) s0 (acc ++ [(⟨d, o, some (j, w), b⟩, [], [])]) Q := fun s0 =>
    ⟨fun ⟨_, _, _, h, hq⟩ => (by cases h; exact hq), fun h => ⟨_, _, _, rfl, h⟩⟩
  cases v with
  | d x =>
    cases x with
    | bool t =>
      cases t <;> cases w <;> first
        | exact Iff.rfl
        | exact hT _
    | _ => exact ⟨fun ⟨_, _, _, h, _⟩ => (by cases h), fun h => h.elim⟩
  | tup cs =>
    cases cs with
    | nil => exact hT _
    | cons c cs => exact ⟨fun ⟨_, _, _, h, _⟩ => (by cases h), fun h => h.elim⟩
  | _ => exact ⟨fun ⟨_, _, _, h, _⟩ => (by cases h), fun h => h.elim⟩
/-- An operation in a region of any order, under the name that is kept of it. -/
def stD (nb : Nat) (c : CO) (co : COp A) (r : List CO) (i : Nat) (L : List (Nat × A)) (hp : Heap) (nx m : Nat) (dy : List Nat) (acc : List (CO × List Nat × List Nat)) (Q : St → List (CO × List Nat × List Nat) → Prop) (p : A × Writes) : Prop :=
  opsD kf cf nb r (i + 1) ⟨gS (setL c.dst p.1 L), applyW hp p.2, nx, m, addD m p.2 dy⟩ (acc ++ [(c, foot hp co, p.2.map (·.1))]) Q
@[congr] theorem stD_congr {nb : Nat} {c : CO} {co : COp A} {r : List CO} {i : Nat} {L : List (Nat × A)} {hp : Heap} {nx m : Nat} {dy : List Nat} {acc : List (CO × List Nat × List Nat)} {Q : St → List (CO × List Nat × List Nat) → Prop} {p p' : A × Writes} (h : p = p') :
    stD kf cf nb c co r i L hp nx m dy acc Q p = stD kf cf nb c co r i L hp nx m dy acc Q p' := by rw [h]
theorem stD_eq (nb : Nat) (d : Option Nat) (o : COp COpd) (g : Option (Nat × Bool)) (b : Nat) (co : COp A) (r : List CO) (i : Nat) (L : List (Nat × A)) (hp : Heap) (nx m : Nat) (dy : List Nat) (acc : List (CO × List Nat × List Nat)) (Q : St → List (CO × List Nat × List Nat) → Prop) (v : A) (ws : Writes) :
    stD kf cf nb ⟨d, o, g, b⟩ co r i L hp nx m dy acc Q (v, ws) = opsD kf cf nb r (i + 1) ⟨gS (setL d v L), applyW hp ws, nx, m, addD m ws dy⟩ (acc ++ [(⟨d, o, g, b⟩, foot hp co, ws.map (·.1))]) Q := rfl
theorem opsD_nil (nb i : Nat) (s : St) (acc : List (CO × List Nat × List Nat)) (Q : St → List (CO × List Nat × List Nat) → Prop) : opsD kf cf nb [] i s acc Q = Q s acc := rfl
theorem opsD_op0 (nb : Nat) (d : Option Nat) (o : COp COpd) (g : Option (Nat × Bool)) (b : Nat) (r : List CO) (i : Nat) (L : List (Nat × A)) (hp : Heap) (nx m : Nat) (dy : List Nat) (acc : List (CO × List Nat × List Nat)) (Q : St → List (CO × List Nat × List Nat) → Prop) (hc : o.isCall = false) :
    (∃ s' f ws, astep kf cf ⟨d, o, none, b⟩ (nb + 8 * i) ⟨gS L, hp, nx, m, dy⟩ = some (s', f, ws) ∧ opsD kf cf nb r (i + 1) s' (acc ++ [(⟨d, o, g, b⟩, f, ws)]) Q) = opK (aop kf cf (nb + 8 * i) hp (o.mapO (val (gS L)))) (stD kf cf nb ⟨d, o, g, b⟩ (o.mapO (val (gS L))) r i L hp nx m dy acc Q) := by
  rw [eq_iff_iff, astep_op hc]
  simp only
  cases aop kf cf (nb + 8 * i) hp (o.mapO (val (gS L))) with
  | none => simp [opK]
  | some p =>
    obtain ⟨v, ws⟩ := p
    simp only [opK_some, stD_eq, setDst_gS]
    constructor
    · rintro ⟨s', f, w, h1, h2⟩
      simp only [Option.some.injEq, Prod.mk.injEq] at h1
      obtain ⟨rfl, rfl, rfl⟩ := h1
      exact h2
    · intro h
      exact ⟨_, _, _, rfl, h⟩
theorem opsD_op (nb : Nat) (d : Option Nat) (o : COp COpd) (b : Nat) (r : List CO) (i : Nat) (L : List (Nat × A)) (hp : Heap) (nx m : Nat) (dy : List Nat) (acc : List (CO × List Nat × List Nat)) (Q : St → List (CO × List Nat × List Nat) → Prop) (hc : o.isCall = false) :
    opsD kf cf nb (⟨d, o, none, b⟩ :: r) i ⟨gS L, hp, nx, m, dy⟩ acc Q = opK (aop kf cf (nb + 8 * i) hp (o.mapO (val (gS L)))) (stD kf cf nb ⟨d, o, none, b⟩ (o.mapO (val (gS L))) r i L hp nx m dy acc Q) := opsD_op0 kf cf nb d o none b r i L hp nx m dy acc Q hc
theorem opsD_opG (nb : Nat) (d : Option Nat) (o : COp COpd) (j : Nat) (w : Bool) (b : Nat) (r : List CO) (i : Nat) (L : List (Nat × A)) (hp : Heap) (nx m : Nat) (dy : List Nat) (acc : List (CO × List Nat × List Nat)) (Q : St → List (CO × List Nat × List Nat) → Prop) (hc : o.isCall = false) :
    opsD kf cf nb (⟨d, o, some (j, w), b⟩ :: r) i ⟨gS L, hp, nx, m, dy⟩ acc Q = gdK (gS L j) w (opK (aop kf cf (nb + 8 * i) hp (o.mapO (val (gS L)))) (stD kf cf nb ⟨d, o, some (j, w), b⟩ (o.mapO (val (gS L))) r i L hp nx m dy acc Q)) (opsD kf cf nb r (i + 1) ⟨gS (setL d (.tup []) L), hp, nx, m, dy⟩ (acc ++ [(⟨d, o, some (j, w), b⟩, [], [])]) Q) := by
  rw [opsD_g, opsD_op0 kf cf nb d o (some (j, w)) b r i L hp nx m dy acc Q hc]
/-- A call in a region of any order. -/
theorem opsD_call {nb : Nat} {d : Option Nat} {f : COpd} {as : List COpd} {b : Nat} {r : List CO} {i : Nat} {L : List (Nat × A)} {hp : Heap} {nx m : Nat} {dy : List Nat} {acc : List (CO × List Nat × List Nat)} {Q : St → List (CO × List Nat × List Nat) → Prop} {v : A} {ws : Writes} {fp : List Nat}
    (hf : reach hp 1000 (val (gS L) f :: as.map (val (gS L))) [] = fp)
    (h : aop kf cf (nb + 8 * i) (restrict hp fp) (.call (val (gS L) f) (as.map (val (gS L)))) = some (v, ws)) (hw : okW fp (nb + 8 * i) ws = true)
    (hk : opsD kf cf nb r (i + 1) ⟨gS (setL d v L), applyW hp ws, nx, m, addD m ws dy⟩ (acc ++ [(⟨d, .call f as, none, b⟩, fp, ws.map (·.1))]) Q) : opsD kf cf nb (⟨d, .call f as, none, b⟩ :: r) i ⟨gS L, hp, nx, m, dy⟩ acc Q := by
  simp only [opsD, opsD0]
  refine ⟨⟨gS (setL d v L), applyW hp ws, nx, m, addD m ws dy⟩, fp, ws.map (·.1), ?_, by exact hk⟩
  subst hf
  unfold astep
  simp only [wantedA, COp.mapO, foot]
  rw [h]
  simp only
  have hw' : (ws.all fun p => (reach hp 1000 (val (gS L) f :: as.map (val (gS L))) []).contains p.1 || (decide (nb + 8 * i ≤ p.1) && decide (p.1 < nb + 8 * i + 8))) = true := hw
  simp only [hw', if_true, addD_eq, setDst_gS]
end
end Go.Vm
end
section
/- PRINTED BY mkops.py of this repository: for each operation that is no call its rule. -/
set_option linter.unusedVariables false
namespace Go.Vm
variable (kf : Bool) (cf : CallF) (nb : Nat) (d : Option Nat) (b : Nat) (r : List CO) (i : Nat) (L : List (Nat × A)) (hp : Heap) (nx m : Nat) (dy : List Nat) (Q : St → Prop)
theorem w_mv (x : COpd) : opsW kf cf nb (⟨d, .mv x, none, b⟩ :: r) i ⟨gS L, hp, nx, m, dy⟩ Q = opK (aop kf cf (nb + 8 * i) hp (.mv (val (gS L) x))) (stK (kf := kf) (cf := cf) nb d r i L hp nx m dy Q) := opsW_op kf cf nb d _ b r i L hp nx m dy Q rfl
theorem w_pick (c a e : COpd) : opsW kf cf nb (⟨d, .pick c a e, none, b⟩ :: r) i ⟨gS L, hp, nx, m, dy⟩ Q = opK (aop kf cf (nb + 8 * i) hp (.pick (val (gS L) c) (val (gS L) a) (val (gS L) e))) (stK (kf := kf) (cf := cf) nb d r i L hp nx m dy Q) := opsW_op kf cf nb d _ b r i L hp nx m dy Q rfl
theorem w_alloc (z : List A) (rz : List (Nat × Nat)) : opsW kf cf nb (⟨d, .alloc z rz, none, b⟩ :: r) i ⟨gS L, hp, nx, m, dy⟩ Q = opK (aop kf cf (nb + 8 * i) hp (.alloc z rz)) (stK (kf := kf) (cf := cf) nb d r i L hp nx m dy Q) := opsW_op kf cf nb d _ b r i L hp nx m dy Q rfl
theorem w_box (sz : Nat) (x : COpd) (rz : List (Nat × Nat)) : opsW kf cf nb (⟨d, .box sz x rz, none, b⟩ :: r) i ⟨gS L, hp, nx, m, dy⟩ Q = opK (aop kf cf (nb + 8 * i) hp (.box sz (val (gS L) x) rz)) (stK (kf := kf) (cf := cf) nb d r i L hp nx m dy Q) := opsW_op kf cf nb d _ b r i L hp nx m dy Q rfl
theorem w_build (z : List A) (ps : List (Nat × Nat × COpd)) : opsW kf cf nb (⟨d, .build z ps, none, b⟩ :: r) i ⟨gS L, hp, nx, m, dy⟩ Q = opK (aop kf cf (nb + 8 * i) hp (.build z (mapP (val (gS L)) ps))) (stK (kf := kf) (cf := cf) nb d r i L hp nx m dy Q) := (opsW_op kf cf nb d _ b r i L hp nx m dy Q rfl).trans (by rw [p_build])
theorem w_bslice (sz ln : Nat) (z : List D) (full : Bool) (ps : List (Nat × COpd)) : opsW kf cf nb (⟨d, .bslice sz ln z full ps, none, b⟩ :: r) i ⟨gS L, hp, nx, m, dy⟩ Q = opK (aop kf cf (nb + 8 * i) hp (.bslice sz ln z full (mapQ (val (gS L)) ps))) (stK (kf := kf) (cf := cf) nb d r i L hp nx m dy Q) := (opsW_op kf cf nb d _ b r i L hp nx m dy Q rfl).trans (by rw [p_bslice])
theorem w_load (ag : Bool) (sz : Nat) (x : COpd) : opsW kf cf nb (⟨d, .load ag sz x, none, b⟩ :: r) i ⟨gS L, hp, nx, m, dy⟩ Q = opK (aop kf cf (nb + 8 * i) hp (.load ag sz (val (gS L) x))) (stK (kf := kf) (cf := cf) nb d r i L hp nx m dy Q) := opsW_op kf cf nb d _ b r i L hp nx m dy Q rfl
theorem w_store (sz : Nat) (x v : COpd) : opsW kf cf nb (⟨d, .store sz x v, none, b⟩ :: r) i ⟨gS L, hp, nx, m, dy⟩ Q = opK (aop kf cf (nb + 8 * i) hp (.store sz (val (gS L) x) (val (gS L) v))) (stK (kf := kf) (cf := cf) nb d r i L hp nx m dy Q) := opsW_op kf cf nb d _ b r i L hp nx m dy Q rfl
theorem w_nilck (x : COpd) : opsW kf cf nb (⟨d, .nilck x, none, b⟩ :: r) i ⟨gS L, hp, nx, m, dy⟩ Q = opK (aop kf cf (nb + 8 * i) hp (.nilck (val (gS L) x))) (stK (kf := kf) (cf := cf) nb d r i L hp nx m dy Q) := opsW_op kf cf nb d _ b r i L hp nx m dy Q rfl
theorem w_bin (k : BK) (op : BinOp) (x y : COpd) : opsW kf cf nb (⟨d, .bin k op x y, none, b⟩ :: r) i ⟨gS L, hp, nx, m, dy⟩ Q = opK (aop kf cf (nb + 8 * i) hp (.bin k op (val (gS L) x) (val (gS L) y))) (stK (kf := kf) (cf := cf) nb d r i L hp nx m dy Q) := opsW_op kf cf nb d _ b r i L hp nx m dy Q rfl
theorem w_eqs (ks : List BK) (ng : Bool) (x y : COpd) : opsW kf cf nb (⟨d, .eqs ks ng x y, none, b⟩ :: r) i ⟨gS L, hp, nx, m, dy⟩ Q = opK (aop kf cf (nb + 8 * i) hp (.eqs ks ng (val (gS L) x) (val (gS L) y))) (stK (kf := kf) (cf := cf) nb d r i L hp nx m dy Q) := opsW_op kf cf nb d _ b r i L hp nx m dy Q rfl
theorem w_un (op : UnOp) (x : COpd) : opsW kf cf nb (⟨d, .un op x, none, b⟩ :: r) i ⟨gS L, hp, nx, m, dy⟩ Q = opK (aop kf cf (nb + 8 * i) hp (.un op (val (gS L) x))) (stK (kf := kf) (cf := cf) nb d r i L hp nx m dy Q) := opsW_op kf cf nb d _ b r i L hp nx m dy Q rfl
theorem w_conv (k : IntKind) (x : COpd) : opsW kf cf nb (⟨d, .conv k x, none, b⟩ :: r) i ⟨gS L, hp, nx, m, dy⟩ Q = opK (aop kf cf (nb + 8 * i) hp (.conv k (val (gS L) x))) (stK (kf := kf) (cf := cf) nb d r i L hp nx m dy Q) := opsW_op kf cf nb d _ b r i L hp nx m dy Q rfl
theorem w_same (x : COpd) : opsW kf cf nb (⟨d, .same x, none, b⟩ :: r) i ⟨gS L, hp, nx, m, dy⟩ Q = opK (aop kf cf (nb + 8 * i) hp (.same (val (gS L) x))) (stK (kf := kf) (cf := cf) nb d r i L hp nx m dy Q) := opsW_op kf cf nb d _ b r i L hp nx m dy Q rfl
theorem w_strish (x : COpd) : opsW kf cf nb (⟨d, .strish x, none, b⟩ :: r) i ⟨gS L, hp, nx, m, dy⟩ Q = opK (aop kf cf (nb + 8 * i) hp (.strish (val (gS L) x))) (stK (kf := kf) (cf := cf) nb d r i L hp nx m dy Q) := opsW_op kf cf nb d _ b r i L hp nx m dy Q rfl
theorem w_b2s (x : COpd) : opsW kf cf nb (⟨d, .b2s x, none, b⟩ :: r) i ⟨gS L, hp, nx, m, dy⟩ Q = opK (aop kf cf (nb + 8 * i) hp (.b2s (val (gS L) x))) (stK (kf := kf) (cf := cf) nb d r i L hp nx m dy Q) := opsW_op kf cf nb d _ b r i L hp nx m dy Q rfl
theorem w_s2a (n : Nat) (x : COpd) : opsW kf cf nb (⟨d, .s2a n x, none, b⟩ :: r) i ⟨gS L, hp, nx, m, dy⟩ Q = opK (aop kf cf (nb + 8 * i) hp (.s2a n (val (gS L) x))) (stK (kf := kf) (cf := cf) nb d r i L hp nx m dy Q) := opsW_op kf cf nb d _ b r i L hp nx m dy Q rfl
theorem w_mkfn (g : FuncId) (cs : List COpd) : opsW kf cf nb (⟨d, .mkfn g cs, none, b⟩ :: r) i ⟨gS L, hp, nx, m, dy⟩ Q = opK (aop kf cf (nb + 8 * i) hp (.mkfn g (cs.map (val (gS L))))) (stK (kf := kf) (cf := cf) nb d r i L hp nx m dy Q) := opsW_op kf cf nb d _ b r i L hp nx m dy Q rfl
theorem w_mkmap (ag : Bool) : opsW kf cf nb (⟨d, .mkmap ag, none, b⟩ :: r) i ⟨gS L, hp, nx, m, dy⟩ Q = opK (aop kf cf (nb + 8 * i) hp (.mkmap ag)) (stK (kf := kf) (cf := cf) nb d r i L hp nx m dy Q) := opsW_op kf cf nb d _ b r i L hp nx m dy Q rfl
theorem w_mkslice (z : List D) (sz bt : Nat) (full : Bool) (n c : COpd) : opsW kf cf nb (⟨d, .mkslice z sz bt full n c, none, b⟩ :: r) i ⟨gS L, hp, nx, m, dy⟩ Q = opK (aop kf cf (nb + 8 * i) hp (.mkslice z sz bt full (val (gS L) n) (val (gS L) c))) (stK (kf := kf) (cf := cf) nb d r i L hp nx m dy Q) := opsW_op kf cf nb d _ b r i L hp nx m dy Q rfl
theorem w_slStr (x : COpd) (lo hi : Option COpd) : opsW kf cf nb (⟨d, .slStr x lo hi, none, b⟩ :: r) i ⟨gS L, hp, nx, m, dy⟩ Q = opK (aop kf cf (nb + 8 * i) hp (.slStr (val (gS L) x) (mapM1 (val (gS L)) lo) (mapM1 (val (gS L)) hi))) (stK (kf := kf) (cf := cf) nb d r i L hp nx m dy Q) := (opsW_op kf cf nb d _ b r i L hp nx m dy Q rfl).trans (by rw [p_slStr])
theorem w_slSl (sz : Nat) (x : COpd) (lo hi mx : Option COpd) : opsW kf cf nb (⟨d, .slSl sz x lo hi mx, none, b⟩ :: r) i ⟨gS L, hp, nx, m, dy⟩ Q = opK (aop kf cf (nb + 8 * i) hp (.slSl sz (val (gS L) x) (mapM1 (val (gS L)) lo) (mapM1 (val (gS L)) hi) (mapM1 (val (gS L)) mx))) (stK (kf := kf) (cf := cf) nb d r i L hp nx m dy Q) := (opsW_op kf cf nb d _ b r i L hp nx m dy Q rfl).trans (by rw [p_slSl])
theorem w_slArr (n sz : Nat) (x : COpd) (lo hi : Option COpd) : opsW kf cf nb (⟨d, .slArr n sz x lo hi, none, b⟩ :: r) i ⟨gS L, hp, nx, m, dy⟩ Q = opK (aop kf cf (nb + 8 * i) hp (.slArr n sz (val (gS L) x) (mapM1 (val (gS L)) lo) (mapM1 (val (gS L)) hi))) (stK (kf := kf) (cf := cf) nb d r i L hp nx m dy Q) := (opsW_op kf cf nb d _ b r i L hp nx m dy Q rfl).trans (by rw [p_slArr])
theorem w_fa (off : Nat) (x : COpd) : opsW kf cf nb (⟨d, .fa off x, none, b⟩ :: r) i ⟨gS L, hp, nx, m, dy⟩ Q = opK (aop kf cf (nb + 8 * i) hp (.fa off (val (gS L) x))) (stK (kf := kf) (cf := cf) nb d r i L hp nx m dy Q) := opsW_op kf cf nb d _ b r i L hp nx m dy Q rfl
theorem w_fld (ag : Bool) (off sz : Nat) (x : COpd) : opsW kf cf nb (⟨d, .fld ag off sz x, none, b⟩ :: r) i ⟨gS L, hp, nx, m, dy⟩ Q = opK (aop kf cf (nb + 8 * i) hp (.fld ag off sz (val (gS L) x))) (stK (kf := kf) (cf := cf) nb d r i L hp nx m dy Q) := opsW_op kf cf nb d _ b r i L hp nx m dy Q rfl
theorem w_ia (sz : Nat) (x j : COpd) : opsW kf cf nb (⟨d, .ia sz x j, none, b⟩ :: r) i ⟨gS L, hp, nx, m, dy⟩ Q = opK (aop kf cf (nb + 8 * i) hp (.ia sz (val (gS L) x) (val (gS L) j))) (stK (kf := kf) (cf := cf) nb d r i L hp nx m dy Q) := opsW_op kf cf nb d _ b r i L hp nx m dy Q rfl
theorem w_iaArr (n sz : Nat) (x j : COpd) : opsW kf cf nb (⟨d, .iaArr n sz x j, none, b⟩ :: r) i ⟨gS L, hp, nx, m, dy⟩ Q = opK (aop kf cf (nb + 8 * i) hp (.iaArr n sz (val (gS L) x) (val (gS L) j))) (stK (kf := kf) (cf := cf) nb d r i L hp nx m dy Q) := opsW_op kf cf nb d _ b r i L hp nx m dy Q rfl
theorem w_idxStr (x j : COpd) : opsW kf cf nb (⟨d, .idxStr x j, none, b⟩ :: r) i ⟨gS L, hp, nx, m, dy⟩ Q = opK (aop kf cf (nb + 8 * i) hp (.idxStr (val (gS L) x) (val (gS L) j))) (stK (kf := kf) (cf := cf) nb d r i L hp nx m dy Q) := opsW_op kf cf nb d _ b r i L hp nx m dy Q rfl
theorem w_idxArr (ag : Bool) (n sz : Nat) (x j : COpd) : opsW kf cf nb (⟨d, .idxArr ag n sz x j, none, b⟩ :: r) i ⟨gS L, hp, nx, m, dy⟩ Q = opK (aop kf cf (nb + 8 * i) hp (.idxArr ag n sz (val (gS L) x) (val (gS L) j))) (stK (kf := kf) (cf := cf) nb d r i L hp nx m dy Q) := opsW_op kf cf nb d _ b r i L hp nx m dy Q rfl
theorem w_look (ks : List BK) (ag ok : Bool) (z : D) (x j : COpd) : opsW kf cf nb (⟨d, .look ks ag ok z x j, none, b⟩ :: r) i ⟨gS L, hp, nx, m, dy⟩ Q = opK (aop kf cf (nb + 8 * i) hp (.look ks ag ok z (val (gS L) x) (val (gS L) j))) (stK (kf := kf) (cf := cf) nb d r i L hp nx m dy Q) := opsW_op kf cf nb d _ b r i L hp nx m dy Q rfl
theorem w_mput (ks : List BK) (ag : Bool) (x j v : COpd) : opsW kf cf nb (⟨d, .mput ks ag x j v, none, b⟩ :: r) i ⟨gS L, hp, nx, m, dy⟩ Q = opK (aop kf cf (nb + 8 * i) hp (.mput ks ag (val (gS L) x) (val (gS L) j) (val (gS L) v))) (stK (kf := kf) (cf := cf) nb d r i L hp nx m dy Q) := opsW_op kf cf nb d _ b r i L hp nx m dy Q rfl
theorem w_ext (n : Nat) (x : COpd) : opsW kf cf nb (⟨d, .ext n x, none, b⟩ :: r) i ⟨gS L, hp, nx, m, dy⟩ Q = opK (aop kf cf (nb + 8 * i) hp (.ext n (val (gS L) x))) (stK (kf := kf) (cf := cf) nb d r i L hp nx m dy Q) := opsW_op kf cf nb d _ b r i L hp nx m dy Q rfl
theorem w_len (k : BK) (x : COpd) : opsW kf cf nb (⟨d, .len k x, none, b⟩ :: r) i ⟨gS L, hp, nx, m, dy⟩ Q = opK (aop kf cf (nb + 8 * i) hp (.len k (val (gS L) x))) (stK (kf := kf) (cf := cf) nb d r i L hp nx m dy Q) := opsW_op kf cf nb d _ b r i L hp nx m dy Q rfl
theorem w_app (sz bt : Nat) (x y : COpd) : opsW kf cf nb (⟨d, .app sz bt x y, none, b⟩ :: r) i ⟨gS L, hp, nx, m, dy⟩ Q = opK (aop kf cf (nb + 8 * i) hp (.app sz bt (val (gS L) x) (val (gS L) y))) (stK (kf := kf) (cf := cf) nb d r i L hp nx m dy Q) := opsW_op kf cf nb d _ b r i L hp nx m dy Q rfl
theorem w_copy (sz : Nat) (x y : COpd) : opsW kf cf nb (⟨d, .copy sz x y, none, b⟩ :: r) i ⟨gS L, hp, nx, m, dy⟩ Q = opK (aop kf cf (nb + 8 * i) hp (.copy sz (val (gS L) x) (val (gS L) y))) (stK (kf := kf) (cf := cf) nb d r i L hp nx m dy Q) := opsW_op kf cf nb d _ b r i L hp nx m dy Q rfl
theorem w_clear (z : List D) (sz : Nat) (x : COpd) : opsW kf cf nb (⟨d, .clear z sz x, none, b⟩ :: r) i ⟨gS L, hp, nx, m, dy⟩ Q = opK (aop kf cf (nb + 8 * i) hp (.clear z sz (val (gS L) x))) (stK (kf := kf) (cf := cf) nb d r i L hp nx m dy Q) := opsW_op kf cf nb d _ b r i L hp nx m dy Q rfl
theorem w_min (x : COpd) (ys : List COpd) : opsW kf cf nb (⟨d, .min x ys, none, b⟩ :: r) i ⟨gS L, hp, nx, m, dy⟩ Q = opK (aop kf cf (nb + 8 * i) hp (.min (val (gS L) x) (ys.map (val (gS L))))) (stK (kf := kf) (cf := cf) nb d r i L hp nx m dy Q) := opsW_op kf cf nb d _ b r i L hp nx m dy Q rfl
theorem w_max (x : COpd) (ys : List COpd) : opsW kf cf nb (⟨d, .max x ys, none, b⟩ :: r) i ⟨gS L, hp, nx, m, dy⟩ Q = opK (aop kf cf (nb + 8 * i) hp (.max (val (gS L) x) (ys.map (val (gS L))))) (stK (kf := kf) (cf := cf) nb d r i L hp nx m dy Q) := opsW_op kf cf nb d _ b r i L hp nx m dy Q rfl
variable (acc : List (CO × List Nat × List Nat)) (R : St → List (CO × List Nat × List Nat) → Prop) (jj : Nat) (ww : Bool)
theorem x_mv (x : COpd) : opsD kf cf nb (⟨d, .mv x, none, b⟩ :: r) i ⟨gS L, hp, nx, m, dy⟩ acc R = opK (aop kf cf (nb + 8 * i) hp (.mv (val (gS L) x))) (stD kf cf nb ⟨d, .mv x, none, b⟩ (.mv (val (gS L) x)) r i L hp nx m dy acc R) := opsD_op kf cf nb d _ b r i L hp nx m dy acc R rfl
theorem x_pick (c a e : COpd) : opsD kf cf nb (⟨d, .pick c a e, none, b⟩ :: r) i ⟨gS L, hp, nx, m, dy⟩ acc R = opK (aop kf cf (nb + 8 * i) hp (.pick (val (gS L) c) (val (gS L) a) (val (gS L) e))) (stD kf cf nb ⟨d, .pick c a e, none, b⟩ (.pick (val (gS L) c) (val (gS L) a) (val (gS L) e)) r i L hp nx m dy acc R) := opsD_op kf cf nb d _ b r i L hp nx m dy acc R rfl
theorem x_alloc (z : List A) (rz : List (Nat × Nat)) : opsD kf cf nb (⟨d, .alloc z rz, none, b⟩ :: r) i ⟨gS L, hp, nx, m, dy⟩ acc R = opK (aop kf cf (nb + 8 * i) hp (.alloc z rz)) (stD kf cf nb ⟨d, .alloc z rz, none, b⟩ (.alloc z rz) r i L hp nx m dy acc R) := opsD_op kf cf nb d _ b r i L hp nx m dy acc R rfl
theorem x_box (sz : Nat) (x : COpd) (rz : List (Nat × Nat)) : opsD kf cf nb (⟨d, .box sz x rz, none, b⟩ :: r) i ⟨gS L, hp, nx, m, dy⟩ acc R = opK (aop kf cf (nb + 8 * i) hp (.box sz (val (gS L) x) rz)) (stD kf cf nb ⟨d, .box sz x rz, none, b⟩ (.box sz (val (gS L) x) rz) r i L hp nx m dy acc R) := opsD_op kf cf nb d _ b r i L hp nx m dy acc R rfl
theorem x_build (z : List A) (ps : List (Nat × Nat × COpd)) : opsD kf cf nb (⟨d, .build z ps, none, b⟩ :: r) i ⟨gS L, hp, nx, m, dy⟩ acc R = opK (aop kf cf (nb + 8 * i) hp (.build z (mapP (val (gS L)) ps))) (stD kf cf nb ⟨d, .build z ps, none, b⟩ (.build z (mapP (val (gS L)) ps)) r i L hp nx m dy acc R) := (opsD_op kf cf nb d _ b r i L hp nx m dy acc R rfl).trans (by rw [p_build])
theorem x_bslice (sz ln : Nat) (z : List D) (full : Bool) (ps : List (Nat × COpd)) : opsD kf cf nb (⟨d, .bslice sz ln z full ps, none, b⟩ :: r) i ⟨gS L, hp, nx, m, dy⟩ acc R = opK (aop kf cf (nb + 8 * i) hp (.bslice sz ln z full (mapQ (val (gS L)) ps))) (stD kf cf nb ⟨d, .bslice sz ln z full ps, none, b⟩ (.bslice sz ln z full (mapQ (val (gS L)) ps)) r i L hp nx m dy acc R) := (opsD_op kf cf nb d _ b r i L hp nx m dy acc R rfl).trans (by rw [p_bslice])
theorem x_load (ag : Bool) (sz : Nat) (x : COpd) : opsD kf cf nb (⟨d, .load ag sz x, none, b⟩ :: r) i ⟨gS L, hp, nx, m, dy⟩ acc R = opK (aop kf cf (nb + 8 * i) hp (.load ag sz (val (gS L) x))) (stD kf cf nb ⟨d, .load ag sz x, none, b⟩ (.load ag sz (val (gS L) x)) r i L hp nx m dy acc R) := opsD_op kf cf nb d _ b r i L hp nx m dy acc R rfl
theorem x_store (sz : Nat) (x v : COpd) : opsD kf cf nb (⟨d, .store sz x v, none, b⟩ :: r) i ⟨gS L, hp, nx, m, dy⟩ acc R = opK (aop kf cf (nb + 8 * i) hp (.store sz (val (gS L) x) (val (gS L) v))) (stD kf cf nb ⟨d, .store sz x v, none, b⟩ (.store sz (val (gS L) x) (val (gS L) v)) r i L hp nx m dy acc R) := opsD_op kf cf nb d _ b r i L hp nx m dy acc R rfl
theorem x_nilck (x : COpd) : opsD kf cf nb (⟨d, .nilck x, none, b⟩ :: r) i ⟨gS L, hp, nx, m, dy⟩ acc R = opK (aop kf cf (nb + 8 * i) hp (.nilck (val (gS L) x))) (stD kf cf nb ⟨d, .nilck x, none, b⟩ (.nilck (val (gS L) x)) r i L hp nx m dy acc R) := opsD_op kf cf nb d _ b r i L hp nx m dy acc R rfl
theorem x_bin (k : BK) (op : BinOp) (x y : COpd) : opsD kf cf nb (⟨d, .bin k op x y, none, b⟩ :: r) i ⟨gS L, hp, nx, m, dy⟩ acc R = opK (aop kf cf (nb + 8 * i) hp (.bin k op (val (gS L) x) (val (gS L) y))) (stD kf cf nb ⟨d, .bin k op x y, none, b⟩ (.bin k op (val (gS L) x) (val (gS L) y)) r i L hp nx m dy acc R) := opsD_op kf cf nb d _ b r i L hp nx m dy acc R rfl
theorem x_eqs (ks : List BK) (ng : Bool) (x y : COpd) : opsD kf cf nb (⟨d, .eqs ks ng x y, none, b⟩ :: r) i ⟨gS L, hp, nx, m, dy⟩ acc R = opK (aop kf cf (nb + 8 * i) hp (.eqs ks ng (val (gS L) x) (val (gS L) y))) (stD kf cf nb ⟨d, .eqs ks ng x y, none, b⟩ (.eqs ks ng (val (gS L) x) (val (gS L) y)) r i L hp nx m dy acc R) := opsD_op kf cf nb d _ b r i L hp nx m dy acc R rfl
theorem x_un (op : UnOp) (x : COpd) : opsD kf cf nb (⟨d, .un op x, none, b⟩ :: r) i ⟨gS L, hp, nx, m, dy⟩ acc R = opK (aop kf cf (nb + 8 * i) hp (.un op (val (gS L) x))) (stD kf cf nb ⟨d, .un op x, none, b⟩ (.un op (val (gS L) x)) r i L hp nx m dy acc R) := opsD_op kf cf nb d _ b r i L hp nx m dy acc R rfl
theorem x_conv (k : IntKind) (x : COpd) : opsD kf cf nb (⟨d, .conv k x, none, b⟩ :: r) i ⟨gS L, hp, nx, m, dy⟩ acc R = opK (aop kf cf (nb + 8 * i) hp (.conv k (val (gS L) x))) (stD kf cf nb ⟨d, .conv k x, none, b⟩ (.conv k (val (gS L) x)) r i L hp nx m dy acc R) := opsD_op kf cf nb d _ b r i L hp nx m dy acc R rfl
theorem x_same (x : COpd) : opsD kf cf nb (⟨d, .same x, none, b⟩ :: r) i ⟨gS L, hp, nx, m, dy⟩ acc R = opK (aop kf cf (nb + 8 * i) hp (.same (val (gS L) x))) (stD kf cf nb ⟨d, .same x, none, b⟩ (.same (val (gS L) x)) r i L hp nx m dy acc R) := opsD_op kf cf nb d _ b r i L hp nx m dy acc R rfl
theorem x_strish (x : COpd) : opsD kf cf nb (⟨d, .strish x, none, b⟩ :: r) i ⟨gS L, hp, nx, m, dy⟩ acc R = opK (aop kf cf (nb + 8 * i) hp (.strish (val (gS L) x))) (stD kf cf nb ⟨d, .strish x, none, b⟩ (.strish (val (gS L) x)) r i L hp nx m dy acc R) := opsD_op kf cf nb d _ b r i L hp nx m dy acc R rfl
theorem x_b2s (x : COpd) : opsD kf cf nb (⟨d, .b2s x, none, b⟩ :: r) i ⟨gS L, hp, nx, m, dy⟩ acc R = opK (aop kf cf (nb + 8 * i) hp (.b2s (val (gS L) x))) (stD kf cf nb ⟨d, .b2s x, none, b⟩ (.b2s (val (gS L) x)) r i L hp nx m dy acc R) := opsD_op kf cf nb d _ b r i L hp nx m dy acc R rfl
theorem x_s2a (n : Nat) (x : COpd) : opsD kf cf nb (⟨d, .s2a n x, none, b⟩ :: r) i ⟨gS L, hp, nx, m, dy⟩ acc R = opK (aop kf cf (nb + 8 * i) hp (.s2a n (val (gS L) x))) (stD kf cf nb ⟨d, .s2a n x, none, b⟩ (.s2a n (val (gS L) x)) r i L hp nx m dy acc R) := opsD_op kf cf nb d _ b r i L hp nx m dy acc R rfl
theorem x_mkfn (g : FuncId) (cs : List COpd) : opsD kf cf nb (⟨d, .mkfn g cs, none, b⟩ :: r) i ⟨gS L, hp, nx, m, dy⟩ acc R = opK (aop kf cf (nb + 8 * i) hp (.mkfn g (cs.map (val (gS L))))) (stD kf cf nb ⟨d, .mkfn g cs, none, b⟩ (.mkfn g (cs.map (val (gS L)))) r i L hp nx m dy acc R) := opsD_op kf cf nb d _ b r i L hp nx m dy acc R rfl
theorem x_mkmap (ag : Bool) : opsD kf cf nb (⟨d, .mkmap ag, none, b⟩ :: r) i ⟨gS L, hp, nx, m, dy⟩ acc R = opK (aop kf cf (nb + 8 * i) hp (.mkmap ag)) (stD kf cf nb ⟨d, .mkmap ag, none, b⟩ (.mkmap ag) r i L hp nx m dy acc R) := opsD_op kf cf nb d _ b r i L hp nx m dy acc R rfl
theorem x_mkslice (z : List D) (sz bt : Nat) (full : Bool) (n c : COpd) : opsD kf cf nb (⟨d, .mkslice z sz bt full n c, none, b⟩ :: r) i ⟨gS L, hp, nx, m, dy⟩ acc R = opK (aop kf cf (nb + 8 * i) hp (.mkslice z sz bt full (val (gS L) n) (val (gS L) c))) (stD kf cf nb ⟨d, .mkslice z sz bt full n c, none, b⟩ (.mkslice z sz bt full (val (gS L) n) (val (gS L) c)) r i L hp nx m dy acc R) := opsD_op kf cf nb d _ b r i L hp nx m dy acc R rfl
theorem x_slStr (x : COpd) (lo hi : Option COpd) : opsD kf cf nb (⟨d, .slStr x lo hi, none, b⟩ :: r) i ⟨gS L, hp, nx, m, dy⟩ acc R = opK (aop kf cf (nb + 8 * i) hp (.slStr (val (gS L) x) (mapM1 (val (gS L)) lo) (mapM1 (val (gS L)) hi))) (stD kf cf nb ⟨d, .slStr x lo hi, none, b⟩ (.slStr (val (gS L) x) (mapM1 (val (gS L)) lo) (mapM1 (val (gS L)) hi)) r i L hp nx m dy acc R) := (opsD_op kf cf nb d _ b r i L hp nx m dy acc R rfl).trans (by rw [p_slStr])
theorem x_slSl (sz : Nat) (x : COpd) (lo hi mx : Option COpd) : opsD kf cf nb (⟨d, .slSl sz x lo hi mx, none, b⟩ :: r) i ⟨gS L, hp, nx, m, dy⟩ acc R = opK (aop kf cf (nb + 8 * i) hp (.slSl sz (val (gS L) x) (mapM1 (val (gS L)) lo) (mapM1 (val (gS L)) hi) (mapM1 (val (gS L)) mx))) (stD kf cf nb ⟨d, .slSl sz x lo hi mx, none, b⟩ (.slSl sz (val (gS L) x) (mapM1 (val (gS L)) lo) (mapM1 (val (gS L)) hi) (mapM1 (val (gS L)) mx)) r i L hp nx m dy acc R) := (opsD_op kf cf nb d _ b r i L hp nx m dy acc R rfl).trans (by rw [p_slSl])
theorem x_slArr (n sz : Nat) (x : COpd) (lo hi : Option COpd) : opsD kf cf nb (⟨d, .slArr n sz x lo hi, none, b⟩ :: r) i ⟨gS L, hp, nx, m, dy⟩ acc R = opK (aop kf cf (nb + 8 * i) hp (.slArr n sz (val (gS L) x) (mapM1 (val (gS L)) lo) (mapM1 (val (gS L)) hi))) (stD kf cf nb ⟨d, .slArr n sz x lo hi, none, b⟩ (.slArr n sz (val (gS L) x) (mapM1 (val (gS L)) lo) (mapM1 (val (gS L)) hi)) r i L hp nx m dy acc R) := (opsD_op kf cf nb d _ b r i L hp nx m dy acc R rfl).trans (by rw [p_slArr])
theorem x_fa (off : Nat) (x : COpd) : opsD kf cf nb (⟨d, .fa off x, none, b⟩ :: r) i ⟨gS L, hp, nx, m, dy⟩ acc R = opK (aop kf cf (nb + 8 * i) hp (.fa off (val (gS L) x))) (stD kf cf nb ⟨d, .fa off x, none, b⟩ (.fa off (val (gS L) x)) r i L hp nx m dy acc R) := opsD_op kf cf nb d _ b r i L hp nx m dy acc R rfl
theorem x_fld (ag : Bool) (off sz : Nat) (x : COpd) : opsD kf cf nb (⟨d, .fld ag off sz x, none, b⟩ :: r) i ⟨gS L, hp, nx, m, dy⟩ acc R = opK (aop kf cf (nb + 8 * i) hp (.fld ag off sz (val (gS L) x))) (stD kf cf nb ⟨d, .fld ag off sz x, none, b⟩ (.fld ag off sz (val (gS L) x)) r i L hp nx m dy acc R) := opsD_op kf cf nb d _ b r i L hp nx m dy acc R rfl
theorem x_ia (sz : Nat) (x j : COpd) : opsD kf cf nb (⟨d, .ia sz x j, none, b⟩ :: r) i ⟨gS L, hp, nx, m, dy⟩ acc R = opK (aop kf cf (nb + 8 * i) hp (.ia sz (val (gS L) x) (val (gS L) j))) (stD kf cf nb ⟨d, .ia sz x j, none, b⟩ (.ia sz (val (gS L) x) (val (gS L) j)) r i L hp nx m dy acc R) := opsD_op kf cf nb d _ b r i L hp nx m dy acc R rfl
theorem x_iaArr (n sz : Nat) (x j : COpd) : opsD kf cf nb (⟨d, .iaArr n sz x j, none, b⟩ :: r) i ⟨gS L, hp, nx, m, dy⟩ acc R = opK (aop kf cf (nb + 8 * i) hp (.iaArr n sz (val (gS L) x) (val (gS L) j))) (stD kf cf nb ⟨d, .iaArr n sz x j, none, b⟩ (.iaArr n sz (val (gS L) x) (val (gS L) j)) r i L hp nx m dy acc R) := opsD_op kf cf nb d _ b r i L hp nx m dy acc R rfl
theorem x_idxStr (x j : COpd) : opsD kf cf nb (⟨d, .idxStr x j, none, b⟩ :: r) i ⟨gS L, hp, nx, m, dy⟩ acc R = opK (aop kf cf (nb + 8 * i) hp (.idxStr (val (gS L) x) (val (gS L) j))) (stD kf cf nb ⟨d, .idxStr x j, none, b⟩ (.idxStr (val (gS L) x) (val (gS L) j)) r i L hp nx m dy acc R) := opsD_op kf cf nb d _ b r i L hp nx m dy acc R rfl
theorem x_idxArr (ag : Bool) (n sz : Nat) (x j : COpd) : opsD kf cf nb (⟨d, .idxArr ag n sz x j, none, b⟩ :: r) i ⟨gS L, hp, nx, m, dy⟩ acc R = opK (aop kf cf (nb + 8 * i) hp (.idxArr ag n sz (val (gS L) x) (val (gS L) j))) (stD kf cf nb ⟨d, .idxArr ag n sz x j, none, b⟩ (.idxArr ag n sz (val (gS L) x) (val (gS L) j)) r i L hp nx m dy acc R) := opsD_op kf cf nb d _ b r i L hp nx m dy acc R rfl
theorem x_look (ks : List BK) (ag ok : Bool) (z : D) (x j : COpd) : opsD kf cf nb (⟨d, .look ks ag ok z x j, none, b⟩ :: r) i ⟨gS L, hp, nx, m, dy⟩ acc R = opK (aop kf cf (nb + 8 * i) hp (.look ks ag ok z (val (gS L) x) (val (gS L) j))) (stD kf cf nb ⟨d, .look ks ag ok z x j, none, b⟩ (.look ks ag ok z (val (gS L) x) (val (gS L) j)) r i L hp nx m dy acc R) := opsD_op kf cf nb d _ b r i L hp nx m dy acc R rfl
theorem x_mput (ks : List BK) (ag : Bool) (x j v : COpd) : opsD kf cf nb (⟨d, .mput ks ag x j v, none, b⟩ :: r) i ⟨gS L, hp, nx, m, dy⟩ acc R = opK (aop kf cf (nb + 8 * i) hp (.mput ks ag (val (gS L) x) (val (gS L) j) (val (gS L) v))) (stD kf cf nb ⟨d, .mput ks ag x j v, none, b⟩ (.mput ks ag (val (gS L) x) (val (gS L) j) (val (gS L) v)) r i L hp nx m dy acc R) := opsD_op kf cf nb d _ b r i L hp nx m dy acc R rfl
theorem x_ext (n : Nat) (x : COpd) : opsD kf cf nb (⟨d, .ext n x, none, b⟩ :: r) i ⟨gS L, hp, nx, m, dy⟩ acc R = opK (aop kf cf (nb + 8 * i) hp (.ext n (val (gS L) x))) (stD kf cf nb ⟨d, .ext n x, none, b⟩ (.ext n (val (gS L) x)) r i L hp nx m dy acc R) := opsD_op kf cf nb d _ b r i L hp nx m dy acc R rfl
theorem x_len (k : BK) (x : COpd) : opsD kf cf nb (⟨d, .len k x, none, b⟩ :: r) i ⟨gS L, hp, nx, m, dy⟩ acc R = opK (aop kf cf (nb + 8 * i) hp (.len k (val (gS L) x))) (stD kf cf nb ⟨d, .len k x, none, b⟩ (.len k (val (gS L) x)) r i L hp nx m dy acc R) := opsD_op kf cf nb d _ b r i L hp nx m dy acc R rfl
theorem x_app (sz bt : Nat) (x y : COpd) : opsD kf cf nb (⟨d, .app sz bt x y, none, b⟩ :: r) i ⟨gS L, hp, nx, m, dy⟩ acc R = opK (aop kf cf (nb + 8 * i) hp (.app sz bt (val (gS L) x) (val (gS L) y))) (stD kf cf nb ⟨d, .app sz bt x y, none, b⟩ (.app sz bt (val (gS L) x) (val (gS L) y)) r i L hp nx m dy acc R) := opsD_op kf cf nb d _ b r i L hp nx m dy acc R rfl
theorem x_copy (sz : Nat) (x y : COpd) : opsD kf cf nb (⟨d, .copy sz x y, none, b⟩ :: r) i ⟨gS L, hp, nx, m, dy⟩ acc R = opK (aop kf cf (nb + 8 * i) hp (.copy sz (val (gS L) x) (val (gS L) y))) (stD kf cf nb ⟨d, .copy sz x y, none, b⟩ (.copy sz (val (gS L) x) (val (gS L) y)) r i L hp nx m dy acc R) := opsD_op kf cf nb d _ b r i L hp nx m dy acc R rfl
theorem x_clear (z : List D) (sz : Nat) (x : COpd) : opsD kf cf nb (⟨d, .clear z sz x, none, b⟩ :: r) i ⟨gS L, hp, nx, m, dy⟩ acc R = opK (aop kf cf (nb + 8 * i) hp (.clear z sz (val (gS L) x))) (stD kf cf nb ⟨d, .clear z sz x, none, b⟩ (.clear z sz (val (gS L) x)) r i L hp nx m dy acc R) := opsD_op kf cf nb d _ b r i L hp nx m dy acc R rfl
theorem x_min (x : COpd) (ys : List COpd) : opsD kf cf nb (⟨d, .min x ys, none, b⟩ :: r) i ⟨gS L, hp, nx, m, dy⟩ acc R = opK (aop kf cf (nb + 8 * i) hp (.min (val (gS L) x) (ys.map (val (gS L))))) (stD kf cf nb ⟨d, .min x ys, none, b⟩ (.min (val (gS L) x) (ys.map (val (gS L)))) r i L hp nx m dy acc R) := opsD_op kf cf nb d _ b r i L hp nx m dy acc R rfl
theorem x_max (x : COpd) (ys : List COpd) : opsD kf cf nb (⟨d, .max x ys, none, b⟩ :: r) i ⟨gS L, hp, nx, m, dy⟩ acc R = opK (aop kf cf (nb + 8 * i) hp (.max (val (gS L) x) (ys.map (val (gS L))))) (stD kf cf nb ⟨d, .max x ys, none, b⟩ (.max (val (gS L) x) (ys.map (val (gS L)))) r i L hp nx m dy acc R) := opsD_op kf cf nb d _ b r i L hp nx m dy acc R rfl
theorem y_mv (x : COpd) : opsD kf cf nb (⟨d, .mv x, some (jj, ww), b⟩ :: r) i ⟨gS L, hp, nx, m, dy⟩ acc R = gdK (gS L jj) ww (opK (aop kf cf (nb + 8 * i) hp (.mv (val (gS L) x))) (stD kf cf nb ⟨d, .mv x, some (jj, ww), b⟩ (.mv (val (gS L) x)) r i L hp nx m dy acc R)) (opsD kf cf nb r (i + 1) ⟨gS (setL d (.tup []) L), hp, nx, m, dy⟩ (acc ++ [(⟨d, .mv x, some (jj, ww), b⟩, [], [])]) R) := opsD_opG kf cf nb d _ jj ww b r i L hp nx m dy acc R rfl
theorem y_pick (c a e : COpd) : opsD kf cf nb (⟨d, .pick c a e, some (jj, ww), b⟩ :: r) i ⟨gS L, hp, nx, m, dy⟩ acc R = gdK (gS L jj) ww (opK (aop kf cf (nb + 8 * i) hp (.pick (val (gS L) c) (val (gS L) a) (val (gS L) e))) (stD kf cf nb ⟨d, .pick c a e, some (jj, ww), b⟩ (.pick (val (gS L) c) (val (gS L) a) (val (gS L) e)) r i L hp nx m dy acc R)) (opsD kf cf nb r (i + 1) ⟨gS (setL d (.tup []) L), hp, nx, m, dy⟩ (acc ++ [(⟨d, .pick c a e, some (jj, ww), b⟩, [], [])]) R) := opsD_opG kf cf nb d _ jj ww b r i L hp nx m dy acc R rfl
theorem y_alloc (z : List A) (rz : List (Nat × Nat)) : opsD kf cf nb (⟨d, .alloc z rz, some (jj, ww), b⟩ :: r) i ⟨gS L, hp, nx, m, dy⟩ acc R = gdK (gS L jj) ww (opK (aop kf cf (nb + 8 * i) hp (.alloc z rz)) (stD kf cf nb ⟨d, .alloc z rz, some (jj, ww), b⟩ (.alloc z rz) r i L hp nx m dy acc R)) (opsD kf cf nb r (i + 1) ⟨gS (setL d (.tup []) L), hp, nx, m, dy⟩ (acc ++ [(⟨d, .alloc z rz, some (jj, ww), b⟩, [], [])]) R) := opsD_opG kf cf nb d _ jj ww b r i L hp nx m dy acc R rfl
theorem y_box (sz : Nat) (x : COpd) (rz : List (Nat × Nat)) : opsD kf cf nb (⟨d, .box sz x rz, some (jj, ww), b⟩ :: r) i ⟨gS L, hp, nx, m, dy⟩ acc R = gdK (gS L jj) ww (opK (aop kf cf (nb + 8 * i) hp (.box sz (val (gS L) x) rz)) (stD kf cf nb ⟨d, .box sz x rz, some (jj, ww), b⟩ (.box sz (val (gS L) x) rz) r i L hp nx m dy acc R)) (opsD kf cf nb r (i + 1) ⟨gS (setL d (.tup []) L), hp, nx, m, dy⟩ (acc ++ [(⟨d, .box sz x rz, some (jj, ww), b⟩, [], [])]) R) := opsD_opG kf cf nb d _ jj ww b r i L hp nx m dy acc R rfl
theorem y_build (z : List A) (ps : List (Nat × Nat × COpd)) : opsD kf cf nb (⟨d, .build z ps, some (jj, ww), b⟩ :: r) i ⟨gS L, hp, nx, m, dy⟩ acc R = gdK (gS L jj) ww (opK (aop kf cf (nb + 8 * i) hp (.build z (mapP (val (gS L)) ps))) (stD kf cf nb ⟨d, .build z ps, some (jj, ww), b⟩ (.build z (mapP (val (gS L)) ps)) r i L hp nx m dy acc R)) (opsD kf cf nb r (i + 1) ⟨gS (setL d (.tup []) L), hp, nx, m, dy⟩ (acc ++ [(⟨d, .build z ps, some (jj, ww), b⟩, [], [])]) R) := (opsD_opG kf cf nb d _ jj ww b r i L hp nx m dy acc R rfl).trans (by rw [p_build])
theorem y_bslice (sz ln : Nat) (z : List D) (full : Bool) (ps : List (Nat × COpd)) : opsD kf cf nb (⟨d, .bslice sz ln z full ps, some (jj, ww), b⟩ :: r) i ⟨gS L, hp, nx, m, dy⟩ acc R = gdK (gS L jj) ww (opK (aop kf cf (nb + 8 * i) hp (.bslice sz ln z full (mapQ (val (gS L)) ps))) (stD kf cf nb ⟨d, .bslice sz ln z full ps, some (jj, ww), b⟩ (.bslice sz ln z full (mapQ (val (gS L)) ps)) r i L hp nx m dy acc R)) (opsD kf cf nb r (i + 1) ⟨gS (setL d (.tup []) L), hp, nx, m, dy⟩ (acc ++ [(⟨d, .bslice sz ln z full ps, some (jj, ww), b⟩, [], [])]) R) := (opsD_opG kf cf nb d _ jj ww b r i L hp nx m dy acc R rfl).trans (by rw [p_bslice])
theorem y_load (ag : Bool) (sz : Nat) (x : COpd) : opsD kf cf nb (⟨d, .load ag sz x, some (jj, ww), b⟩ :: r) i ⟨gS L, hp, nx, m, dy⟩ acc R = gdK (gS L jj) ww (opK (aop kf cf (nb + 8 * i) hp (.load ag sz (val (gS L) x))) (stD kf cf nb ⟨d, .load ag sz x, some (jj, ww), b⟩ (.load ag sz (val (gS L) x)) r i L hp nx m dy acc R)) (opsD kf cf nb r (i + 1) ⟨gS (setL d (.tup []) L), hp, nx, m, dy⟩ (acc ++ [(⟨d, .load ag sz x, some (jj, ww), b⟩, [], [])]) R) := opsD_opG kf cf nb d _ jj ww b r i L hp nx m dy acc R rfl
theorem y_store (sz : Nat) (x v : COpd) : opsD kf cf nb (⟨d, .store sz x v, some (jj, ww), b⟩ :: r) i ⟨gS L, hp, nx, m, dy⟩ acc R = gdK (gS L jj) ww (opK (aop kf cf (nb + 8 * i) hp (.store sz (val (gS L) x) (val (gS L) v))) (stD kf cf nb ⟨d, .store sz x v, some (jj, ww), b⟩ (.store sz (val (gS L) x) (val (gS L) v)) r i L hp nx m dy acc R)) (opsD kf cf nb r (i + 1) ⟨gS (setL d (.tup []) L), hp, nx, m, dy⟩ (acc ++ [(⟨d, .store sz x v, some (jj, ww), b⟩, [], [])]) R) := opsD_opG kf cf nb d _ jj ww b r i L hp nx m dy acc R rfl
theorem y_nilck (x : COpd) : opsD kf cf nb (⟨d, .nilck x, some (jj, ww), b⟩ :: r) i ⟨gS L, hp, nx, m, dy⟩ acc R = gdK (gS L jj) ww (opK (aop kf cf (nb + 8 * i) hp (.nilck (val (gS L) x))) (stD kf cf nb ⟨d, .nilck x, some (jj, ww), b⟩ (.nilck (val (gS L) x)) r i L hp nx m dy acc R)) (opsD kf cf nb r (i + 1) ⟨gS (setL d (.tup []) L), hp, nx, m, dy⟩ (acc ++ [(⟨d, .nilck x, some (jj, ww), b⟩, [], [])]) R) := opsD_opG kf cf nb d _ jj ww b r i L hp nx m dy acc R rfl
theorem y_bin (k : BK) (op : BinOp) (x y : COpd) : opsD kf cf nb (⟨d, .bin k op x y, some (jj, ww), b⟩ :: r) i ⟨gS L, hp, nx, m, dy⟩ acc R = gdK (gS L jj) ww (opK (aop kf cf (nb + 8 * i) hp (.bin k op (val (gS L) x) (val (gS L) y))) (stD kf cf nb ⟨d, .bin k op x y, some (jj, ww), b⟩ (.bin k op (val (gS L) x) (val (gS L) y)) r i L hp nx m dy acc R)) (opsD kf cf nb r (i + 1) ⟨gS (setL d (.tup []) L), hp, nx, m, dy⟩ (acc ++ [(⟨d, .bin k op x y, some (jj, ww), b⟩, [], [])]) R) := opsD_opG kf cf nb d _ jj ww b r i L hp nx m dy acc R rfl
theorem y_eqs (ks : List BK) (ng : Bool) (x y : COpd) : opsD kf cf nb (⟨d, .eqs ks ng x y, some (jj, ww), b⟩ :: r) i ⟨gS L, hp, nx, m, dy⟩ acc R = gdK (gS L jj) ww (opK (aop kf cf (nb + 8 * i) hp (.eqs ks ng (val (gS L) x) (val (gS L) y))) (stD kf cf nb ⟨d, .eqs ks ng x y, some (jj, ww), b⟩ (.eqs ks ng (val (gS L) x) (val (gS L) y)) r i L hp nx m dy acc R)) (opsD kf cf nb r (i + 1) ⟨gS (setL d (.tup []) L), hp, nx, m, dy⟩ (acc ++ [(⟨d, .eqs ks ng x y, some (jj, ww), b⟩, [], [])]) R) := opsD_opG kf cf nb d _ jj ww b r i L hp nx m dy acc R rfl
theorem y_un (op : UnOp) (x : COpd) : opsD kf cf nb (⟨d, .un op x, some (jj, ww), b⟩ :: r) i ⟨gS L, hp, nx, m, dy⟩ acc R = gdK (gS L jj) ww (opK (aop kf cf (nb + 8 * i) hp (.un op (val (gS L) x))) (stD kf cf nb ⟨d, .un op x, some (jj, ww), b⟩ (.un op (val (gS L) x)) r i L hp nx m dy acc R)) (opsD kf cf nb r (i + 1) ⟨gS (setL d (.tup []) L), hp, nx, m, dy⟩ (acc ++ [(⟨d, .un op x, some (jj, ww), b⟩, [], [])]) R) := opsD_opG kf cf nb d _ jj ww b r i L hp nx m dy acc R rfl
theorem y_conv (k : IntKind) (x : COpd) : opsD kf cf nb (⟨d, .conv k x, some (jj, ww), b⟩ :: r) i ⟨gS L, hp, nx, m, dy⟩ acc R = gdK (gS L jj) ww (opK (aop kf cf (nb + 8 * i) hp (.conv k (val (gS L) x))) (stD kf cf nb ⟨d, .conv k x, some (jj, ww), b⟩ (.conv k (val (gS L) x)) r i L hp nx m dy acc R)) (opsD kf cf nb r (i + 1) ⟨gS (setL d (.tup []) L), hp, nx, m, dy⟩ (acc ++ [(⟨d, .conv k x, some (jj, ww), b⟩, [], [])]) R) := opsD_opG kf cf nb d _ jj ww b r i L hp nx m dy acc R rfl
theorem y_same (x : COpd) : opsD kf cf nb (⟨d, .same x, some (jj, ww), b⟩ :: r) i ⟨gS L, hp, nx, m, dy⟩ acc R = gdK (gS L jj) ww (opK (aop kf cf (nb + 8 * i) hp (.same (val (gS L) x))) (stD kf cf nb ⟨d, .same x, some (jj, ww), b⟩ (.same (val (gS L) x)) r i L hp nx m dy acc R)) (opsD kf cf nb r (i + 1) ⟨gS (setL d (.tup []) L), hp, nx, m, dy⟩ (acc ++ [(⟨d, .same x, some (jj, ww), b⟩, [], [])]) R) := opsD_opG kf cf nb d _ jj ww b r i L hp nx m dy acc R rfl
theorem y_strish (x : COpd) : opsD kf cf nb (⟨d, .strish x, some (jj, ww), b⟩ :: r) i ⟨gS L, hp, nx, m, dy⟩ acc R = gdK (gS L jj) ww (opK (aop kf cf (nb + 8 * i) hp (.strish (val (gS L) x))) (stD kf cf nb ⟨d, .strish x, some (jj, ww), b⟩ (.strish (val (gS L) x)) r i L hp nx m dy acc R)) (opsD kf cf nb r (i + 1) ⟨gS (setL d (.tup []) L), hp, nx, m, dy⟩ (acc ++ [(⟨d, .strish x, some (jj, ww), b⟩, [], [])]) R) := opsD_opG kf cf nb d _ jj ww b r i L hp nx m dy acc R rfl
theorem y_b2s (x : COpd) : opsD kf cf nb (⟨d, .b2s x, some (jj, ww), b⟩ :: r) i ⟨gS L, hp, nx, m, dy⟩ acc R = gdK (gS L jj) ww (opK (aop kf cf (nb + 8 * i) hp (.b2s (val (gS L) x))) (stD kf cf nb ⟨d, .b2s x, some (jj, ww), b⟩ (.b2s (val (gS L) x)) r i L hp nx m dy acc R)) (opsD kf cf nb r (i + 1) ⟨gS (setL d (.tup []) L), hp, nx, m, dy⟩ (acc ++ [(⟨d, .b2s x, some (jj, ww), b⟩, [], [])]) R) := opsD_opG kf cf nb d _ jj ww b r i L hp nx m dy acc R rfl
theorem y_s2a (n : Nat) (x : COpd) : opsD kf cf nb (⟨d, .s2a n x, some (jj, ww), b⟩ :: r) i ⟨gS L, hp, nx, m, dy⟩ acc R = gdK (gS L jj) ww (opK (aop kf cf (nb + 8 * i) hp (.s2a n (val (gS L) x))) (stD kf cf nb ⟨d, .s2a n x, some (jj, ww), b⟩ (.s2a n (val (gS L) x)) r i L hp nx m dy acc R)) (opsD kf cf nb r (i + 1) ⟨gS (setL d (.tup []) L), hp, nx, m, dy⟩ (acc ++ [(⟨d, .s2a n x, some (jj, ww), b⟩, [], [])]) R) := opsD_opG kf cf nb d _ jj ww b r i L hp nx m dy acc R rfl
theorem y_mkfn (g : FuncId) (cs : List COpd) : opsD kf cf nb (⟨d, .mkfn g cs, some (jj, ww), b⟩ :: r) i ⟨gS L, hp, nx, m, dy⟩ acc R = gdK (gS L jj) ww (opK (aop kf cf (nb + 8 * i) hp (.mkfn g (cs.map (val (gS L))))) (stD kf cf nb ⟨d, .mkfn g cs, some (jj, ww), b⟩ (.mkfn g (cs.map (val (gS L)))) r i L hp nx m dy acc R)) (opsD kf cf nb r (i + 1) ⟨gS (setL d (.tup []) L), hp, nx, m, dy⟩ (acc ++ [(⟨d, .mkfn g cs, some (jj, ww), b⟩, [], [])]) R) := opsD_opG kf cf nb d _ jj ww b r i L hp nx m dy acc R rfl
theorem y_mkmap (ag : Bool) : opsD kf cf nb (⟨d, .mkmap ag, some (jj, ww), b⟩ :: r) i ⟨gS L, hp, nx, m, dy⟩ acc R = gdK (gS L jj) ww (opK (aop kf cf (nb + 8 * i) hp (.mkmap ag)) (stD kf cf nb ⟨d, .mkmap ag, some (jj, ww), b⟩ (.mkmap ag) r i L hp nx m dy acc R)) (opsD kf cf nb r (i + 1) ⟨gS (setL d (.tup []) L), hp, nx, m, dy⟩ (acc ++ [(⟨d, .mkmap ag, some (jj, ww), b⟩, [], [])]) R) := opsD_opG kf cf nb d _ jj ww b r i L hp nx m dy acc R rfl
theorem y_mkslice (z : List D) (sz bt : Nat) (full : Bool) (n c : COpd) : opsD kf cf nb (⟨d, .mkslice z sz bt full n c, some (jj, ww), b⟩ :: r) i ⟨gS L, hp, nx, m, dy⟩ acc R = gdK (gS L jj) ww (opK (aop kf cf (nb + 8 * i) hp (.mkslice z sz bt full (val (gS L) n) (val (gS L) c))) (stD kf cf nb ⟨d, .mkslice z sz bt full n c, some (jj, ww), b⟩ (.mkslice z sz bt full (val (gS L) n) (val (gS L) c)) r i L hp nx m dy acc R)) (opsD kf cf nb r (i + 1) ⟨gS (setL d (.tup []) L), hp, nx, m, dy⟩ (acc ++ [(⟨d, .mkslice z sz bt full n c, some (jj, ww), b⟩, [], [])]) R) := opsD_opG kf cf nb d _ jj ww b r i L hp nx m dy acc R rfl
theorem y_slStr (x : COpd) (lo hi : Option COpd) : opsD kf cf nb (⟨d, .slStr x lo hi, some (jj, ww), b⟩ :: r) i ⟨gS L, hp, nx, m, dy⟩ acc R = gdK (gS L jj) ww (opK (aop kf cf (nb + 8 * i) hp (.slStr (val (gS L) x) (mapM1 (val (gS L)) lo) (mapM1 (val (gS L)) hi))) (stD kf cf nb ⟨d, .slStr x lo hi, some (jj, ww), b⟩ (.slStr (val (gS L) x) (mapM1 (val (gS L)) lo) (mapM1 (val (gS L)) hi)) r i L hp nx m dy acc R)) (opsD kf cf nb r (i + 1) ⟨gS (setL d (.tup []) L), hp, nx, m, dy⟩ (acc ++ [(⟨d, .slStr x lo hi, some (jj, ww), b⟩, [], [])]) R) := (opsD_opG kf cf nb d _ jj ww b r i L hp nx m dy acc R rfl).trans (by rw [p_slStr])
theorem y_slSl (sz : Nat) (x : COpd) (lo hi mx : Option COpd) : opsD kf cf nb (⟨d, .slSl sz x lo hi mx, some (jj, ww), b⟩ :: r) i ⟨gS L, hp, nx, m, dy⟩ acc R = gdK (gS L jj) ww (opK (aop kf cf (nb + 8 * i) hp (.slSl sz (val (gS L) x) (mapM1 (val (gS L)) lo) (mapM1 (val (gS L)) hi) (mapM1 (val (gS L)) mx))) (stD kf cf nb ⟨d, .slSl sz x lo hi mx, some (jj, ww), b⟩ (.slSl sz (val (gS L) x) (mapM1 (val (gS L)) lo) (mapM1 (val (gS L)) hi) (mapM1 (val (gS L)) mx)) r i L hp nx m dy acc R)) (opsD kf cf nb r (i + 1) ⟨gS (setL d (.tup []) L), hp, nx, m, dy⟩ (acc ++ [(⟨d, .slSl sz x lo hi mx, some (jj, ww), b⟩, [], [])]) R) := (opsD_opG kf cf nb d _ jj ww b r i L hp nx m dy acc R rfl).trans (by rw [p_slSl])
theorem y_slArr (n sz : Nat) (x : COpd) (lo hi : Option COpd) : opsD kf cf nb (⟨d, .slArr n sz x lo hi, some (jj, ww), b⟩ :: r) i ⟨gS L, hp, nx, m, dy⟩ acc R = gdK (gS L jj) ww (opK (aop kf cf (nb + 8 * i) hp (.slArr n sz (val (gS L) x) (mapM1 (val (gS L)) lo) (mapM1 (val (gS L)) hi))) (stD kf cf nb ⟨d, .slArr n sz x lo hi, some (jj, ww), b⟩ (.slArr n sz (val (gS L) x) (mapM1 (val (gS L)) lo) (mapM1 (val (gS L)) hi)) r i L hp nx m dy acc R)) (opsD kf cf nb r (i + 1) ⟨gS (setL d (.tup []) L), hp, nx, m, dy⟩ (acc ++ [(⟨d, .slArr n sz x lo hi, some (jj, ww), b⟩, [], [])]) R) := (opsD_opG kf cf nb d _ jj ww b r i L hp nx m dy acc R rfl).trans (by rw [p_slArr])
theorem y_fa (off : Nat) (x : COpd) : opsD kf cf nb (⟨d, .fa off x, some (jj, ww), b⟩ :: r) i ⟨gS L, hp, nx, m, dy⟩ acc R = gdK (gS L jj) ww (opK (aop kf cf (nb + 8 * i) hp (.fa off (val (gS L) x))) (stD kf cf nb ⟨d, .fa off x, some (jj, ww), b⟩ (.fa off (val (gS L) x)) r i L hp nx m dy acc R)) (opsD kf cf nb r (i + 1) ⟨gS (setL d (.tup []) L), hp, nx, m, dy⟩ (acc ++ [(⟨d, .fa off x, some (jj, ww), b⟩, [], [])]) R) := opsD_opG kf cf nb d _ jj ww b r i L hp nx m dy acc R rfl
theorem y_fld (ag : Bool) (off sz : Nat) (x : COpd) : opsD kf cf nb (⟨d, .fld ag off sz x, some (jj, ww), b⟩ :: r) i ⟨gS L, hp, nx, m, dy⟩ acc R = gdK (gS L jj) ww (opK (aop kf cf (nb + 8 * i) hp (.fld ag off sz (val (gS L) x))) (stD kf cf nb ⟨d, .fld ag off sz x, some (jj, ww), b⟩ (.fld ag off sz (val (gS L) x)) r i L hp nx m dy acc R)) (opsD kf cf nb r (i + 1) ⟨gS (setL d (.tup []) L), hp, nx, m, dy⟩ (acc ++ [(⟨d, .fld ag off sz x, some (jj, ww), b⟩, [], [])]) R) := opsD_opG kf cf nb d _ jj ww b r i L hp nx m dy acc R rfl
theorem y_ia (sz : Nat) (x j : COpd) : opsD kf cf nb (⟨d, .ia sz x j, some (jj, ww), b⟩ :: r) i ⟨gS L, hp, nx, m, dy⟩ acc R = gdK (gS L jj) ww (opK (aop kf cf (nb + 8 * i) hp (.ia sz (val (gS L) x) (val (gS L) j))) (stD kf cf nb ⟨d, .ia sz x j, some (jj, ww), b⟩ (.ia sz (val (gS L) x) (val (gS L) j)) r i L hp nx m dy acc R)) (opsD kf cf nb r (i + 1) ⟨gS (setL d (.tup []) L), hp, nx, m, dy⟩ (acc ++ [(⟨d, .ia sz x j, some (jj, ww), b⟩, [], [])]) R) := opsD_opG kf cf nb d _ jj ww b r i L hp nx m dy acc R rfl
theorem y_iaArr (n sz : Nat) (x j : COpd) : opsD kf cf nb (⟨d, .iaArr n sz x j, some (jj, ww), b⟩ :: r) i ⟨gS L, hp, nx, m, dy⟩ acc R = gdK (gS L jj) ww (opK (aop kf cf (nb + 8 * i) hp (.iaArr n sz (val (gS L) x) (val (gS L) j))) (stD kf cf nb ⟨d, .iaArr n sz x j, some (jj, ww), b⟩ (.iaArr n sz (val (gS L) x) (val (gS L) j)) r i L hp nx m dy acc R)) (opsD kf cf nb r (i + 1) ⟨gS (setL d (.tup []) L), hp, nx, m, dy⟩ (acc ++ [(⟨d, .iaArr n sz x j, some (jj, ww), b⟩, [], [])]) R) := opsD_opG kf cf nb d _ jj ww b r i L hp nx m dy acc R rfl
theorem y_idxStr (x j : COpd) : opsD kf cf nb (⟨d, .idxStr x j, some (jj, ww), b⟩ :: r) i ⟨gS L, hp, nx, m, dy⟩ acc R = gdK (gS L jj) ww (opK (aop kf cf (nb + 8 * i) hp (.idxStr (val (gS L) x) (val (gS L) j))) (stD kf cf nb ⟨d, .idxStr x j, some (jj, ww), b⟩ (.idxStr (val (gS L) x) (val (gS L) j)) r i L hp nx m dy acc R)) (opsD kf cf nb r (i + 1) ⟨gS (setL d (.tup []) L), hp, nx, m, dy⟩ (acc ++ [(⟨d, .idxStr x j, some (jj, ww), b⟩, [], [])]) R) := opsD_opG kf cf nb d _ jj ww b r i L hp nx m dy acc R rfl
theorem y_idxArr (ag : Bool) (n sz : Nat) (x j : COpd) : opsD kf cf nb (⟨d, .idxArr ag n sz x j, some (jj, ww), b⟩ :: r) i ⟨gS L, hp, nx, m, dy⟩ acc R = gdK (gS L jj) ww (opK (aop kf cf (nb + 8 * i) hp (.idxArr ag n sz (val (gS L) x) (val (gS L) j))) (stD kf cf nb ⟨d, .idxArr ag n sz x j, some (jj, ww), b⟩ (.idxArr ag n sz (val (gS L) x) (val (gS L) j)) r i L hp nx m dy acc R)) (opsD kf cf nb r (i + 1) ⟨gS (setL d (.tup []) L), hp, nx, m, dy⟩ (acc ++ [(⟨d, .idxArr ag n sz x j, some (jj, ww), b⟩, [], [])]) R) := opsD_opG kf cf nb d _ jj ww b r i L hp nx m dy acc R rfl
theorem y_look (ks : List BK) (ag ok : Bool) (z : D) (x j : COpd) : opsD kf cf nb (⟨d, .look ks ag ok z x j, some (jj, ww), b⟩ :: r) i ⟨gS L, hp, nx, m, dy⟩ acc R = gdK (gS L jj) ww (opK (aop kf cf (nb + 8 * i) hp (.look ks ag ok z (val (gS L) x) (val (gS L) j))) (stD kf cf nb ⟨d, .look ks ag ok z x j, some (jj, ww), b⟩ (.look ks ag ok z (val (gS L) x) (val (gS L) j)) r i L hp nx m dy acc R)) (opsD kf cf nb r (i + 1) ⟨gS (setL d (.tup []) L), hp, nx, m, dy⟩ (acc ++ [(⟨d, .look ks ag ok z x j, some (jj, ww), b⟩, [], [])]) R) := opsD_opG kf cf nb d _ jj ww b r i L hp nx m dy acc R rfl
theorem y_mput (ks : List BK) (ag : Bool) (x j v : COpd) : opsD kf cf nb (⟨d, .mput ks ag x j v, some (jj, ww), b⟩ :: r) i ⟨gS L, hp, nx, m, dy⟩ acc R = gdK (gS L jj) ww (opK (aop kf cf (nb + 8 * i) hp (.mput ks ag (val (gS L) x) (val (gS L) j) (val (gS L) v))) (stD kf cf nb ⟨d, .mput ks ag x j v, some (jj, ww), b⟩ (.mput ks ag (val (gS L) x) (val (gS L) j) (val (gS L) v)) r i L hp nx m dy acc R)) (opsD kf cf nb r (i + 1) ⟨gS (setL d (.tup []) L), hp, nx, m, dy⟩ (acc ++ [(⟨d, .mput ks ag x j v, some (jj, ww), b⟩, [], [])]) R) := opsD_opG kf cf nb d _ jj ww b r i L hp nx m dy acc R rfl
theorem y_ext (n : Nat) (x : COpd) : opsD kf cf nb (⟨d, .ext n x, some (jj, ww), b⟩ :: r) i ⟨gS L, hp, nx, m, dy⟩ acc R = gdK (gS L jj) ww (opK (aop kf cf (nb + 8 * i) hp (.ext n (val (gS L) x))) (stD kf cf nb ⟨d, .ext n x, some (jj, ww), b⟩ (.ext n (val (gS L) x)) r i L hp nx m dy acc R)) (opsD kf cf nb r (i + 1) ⟨gS (setL d (.tup []) L), hp, nx, m, dy⟩ (acc ++ [(⟨d, .ext n x, some (jj, ww), b⟩, [], [])]) R) := opsD_opG kf cf nb d _ jj ww b r i L hp nx m dy acc R rfl
theorem y_len (k : BK) (x : COpd) : opsD kf cf nb (⟨d, .len k x, some (jj, ww), b⟩ :: r) i ⟨gS L, hp, nx, m, dy⟩ acc R = gdK (gS L jj) ww (opK (aop kf cf (nb + 8 * i) hp (.len k (val (gS L) x))) (stD kf cf nb ⟨d, .len k x, some (jj, ww), b⟩ (.len k (val (gS L) x)) r i L hp nx m dy acc R)) (opsD kf cf nb r (i + 1) ⟨gS (setL d (.tup []) L), hp, nx, m, dy⟩ (acc ++ [(⟨d, .len k x, some (jj, ww), b⟩, [], [])]) R) := opsD_opG kf cf nb d _ jj ww b r i L hp nx m dy acc R rfl
theorem y_app (sz bt : Nat) (x y : COpd) : opsD kf cf nb (⟨d, .app sz bt x y, some (jj, ww), b⟩ :: r) i ⟨gS L, hp, nx, m, dy⟩ acc R = gdK (gS L jj) ww (opK (aop kf cf (nb + 8 * i) hp (.app sz bt (val (gS L) x) (val (gS L) y))) (stD kf cf nb ⟨d, .app sz bt x y, some (jj, ww), b⟩ (.app sz bt (val (gS L) x) (val (gS L) y)) r i L hp nx m dy acc R)) (opsD kf cf nb r (i + 1) ⟨gS (setL d (.tup []) L), hp, nx, m, dy⟩ (acc ++ [(⟨d, .app sz bt x y, some (jj, ww), b⟩, [], [])]) R) := opsD_opG kf cf nb d _ jj ww b r i L hp nx m dy acc R rfl
theorem y_copy (sz : Nat) (x y : COpd) : opsD kf cf nb (⟨d, .copy sz x y, some (jj, ww), b⟩ :: r) i ⟨gS L, hp, nx, m, dy⟩ acc R = gdK (gS L jj) ww (opK (aop kf cf (nb + 8 * i) hp (.copy sz (val (gS L) x) (val (gS L) y))) (stD kf cf nb ⟨d, .copy sz x y, some (jj, ww), b⟩ (.copy sz (val (gS L) x) (val (gS L) y)) r i L hp nx m dy acc R)) (opsD kf cf nb r (i + 1) ⟨gS (setL d (.tup []) L), hp, nx, m, dy⟩ (acc ++ [(⟨d, .copy sz x y, some (jj, ww), b⟩, [], [])]) R) := opsD_opG kf cf nb d _ jj ww b r i L hp nx m dy acc R rfl
theorem y_clear (z : List D) (sz : Nat) (x : COpd) : opsD kf cf nb (⟨d, .clear z sz x, some (jj, ww), b⟩ :: r) i ⟨gS L, hp, nx, m, dy⟩ acc R = gdK (gS L jj) ww (opK (aop kf cf (nb + 8 * i) hp (.clear z sz (val (gS L) x))) (stD kf cf nb ⟨d, .clear z sz x, some (jj, ww), b⟩ (.clear z sz (val (gS L) x)) r i L hp nx m dy acc R)) (opsD kf cf nb r (i + 1) ⟨gS (setL d (.tup []) L), hp, nx, m, dy⟩ (acc ++ [(⟨d, .clear z sz x, some (jj, ww), b⟩, [], [])]) R) := opsD_opG kf cf nb d _ jj ww b r i L hp nx m dy acc R rfl
theorem y_min (x : COpd) (ys : List COpd) : opsD kf cf nb (⟨d, .min x ys, some (jj, ww), b⟩ :: r) i ⟨gS L, hp, nx, m, dy⟩ acc R = gdK (gS L jj) ww (opK (aop kf cf (nb + 8 * i) hp (.min (val (gS L) x) (ys.map (val (gS L))))) (stD kf cf nb ⟨d, .min x ys, some (jj, ww), b⟩ (.min (val (gS L) x) (ys.map (val (gS L)))) r i L hp nx m dy acc R)) (opsD kf cf nb r (i + 1) ⟨gS (setL d (.tup []) L), hp, nx, m, dy⟩ (acc ++ [(⟨d, .min x ys, some (jj, ww), b⟩, [], [])]) R) := opsD_opG kf cf nb d _ jj ww b r i L hp nx m dy acc R rfl
theorem y_max (x : COpd) (ys : List COpd) : opsD kf cf nb (⟨d, .max x ys, some (jj, ww), b⟩ :: r) i ⟨gS L, hp, nx, m, dy⟩ acc R = gdK (gS L jj) ww (opK (aop kf cf (nb + 8 * i) hp (.max (val (gS L) x) (ys.map (val (gS L))))) (stD kf cf nb ⟨d, .max x ys, some (jj, ww), b⟩ (.max (val (gS L) x) (ys.map (val (gS L)))) r i L hp nx m dy acc R)) (opsD kf cf nb r (i + 1) ⟨gS (setL d (.tup []) L), hp, nx, m, dy⟩ (acc ++ [(⟨d, .max x ys, some (jj, ww), b⟩, [], [])]) R) := opsD_opG kf cf nb d _ jj ww b r i L hp nx m dy acc R rfl
end Go.Vm
end
section
/- Rules for calls. -/
set_option linter.unusedVariables false
set_option linter.unusedSimpArgs false
set_option linter.unnecessarySimpa false
namespace Go.Vm
theorem restrict_at (hp : Heap) (ids : List Nat) (i : Nat) : restrict hp ids i = if nin ids i then hp i else .dead := by
  simp only [restrict, nin_eq]
theorem upd_at (hp : Heap) (k : Nat) (c : Chunk) (i : Nat) : upd hp k c i = if i = k then c else hp i := rfl
theorem applyW_restrict (hp : Heap) (ids : List Nat) (k : Nat) (c : Chunk) (r : Writes) : applyW (restrict hp ids) ((k, c) :: r) = applyW (upd (restrict hp ids) k c) r := rfl
theorem applyW_upd (hp : Heap) (j : Nat) (c0 : Chunk) (k : Nat) (c : Chunk) (r : Writes) : applyW (upd hp j c0) ((k, c) :: r) = applyW (upd (upd hp j c0) k c) r := rfl
def okW' (fp : List Nat) (nb : Nat) : Writes → Bool
  | [] => true
  | (k, _) :: r => if nin fp k then okW' fp nb r else if nb ≤ k then (if k < nb + 8 then okW' fp nb r else false) else false
theorem okW'_nil (fp : List Nat) (nb : Nat) : okW' fp nb [] = true := rfl
theorem okW'_cons (fp : List Nat) (nb k : Nat) (c : Chunk) (r : Writes) : okW' fp nb ((k, c) :: r) = if nin fp k then okW' fp nb r else if nb ≤ k then (if k < nb + 8 then okW' fp nb r else false) else false := rfl
theorem okW_eq (fp : List Nat) (nb : Nat) (ws : Writes) : okW fp nb ws = okW' fp nb ws := by
  unfold okW
  induction ws with
  | nil => rfl
  | cons p ws ih =>
    obtain ⟨k, c⟩ := p
    rw [List.all_cons, ih]
    simp only [okW', nin_eq]
    cases nin fp k
    · by_cases h1 : nb ≤ k
      · by_cases h2 : k < nb + 8 <;> simp [h1, h2]
      · simp [h1]
    · simp
section
variable (kf : Bool) (cf : CallF)
def okX (b : Bool) (X : Prop) [Dep X] : Prop := b = true ∧ X
theorem okX_t (X : Prop) : okX true X = X := by simp [okX]
/-- What a call gives, and what is behind it. -/
def cB (nb : Nat) (d : Option Nat) (r : List CO) (i : Nat) (L : List (Nat × A)) (hp : Heap) (nx m : Nat) (dy : List Nat) (Q : St → Prop) (fp : List Nat) (x : Option (A × Writes)) [Dep Q] : Prop :=
  ∃ v ws, x = some (v, ws) ∧ okW fp (nb + 8 * i) ws = true ∧ opsW kf cf nb r (i + 1) ⟨gS (setL d v L), applyW hp ws, nx, m, addD m ws dy⟩ Q
@[congr] theorem cB_congr {nb : Nat} {d : Option Nat} {r : List CO} {i : Nat} {L : List (Nat × A)} {hp : Heap} {nx m : Nat} {dy : List Nat} {Q : St → Prop} {fp : List Nat} {x y : Option (A × Writes)} (h : x = y) : cB kf cf nb d r i L hp nx m dy Q fp x = cB kf cf nb d r i L hp nx m dy Q fp y := by rw [h]
theorem cB_some (nb : Nat) (d : Option Nat) (r : List CO) (i : Nat) (L : List (Nat × A)) (hp : Heap) (nx m : Nat) (dy : List Nat) (Q : St → Prop) (fp : List Nat) (v : A) (ws : Writes) :
    cB kf cf nb d r i L hp nx m dy Q fp (some (v, ws)) = okX (okW' fp (nb + 8 * i) ws) (opsW kf cf nb r (i + 1) ⟨gS (setL d v L), applyW hp ws, nx, m, addD m ws dy⟩ Q) := by
  rw [eq_iff_iff]
  unfold cB okX
  constructor
  · rintro ⟨v', ws', h1, h2, h3⟩
    cases h1
    exact ⟨by rw [← okW_eq]; exact h2, h3⟩
  · rintro ⟨h1, h2⟩
    exact ⟨v, ws, rfl, by rw [okW_eq]; exact h1, h2⟩
def cA (nb : Nat) (d : Option Nat) (f : COpd) (as : List COpd) (r : List CO) (i : Nat) (L : List (Nat × A)) (hp : Heap) (nx m : Nat) (dy : List Nat) (Q : St → Prop) (fp : List Nat) [Dep Q] : Prop :=
  cB kf cf nb d r i L hp nx m dy Q fp (aop kf cf (nb + 8 * i) (restrict hp fp) (.call (val (gS L) f) (as.map (val (gS L)))))
@[congr] theorem cA_congr {nb : Nat} {d : Option Nat} {f : COpd} {as : List COpd} {r : List CO} {i : Nat} {L : List (Nat × A)} {hp : Heap} {nx m : Nat} {dy : List Nat} {Q : St → Prop} {fp fp' : List Nat} (h : fp = fp') : cA kf cf nb d f as r i L hp nx m dy Q fp = cA kf cf nb d f as r i L hp nx m dy Q fp' := by rw [h]
theorem cA_nil (nb : Nat) (d : Option Nat) (f : COpd) (as : List COpd) (r : List CO) (i : Nat) (L : List (Nat × A)) (hp : Heap) (nx m : Nat) (dy : List Nat) (Q : St → Prop) : cA kf cf nb d f as r i L hp nx m dy Q [] = cB kf cf nb d r i L hp nx m dy Q [] (aop kf cf (nb + 8 * i) (restrict hp []) (.call (val (gS L) f) (as.map (val (gS L))))) := rfl
theorem cA_cons (nb : Nat) (d : Option Nat) (f : COpd) (as : List COpd) (r : List CO) (i : Nat) (L : List (Nat × A)) (hp : Heap) (nx m : Nat) (dy : List Nat) (Q : St → Prop) (k : Nat) (fp : List Nat) : cA kf cf nb d f as r i L hp nx m dy Q (k :: fp) = cB kf cf nb d r i L hp nx m dy Q (k :: fp) (aop kf cf (nb + 8 * i) (restrict hp (k :: fp)) (.call (val (gS L) f) (as.map (val (gS L))))) := rfl
theorem w_call (nb : Nat) (d : Option Nat) (f : COpd) (as : List COpd) (b : Nat) (r : List CO) (i : Nat) (L : List (Nat × A)) (hp : Heap) (nx m : Nat) (dy : List Nat) (Q : St → Prop) :
    opsW kf cf nb (⟨d, .call f as, none, b⟩ :: r) i ⟨gS L, hp, nx, m, dy⟩ Q = cA kf cf nb d f as r i L hp nx m dy Q (reach hp 1000 (val (gS L) f :: as.map (val (gS L))) []) := by
  rw [eq_iff_iff]
  unfold cA cB
  generalize hfp : reach hp 1000 (val (gS L) f :: as.map (val (gS L))) [] = fp
  constructor
  · intro h
    simp only [opsW, opsW0] at h
    obtain ⟨s', f', w, h1, h2⟩ := h
    unfold astep at h1
    simp only [wantedA, COp.mapO, foot, hfp] at h1
    split at h1
    · rename_i v ws hv
      split at h1
      · rename_i hw
        simp only [Option.some.injEq, Prod.mk.injEq] at h1
        obtain ⟨rfl, rfl, rfl⟩ := h1
        refine ⟨v, ws, hv, hw, ?_⟩
        rw [← setDst_gS, ← addD_eq]; exact h2
      · cases h1
    · cases h1
  · rintro ⟨v, ws, h1, h2, h3⟩
    exact opsW_call kf cf hfp h1 h2 h3
/-! any order -/
def dB (nb : Nat) (c : CO) (r : List CO) (i : Nat) (L : List (Nat × A)) (hp : Heap) (nx m : Nat) (dy : List Nat) (acc : List (CO × List Nat × List Nat)) (Q : St → List (CO × List Nat × List Nat) → Prop) (fp : List Nat) (x : Option (A × Writes)) [Dep Q] : Prop :=
  ∃ v ws, x = some (v, ws) ∧ okW fp (nb + 8 * i) ws = true ∧ opsD kf cf nb r (i + 1) ⟨gS (setL c.dst v L), applyW hp ws, nx, m, addD m ws dy⟩ (acc ++ [(c, fp, ws.map (·.1))]) Q
@[congr] theorem dB_congr {nb : Nat} {c : CO} {r : List CO} {i : Nat} {L : List (Nat × A)} {hp : Heap} {nx m : Nat} {dy : List Nat} {acc : List (CO × List Nat × List Nat)} {Q : St → List (CO × List Nat × List Nat) → Prop} {fp : List Nat} {x y : Option (A × Writes)} (h : x = y) : dB kf cf nb c r i L hp nx m dy acc Q fp x = dB kf cf nb c r i L hp nx m dy acc Q fp y := by rw [h]
theorem dB_some (nb : Nat) (d : Option Nat) (o : COp COpd) (g : Option (Nat × Bool)) (b : Nat) (r : List CO) (i : Nat) (L : List (Nat × A)) (hp : Heap) (nx m : Nat) (dy : List Nat) (acc : List (CO × List Nat × List Nat)) (Q : St → List (CO × List Nat × List Nat) → Prop) (fp : List Nat) (v : A) (ws : Writes) :
    dB kf cf nb ⟨d, o, g, b⟩ r i L hp nx m dy acc Q fp (some (v, ws)) = okX (okW' fp (nb + 8 * i) ws) (opsD kf cf nb r (i + 1) ⟨gS (setL d v L), applyW hp ws, nx, m, addD m ws dy⟩ (acc ++ [(⟨d, o, g, b⟩, fp, ws.map (·.1))]) Q) := by
  rw [eq_iff_iff]
  unfold dB okX
  constructor
  · rintro ⟨v', ws', h1, h2, h3⟩
    cases h1
    exact ⟨by rw [← okW_eq]; exact h2, h3⟩
  · rintro ⟨h1, h2⟩
    exact ⟨v, ws, rfl, by rw [okW_eq]; exact h1, h2⟩
def dA' (nb : Nat) (c : CO) (f : COpd) (as : List COpd) (r : List CO) (i : Nat) (L : List (Nat × A)) (hp : Heap) (nx m : Nat) (dy : List Nat) (acc : List (CO × List Nat × List Nat)) (Q : St → List (CO × List Nat × List Nat) → Prop) (fp : List Nat) [Dep Q] : Prop :=
  dB kf cf nb c r i L hp nx m dy acc Q fp (aop kf cf (nb + 8 * i) (restrict hp fp) (.call (val (gS L) f) (as.map (val (gS L)))))
@[congr] theorem dA'_congr {nb : Nat} {c : CO} {f : COpd} {as : List COpd} {r : List CO} {i : Nat} {L : List (Nat × A)} {hp : Heap} {nx m : Nat} {dy : List Nat} {acc : List (CO × List Nat × List Nat)} {Q : St → List (CO × List Nat × List Nat) → Prop} {fp fp' : List Nat} (h : fp = fp') : dA' kf cf nb c f as r i L hp nx m dy acc Q fp = dA' kf cf nb c f as r i L hp nx m dy acc Q fp' := by rw [h]
theorem dA'_nil (nb : Nat) (c : CO) (f : COpd) (as : List COpd) (r : List CO) (i : Nat) (L : List (Nat × A)) (hp : Heap) (nx m : Nat) (dy : List Nat) (acc : List (CO × List Nat × List Nat)) (Q : St → List (CO × List Nat × List Nat) → Prop) : dA' kf cf nb c f as r i L hp nx m dy acc Q [] = dB kf cf nb c r i L hp nx m dy acc Q [] (aop kf cf (nb + 8 * i) (restrict hp []) (.call (val (gS L) f) (as.map (val (gS L))))) := rfl
theorem dA'_cons (nb : Nat) (c : CO) (f : COpd) (as : List COpd) (r : List CO) (i : Nat) (L : List (Nat × A)) (hp : Heap) (nx m : Nat) (dy : List Nat) (acc : List (CO × List Nat × List Nat)) (Q : St → List (CO × List Nat × List Nat) → Prop) (k : Nat) (fp : List Nat) : dA' kf cf nb c f as r i L hp nx m dy acc Q (k :: fp) = dB kf cf nb c r i L hp nx m dy acc Q (k :: fp) (aop kf cf (nb + 8 * i) (restrict hp (k :: fp)) (.call (val (gS L) f) (as.map (val (gS L))))) := rfl
theorem x_call (nb : Nat) (d : Option Nat) (f : COpd) (as : List COpd) (b : Nat) (r : List CO) (i : Nat) (L : List (Nat × A)) (hp : Heap) (nx m : Nat) (dy : List Nat) (acc : List (CO × List Nat × List Nat)) (Q : St → List (CO × List Nat × List Nat) → Prop) :
    opsD kf cf nb (⟨d, .call f as, none, b⟩ :: r) i ⟨gS L, hp, nx, m, dy⟩ acc Q = dA' kf cf nb ⟨d, .call f as, none, b⟩ f as r i L hp nx m dy acc Q (reach hp 1000 (val (gS L) f :: as.map (val (gS L))) []) := by
  rw [eq_iff_iff]
  unfold dA' dB
  generalize hfp : reach hp 1000 (val (gS L) f :: as.map (val (gS L))) [] = fp
  constructor
  · intro h
    simp only [opsD, opsD0] at h
    obtain ⟨s', f', w, h1, h2⟩ := h
    unfold astep at h1
    simp only [wantedA, COp.mapO, foot, hfp] at h1
    split at h1
    · rename_i v ws hv
      split at h1
      · rename_i hw
        simp only [Option.some.injEq, Prod.mk.injEq] at h1
        obtain ⟨rfl, rfl, rfl⟩ := h1
        refine ⟨v, ws, hv, hw, ?_⟩
        rw [← setDst_gS, ← addD_eq]; exact h2
      · cases h1
    · cases h1
  · rintro ⟨v, ws, h1, h2, h3⟩
    exact opsD_call kf cf hfp h1 h2 h3
theorem y_call (nb : Nat) (d : Option Nat) (f : COpd) (as : List COpd) (jj : Nat) (ww : Bool) (b : Nat) (r : List CO) (i : Nat) (L : List (Nat × A)) (hp : Heap) (nx m : Nat) (dy : List Nat) (acc : List (CO × List Nat × List Nat)) (Q : St → List (CO × List Nat × List Nat) → Prop) :
    opsD kf cf nb (⟨d, .call f as, some (jj, ww), b⟩ :: r) i ⟨gS L, hp, nx, m, dy⟩ acc Q = gdK (gS L jj) ww (dA' kf cf nb ⟨d, .call f as, some (jj, ww), b⟩ f as r i L hp nx m dy acc Q (reach hp 1000 (val (gS L) f :: as.map (val (gS L))) [])) (opsD kf cf nb r (i + 1) ⟨gS (setL d (.tup []) L), hp, nx, m, dy⟩ (acc ++ [(⟨d, .call f as, some (jj, ww), b⟩, [], [])]) Q) := by
  have key : (∃ s' f' ws, astep kf cf ⟨d, .call f as, none, b⟩ (nb + 8 * i) ⟨gS L, hp, nx, m, dy⟩ = some (s', f', ws) ∧ opsD kf cf nb r (i + 1) s' (acc ++ [(⟨d, .call f as, some (jj, ww), b⟩, f', ws)]) Q) = dA' kf cf nb ⟨d, .call f as, some (jj, ww), b⟩ f as r i L hp nx m dy acc Q (reach hp 1000 (val (gS L) f :: as.map (val (gS L))) []) := by
    rw [eq_iff_iff]
    unfold dA' dB
    generalize hfp : reach hp 1000 (val (gS L) f :: as.map (val (gS L))) [] = fp
    constructor
    · intro h
      obtain ⟨s', f', w, h1, h2⟩ := h
      unfold astep at h1
      simp only [wantedA, COp.mapO, foot, hfp] at h1
      split at h1
      · rename_i v ws hv
        split at h1
        · rename_i hw
          simp only [Option.some.injEq, Prod.mk.injEq] at h1
          obtain ⟨rfl, rfl, rfl⟩ := h1
          refine ⟨v, ws, hv, hw, ?_⟩
          rw [← setDst_gS, ← addD_eq]; exact h2
        · cases h1
      · cases h1
    · rintro ⟨v, ws, h1, h2, h3⟩
      refine ⟨⟨gS (setL d v L), applyW hp ws, nx, m, addD m ws dy⟩, fp, ws.map (·.1), ?_, h3⟩
      unfold astep
      simp only [wantedA, COp.mapO, foot, hfp]
      rw [h1]
      simp only
      have hw' : (ws.all fun p => fp.contains p.1 || (decide (nb + 8 * i ≤ p.1) && decide (p.1 < nb + 8 * i + 8))) = true := h2
      simp only [hw', if_true, addD_eq, setDst_gS]
  rw [opsD_g]
  unfold gdK
  rw [key]
end
/-! ### The call itself -/
section
variable (kf : Bool) (prog : FuncId → Option CF)
def insB (hp : Heap) (nb : Nat) (ids : List Nat) : List Nat → Bool
  | [] => true
  | i :: r => if i < nb then (if insC ids (hp i) then insB hp nb ids r else false) else false
theorem insC_box (ids : List Nat) (cs : List A) : insC ids (.box cs) = allInL ids cs := rfl
theorem insC_row (ids : List Nat) (sz : Nat) (f : Bool) (xs : List (List D)) : insC ids (.row sz f xs) = true := rfl
theorem insC_imm (ids : List Nat) (sz : Nat) (f : Bool) (xs : List (List D)) : insC ids (.imm sz f xs) = true := rfl
theorem insC_map (ids : List Nat) (a : Bool) (xs : List (List D × D)) : insC ids (.map a xs) = true := rfl
theorem insC_dead (ids : List Nat) : insC ids .dead = true := rfl
theorem insB_nil (hp : Heap) (nb : Nat) (ids : List Nat) : insB hp nb ids [] = true := rfl
theorem insB_cons (hp : Heap) (nb : Nat) (ids : List Nat) (i : Nat) (r : List Nat) : insB hp nb ids (i :: r) = if i < nb then (if insC ids (hp i) then insB hp nb ids r else false) else false := rfl
theorem insB_eq (hp : Heap) (nb : Nat) (ids l : List Nat) : (l.all fun i => decide (i < nb) && insC ids (hp i)) = insB hp nb ids l := by
  induction l with
  | nil => rfl
  | cons i r ih =>
    rw [List.all_cons, ih]
    simp only [insB]
    by_cases h : i < nb
    · cases insC ids (hp i) <;> simp [h]
    · simp [h]
theorem ai_ptr (ids : List Nat) (i o : Nat) : allIn ids (.ptr i o) = nin ids i := by simp only [allIn, nin_eq]
theorem ai_row (ids : List Nat) (i : Nat) : allIn ids (.row i) = nin ids i := by simp only [allIn, nin_eq]
theorem ai_sub (ids : List Nat) (i lo hi : Nat) (w : Bool) : allIn ids (.sub i lo hi w) = nin ids i := by simp only [allIn, nin_eq]
theorem ai_bs (ids : List Nat) (i a b c : Nat) : allIn ids (.bs i a b c) = nin ids i := by simp only [allIn, nin_eq]
theorem ai_ep (ids : List Nat) (i a b : Nat) : allIn ids (.ep i a b) = nin ids i := by simp only [allIn, nin_eq]
theorem ai_map (ids : List Nat) (i : Nat) : allIn ids (.map i) = nin ids i := by simp only [allIn, nin_eq]
theorem ai_agg (ids : List Nat) (cs : List A) : allIn ids (.agg cs) = allInL ids cs := by simp only [allIn]
theorem ai_tup (ids : List Nat) (cs : List A) : allIn ids (.tup cs) = allInL ids cs := by simp only [allIn]
theorem ai_fn (ids : List Nat) (f : FuncId) (cs : List A) : allIn ids (.fn f cs) = allInL ids cs := by simp only [allIn]
theorem ai_d (ids : List Nat) (x : D) : allIn ids (.d x) = true := by simp only [allIn]
theorem ai_dp (ids : List Nat) (x : List D) : allIn ids (.dp x) = true := by simp only [allIn]
theorem ai_un (ids : List Nat) : allIn ids .un = true := by simp only [allIn]
theorem al_nil (ids : List Nat) : allInL ids [] = true := by simp only [allInL]
theorem al_cons (ids : List Nat) (x : A) (xs : List A) : allInL ids (x :: xs) = (allIn ids x && allInL ids xs) := by simp only [allInL]
def newL (nb : Nat) : Nat → List Nat
  | 0 => []
  | n + 1 => nb :: newL (nb + 1) n
theorem newL_zero (nb : Nat) : newL nb 0 = [] := rfl
theorem newL_succ (nb n : Nat) : newL nb (n + 1) = nb :: newL (nb + 1) n := rfl
theorem newL_eq (nb n : Nat) : (List.range n).map (nb + ·) = newL nb n := by
  have key : ∀ (n k : Nat), (List.range' k n).map (nb + ·) = newL (nb + k) n := fun n => by
    induction n with
    | zero => intro k; rfl
    | succ n ih => intro k; rw [List.range'_succ, List.map_cons, ih]; rfl
  rw [List.range_eq_range']
  exact key n 0
/-- What a call gives back to its caller. -/
def cl3 (ids : List Nat) (nb : Nat) (ws : Writes) (p : A × List Chunk × List Nat) : Option (A × Writes) :=
  ifs (ids.length ≤ p.2.1.length ∧ p.2.1.length ≤ ids.length + 8) (some (ren (bwd (ids ++ newL nb (p.2.1.length - ids.length))) p.1, ws ++ backW (ids ++ newL nb (p.2.1.length - ids.length)) ids.length p.2.2 p.2.1 0))
theorem cl3_eq (ids : List Nat) (nb : Nat) (ws : Writes) (r : A) (H' : List Chunk) (dirty : List Nat) : cl3 ids nb ws (r, H', dirty) = ifs (ids.length ≤ H'.length ∧ H'.length ≤ ids.length + 8) (some (ren (bwd (ids ++ newL nb (H'.length - ids.length))) r, ws ++ backW (ids ++ newL nb (H'.length - ids.length)) ids.length dirty H' 0)) := rfl
noncomputable def cl2 (g : FuncId) (nb : Nat) (xs : List A) (ws : Writes) (hp : Heap) (ids : List Nat) : Option (A × Writes) :=
  ifs (insB hp nb ids ids = true) (ob (runW kf prog g (renL (fwd ids) xs) (packL hp ids)) (cl3 ids nb ws))
theorem cl2_nil (g : FuncId) (nb : Nat) (xs : List A) (ws : Writes) (hp : Heap) : cl2 kf prog g nb xs ws hp [] = ob (runW kf prog g (renL (fwd []) xs) []) (cl3 [] nb ws) := rfl
theorem cl2_cons (g : FuncId) (nb : Nat) (xs : List A) (ws : Writes) (hp : Heap) (i : Nat) (r : List Nat) : cl2 kf prog g nb xs ws hp (i :: r) = ifs (insB hp nb (i :: r) (i :: r) = true) (ob (runW kf prog g (renL (fwd (i :: r)) xs) (pkL hp (i :: r) (i :: r))) (cl3 (i :: r) nb ws)) := by
  unfold cl2; rw [packL_eq]
noncomputable def clF (g : FuncId) (nb : Nat) (hp : Heap) (p : List A × Writes) : Option (A × Writes) := cl2 kf prog g nb p.1 p.2 (applyW hp p.2) (reach (applyW hp p.2) 1000 p.1 [])
theorem clF_eq (g : FuncId) (nb : Nat) (hp : Heap) (xs : List A) (ws : Writes) : clF kf prog g nb hp (xs, ws) = cl2 kf prog g nb xs ws (applyW hp ws) (reach (applyW hp ws) 1000 xs []) := rfl
variable {kf prog}
/-- A call of a function that is no copy. -/
theorem callW_fn {g : FuncId} {b : CCode} {res : List CRes} {ra : List (Nat × Nat)} {keep : Bool} {rr : List (Nat × Nat)} {dl : Option (List Nat)} (hf : prog g = some ⟨b, res, ra, keep, rr, none, dl⟩) (as : List A) (hp : Heap) (nb : Nat) : callW kf prog g as hp nb = clF kf prog g nb hp (freezeR kf ra as 0 hp) := by
  unfold callW callOf clF cl2
  rw [hf]
  simp only [newL_eq, insB_eq, ifs]
  by_cases hall : insB (applyW hp (freezeR kf ra as 0 hp).2) nb (reach (applyW hp (freezeR kf ra as 0 hp).2) 1000 (freezeR kf ra as 0 hp).1 []) (reach (applyW hp (freezeR kf ra as 0 hp).2) 1000 (freezeR kf ra as 0 hp).1 []) = true
  · rw [if_pos hall, if_pos hall]
    cases runW kf prog g (renL (fwd (reach (applyW hp (freezeR kf ra as 0 hp).2) 1000 (freezeR kf ra as 0 hp).1 [])) (freezeR kf ra as 0 hp).1) (packL (applyW hp (freezeR kf ra as 0 hp).2) (reach (applyW hp (freezeR kf ra as 0 hp).2) 1000 (freezeR kf ra as 0 hp).1 [])) with
    | none => rfl
    | some p =>
      obtain ⟨r, H', dirty⟩ := p
      simp only [ob, cl3, ifs, Bool.and_eq_true, decide_eq_true_eq]
  · rw [if_neg hall, if_neg hall]
def clC (sz nb : Nat) (x : A) (p : Nat × List (List D)) : Option (A × Writes) := ifs (okSz sz p.1 p.2 = true ∧ p.2.length ≤ 1099511627776 ∧ notStr x = true) (some (.row nb, [(nb, .row sz false p.2)]))
theorem clC_eq (sz nb : Nat) (x : A) (n : Nat) (xs : List (List D)) : clC sz nb x (n, xs) = ifs (okSz sz n xs = true ∧ xs.length ≤ 1099511627776 ∧ notStr x = true) (some (.row nb, [(nb, .row sz false xs)])) := rfl
theorem ns_row (i : Nat) : notStr (.row i) = true := rfl
theorem ns_sub (i lo hi : Nat) (c : Bool) : notStr (.sub i lo hi c) = true := rfl
theorem ns_bs (i a b c : Nat) : notStr (.bs i a b c) = true := rfl
theorem ns_sl (t : Tg) (sz : Nat) (xs : List (List D)) : notStr (.d (.sl t sz xs)) = true := rfl
/-- A copy. -/
theorem callW_cl {g : FuncId} {b : CCode} {res : List CRes} {ra : List (Nat × Nat)} {keep : Bool} {rr : List (Nat × Nat)} {sz : Nat} {dl : Option (List Nat)} (hf : prog g = some ⟨b, res, ra, keep, rr, some sz, dl⟩) (x : A) (hp : Heap) (nb : Nat) : callW kf prog g [x] hp nb = ob (view hp x) (clC sz nb x) := by
  unfold callW callOf
  rw [hf]
  simp only
  cases view hp x with
  | none => rfl
  | some p => obtain ⟨n, xs⟩ := p; simp only [ob, clC, ifs, Bool.and_eq_true, decide_eq_true_eq, and_assoc]
end
/-! what is given back -/
def nth0 : List Nat → Nat → Nat
  | [], _ => 0
  | j :: r, k => if k = 0 then j else nth0 r (k - 1)
theorem nth0_nil (k : Nat) : nth0 [] k = 0 := rfl
theorem nth0_cons (j : Nat) (r : List Nat) (k : Nat) : nth0 (j :: r) k = if k = 0 then j else nth0 r (k - 1) := rfl
theorem nth0_eq (l : List Nat) (k : Nat) : l.getD k 0 = nth0 l k := by
  induction l generalizing k with
  | nil => rfl
  | cons j r ih => cases k <;> simp [nth0, ← ih]
def bkI (all : List Nat) (k0 : Nat) (dirty : List Nat) (c : Chunk) (r : List Chunk) (k : Nat) (b : Bool) : Writes := if b then backW all k0 dirty r (k + 1) else (nth0 all k, renC (bwd all) c) :: backW all k0 dirty r (k + 1)
theorem bkI_t (all : List Nat) (k0 : Nat) (dirty : List Nat) (c : Chunk) (r : List Chunk) (k : Nat) : bkI all k0 dirty c r k true = backW all k0 dirty r (k + 1) := rfl
theorem bkI_f (all : List Nat) (k0 : Nat) (dirty : List Nat) (c : Chunk) (r : List Chunk) (k : Nat) : bkI all k0 dirty c r k false = (nth0 all k, renC (bwd all) c) :: backW all k0 dirty r (k + 1) := rfl
theorem backW_nil (all : List Nat) (k0 : Nat) (dirty : List Nat) (k : Nat) : backW all k0 dirty [] k = [] := rfl
theorem backW_cons (all : List Nat) (k0 : Nat) (dirty : List Nat) (c : Chunk) (r : List Chunk) (k : Nat) : backW all k0 dirty (c :: r) k = bkI all k0 dirty c r k (if k < k0 then !nin dirty k else false) := by
  simp only [backW, bkI, nth0_eq, nin_eq]
  by_cases h : k < k0 <;> simp [h]
end Go.Vm
end
section
/- PRINTED BY mkvm.py of this repository: the rules as one fact. -/
set_option linter.unusedVariables false
set_option linter.defProp false
namespace Go.Vm
def vmP := And.intro @wp_skip' ( And.intro @wp_exit' ( And.intro @wp_ret' ( And.intro @wp_seq' ( And.intro @seqK_n ( And.intro @seqK_e ( And.intro @seqK_r ( And.intro @wp_block' ( And.intro @blockK_n ( And.intro @blockK_r ( And.intro @blockK_e ( And.intro @wp_cond' ( And.intro @loopK_n ( And.intro @loopK_e ( And.intro @loopK_r ( And.intro @regK_eq ( And.intro @wp_reg' ( And.intro @wp_regD' ( And.intro @stK_eq ( And.intro @opsW_nil ( And.intro @leaveK_r ( And.intro @leaveK_n ( And.intro @stD_eq ( And.intro @opsD_nil ( And.intro @cB_some ( And.intro @cA_nil ( And.intro @cA_cons ( And.intro @dB_some ( And.intro @dA'_nil (@dA'_cons)))))))))))))))))))))))))))))
def vm0 := And.intro @gS_cons ( And.intro @gS_nil ( And.intro @gH_cons ( And.intro @gH_nil ( And.intro @applyW_nil ( And.intro @applyW_cons ( And.intro @setL_some ( And.intro @setL_none ( And.intro @mL_nil ( And.intro @mL_cons ( And.intro @ob_some ( And.intro @ob_none ( And.intro @oc_box ( And.intro @oc_row ( And.intro @oc_imm ( And.intro @oc_map ( And.intro @ifs_true ( And.intro @o_mv ( And.intro @o_same ( And.intro @o_pick ( And.intro @o_pickt ( And.intro @o_pickf ( And.intro @o_alloc ( And.intro @allocK_eq ( And.intro @o_allocR ( And.intro @rowify_nil ( And.intro @rowifyK_eq ( And.intro @rowify_cons ( And.intro @rowifyC_nil ( And.intro @rowifyC_row ( And.intro @o_box ( And.intro @boxK_eq ( And.intro @o_boxR ( And.intro @cellsOf_d ( And.intro @cellsOf_agg (@cellsOf_ptr)))))))))))))))))))))))))))))))))))
def vm1 := And.intro @cellsOf_row ( And.intro @cellsOf_sub ( And.intro @cellsOf_bs ( And.intro @cellsOf_ep ( And.intro @cellsOf_dp ( And.intro @cellsOf_fn ( And.intro @cellsOf_map ( And.intro @o_build ( And.intro @setParts_nil ( And.intro @spl_zero ( And.intro @spl_succ ( And.intro @setParts_one ( And.intro @bslK_eq ( And.intro @bslC_eq ( And.intro @chunks_nil ( And.intro @chunks_cons ( And.intro @toDs_nil ( And.intro @toDsK_eq ( And.intro @toDsC_eq ( And.intro @toDs_cons ( And.intro @toD1_int ( And.intro @toD1_bool ( And.intro @toD1_str ( And.intro @toD1_sl ( And.intro @toD1_nilp ( And.intro @toD1_nilf ( And.intro @toD1_nilm ( And.intro @toD1_row ( And.intro @toD1R_row ( And.intro @toD1R_imm ( And.intro @toD1_sub ( And.intro @toD1S_row ( And.intro @toD1S_imm ( And.intro @dim_any ( And.intro @dim_full (@dim_nil)))))))))))))))))))))))))))))))))))
def vm2 := And.intro @dim_made ( And.intro @dim_fullk ( And.intro @dim_nilk ( And.intro @takeAgg_t ( And.intro @takeAgg_f ( And.intro @ret0_eq ( And.intro @loadB_box ( And.intro @o_load_ptr ( And.intro @loadE_row ( And.intro @loadE_imm ( And.intro @o_load_ep ( And.intro @o_load_dp ( And.intro @storeB_box ( And.intro @o_store_ptr ( And.intro @storeE2_row ( And.intro @storeE_eq ( And.intro @o_store_ep ( And.intro @o_nilck_ptr ( And.intro @o_nilck_ep ( And.intro @o_nilck_dp ( And.intro @o_nilck_fn ( And.intro @o_bin ( And.intro @b_add ( And.intro @b_sub ( And.intro @b_mul ( And.intro @b_eql ( And.intro @b_neq ( And.intro @b_lss ( And.intro @b_leq ( And.intro @b_gtr ( And.intro @b_geq ( And.intro @b_and ( And.intro @b_or ( And.intro @b_andNot ( And.intro @b_seq (@b_sne)))))))))))))))))))))))))))))))))))
def vm3 := And.intro @b_beq ( And.intro @b_bne ( And.intro @b_peq ( And.intro @b_pne ( And.intro @b_eeq ( And.intro @b_ene ( And.intro @b_neq0 ( And.intro @b_nne0 ( And.intro @o_eqs ( And.intro @allD_nil ( And.intro @allD_cons ( And.intro @o_un_neg ( And.intro @o_un_not ( And.intro @o_conv ( And.intro @viewR_row ( And.intro @viewR_imm ( And.intro @view_sl ( And.intro @view_str ( And.intro @view_row ( And.intro @viewS_row ( And.intro @viewS_imm ( And.intro @view_sub ( And.intro @b2sK_eq ( And.intro @o_b2s_sl ( And.intro @o_b2s_row ( And.intro @o_b2s_sub ( And.intro @o_s2a ( And.intro @strC_row ( And.intro @o_strish ( And.intro @o_mkfn ( And.intro @o_mkmap ( And.intro @o_mkslice ( And.intro @cut_eq ( And.intro @cutHi_none ( And.intro @cutLo_none (@cutHi_some)))))))))))))))))))))))))))))))))))
def vm4 := And.intro @cutLo_some ( And.intro @slStrK_eq ( And.intro @o_slStr ( And.intro @slSlK_eq ( And.intro @o_slSl_sl ( And.intro @slSlM_eq ( And.intro @o_slSl_slM ( And.intro @okSz_self ( And.intro @okSz_nil ( And.intro @rowLenC_row ( And.intro @rowLenC_imm ( And.intro @rowLen_eq ( And.intro @subK_eq ( And.intro @o_slSl_row ( And.intro @o_slSl_rowM ( And.intro @subLim_none ( And.intro @subLim_false ( And.intro @subLim_true ( And.intro @o_slSl_sub ( And.intro @slDpK_eq ( And.intro @o_slArr_dp ( And.intro @slBoxC_box ( And.intro @slBoxK_eq ( And.intro @o_slArr_ptr ( And.intro @o_fa_ptr ( And.intro @o_fa_ep ( And.intro @o_fa_dp ( And.intro @o_fld ( And.intro @o_ia_sl ( And.intro @iaC_row ( And.intro @iaC_imm ( And.intro @o_ia_row ( And.intro @iaS_row ( And.intro @iaS_imm ( And.intro @o_ia_sub (@o_ia_bs)))))))))))))))))))))))))))))))))))
def vm5 := And.intro @o_iaArr_dp ( And.intro @o_iaArr_ptr ( And.intro @o_idxStr ( And.intro @o_idxArr ( And.intro @lookK_eq ( And.intro @lookC_map ( And.intro @o_look ( And.intro @o_look_nil ( And.intro @keyOf_t ( And.intro @keyOf_f ( And.intro @mputC2_eq ( And.intro @mputC_map ( And.intro @mputK_eq ( And.intro @o_mput ( And.intro @o_ext ( And.intro @lenNK_eq ( And.intro @o_len ( And.intro @len_str ( And.intro @len_sl ( And.intro @lenC_row ( And.intro @lenC_imm ( And.intro @len_row ( And.intro @len_sub ( And.intro @len_bs ( And.intro @len_map ( And.intro @lenM_map ( And.intro @appSl_eq ( And.intro @o_app_sl ( And.intro @appRC_row ( And.intro @appRow_eq ( And.intro @o_app_row ( And.intro @appSC_row ( And.intro @appSub_eq ( And.intro @o_app_sub ( And.intro @copyC_box (@copyK_eq)))))))))))))))))))))))))))))))))))
def vm6 := And.intro @o_copy ( And.intro @clearC_row ( And.intro @o_clear ( And.intro @o_min ( And.intro @o_max ( And.intro @minI_one ( And.intro @o_call ( And.intro @condK_t ( And.intro @condK_f ( And.intro @addD_nil ( And.intro @addD_zero ( And.intro @nin_nil ( And.intro @nin_cons ( And.intro @addD_cons ( And.intro @addF_nil ( And.intro @addF_cons ( And.intro @opsW_of0 ( And.intro @opsD_of0 ( And.intro @keepL_some ( And.intro @keepL_none ( And.intro @opK_some ( And.intro @val_t ( And.intro @val_c ( And.intro @mapP_nil ( And.intro @mapP_cons ( And.intro @mapQ_nil ( And.intro @mapQ_cons ( And.intro @mapM1_none ( And.intro @mapM1_some ( And.intro @mapR_nil ( And.intro @mapR_cons ( And.intro @dA_nil ( And.intro @dA_cons ( And.intro @q_bslice ( And.intro @rP_some (@rP_none)))))))))))))))))))))))))))))))))))
def vm7 := And.intro @ren_d ( And.intro @ren_dp ( And.intro @ren_un ( And.intro @ren_ptr ( And.intro @ren_row ( And.intro @ren_sub ( And.intro @ren_bs ( And.intro @ren_ep ( And.intro @ren_map ( And.intro @ren_agg ( And.intro @ren_tup ( And.intro @ren_fn ( And.intro @renL_nil ( And.intro @renL_cons ( And.intro @renC_box ( And.intro @renC_row ( And.intro @renC_imm ( And.intro @renC_map ( And.intro @renC_dead ( And.intro @fwd_eq ( And.intro @idxIn_nil ( And.intro @idxIn_cons ( And.intro @nth_nil ( And.intro @nth_cons ( And.intro @bwd_eq ( And.intro @pkL_nil ( And.intro @pkL_cons ( And.intro @numH_nil ( And.intro @numH_cons ( And.intro @numS_nil ( And.intro @numS_cons ( And.intro @rC_t ( And.intro @rC_f ( And.intro @rB_box ( And.intro @rB_row (@rB_imm)))))))))))))))))))))))))))))))))))
def vm8 := And.intro @rB_map ( And.intro @rB_dead ( And.intro @reach_nil ( And.intro @reach_d ( And.intro @reach_dp ( And.intro @reach_un ( And.intro @reach_agg ( And.intro @reach_tup ( And.intro @reach_fn ( And.intro @reach_ptr ( And.intro @reach_row ( And.intro @reach_sub ( And.intro @reach_bs ( And.intro @reach_ep ( And.intro @reach_map ( And.intro @boxC_box ( And.intro @boxC_row ( And.intro @boxC_imm ( And.intro @boxC_map ( And.intro @boxC_dead ( And.intro @cellsL_zero ( And.intro @cellsL_succ ( And.intro @upto_zero ( And.intro @upto_succ ( And.intro @rSK_eq ( And.intro @rS_nil ( And.intro @rS_row ( And.intro @rS_sub ( And.intro @rS_any ( And.intro @rS_full ( And.intro @rS_un ( And.intro @rowSlots_nil ( And.intro @rowSlots_none ( And.intro @rowSlots_some ( And.intro @keysL_nil (@keysL_cons)))))))))))))))))))))))))))))))))))
def vm9 := And.intro @valsL_nil ( And.intro @valsL_cons ( And.intro @rnS_nil ( And.intro @rnS_cons ( And.intro @gc_eq ( And.intro @gc1_eq ( And.intro @gc2_eq ( And.intro @gc3_nil ( And.intro @gc3_cons ( And.intro @enterE_eq ( And.intro @lkp_nil ( And.intro @lkp_cons ( And.intro @aK_eq ( And.intro @aI_none ( And.intro @aI_nil ( And.intro @aI_row ( And.intro @aI_sub ( And.intro @aI_any ( And.intro @argsIn_emp ( And.intro @argsIn_cons ( And.intro @resC_box ( And.intro @resP_ptr ( And.intro @resOf_tmp ( And.intro @resOf_cell ( And.intro @resAll_nil ( And.intro @resAll_cons ( And.intro @lv2_nil ( And.intro @lv2_cons ( And.intro @allN_nil ( And.intro @allN_cons ( And.intro @lvD_none ( And.intro @lvD_some ( And.intro @lv1_eq ( And.intro @lvF_eq ( And.intro @lvR_eq (@applyC_nil)))))))))))))))))))))))))))))))))))
def vm10 := And.intro @applyC_cons ( And.intro @leaveS_eq ( And.intro @rowResR_none ( And.intro @one_one ( And.intro @one_nil ( And.intro @one_two ( And.intro @fzK_eq ( And.intro @fzR_eq ( And.intro @freezeR_nil ( And.intro @freezeR_cons ( And.intro @fz_int ( And.intro @fz_bool ( And.intro @fz_str ( And.intro @fz_sl ( And.intro @fz_nilp ( And.intro @fz_nilf ( And.intro @fz_nilm ( And.intro @fz_ptr ( And.intro @fz_ep ( And.intro @fz_dp ( And.intro @fz_tup ( And.intro @fz_fn ( And.intro @fz_map ( And.intro @fz_un ( And.intro @fzC_row ( And.intro @fzC_imm ( And.intro @fz_row ( And.intro @fz_agg ( And.intro @freezeL_nil ( And.intro @flK_eq ( And.intro @freezeL_cons ( And.intro @f1_int ( And.intro @f1_bool ( And.intro @f1_str ( And.intro @f1_sl (@f1_nilp)))))))))))))))))))))))))))))))))))
def vm11 := And.intro @f1_row ( And.intro @lk_hit ( And.intro @lk_miss ( And.intro @fzS_row ( And.intro @fzS_imm ( And.intro @f1_sub ( And.intro @fz_sub ( And.intro @gdK_tt ( And.intro @gdK_tf ( And.intro @gdK_ft ( And.intro @gdK_ff ( And.intro @gdK_no ( And.intro @opsW_g ( And.intro @w_mv ( And.intro @w_pick ( And.intro @w_alloc ( And.intro @w_box ( And.intro @w_build ( And.intro @w_bslice ( And.intro @w_load ( And.intro @w_store ( And.intro @w_nilck ( And.intro @w_bin ( And.intro @w_eqs ( And.intro @w_un ( And.intro @w_conv ( And.intro @w_same ( And.intro @w_strish ( And.intro @w_b2s ( And.intro @w_s2a ( And.intro @w_mkfn ( And.intro @w_mkmap ( And.intro @w_mkslice ( And.intro @w_slStr ( And.intro @w_slSl (@w_slArr)))))))))))))))))))))))))))))))))))
def vm12 := And.intro @w_fa ( And.intro @w_fld ( And.intro @w_ia ( And.intro @w_iaArr ( And.intro @w_idxStr ( And.intro @w_idxArr ( And.intro @w_look ( And.intro @w_mput ( And.intro @w_ext ( And.intro @w_len ( And.intro @w_app ( And.intro @w_copy ( And.intro @w_clear ( And.intro @w_min ( And.intro @w_max ( And.intro @x_mv ( And.intro @x_pick ( And.intro @x_alloc ( And.intro @x_box ( And.intro @x_build ( And.intro @x_bslice ( And.intro @x_load ( And.intro @x_store ( And.intro @x_nilck ( And.intro @x_bin ( And.intro @x_eqs ( And.intro @x_un ( And.intro @x_conv ( And.intro @x_same ( And.intro @x_strish ( And.intro @x_b2s ( And.intro @x_s2a ( And.intro @x_mkfn ( And.intro @x_mkmap ( And.intro @x_mkslice (@x_slStr)))))))))))))))))))))))))))))))))))
def vm13 := And.intro @x_slSl ( And.intro @x_slArr ( And.intro @x_fa ( And.intro @x_fld ( And.intro @x_ia ( And.intro @x_iaArr ( And.intro @x_idxStr ( And.intro @x_idxArr ( And.intro @x_look ( And.intro @x_mput ( And.intro @x_ext ( And.intro @x_len ( And.intro @x_app ( And.intro @x_copy ( And.intro @x_clear ( And.intro @x_min ( And.intro @x_max ( And.intro @y_mv ( And.intro @y_pick ( And.intro @y_alloc ( And.intro @y_box ( And.intro @y_build ( And.intro @y_bslice ( And.intro @y_load ( And.intro @y_store ( And.intro @y_nilck ( And.intro @y_bin ( And.intro @y_eqs ( And.intro @y_un ( And.intro @y_conv ( And.intro @y_same ( And.intro @y_strish ( And.intro @y_b2s ( And.intro @y_s2a ( And.intro @y_mkfn (@y_mkmap)))))))))))))))))))))))))))))))))))
def vm14 := And.intro @y_mkslice ( And.intro @y_slStr ( And.intro @y_slSl ( And.intro @y_slArr ( And.intro @y_fa ( And.intro @y_fld ( And.intro @y_ia ( And.intro @y_iaArr ( And.intro @y_idxStr ( And.intro @y_idxArr ( And.intro @y_look ( And.intro @y_mput ( And.intro @y_ext ( And.intro @y_len ( And.intro @y_app ( And.intro @y_copy ( And.intro @y_clear ( And.intro @y_min ( And.intro @y_max ( And.intro @restrict_at ( And.intro @upd_at ( And.intro @applyW_restrict ( And.intro @okW'_nil ( And.intro @okW'_cons ( And.intro @okX_t ( And.intro @w_call ( And.intro @x_call ( And.intro @y_call ( And.intro @insC_box ( And.intro @insC_row ( And.intro @insC_imm ( And.intro @insC_map ( And.intro @insC_dead ( And.intro @insB_nil ( And.intro @insB_cons (@ai_ptr)))))))))))))))))))))))))))))))))))
def vm15 := And.intro @ai_row ( And.intro @ai_sub ( And.intro @ai_bs ( And.intro @ai_ep ( And.intro @ai_map ( And.intro @ai_agg ( And.intro @ai_tup ( And.intro @ai_fn ( And.intro @ai_d ( And.intro @ai_dp ( And.intro @ai_un ( And.intro @al_nil ( And.intro @al_cons ( And.intro @newL_zero ( And.intro @newL_succ ( And.intro @cl3_eq ( And.intro @cl2_nil ( And.intro @cl2_cons ( And.intro @clF_eq ( And.intro @clC_eq ( And.intro @ns_row ( And.intro @ns_sub ( And.intro @ns_bs ( And.intro @ns_sl ( And.intro @nth0_nil ( And.intro @nth0_cons ( And.intro @bkI_t ( And.intro @bkI_f ( And.intro @backW_nil (@backW_cons)))))))))))))))))))))))))))))
def vmC := And.intro @Nat.not_lt_zero ( And.intro @ifs_pos ( And.intro @b_quo ( And.intro @b_rem ( And.intro @b_shl ( And.intro @b_shr ( And.intro @b_sadd ( And.intro @List.length_cons.{0} ( And.intro @List.length_nil.{0} ( And.intro @List.take_succ_cons.{0} ( And.intro @List.take_zero.{0} ( And.intro @List.take_nil.{0} ( And.intro @List.drop_succ_cons.{0} ( And.intro @List.drop_zero.{0} ( And.intro @List.drop_nil.{0} ( And.intro @List.cons_append.{0} ( And.intro @List.nil_append.{0} ( And.intro @List.append_nil.{0} ( And.intro @List.map_cons.{0, 0} ( And.intro @List.map_nil.{0, 0} ( And.intro @List.getElem?_cons_zero.{0} ( And.intro @List.getElem?_cons_succ.{0} ( And.intro @List.flatten_cons.{0} ( And.intro @List.flatten_nil.{0} ( And.intro @and_true ( And.intro @true_and ( And.intro @Bool.false_eq_true ( And.intro @Bool.not_true ( And.intro @Bool.not_false ( And.intro @Bool.and_false ( And.intro @Bool.and_true ( And.intro @Bool.false_and ( And.intro @Bool.true_and ( And.intro @decide_true ( And.intro @decide_false ( And.intro @List.isEmpty_nil.{0} ( And.intro @List.isEmpty_cons.{0} ( And.intro @Option.isSome_none.{0} ( And.intro @Option.isSome_some.{0} ( And.intro @Option.isNone_none.{0} ( And.intro @Option.isNone_some.{0} ( And.intro @List.lookup_nil.{0, 0} ( And.intro @List.set_cons_zero.{0} ( And.intro @List.set_cons_succ.{0} ( And.intro @List.length_append.{0} ( And.intro @Nat.zero_add ( And.intro @Nat.add_zero ( And.intro @Int.toNat_natCast ( And.intro @Nat.sub_zero ( And.intro @Int.toNat_zero (@Nat.add_one_sub_one))))))))))))))))))))))))))))))))))))))))))))))))))
end Go.Vm
end
section
/- Numbers and bytes for the rules. -/
set_option linter.unusedVariables false
set_option linter.defProp false
set_option linter.unusedSimpArgs false
namespace Go.Vm
theorem w_i64 {x : Int} (h : -9223372036854775808 ≤ x ∧ x ≤ 9223372036854775807) : IntKind.i64.wrap x = x := by
  simp only [IntKind.wrap, IntKind.bits, IntKind.signed, Bool.true_and]
  split
  · rename_i h1; have h1 := of_decide_eq_true h1; omega
  · rename_i h1; have h1 := of_decide_eq_false (Bool.eq_false_iff.2 h1); omega
theorem w_u64 {x : Int} (h : 0 ≤ x ∧ x ≤ 18446744073709551615) : IntKind.u64.wrap x = x := by
  simp only [IntKind.wrap, IntKind.bits, IntKind.signed, Bool.true_and, Bool.false_and, decide_eq_true_eq, Bool.false_eq_true, if_false]
  omega
theorem w_u8 {x : Int} (h : 0 ≤ x ∧ x ≤ 255) : IntKind.u8.wrap x = x := by
  simp only [IntKind.wrap, IntKind.bits, IntKind.signed, Bool.true_and, Bool.false_and, decide_eq_true_eq, Bool.false_eq_true, if_false]
  omega
/-- A list of bytes as cells. -/
def u8s (l : List UInt8) : List (List D) := l.map fun b => [.int .u8 b.toNat]
theorem bytesOf_u8s (l : List UInt8) : bytesOf (u8s l) = some l := by
  induction l with
  | nil => rfl
  | cons b l ih =>
    simp only [u8s, List.map_cons, bytesOf] at ih ⊢
    rw [ih]; simp
theorem u8s_len (l : List UInt8) : (u8s l).length = l.length := by simp [u8s]
theorem u8s_app (l r : List UInt8) : u8s l ++ u8s r = u8s (l ++ r) := by simp [u8s]
theorem u8s_nil : u8s [] = [] := rfl
theorem u8s_drop (l : List UInt8) (n : Nat) : (u8s l).drop n = u8s (l.drop n) := by simp [u8s]
theorem u8s_take (l : List UInt8) (n : Nat) : (u8s l).take n = u8s (l.take n) := by simp [u8s]
theorem u8s_at (l : List UInt8) {i : Nat} (h : i < l.length) : (u8s l)[i]? = some [.int .u8 (l.getD i 0).toNat] := by
  simp [u8s, h, List.getD_eq_getElem?_getD]
theorem w_byte (n : Nat) : IntKind.u8.wrap (n : Int) = ((UInt8.ofNat n).toNat : Int) := by
  simp only [IntKind.wrap, IntKind.bits, IntKind.signed, UInt8.toNat_ofNat']
  simp
theorem w_bi64 (b : UInt8) : IntKind.i64.wrap (b.toNat : Int) = b.toNat := by
  have := b.toNat_lt
  exact w_i64 (by omega)
/-- A byte's cell is the list of that byte. -/
theorem u8_one (b : UInt8) : [[D.int .u8 (b.toNat : Int)]] = u8s [b] := rfl
theorem or_128 (b : UInt8) : IntKind.u8.wrap ((BitVec.ofInt IntKind.u8.bits (b.toNat : Int) ||| BitVec.ofInt IntKind.u8.bits 128).toNat : Int) = ((b ||| 128).toNat : Int) := by
  have e : BitVec.ofInt IntKind.u8.bits (b.toNat : Int) = b.toBitVec := by
    apply BitVec.eq_of_toNat_eq
    simp [IntKind.bits, BitVec.toNat_ofInt]
  have e2 : (BitVec.ofInt IntKind.u8.bits (b.toNat : Int) ||| BitVec.ofInt IntKind.u8.bits 128).toNat = (b ||| 128).toNat := by
    rw [e]; rfl
  rw [e2]
  exact w_u8 (by have := (b ||| 128).toNat_lt; omega)
theorem or_128' (b : UInt8) : UInt8.ofNat (BitVec.ofInt IntKind.u8.bits (b.toNat : Int) ||| BitVec.ofInt IntKind.u8.bits 128).toNat = b ||| 128 := by
  have e : BitVec.ofInt IntKind.u8.bits (b.toNat : Int) = b.toBitVec := by
    apply BitVec.eq_of_toNat_eq
    simp [IntKind.bits, BitVec.toNat_ofInt]
  have e2 : (BitVec.ofInt IntKind.u8.bits (b.toNat : Int) ||| BitVec.ofInt IntKind.u8.bits 128).toNat = (b ||| 128).toNat := by
    rw [e]; rfl
  rw [e2]
  simp
theorem shr_nat (n k : Nat) : ((n : Int).fdiv (2 ^ (Nat.min (k : Int).toNat IntKind.i64.bits))) = ((n / 2 ^ (Nat.min k 64) : Nat) : Int) := by
  simp only [Int.toNat_natCast, IntKind.bits]
  have h : (2 ^ (Nat.min k 64) : Int) = ((2 ^ (Nat.min k 64) : Nat) : Int) := by simp
  rw [h, Int.fdiv_eq_ediv_of_nonneg _ (Int.natCast_nonneg _)]
  exact (Int.natCast_ediv _ _).symm
theorem and_127 (b : UInt8) : IntKind.u8.wrap ((BitVec.ofInt IntKind.u8.bits (b.toNat : Int) &&& BitVec.ofInt IntKind.u8.bits 127).toNat : Int) = ((b &&& 127).toNat : Int) := by
  have e : BitVec.ofInt IntKind.u8.bits (b.toNat : Int) = b.toBitVec := by
    apply BitVec.eq_of_toNat_eq
    simp [IntKind.bits, BitVec.toNat_ofInt]
  have e2 : (BitVec.ofInt IntKind.u8.bits (b.toNat : Int) &&& BitVec.ofInt IntKind.u8.bits 127).toNat = (b &&& 127).toNat := by
    rw [e]; rfl
  rw [e2]
  exact w_u8 (by have := (b &&& 127).toNat_lt; omega)
theorem and_127' (b : UInt8) : UInt8.ofNat (BitVec.ofInt IntKind.u8.bits (b.toNat : Int) &&& BitVec.ofInt IntKind.u8.bits 127).toNat = b &&& 127 := by
  have e : BitVec.ofInt IntKind.u8.bits (b.toNat : Int) = b.toBitVec := by
    apply BitVec.eq_of_toNat_eq
    simp [IntKind.bits, BitVec.toNat_ofInt]
  have e2 : (BitVec.ofInt IntKind.u8.bits (b.toNat : Int) &&& BitVec.ofInt IntKind.u8.bits 127).toNat = (b &&& 127).toNat := by
    rw [e]; rfl
  rw [e2]
  simp
theorem and_lt (b : UInt8) : (b &&& 127).toNat < 128 := by
  have : (b &&& 127).toNat = b.toNat &&& 127 := rfl
  rw [this, show (127 : Nat) = 2 ^ 7 - 1 from rfl, Nat.and_two_pow_sub_one_eq_mod]
  omega
theorem w_bu64 (b : UInt8) : IntKind.u64.wrap (b.toNat : Int) = b.toNat := by
  have := b.toNat_lt
  exact w_u64 (by omega)
theorem or_u64 (a b : Nat) (ha : a < 9223372036854775808) (hb : b < 9223372036854775808) : IntKind.u64.wrap ((BitVec.ofInt IntKind.u64.bits (a : Int) ||| BitVec.ofInt IntKind.u64.bits (b : Int)).toNat : Int) = ((a ||| b : Nat) : Int) := by
  have h : ∀ n : Nat, n < 9223372036854775808 → (BitVec.ofInt IntKind.u64.bits (n : Int)).toNat = n := fun n hn => by
    rw [BitVec.toNat_ofInt]; simp only [IntKind.bits]; omega
  rw [BitVec.toNat_or, h a ha, h b hb]
  have : a ||| b < 2 ^ 63 := Nat.or_lt_two_pow (by omega) (by omega)
  exact w_u64 (by omega)
theorem or_i64 (a b : Nat) (ha : a < 9223372036854775808) (hb : b < 9223372036854775808) : IntKind.i64.wrap ((BitVec.ofInt IntKind.i64.bits (a : Int) ||| BitVec.ofInt IntKind.i64.bits (b : Int)).toNat : Int) = ((a ||| b : Nat) : Int) := by
  have h : ∀ n : Nat, n < 9223372036854775808 → (BitVec.ofInt IntKind.i64.bits (n : Int)).toNat = n := fun n hn => by
    rw [BitVec.toNat_ofInt]; simp only [IntKind.bits]; omega
  rw [BitVec.toNat_or, h a ha, h b hb]
  have : a ||| b < 2 ^ 63 := Nat.or_lt_two_pow (by omega) (by omega)
  exact w_i64 (by omega)
theorem pow7 (i : Nat) (h : i ≤ 8) : 128 ^ i ≤ 72057594037927936 := by
  have : 128 ^ i ≤ 128 ^ 8 := Nat.pow_le_pow_right (by omega) h
  omega
theorem sh7 (c i : Nat) (hc : c < 128) (hi : i ≤ 8) (k : IntKind) (hk : k.bits = 64) : (c : Int) * 2 ^ (Nat.min (7 * (i : Int)).toNat k.bits) = ((c * 128 ^ i : Nat) : Int) := by
  have e : (7 * (i : Int)).toNat = 7 * i := by omega
  have e2 : Nat.min (7 * i) 64 = 7 * i := Nat.min_eq_left (by omega)
  rw [e, hk, e2, show (128 : Nat) = 2 ^ 7 from rfl, ← Nat.pow_mul]
  simp
theorem sh7_lt (c i : Nat) (hc : c < 128) (hi : i ≤ 8) : c * 128 ^ i < 9223372036854775808 := by
  have h1 := pow7 i hi
  have h2 : c * 128 ^ i ≤ 127 * 72057594037927936 := Nat.mul_le_mul (by omega) h1
  omega
theorem tk_all {α : Type} (l : List α) (m : Nat) : (l.drop m).take (l.length - m) = l.drop m := by rw [List.take_of_length_le]; simp
theorem sh8 (b : UInt8) : IntKind.i64.wrap ((b.toNat : Int) * 2 ^ (Nat.min 8 IntKind.i64.bits)) = ((b.toNat * 256 : Nat) : Int) := by
  have := b.toNat_lt
  have e : (2 : Int) ^ (Nat.min 8 IntKind.i64.bits) = 256 := rfl
  rw [e, w_i64 (by omega)]; simp
theorem or_bi64 (b c : UInt8) : IntKind.i64.wrap ((BitVec.ofInt IntKind.i64.bits ((b.toNat * 256 : Nat) : Int) ||| BitVec.ofInt IntKind.i64.bits (c.toNat : Int)).toNat : Int) = ((b.toNat * 256 ||| c.toNat : Nat) : Int) := by
  have h1 := b.toNat_lt
  have h2 := c.toNat_lt
  exact or_i64 _ _ (by omega) (by omega)
theorem or16_lt (b c : UInt8) : b.toNat * 256 ||| c.toNat < 65536 := by
  have h1 := b.toNat_lt
  have h2 := c.toNat_lt
  exact Nat.or_lt_two_pow (n := 16) (by omega) (by omega)
theorem min_nat (x y : Nat) : (if (y : Int) < (x : Int) then (y : Int) else (x : Int)) = ((min x y : Nat) : Int) := by
  split <;> omega
theorem max_nat (x y : Nat) : (if (y : Int) > (x : Int) then (y : Int) else (x : Int)) = ((max x y : Nat) : Int) := by
  split <;> omega
theorem u8_cons (b : UInt8) (l : List UInt8) : [D.int .u8 (b.toNat : Int)] :: u8s l = u8s (b :: l) := rfl
theorem shr8 (d : Nat) : ((d : Int).fdiv (2 ^ Nat.min 8 IntKind.i64.bits)) = ((d / 256 : Nat) : Int) := by
  have e : (2 : Int) ^ (Nat.min 8 IntKind.i64.bits) = 256 := rfl
  rw [e, Int.fdiv_eq_ediv_of_nonneg _ (by omega)]; omega
/-- Any number as a byte. -/
def toB (v : Int) : UInt8 := UInt8.ofNat (v % 256).toNat
theorem w_toB (v : Int) : IntKind.u8.wrap v = ((toB v).toNat : Int) := by
  simp only [IntKind.wrap, IntKind.bits, IntKind.signed, toB, UInt8.toNat_ofNat', Bool.false_and, Bool.false_eq_true, if_false]
  omega
def vmN := And.intro @w_bi64 ( And.intro @w_byte ( And.intro @or_128 ( And.intro @or_128' ( And.intro @u8_one ( And.intro @u8s_len ( And.intro @u8s_app ( And.intro @bytesOf_u8s ( And.intro @u8s_drop ( And.intro @u8s_take ( And.intro @tk_all ( And.intro @w_i64 (@u8s_at))))))))))))
end Go.Vm
end
