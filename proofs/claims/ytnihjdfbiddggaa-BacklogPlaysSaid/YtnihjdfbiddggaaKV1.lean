/- A part of the proof of BacklogPlaysSaid: VmDef VmComp VmRel. -/
import Derived.Orders
import Derived.Laws.Sem
import Derived.Laws.Cells
import Derived.Laws.Tables
import Derived.Laws.CopyRow
import Derived.Laws.IdiomRangeMap
import Derived.Laws.NewBlocks
import Derived.RowKit3
section
/- The machine of our own: abstract values and an evaluator over compiled functions; what it says of the model is proved in the texts behind it. -/
set_option linter.unusedVariables false
namespace Go.Vm

/-- What is known of a slice besides its elements: nothing; its capacity is its length; it is nil; it is not nil. -/
inductive Tg where
  | any | full | nil | made
  deriving Inhabited
def Tg.isFull : Tg → Bool
  | .full | .nil => true
  | _ => false
/-- Data that nothing changes any more. 'sl tag sz xs': a slice, each element a list of sz cells. -/
inductive D where
  | int (k : IntKind) (n : Int)
  | bool (b : Bool)
  | str (s : ByteArray)
  | sl (tag : Tg) (sz : Nat) (xs : List (List D))
  | nilp
  | nilf
  | nilm
  deriving Inhabited

/-- Values. Numbers of chunks are abstract. -/
inductive A where
  | d (x : D)
  | ptr (id off : Nat)
  | row (id : Nat)
  | sub (id lo hi : Nat) (own : Bool)
  | bs (id off len sz : Nat)
  | ep (id i off : Nat)
  | dp (cs : List D)
  | agg (cs : List A)
  | tup (vs : List A)
  | fn (f : FuncId) (cap : List A)
  | map (id : Nat)
  | un
  deriving Inhabited

inductive Chunk where
  | dead
  | box (cs : List A)
  | row (sz : Nat) (full : Bool) (xs : List (List D))
  | imm (sz : Nat) (full : Bool) (xs : List (List D))
  | map (agg : Bool) (kvs : List (List D × D))
  deriving Inhabited

abbrev Heap := Nat → Chunk
abbrev Writes := List (Nat × Chunk)

def Tg.dim (kf : Bool) : Tg → Tg
  | .full | .nil => if kf then .full else .any
  | _ => .any
def upd {α : Type} (f : Nat → α) (k : Nat) (v : α) : Nat → α := fun j => if j = k then v else f j

/-! ### Operations, resolved -/
/-- The kind of what is compared or measured. -/
inductive BK where
  | int | str | bool | ptr | sl | map

inductive COp (α : Type) where
  | mv (x : α)
  | pick (c a b : α)
  | alloc (z : List A) (rz : List (Nat × Nat))
  | box (sz : Nat) (x : α) (rz : List (Nat × Nat))
  | build (z : List A) (parts : List (Nat × Nat × α))
  | bslice (sz len : Nat) (z : List D) (full : Bool) (parts : List (Nat × α))
  | load (agg : Bool) (sz : Nat) (x : α)
  | store (sz : Nat) (x v : α)
  | nilck (x : α)
  | bin (k : BK) (op : BinOp) (x y : α)
  | eqs (ks : List BK) (neg : Bool) (x y : α)
  | un (op : UnOp) (x : α)
  | conv (k : IntKind) (x : α)
  | same (x : α)
  | strish (x : α)
  | b2s (x : α)
  | s2a (n : Nat) (x : α)
  | mkfn (f : FuncId) (caps : List α)
  | mkmap (agg : Bool)
  | mkslice (z : List D) (sz bytes : Nat) (full : Bool) (n c : α)
  | slStr (x : α) (lo hi : Option α)
  | slSl (sz : Nat) (x : α) (lo hi mx : Option α)
  | slArr (n sz : Nat) (x : α) (lo hi : Option α)
  | fa (off : Nat) (x : α)
  | fld (agg : Bool) (off sz : Nat) (x : α)
  | ia (sz : Nat) (x i : α)
  | iaArr (n sz : Nat) (x i : α)
  | idxStr (x i : α)
  | idxArr (agg : Bool) (n sz : Nat) (x i : α)
  | look (ks : List BK) (agg ok : Bool) (z : D) (m k : α)
  | mput (ks : List BK) (agg : Bool) (m k v : α)
  | ext (i : Nat) (x : α)
  | len (k : BK) (x : α)
  | app (sz bytes : Nat) (x y : α)
  | copy (sz : Nat) (x y : α)
  | clear (z : List D) (sz : Nat) (x : α)
  | min (x : α) (ys : List α)
  | max (x : α) (ys : List α)
  | call (f : α) (args : List α)

inductive COpd where
  | t (n : Nat)
  | c (a : A)

def COp.mapO {α β : Type} (f : α → β) : COp α → COp β
  | .mv x => .mv (f x)
  | .pick c a b => .pick (f c) (f a) (f b)
  | .alloc z rz => .alloc z rz
  | .box sz x rz => .box sz (f x) rz
  | .build z ps => .build z (ps.map fun p => (p.1, p.2.1, f p.2.2))
  | .bslice sz ln z full ps => .bslice sz ln z full (ps.map fun p => (p.1, f p.2))
  | .load a s x => .load a s (f x)
  | .store s x v => .store s (f x) (f v)
  | .nilck x => .nilck (f x)
  | .bin k op x y => .bin k op (f x) (f y)
  | .eqs ks n x y => .eqs ks n (f x) (f y)
  | .un op x => .un op (f x)
  | .conv k x => .conv k (f x)
  | .same x => .same (f x)
  | .strish x => .strish (f x)
  | .b2s x => .b2s (f x)
  | .s2a n x => .s2a n (f x)
  | .mkfn g cs => .mkfn g (cs.map f)
  | .mkmap a => .mkmap a
  | .mkslice z s b full n c => .mkslice z s b full (f n) (f c)
  | .slStr x lo hi => .slStr (f x) (lo.map f) (hi.map f)
  | .slSl s x lo hi mx => .slSl s (f x) (lo.map f) (hi.map f) (mx.map f)
  | .slArr n s x lo hi => .slArr n s (f x) (lo.map f) (hi.map f)
  | .fa o x => .fa o (f x)
  | .fld a o s x => .fld a o s (f x)
  | .ia s x i => .ia s (f x) (f i)
  | .iaArr n s x i => .iaArr n s (f x) (f i)
  | .idxStr x i => .idxStr (f x) (f i)
  | .idxArr a n s x i => .idxArr a n s (f x) (f i)
  | .look ks a ok z m k => .look ks a ok z (f m) (f k)
  | .mput ks a m k v => .mput ks a (f m) (f k) (f v)
  | .ext i x => .ext i (f x)
  | .len k x => .len k (f x)
  | .app s b x y => .app s b (f x) (f y)
  | .copy s x y => .copy s (f x) (f y)
  | .clear z s x => .clear z s (f x)
  | .min x ys => .min (f x) (ys.map f)
  | .max x ys => .max (f x) (ys.map f)
  | .call g as => .call (f g) (as.map f)

/-- The operands, in order. -/
def COp.ins {α : Type} : COp α → List α
  | .mv x | .box _ x _ | .load _ _ x | .nilck x | .un _ x | .conv _ x | .same x | .strish x | .b2s x | .s2a _ x | .fa _ x | .fld _ _ _ x | .ext _ x | .len _ x | .clear _ _ x => [x]
  | .pick c a b => [c, a, b]
  | .alloc .. | .mkmap _ => []
  | .build _ ps => ps.map fun p => p.2.2
  | .bslice _ _ _ _ ps => ps.map fun p => p.2
  | .store _ x v | .bin _ _ x v | .eqs _ _ x v | .ia _ x v | .iaArr _ _ x v | .idxStr x v | .idxArr _ _ _ x v | .look _ _ _ _ x v | .app _ _ x v | .copy _ x v => [x, v]
  | .mkfn _ cs => cs
  | .mkslice _ _ _ _ n c => [n, c]
  | .slStr x lo hi | .slArr _ _ x lo hi => x :: lo.toList ++ hi.toList
  | .slSl _ x lo hi mx => x :: lo.toList ++ hi.toList ++ mx.toList
  | .mput _ _ m k v => [m, k, v]
  | .min x ys | .max x ys => x :: ys
  | .call g as => g :: as

/-! ### Helpers -/
def cellsOf : A → Option (List A)
  | .agg cs => some cs
  | .un | .tup _ => none
  | x => some [x]
def unD : A → Option D
  | .d x => some x
  | _ => none
def allD : List A → Option (List D)
  | [] => some []
  | x :: xs => match unD x, allD xs with
    | some y, some ys => some (y :: ys)
    | _, _ => none
def chunks {α : Type} (sz : Nat) : Nat → List α → List (List α)
  | 0, _ => []
  | n + 1, l => l.take sz :: chunks sz n (l.drop sz)
def splice {α : Type} (cs : List α) (off : Nat) (vs : List α) : List α := cs.take off ++ (vs ++ cs.drop (off + vs.length))
def takeAgg (agg : Bool) (sz : Nat) (cs : List A) : Option A :=
  if agg then (if sz ≤ cs.length then some (.agg (cs.take sz)) else none)
  else match cs with
    | x :: _ => some x
    | [] => none
def byteCells (s : ByteArray) : List (List D) := s.data.toList.map fun b => [.int .u8 b.toNat]
def bytesOf : List (List D) → Option (List UInt8)
  | [] => some []
  | [.int .u8 n] :: xs => match bytesOf xs with
    | some bs => some (UInt8.ofNat n.toNat :: bs)
    | none => none
  | _ => none

/-- What a slice's elements are now. -/
def view (hp : Heap) : A → Option (Nat × List (List D))
  | .d (.sl _ sz xs) => some (sz, xs)
  | .d (.str s) => some (1, byteCells s)
  | .row id => match hp id with
    | .row sz _ xs => some (sz, xs)
    | .imm sz _ xs => some (sz, xs)
    | _ => none
  | .sub id lo hi _ => match hp id with
    | .row sz _ xs => if hi ≤ xs.length then some (sz, (xs.drop lo).take (hi - lo)) else none
    | .imm sz _ xs => if hi ≤ xs.length then some (sz, (xs.drop lo).take (hi - lo)) else none
    | _ => none
  | .bs id off len sz => match hp id with
    | .box cs => match allD cs with
      | some ds => if off + len * sz ≤ ds.length then some (sz, chunks sz len (ds.drop off)) else none
      | none => none
    | _ => none
  | _ => none
def notStr : A → Bool
  | .d (.str _) => false
  | _ => true
/-- The elements' cells are so many (of no elements: whatever is said). -/
def okSz (sz sz' : Nat) (xs : List (List D)) : Bool := sz' == sz || xs.isEmpty

def applyW (hp : Heap) : Writes → Heap
  | [] => hp
  | (i, c) :: ws => applyW (upd hp i c) ws
/-- A cell's data; a row becomes one that nothing changes any more. -/
def toD1 (kf : Bool) (hp : Heap) : A → Option (D × Writes)
  | .d (.sl f sz xs) => some (.sl (f.dim kf) sz xs, [])
  | .d x => some (x, [])
  | .row id => match hp id with
    | .row sz f xs => some (.sl (if kf && f then .full else .any) sz xs, [(id, .imm sz f xs)])
    | .imm sz f xs => some (.sl (if kf && f then .full else .any) sz xs, [])
    | _ => none
  | .sub id lo hi _ => match hp id with
    | .row sz f xs => if hi ≤ xs.length then some (.sl .any sz ((xs.drop lo).take (hi - lo)), [(id, .imm sz f xs)]) else none
    | .imm sz _ xs => if hi ≤ xs.length then some (.sl .any sz ((xs.drop lo).take (hi - lo)), []) else none
    | _ => none
  | .bs id off len sz => match hp id with
    | .box cs => match allD cs with
      | some ds => if off + len * sz ≤ ds.length then some (.sl .any sz (chunks sz len (ds.drop off)), [(id, .dead)]) else none
      | none => none
    | _ => none
  | _ => none
def toDs (kf : Bool) (hp : Heap) : List A → Option (List D × Writes)
  | [] => some ([], [])
  | x :: xs => match toD1 kf hp x with
    | some (y, w) => match toDs kf (applyW hp w) xs with
      | some (ys, ws) => some (y :: ys, w ++ ws)
      | none => none
    | none => none

/-- Structs, cell by cell; of each field its kind. -/
def cellsEq : List BK → List D → List D → Option Bool
  | [], [], [] => some true
  | .int :: r, .int j a :: xs, .int k b :: ys => if j = k then (if a == b then cellsEq r xs ys else some false) else none
  | .str :: r, .str a :: xs, .str b :: ys => if a.toList == b.toList then cellsEq r xs ys else some false
  | .bool :: r, .bool a :: xs, .bool b :: ys => if a == b then cellsEq r xs ys else some false
  | _, _, _ => none
def kfind (ks : List BK) (key : List D) : List (List D × D) → Option (Option D)
  | [] => some none
  | (k, v) :: r => match cellsEq ks key k with
    | some true => some (some v)
    | some false => kfind ks key r
    | none => none
def kput (ks : List BK) (key : List D) (v : D) : List (List D × D) → Option (List (List D × D))
  | [] => some [(key, v)]
  | (k, u) :: r => match cellsEq ks key k with
    | some true => some ((key, v) :: r)
    | some false => match kput ks key v r with
      | some r' => some ((k, u) :: r')
      | none => none
    | none => none

/-- A key's cells. -/
def keyOf : Bool → A → Option (List D)
  | true, .agg cs => allD cs
  | false, .d x => some [x]
  | _, _ => none

/-! ### Arithmetic -/
def abits (op : BinOp) (k : IntKind) (x y : Int) : Option Int :=
  match op with
  | .and => some (k.wrap ((BitVec.ofInt k.bits x &&& BitVec.ofInt k.bits y).toNat))
  | .or => some (k.wrap ((BitVec.ofInt k.bits x ||| BitVec.ofInt k.bits y).toNat))
  | .xor => some (k.wrap ((BitVec.ofInt k.bits x ^^^ BitVec.ofInt k.bits y).toNat))
  | .andNot => some (k.wrap ((BitVec.ofInt k.bits x &&& ~~~(BitVec.ofInt k.bits y)).toNat))
  | _ => none
def arith (op : BinOp) (k : IntKind) (x y : Int) : Option A :=
  match op with
  | .add => some (.d (.int k (k.wrap (x + y))))
  | .sub => some (.d (.int k (k.wrap (x - y))))
  | .mul => some (.d (.int k (k.wrap (x * y))))
  | .quo => if y = 0 then none else some (.d (.int k (k.wrap (x.tdiv y))))
  | .rem => if y = 0 then none else some (.d (.int k (x.tmod y)))
  | .eql => some (.d (.bool (x == y)))
  | .neq => some (.d (.bool (x != y)))
  | .lss => some (.d (.bool (decide (x < y))))
  | .leq => some (.d (.bool (decide (x ≤ y))))
  | .gtr => some (.d (.bool (decide (x > y))))
  | .geq => some (.d (.bool (decide (x ≥ y))))
  | .shl => if y < 0 then none else some (.d (.int k (k.wrap (x * 2 ^ (Nat.min y.toNat k.bits)))))
  | .shr => if y < 0 then none else some (.d (.int k (x.fdiv (2 ^ (Nat.min y.toNat k.bits)))))
  | .and | .or | .xor | .andNot => match abits op k x y with
    | some r => some (.d (.int k r))
    | none => none
def BinOp.isShift : BinOp → Bool
  | .shl | .shr => true
  | _ => false
def isNilP : A → Option Bool
  | .ptr .. | .ep .. | .dp _ => some false
  | .d .nilp => some true
  | _ => none
def abin : BK → BinOp → A → A → Option A
  | .int, op, .d (.int j a), .d (.int k b) => if BinOp.isShift op || decide (j = k) then arith op j a b else none
  | .str, op, .d (.str a), .d (.str b) =>
    match op with
    | .add => if a.size + b.size ≤ 9223372036854775807 then some (.d (.str (a ++ b))) else none
    | .eql => some (.d (.bool (a.toList == b.toList)))
    | .neq => some (.d (.bool (!(a.toList == b.toList))))
    | _ => none
  | .bool, op, .d (.bool a), .d (.bool b) =>
    match op with
    | .eql => some (.d (.bool (a == b)))
    | .neq => some (.d (.bool (!(a == b))))
    | _ => none
  | .ptr, op, x, .d .nilp => match isNilP x with
    | some b => (match op with
      | .eql => some (.d (.bool b))
      | .neq => some (.d (.bool (!b)))
      | _ => none)
    | none => none
  | .sl, op, .d (.sl t _ _), .d (.sl .nil _ []) => match t with
    | .nil => (match op with
      | .eql => some (.d (.bool true))
      | .neq => some (.d (.bool false))
      | _ => none)
    | .made => (match op with
      | .eql => some (.d (.bool false))
      | .neq => some (.d (.bool true))
      | _ => none)
    | _ => none
  | _, _, _, _ => none
def aun (op : UnOp) : A → Option A
  | .d (.int k n) => match op with
    | .neg => some (.d (.int k (k.wrap (0 - n))))
    | _ => none
  | .d (.bool b) => match op with
    | .not => some (.d (.bool (!b)))
    | _ => none
  | _ => none
/-- The bounds of a cut: low, high (an open end: the length). -/
def cutHi (len : Nat) : Option A → Option Nat
  | none => some len
  | some (.d (.int _ h)) => if 0 ≤ h ∧ h ≤ (len : Int) then some h.toNat else none
  | _ => none
def cutLo (h : Nat) : Option A → Option Nat
  | none => some 0
  | some (.d (.int _ l)) => if 0 ≤ l ∧ l ≤ (h : Int) then some l.toNat else none
  | _ => none
def cut (len : Nat) (lo hi : Option A) : Option (Nat × Nat) :=
  match cutHi len hi with
  | none => none
  | some h => match cutLo h lo with
    | none => none
    | some l => some (l, h)
def lenOf (hp : Heap) : A → Option Nat
  | .d (.sl _ _ xs) => some xs.length
  | .row id => match hp id with
    | .row _ _ xs => some xs.length
    | .imm _ _ xs => some xs.length
    | _ => none
  | .sub id lo hi _ => some (hi - lo)
  | .bs _ _ n _ => some n
  | _ => none
def rowLen (sz : Nat) (hp : Heap) (id : Nat) : Option Nat := match hp id with
  | .row rsz _ xs | .imm rsz _ xs => if rsz = sz then some xs.length else none
  | _ => none
def lenK (hk : BK) (hp : Heap) (x : A) : Option Nat := match hk with
  | .str => match x with
    | .d (.str s) => some s.size
    | _ => none
  | .sl => lenOf hp x
  | .map => match x with
    | .map id => match hp id with
      | .map _ kvs => some kvs.length
      | _ => none
    | _ => none
  | _ => none
def setParts : List A → List (Nat × Nat × A) → Option (List A)
  | cs, [] => some cs
  | cs, (off, sz, v) :: r => match cellsOf v with
    | some vs => if vs.length = sz ∧ off + sz ≤ cs.length then setParts (splice cs off vs) r else none
    | none => none
/-- Nil slices of a new variable that are to be rows: ids from nb on. -/
def rowify (nb : Nat) : List (Nat × Nat) → List A → Option (List A × Writes)
  | [], cs => some (cs, [])
  | (off, sz) :: r, cs => match cs[off]? with
    | some (.d (.sl .nil _ [])) => match rowify (nb + 1) r (cs.set off (.row nb)) with
      | some (cs', ws) => some (cs', (nb, .row sz true []) :: ws)
      | none => none
    | some _ => rowify (nb + 1) r cs
    | none => none
def minStep (k : IntKind) (f : Int → Int → Int) (acc : Option A) (y : A) : Option A := match acc, y with
  | some (.d (.int j a)), .d (.int k' b) => if k' = k then some (.d (.int j (f a b))) else none
  | _, _ => none
def minI (l : List A) (f : Int → Int → Int) : A → Option A
  | .d (.int k x) => l.foldl (minStep k f) (some (.d (.int k x)))
  | _ => none

abbrev CallF := FuncId → List A → Heap → Nat → Option (A × Writes)

def aop (kf : Bool) (callf : CallF) (nb : Nat) (hp : Heap) : COp A → Option (A × Writes)
  | .mv x => some (x, [])
  | .same x => match x with
    | .d (.str s) => some (.d (.str s), [])
    | _ => none
  | .strish x => match x with
    | .row id => match hp id with
      | .row sz f (c :: xs) => some (.row id, [(id, .row sz f (c :: xs))])
      | _ => none
    | _ => none
  | .pick c a b => match c with
    | .d (.bool t) => some (if t then a else b, [])
    | _ => none
  | .alloc z rz => if rz.length ≤ 7 then match rowify (nb + 1) rz z with
      | some (cs, ws) => some (.ptr nb 0, ws ++ [(nb, .box cs)])
      | none => none
    else none
  | .box sz x rz => match cellsOf x with
    | some xs => if xs.length = sz ∧ rz.length ≤ 7 then match rowify (nb + 1) rz xs with
        | some (cs, ws) => some (.ptr nb 0, ws ++ [(nb, .box cs)])
        | none => none
      else none
    | none => none
  | .build z ps => match setParts z ps with
    | some cs => some (.agg cs, [])
    | none => none
  | .bslice sz len z full ps =>
    if z.length = len * sz then
      match setParts (z.map A.d) (ps.map fun p => (p.1 * sz, sz, p.2)) with
      | some cs => match toDs kf hp cs with
        | some (ds, ws) => some (.row nb, ws ++ [(nb, .row sz full (chunks sz len ds))])
        | none => none
      | none => none
    else none
  | .load agg sz x => match x with
    | .ptr id off => match hp id with
      | .box cs => match takeAgg agg sz (cs.drop off) with
        | some v => some (v, [])
        | none => none
      | _ => none
    | .ep id i off => match hp id with
      | .row _ _ xs | .imm _ _ xs => match xs[i]? with
        | some c => match takeAgg agg sz ((c.drop off).map A.d) with
          | some v => some (v, [])
          | none => none
        | none => none
      | _ => none
    | .dp cs => match takeAgg agg sz (cs.map A.d) with
      | some v => some (v, [])
      | none => none
    | _ => none
  | .store sz x v => match x with
    | .ptr id off => match hp id with
      | .box cs => match cellsOf v with
        | some vs => if vs.length = sz ∧ off + sz ≤ cs.length then some (.un, [(id, .box (splice cs off vs))]) else none
        | none => none
      | _ => none
    | .ep id i off => match cellsOf v with
      | some vs => match toDs kf hp vs with
        | some (ds, ws) => match applyW hp ws id with
          | .row rsz f xs => match xs[i]? with
            | some c => if ds.length = sz ∧ off + sz ≤ c.length then some (.un, ws ++ [(id, .row rsz f (xs.set i (splice c off ds)))]) else none
            | none => none
          | _ => none
        | none => none
      | none => none
    | _ => none
  | .nilck x => match x with
    | .ptr .. | .ep .. | .dp .. | .fn .. => some (x, [])
    | _ => none
  | .bin k op x y => match abin k op x y with
    | some v => some (v, [])
    | none => none
  | .eqs ks neg x y => match x, y with
    | .agg xs, .agg ys => match allD xs, allD ys with
      | some ds, some es => match cellsEq ks ds es with
        | some b => some (.d (.bool (if neg then !b else b)), [])
        | none => none
      | _, _ => none
    | _, _ => none
  | .un op x => match aun op x with
    | some v => some (v, [])
    | none => none
  | .conv k x => match x with
    | .d (.int _ n) => some (.d (.int k (k.wrap n)), [])
    | _ => none
  | .b2s x => match x with
    | .d (.sl ..) | .row _ | .sub .. => match view hp x with
      | some (_, xs) => match bytesOf xs with
        | some bs => some (.d (.str ⟨bs.toArray⟩), [])
        | none => none
      | none => none
    | _ => none
  | .s2a n x => match x with
    | .d (.sl _ sz xs) => if n ≤ xs.length ∧ 0 < sz ∧ 0 < n then some (.dp (xs.take n).flatten, []) else none
    | _ => none
  | .mkfn f cs => some (.fn f cs, [])
  | .mkmap agg => some (.map nb, [(nb, .map agg [])])
  | .mkslice z sz bytes full n c => match n, c with
    | .d (.int _ a), .d (.int _ b) => if a = b ∧ 0 ≤ a ∧ a * bytes ≤ 281474976710656 ∧ a ≤ 9223372036854775807 ∧ z.length = sz ∧ 0 < bytes then
        some (.row nb, [(nb, .row sz full (List.replicate a.toNat z))]) else none
    | _, _ => none
  | .slStr x lo hi => match x with
    | .d (.str s) => match cut s.size lo hi with
      | some (l, h) => some (.d (.str (s.extract l h)), [])
      | none => none
    | _ => none
  | .slSl sz x lo hi mx => match x with
    | .d (.sl f sz' xs) => if okSz sz sz' xs then match mx with
      | none => match cut xs.length lo hi with
        | some (l, h) => some (.d (.sl (if f.isFull && hi.isNone then .full else .any) sz ((xs.drop l).take (h - l))), [])
        | none => none
      | some (.d (.int _ m)) => if 0 ≤ m ∧ m ≤ (xs.length : Int) then match cut m.toNat lo hi with
          | some (l, h) => some (.d (.sl (if h = m.toNat then .full else .any) sz ((xs.drop l).take (h - l))), [])
          | none => none
        else none
      | _ => none
      else none
    | .row id => match rowLen sz hp id with
      | some n => match mx with
        | none => match cut n lo hi with
          | some (l, h) => some (.sub id l h true, [])
          | none => none
        | some (.d (.int _ m)) => if 0 ≤ m ∧ m ≤ (n : Int) then match cut m.toNat lo hi with
            | some (l, h) => some (.sub id l h false, [])
            | none => none
          else none
        | _ => none
      | none => none
    | .sub id o e own => match rowLen sz hp id with
      | some n => if o ≤ e ∧ e ≤ n then match mx with
        | none => match cut (if own && hi.isSome then n - o else e - o) lo hi with
          | some (l, h) => some (.sub id (o + l) (o + h) own, [])
          | none => none
        | some (.d (.int _ m)) => if 0 ≤ m ∧ m ≤ ((e - o : Nat) : Int) then match cut m.toNat lo hi with
            | some (l, h) => some (.sub id (o + l) (o + h) false, [])
            | none => none
          else none
        | _ => none
        else none
      | none => none
    | _ => none
  | .slArr n sz x lo hi => match x with
    | .dp cs => match cut n lo hi with
      | some (l, h) => if n * sz ≤ cs.length then some (.d (.sl .any sz (((chunks sz n cs).drop l).take (h - l))), []) else none
      | none => none
    | .ptr id off => match cut n lo hi with
      | some (l, h) => match hp id with
        | .box cs => if off + n * sz ≤ cs.length then some (.bs id (off + l * sz) (h - l) sz, []) else none
        | _ => none
      | none => none
    | _ => none
  | .fa off x => match x with
    | .ptr id o => some (.ptr id (o + off), [])
    | .ep id i o => some (.ep id i (o + off), [])
    | .dp cs => some (.dp (cs.drop off), [])
    | _ => none
  | .fld agg off sz x => match x with
    | .agg cs => match takeAgg agg sz (cs.drop off) with
      | some v => some (v, [])
      | none => none
    | _ => none
  | .ia sz x i => match i with
    | .d (.int _ j) => match x with
      | .d (.sl _ sz' xs) => if sz' = sz ∧ 0 < sz ∧ 0 ≤ j ∧ j < (xs.length : Int) then match xs[j.toNat]? with
          | some c => some (.dp c, [])
          | none => none
        else none
      | .row id => match hp id with
        | .row rsz _ xs | .imm rsz _ xs => if rsz = sz ∧ 0 < sz ∧ 0 ≤ j ∧ j < (xs.length : Int) then some (.ep id j.toNat 0, []) else none
        | _ => none
      | .sub id lo hi _ => match hp id with
        | .row rsz _ xs | .imm rsz _ xs => if rsz = sz ∧ 0 < sz ∧ 0 ≤ j ∧ j < ((hi - lo : Nat) : Int) ∧ hi ≤ xs.length then some (.ep id (lo + j.toNat) 0, []) else none
        | _ => none
      | .bs id off len bsz => if bsz = sz ∧ 0 ≤ j ∧ j < (len : Int) then some (.ptr id (off + j.toNat * sz), []) else none
      | _ => none
    | _ => none
  | .iaArr n sz x i => match x, i with
    | .dp cs, .d (.int _ j) => if 0 ≤ j ∧ j < (n : Int) then some (.dp (cs.drop (j.toNat * sz)), []) else none
    | .ptr id off, .d (.int _ j) => if 0 ≤ j ∧ j < (n : Int) then some (.ptr id (off + j.toNat * sz), []) else none
    | _, _ => none
  | .idxStr x i => match x, i with
    | .d (.str s), .d (.int _ j) => if 0 ≤ j then match s.data[j.toNat]? with
        | some b => some (.d (.int .u8 b.toNat), [])
        | none => none
      else none
    | _, _ => none
  | .idxArr agg n sz x i => match x, i with
    | .agg cs, .d (.int _ j) => if 0 ≤ j ∧ j < (n : Int) then match takeAgg agg sz (cs.drop (j.toNat * sz)) with
        | some v => some (v, [])
        | none => none
      else none
    | _, _ => none
  | .look ks agg ok z m k => match keyOf agg k with
    | some key => if key.length = ks.length then match (match m with
        | .map id => match hp id with
          | .map agg' kvs => if agg' = agg then kfind ks key kvs else none
          | _ => none
        | .d .nilm => some none
        | _ => none) with
      | some r => some (if ok then .tup [.d (r.getD z), .d (.bool r.isSome)] else .d (r.getD z), [])
      | none => none
      else none
    | none => none
  | .mput ks agg m k v => match m, keyOf agg k, toD1 kf hp v with
    | .map id, some key, some (x, ws) => match applyW hp ws id with
      | .map agg' kvs => if agg' = agg ∧ key.length = ks.length then match kput ks key x kvs with
        | some kvs' => some (.un, ws ++ [(id, .map agg kvs')])
        | none => none
        else none
      | _ => none
    | _, _, _ => none
  | .ext i x => match x with
    | .tup vs => match vs[i]? with
      | some v => some (v, [])
      | none => none
    | _ => none
  | .len k x => match lenK k hp x with
    | some n => some (.d (.int .i64 n), [])
    | none => none
  | .app sz bytes x y => match view hp y with
    | none => none
    | some (ysz, ys) => if okSz sz ysz ys then match x with
      | .d (.sl tg xsz xs) => if ys.isEmpty then some (x, []) else if tg.isFull = true ∧ okSz sz xsz xs = true ∧ (xs.length + ys.length) * bytes ≤ 140737488355328 ∧ xs.length + ys.length ≤ 140737488355328 then some (.row nb, [(nb, .row sz false (xs ++ ys))]) else none
      | .row id => match hp id with
        | .row rsz _ xs => if rsz = sz ∧ (xs.length + ys.length) * bytes ≤ 140737488355328 ∧ xs.length + ys.length ≤ 140737488355328 then some (.row nb, [(id, .dead), (nb, .row sz false (xs ++ ys))]) else none
        | _ => none
      | .sub id lo hi own => match hp id with
        | .row rsz f xs => if rsz = sz ∧ own = true ∧ 0 < sz ∧ lo ≤ hi ∧ hi ≤ xs.length then
            if hi + ys.length ≤ xs.length then some (.sub id lo (hi + ys.length) true, [(id, .row rsz f (xs.take hi ++ (ys ++ xs.drop (hi + ys.length))))])
            else if (hi - lo + ys.length) * bytes ≤ 140737488355328 ∧ hi - lo + ys.length ≤ 140737488355328 then some (.row nb, [(id, .dead), (nb, .row sz false ((xs.drop lo).take (hi - lo) ++ ys))]) else none
          else none
        | _ => none
      | _ => none
      else none
  | .copy sz x y => match view hp y with
    | none => none
    | some (ysz, ys) => match x with
      | .bs id off len bsz => match hp id with
        | .box cs => if bsz = sz ∧ okSz sz ysz ys = true ∧ off + len * sz ≤ cs.length then
            some (.d (.int .i64 (Nat.min ys.length len)), [(id, .box (splice cs off (((ys.take (Nat.min ys.length len)).flatten).map A.d)))]) else none
        | _ => none
      | _ => none
  | .clear z sz x => match x with
    | .sub id lo hi _ => match hp id with
      | .row rsz f xs => if rsz = sz ∧ z.length = sz ∧ 0 < sz ∧ lo ≤ hi ∧ hi ≤ xs.length then some (.tup [], [(id, .row rsz f (xs.take lo ++ (List.replicate (hi - lo) z ++ xs.drop hi)))]) else none
      | _ => none
    | _ => none
  | .min x ys => match minI ys (fun a b => if b < a then b else a) x with
    | some v => some (v, [])
    | none => none
  | .max x ys => match minI ys (fun a b => if b > a then b else a) x with
    | some v => some (v, [])
    | none => none
  | .call f args => match f with
    | .fn g cap => callf g (args ++ cap) hp nb
    | _ => none

/-! ### What of the heap an operation may look at -/
def ids1 : A → List Nat
  | .ptr i _ | .row i | .sub i _ _ _ | .bs i _ _ _ | .ep i _ _ | .map i => [i]
  | _ => []
def ids2 : A → List Nat
  | .agg cs => cs.flatMap ids1
  | x => ids1 x
def reach (hp : Heap) : Nat → List A → List Nat → List Nat
  | 0, _, acc => acc
  | _ + 1, [], acc => acc
  | n + 1, x :: xs, acc => match x with
    | .ptr i _ | .row i | .sub i _ _ _ | .bs i _ _ _ | .ep i _ _ | .map i =>
      if acc.contains i then reach hp n xs acc
      else match hp i with
        | .box cs => reach hp n (cs ++ xs) (acc ++ [i])
        | _ => reach hp n xs (acc ++ [i])
    | .agg cs | .tup cs | .fn _ cs => reach hp n (cs ++ xs) acc
    | _ => reach hp n xs acc
def foot (hp : Heap) : COp A → List Nat
  | .mv _ | .same _ | .pick .. | .alloc .. | .box .. | .build .. | .nilck _ | .bin .. | .eqs .. | .un .. | .conv .. | .s2a .. | .mkfn .. | .mkmap _ | .mkslice .. | .slStr .. | .fa .. | .fld .. | .iaArr ..
  | .idxStr .. | .idxArr .. | .ext .. | .min .. | .max .. => []
  | .bslice _ _ _ _ ps => ps.flatMap fun p => ids2 p.2
  | .load _ _ x | .b2s x | .strish x | .len _ x | .clear _ _ x | .slSl _ x _ _ _ | .slArr _ _ x _ _ | .ia _ x _ | .look _ _ _ _ x _ => ids1 x
  | .store _ x v => match x with
    | .ptr id _ => [id]
    | _ => ids1 x ++ ids2 v
  | .app _ _ x y | .copy _ x y => ids1 x ++ ids1 y
  | .mput _ _ m _ v => ids1 m ++ ids1 v
  | .call f args => reach hp 1000 (f :: args) []
def restrict (hp : Heap) (ids : List Nat) : Heap := fun i => if ids.contains i then hp i else .dead

/-! ### Code -/
structure CO where
  dst : Option Nat
  op : COp COpd
  guard : Option (Nat × Bool)
  bits : Nat            -- what comes before it in every order
inductive CCode where
  | skip
  | reg (ops : List CO) (draw : Bool) (keep : Option (List Nat))
  | seq (a b : CCode)
  | cond (c : COpd) (a b : CCode)
  | block (id : Nat) (c : CCode)
  | loop (keep : List (Nat × Option Nat)) (c : CCode)
  | exit (id : Nat)
  | ret
inductive CRes where
  | tmp (t : Nat)
  | cell (t : Nat) (agg : Bool) (sz : Nat)
structure CF where
  body : CCode
  res : List CRes
  rowArgs : List (Nat × Nat)      -- arguments that are to be rows (nil ones are made so): place, cells of an element
  keep : Bool                     -- rows stay rows in the result
  rowRes : List (Nat × Nat)       -- with keep: cells of the result that are to be rows
  clone : Option Nat              -- a copy of a slice in new memory: cells of an element
  dl : Option (List Nat)          -- what is said to be written: all that is written, and perhaps more

structure St where
  sl : Nat → A
  hp : Heap
  nx : Nat
  m : Nat                -- so many chunks came in: numbers 0 to m - 1
  dirty : List Nat       -- those of them that were written
inductive Ex where
  | normal
  | exit (id : Nat)
  | ret

def val (sl : Nat → A) : COpd → A
  | .t n => sl n
  | .c a => a
def setDst (sl : Nat → A) (d : Option Nat) (v : A) : Nat → A := match d with
  | some k => upd sl k v
  | none => sl
def wantedA (sl : Nat → A) : Option (Nat × Bool) → Option Bool
  | none => some true
  | some (j, want) => match sl j with
    | .d (.bool t) => some (t == want)
    | .tup [] => some false
    | _ => none
/-- One operation; its new chunks' numbers from nb on, at most eight. -/
def astep (kf : Bool) (callf : CallF) (o : CO) (nb : Nat) (s : St) : Option (St × List Nat × List Nat) :=
  match wantedA s.sl o.guard with
  | none => none
  | some false => some ({ s with sl := setDst s.sl o.dst (.tup []) }, [], [])
  | some true =>
    let co := o.op.mapO (val s.sl)
    let fp := foot s.hp co
    match aop kf callf nb (restrict s.hp fp) co with
    | some (v, ws) =>
      if (ws.all fun p => fp.contains p.1 || (nb ≤ p.1 && p.1 < nb + 8)) then
        some ({ s with sl := setDst s.sl o.dst v, hp := applyW s.hp ws, dirty := s.dirty ++ (ws.map (·.1)).filter (fun i => i < s.m && !s.dirty.contains i) }, fp, ws.map (·.1))
      else none
    | none => none
def usesOf (o : CO) : List Nat := (o.op.ins.filterMap fun | .t n => some n | .c _ => none) ++ (match o.guard with | some (j, _) => [j] | none => [])
/-- A region in the text's order; with what each operation touched. -/
def aops (kf : Bool) (callf : CallF) (nb : Nat) : List CO → Nat → St → Option (St × List (CO × List Nat × List Nat))
  | [], _, s => some (s, [])
  | o :: r, i, s => match astep kf callf o (nb + 8 * i) s with
    | some (s', f, w) => match aops kf callf nb r (i + 1) s' with
      | some (s'', l) => some (s'', (o, f, w) :: l)
      | none => none
    | none => none
def apartL (a b : List Nat) : Bool := a.all fun x => !b.contains x
def indep (p q : CO × List Nat × List Nat) : Bool :=
  apartL p.2.2 q.2.1 && apartL q.2.2 p.2.1 && apartL p.2.2 q.2.2 &&
  apartL p.1.dst.toList (usesOf q.1) && apartL q.1.dst.toList (usesOf p.1) && apartL p.1.dst.toList q.1.dst.toList
def pairsOk : List (CO × List Nat × List Nat) → Nat → Bool
  | [], _ => true
  | p :: r, i => (r.all fun q => q.1.bits.testBit i || indep p q) && pairsOk r (i + 1)
def mask (keep : List Nat) (sl : Nat → A) : Nat → A := keep.foldr (fun k g => upd g k (sl k)) (fun _ => .un)

/-! ### Numbers anew -/
def idxIn (i : Nat) : List Nat → Nat → Option Nat
  | [], _ => none
  | j :: r, n => if j = i then some n else idxIn i r (n + 1)
mutual
def ren (σ : Nat → Option Nat) : A → A
  | .ptr i o => match σ i with | some j => .ptr j o | none => .un
  | .row i => match σ i with | some j => .row j | none => .un
  | .sub i lo hi w => match σ i with | some j => .sub j lo hi w | none => .un
  | .bs i o n z => match σ i with | some j => .bs j o n z | none => .un
  | .ep i k o => match σ i with | some j => .ep j k o | none => .un
  | .map i => match σ i with | some j => .map j | none => .un
  | .agg cs => .agg (renL σ cs)
  | .tup cs => .tup (renL σ cs)
  | .fn f cs => .fn f (renL σ cs)
  | .d x => .d x
  | .dp cs => .dp cs
  | .un => .un
def renL (σ : Nat → Option Nat) : List A → List A
  | [] => []
  | x :: xs => ren σ x :: renL σ xs
end
def fwd (ids : List Nat) : Nat → Option Nat := fun i => idxIn i ids 0
def bwd (all : List Nat) : Nat → Option Nat := fun i => all[i]?
def renC (σ : Nat → Option Nat) : Chunk → Chunk
  | .box cs => .box (renL σ cs)
  | c => c
def packL (hp : Heap) (ids : List Nat) : List Chunk := ids.map fun i => renC (fwd ids) (hp i)
def hpOf : List Chunk → Heap
  | l => fun i => l[i]?.getD .dead
def boxC : Chunk → List A
  | .box cs => cs
  | _ => []
/-- Only these slots are kept; what they lead to is numbered anew. Slots that are to be rows: nil ones become rows. -/
def rowSlots : List (Nat × Option Nat) → (Nat → A) → Nat → (Nat → A) × Writes
  | [], sl, _ => (sl, [])
  | (k, some sz) :: r, sl, nb => match sl k with
    | .d (.sl .nil _ []) => let p := rowSlots r (upd sl k (.row nb)) (nb + 1); (p.1, (nb, .row sz true []) :: p.2)
    | _ => rowSlots r sl nb
  | (_, none) :: r, sl, nb => rowSlots r sl nb
def gc (keep : List (Nat × Option Nat)) (s : St) : St :=
  let p := rowSlots keep s.sl s.nx
  let hp := applyW s.hp p.2
  let ks := keep.map (·.1)
  let ids := reach hp 1000 (((List.range s.m).flatMap fun i => boxC (hp i)) ++ ks.map p.1) (List.range s.m)
  { m := s.m, dirty := s.dirty, sl := ks.foldr (fun k g => upd g k (ren (fwd ids) (p.1 k))) (fun _ => .un), hp := hpOf (packL hp ids), nx := ids.length }

/-! ### Running -/
def aiter : Nat → (St → Option (Ex × St)) → (St → St) → St → Option (Ex × St)
  | 0, _, _, _ => none
  | n + 1, f, g, s => match f (g s) with
    | some (.normal, s') => aiter n f g s'
    | r => r
def aexec (kf : Bool) (callf : CallF) (n : Nat) : CCode → St → Option (Ex × St)
  | .skip, s => some (.normal, s)
  | .reg ops draw keep, s => match aops kf callf s.nx ops 0 s with
    | some (s', l) => if draw && !pairsOk l 0 then none else
        some (.normal, { sl := (match keep with | some ks => mask ks s'.sl | none => s'.sl), hp := s'.hp, nx := s.nx + 8 * ops.length, m := s'.m, dirty := s'.dirty })
    | none => none
  | .seq a b, s => match aexec kf callf n a s with
    | some (.normal, s') => aexec kf callf n b s'
    | r => r
  | .cond c a b, s => match val s.sl c with
    | .d (.bool t) => if t then aexec kf callf n a s else aexec kf callf n b s
    | _ => none
  | .block id c, s => match aexec kf callf n c s with
    | some (.exit j, s') => if j = id then some (.normal, s') else some (.exit j, s')
    | r => r
  | .loop keep c, s => aiter n (aexec kf callf n c) (gc keep) s
  | .exit id, s => some (.exit id, s)
  | .ret, s => some (.ret, s)

/-- Nil arguments that are to be rows. -/
def argsIn (rows : List (Nat × Nat)) : List A → Nat → Nat → List A × List Chunk
  | [], _, _ => ([], [])
  | x :: xs, i, nb =>
    match rows.lookup i, x with
    | some sz, .d (.sl .nil _ []) => let p := argsIn rows xs (i + 1) (nb + 1); (.row nb :: p.1, .row sz true [] :: p.2)
    | _, y => let p := argsIn rows xs (i + 1) nb; (y :: p.1, p.2)
def resOf (s : St) : CRes → Option A
  | .tmp t => some (s.sl t)
  | .cell t agg sz => match s.sl t with
    | .ptr id off => match s.hp id with
      | .box cs => takeAgg agg sz (cs.drop off)
      | _ => none
    | _ => none
def resAll (s : St) : List CRes → Option (List A)
  | [] => some []
  | r :: rs => match resOf s r, resAll s rs with
    | some v, some vs => some (v :: vs)
    | _, _ => none
/-- Rows in a result (or among arguments) become data; one after the other. -/
def freeze1 (kf : Bool) (hp : Heap) (x : A) : A × Writes := match x with
  | .row _ | .sub .. | .bs .. | .d _ => match toD1 kf hp x with
    | some (d, ws) => (.d d, ws)
    | none => (x, [])
  | y => (y, [])
def freezeL (kf : Bool) : List A → Heap → List A × Writes
  | [], _ => ([], [])
  | x :: xs, hp => let p := freeze1 kf hp x; let q := freezeL kf xs (applyW hp p.2); (p.1 :: q.1, p.2 ++ q.2)
def freezeA (kf : Bool) (hp : Heap) : A → A × Writes
  | .agg cs => let p := freezeL kf cs hp; (.agg p.1, p.2)
  | x => freeze1 kf hp x
def freezeR (kf : Bool) (rows : List (Nat × Nat)) : List A → Nat → Heap → List A × Writes
  | [], _, _ => ([], [])
  | x :: xs, i, hp =>
    let p := if (rows.lookup i).isSome then (x, []) else freezeA kf hp x
    let q := freezeR kf rows xs (i + 1) (applyW hp p.2)
    (p.1 :: q.1, p.2 ++ q.2)
/-- Nil slices in a result, by their cells' places, become rows. -/
def rowResL (rows : List (Nat × Nat)) : List A → Nat → Nat → List A × List Chunk × Nat
  | [], i, _ => ([], [], i)
  | x :: xs, i, nb => match rows.lookup i, x with
    | some sz, .d (.sl .nil _ []) => let p := rowResL rows xs (i + 1) (nb + 1); (.row nb :: p.1, .row sz true [] :: p.2.1, p.2.2)
    | _, y => let p := rowResL rows xs (i + 1) nb; (y :: p.1, p.2.1, p.2.2)
def rowResR (rows : List (Nat × Nat)) : List A → Nat → Nat → List A × List Chunk
  | [], _, _ => ([], [])
  | x :: xs, i, nb => match x with
    | .agg cs => let p := rowResL rows cs i nb; let q := rowResR rows xs p.2.2 (nb + p.2.1.length); (.agg p.1 :: q.1, p.2.1 ++ q.2)
    | x => match rows.lookup i, x with
      | some sz, .d (.sl .nil _ []) => let q := rowResR rows xs (i + 1) (nb + 1); (.row nb :: q.1, .row sz true [] :: q.2)
      | _, y => let q := rowResR rows xs (i + 1) nb; (y :: q.1, q.2)
def applyC (hp : Heap) : Nat → List Chunk → Heap
  | _, [] => hp
  | nb, c :: r => applyC (upd hp nb c) (nb + 1) r
def one : List A → A
  | [x] => x
  | xs => .tup xs
/-- The end of a call: m chunks came in. -/
def leave (kf : Bool) (cf : CF) (m : Nat) (s : St) : Option (A × List Chunk × List Nat) :=
  match resAll s cf.res with
  | none => none
  | some vs =>
    let p := if cf.keep then (let q := rowResR cf.rowRes vs 0 s.nx; (q.1, applyC s.hp s.nx q.2, [])) else (let q := freezeR kf [] vs 0 s.hp; (q.1, applyW s.hp q.2, (q.2.map (·.1)).filter (fun i => i < m && !s.dirty.contains i)))
    let ids := reach p.2.1 1000 p.1 (reach p.2.1 1000 ((List.range m).flatMap fun i => boxC (p.2.1 i)) (List.range m))
    match cf.dl with
    | none => some (one (renL (fwd ids) p.1), packL p.2.1 ids, s.dirty ++ p.2.2)
    | some l => if (s.dirty ++ p.2.2).all fun i => l.contains i then some (one (renL (fwd ids) p.1), packL p.2.1 ids, l) else none

mutual
/-- All references are to these. -/
def allIn (ids : List Nat) : A → Bool
  | .ptr i _ | .row i | .sub i _ _ _ | .bs i _ _ _ | .ep i _ _ | .map i => ids.contains i
  | .agg cs | .tup cs | .fn _ cs => allInL ids cs
  | .d _ | .dp _ | .un => true
def allInL (ids : List Nat) : List A → Bool
  | [] => true
  | x :: xs => allIn ids x && allInL ids xs
end
def insC (ids : List Nat) : Chunk → Bool
  | .box cs => allInL ids cs
  | _ => true
abbrev RunF := FuncId → List A → List Chunk → Option (A × List Chunk × List Nat)
/-- The chunks that a call gives back, by the caller's numbers. -/
def backW (all : List Nat) (k0 : Nat) (dirty : List Nat) : List Chunk → Nat → Writes
  | [], _ => []
  | c :: r, k => if decide (k < k0) && !dirty.contains k then backW all k0 dirty r (k + 1) else (all.getD k 0, renC (bwd all) c) :: backW all k0 dirty r (k + 1)
section
variable (kf : Bool) (prog : FuncId → Option CF)
def callOf (run : RunF) : CallF := fun g as hp nb => match prog g with
  | none => none
  | some cg => match cg.clone with
    | some sz => (match as with
      | [x] => (match view hp x with
        | some (ysz, ys) => if okSz sz ysz ys && decide (ys.length ≤ 1099511627776) && notStr x then some (.row nb, [(nb, .row sz false ys)]) else none
        | none => none)
      | _ => none)
    | none =>
      let q := freezeR kf cg.rowArgs as 0 hp
      let hp1 := applyW hp q.2
      let ids := reach hp1 1000 q.1 []
      if (ids.all fun i => decide (i < nb) && insC ids (hp1 i)) then
        match run g (renL (fwd ids) q.1) (packL hp1 ids) with
        | none => none
        | some (r, H', dirty) =>
          let all := ids ++ (List.range (H'.length - ids.length)).map (nb + ·)
          if ids.length ≤ H'.length && H'.length ≤ ids.length + 8 then
            some (ren (bwd all) r, q.2 ++ backW all ids.length dirty H' 0)
          else none
      else none
/-- A call of function f; H: the chunks that the arguments lead to. -/
def arun : Nat → RunF
  | 0, _, _, _ => none
  | n + 1, f, args, H => match prog f with
    | none => none
    | some cf =>
      let p := argsIn cf.rowArgs args 0 H.length
      match aexec kf (callOf kf prog (arun n)) n cf.body { sl := fun i => p.1[i]?.getD .un, hp := hpOf (H ++ p.2), nx := (H ++ p.2).length, m := H.length, dirty := [] } with
      | some (.ret, s) | some (.normal, s) => leave kf cf H.length s
      | _ => none
end
end Go.Vm
end
section
/- From the model's functions to compiled ones. -/
set_option linter.unusedVariables false
namespace Go.Vm

def ofVal : Value → Option A
  | .int k n => some (.d (.int k n))
  | .bool b => some (.d (.bool b))
  | .string s => some (.d (.str s))
  | .slice none 0 0 => some (.d (.sl .nil 0 []))
  | .pointer none => some (.d .nilp)
  | .nilFunc => some (.d .nilf)
  | .map none => some (.d .nilm)
  | .tuple _ => some .un
  | _ => none
/-- What one cell holds. -/
def ofCell (v : Value) : Option A := if v.oneCell' then ofVal v else none
def mapOpt {α β : Type} (f : α → Option β) : List α → Option (List β)
  | [] => some []
  | x :: xs => match f x, mapOpt f xs with
    | some y, some ys => some (y :: ys)
    | _, _ => none
def compOpd : Operand → Option COpd
  | .tmp t => some (.t t)
  | .const v => (ofVal v).map .c
  | .func f => some (.c (.fn f []))
  | .global _ => none
def isAggD : TypeDesc → Bool
  | .struct _ | .array _ _ => true
  | _ => false

section
variable (P : Program)
def szT (t : TypeId) : Option Nat := (P.info? t).map (·.size)
def zeroT (t : TypeId) : Option (List A) := match (P.info? t).bind (·.zero) with
  | some z => mapOpt ofCell z.cells.toList
  | none => none
/-- Each field's place and size. -/
def placesOf (fs : Array Field) : Option (List (Nat × Nat)) := mapOpt (fun f : Field => (szT P f.type).map fun s => (f.offset, s)) fs.toList
def zeroD (t : TypeId) : Option (List D) := (zeroT P t).bind (mapOpt unD)
def aggT (t : TypeId) : Option Bool := (P.underlying t).map isAggD
def optOpd : Option Operand → Option (Option COpd)
  | none => some none
  | some x => (compOpd x).map some
def fieldKind (f : Field) (i : Nat) : Option BK := if f.name != "_" && f.offset == i then (match P.underlying f.type with
  | some (.int _) => some .int
  | some .string => some .str
  | some .bool => some .bool
  | _ => none) else none
/-- A struct whose fields are compared cell by cell; they are all its cells, in order. -/
def eqKinds (t : TypeId) : Option (List BK) := match P.underlying t with
  | some (.struct fs) => if !P.stoodInHeld t && !P.eqGuardType P.depth t then mapOpt (fun p : Field × Nat => fieldKind P p.1 p.2) fs.toList.zipIdx else none
  | _ => none
/-- A map's key: is it an array; the kinds of its cells. -/
def keyShape (k : TypeId) : Option (Bool × List BK) := match P.underlying k with
  | some (.int _) => some (false, [.int])
  | some .string => some (false, [.str])
  | some (.array n e) => (match P.underlying e, szT P e with
    | some (.int _), some 1 => some (true, List.replicate n .int)
    | _, _ => none)
  | _ => none
def zeroOne (t : TypeId) : Option D := match (P.info? t).bind (·.zero) with
  | some z => (ofCell z).bind unD
  | none => none

def compBuiltin (b : Builtin) (ts : Array TypeId) (args : List COpd) : Option (COp COpd) :=
  match b, args with
  | .len, [x] => match (ts[0]?).bind (P.underlying ·) with
    | some .string => some (.len .str x)
    | some (.slice _) => some (.len .sl x)
    | some (.map _ _) => some (.len .map x)
    | _ => none
  | .append, [x, y] => match ts.toList with
    | [t0, t1] => match P.underlying t0, P.underlying t1 with
      | some (.slice e), some (.slice _) | some (.slice e), some .string => match P.info? e, zeroD P e with
        | some i, some z => if z.length = i.size then some (.app i.size i.bytes x y) else none
        | _, _ => none
      | _, _ => none
    | _ => none
  | .copy, [x, y] => match (ts[0]?).bind (P.underlying ·) with
    | some (.slice e) => (szT P e).map fun s => .copy s x y
    | _ => none
  | .clear, [x] => match (ts[0]?).bind (P.underlying ·) with
    | some (.slice e) => match szT P e, zeroD P e with
      | some s, some z => some (.clear z s x)
      | _, _ => none
    | _ => none
  | .min, x :: ys => some (.min x ys)
  | .max, x :: ys => some (.max x ys)
  | _, _ => none

def isU8 (e : TypeId) : Bool := match P.underlying e with
  | some (.int .u8) => true
  | _ => false
def compOp : Op → Option (COp COpd)
  | .move x | .assign x => (compOpd x).map .mv
  | .pick c a b => match compOpd c, compOpd a, compOpd b with
    | some c, some a, some b => some (.pick c a b)
    | _, _, _ => none
  | .alloc e => (zeroT P e).map fun z => .alloc z []
  | .box e x => match szT P e, compOpd x with
    | some s, some x => some (.box s x [])
    | _, _ => none
  | .build t ps => match zeroT P t, P.underlying t with
    | some z, some (.struct fs) => match placesOf P fs with
      | some pl => (mapOpt (fun p : Nat × Operand => match pl[p.1]?, compOpd p.2 with
        | some f, some x => some (f.1, f.2, x)
        | _, _ => none) ps.toList).map fun l => .build z l
      | none => none
    | some z, some (.array _ e) => match szT P e with
      | some s => (mapOpt (fun p : Nat × Operand => (compOpd p.2).map fun x => (p.1 * s, s, x)) ps.toList).map fun l => .build z l
      | none => none
    | _, _ => none
  | .buildSlice t len ps => match P.underlying t with
    | some (.slice e) => match szT P e, zeroD P e with
      | some s, some z => if len * s ≤ 16777216 then (mapOpt (fun p : Nat × Operand => (compOpd p.2).map fun x => (p.1, x)) ps.toList).map fun l => .bslice s len (List.replicate len z).flatten false l else none
      | _, _ => none
    | _ => none
  | .load t x => match aggT P t, szT P t, compOpd x with
    | some a, some s, some x => some (.load a s x)
    | _, _, _ => none
  | .store t x v => match szT P t, compOpd x, compOpd v with
    | some s, some x, some v => some (.store s x v)
    | _, _, _ => none
  | .nilCheck x => (compOpd x).map .nilck
  | .binOp op t x y _ => match compOpd x, compOpd y with
    | some x, some y => match P.underlying t with
      | some (.struct _) => match eqKinds P t, op with
        | some ks, .eql => some (.eqs ks false x y)
        | some ks, .neq => some (.eqs ks true x y)
        | _, _ => none
      | some (.int _) => some (.bin .int op x y)
      | some .string => some (.bin .str op x y)
      | some .bool => some (.bin .bool op x y)
      | some (.pointer _) => some (.bin .ptr op x y)
      | some (.slice _) => some (.bin .sl op x y)
      | _ => none
    | _, _ => none
  | .unOp op _ x => (compOpd x).map (.un op)
  | .convert s d x => match P.underlying s, P.underlying d, compOpd x with
    | some (.int _), some (.int k), some x => some (.conv k x)
    | some .string, some .string, some x => some (.same x)
    | some (.slice _), some (.slice e), some x => if s == d && isU8 P e then some (.strish x) else none
    | some (.slice e), some .string, some x => if isU8 P e then some (.b2s x) else none
    | _, _, _ => none
  | .sliceToArrayPointer a x => match P.underlying a, compOpd x with
    | some (.array n _), some x => some (.s2a n x)
    | _, _ => none
  | .makeFunc (.func f) first caps => if first.isEmpty then (mapOpt compOpd caps.toList).map (.mkfn f) else none
  | .makeMap t none => match P.underlying t with
    | some (.map kt _) => (keyShape P kt).map fun s => .mkmap s.1
    | _ => none
  | .makeSlice t n c => match P.underlying t, compOpd n, compOpd c with
    | some (.slice e), some n, some c => match P.info? e, zeroD P e with
      | some i, some z => some (.mkslice z i.size i.bytes false n c)
      | _, _ => none
    | _, _, _ => none
  | .slice t x lo hi mx => match compOpd x, optOpd lo, optOpd hi, optOpd mx with
    | some x, some lo, some hi, some mx => match P.underlying t with
      | some .string => if mx.isNone then some (.slStr x lo hi) else none
      | some (.slice e) => if !mx.isSome || hi.isSome then (szT P e).map fun s => .slSl s x lo hi mx else none
      | some (.array n e) => if mx.isNone then (szT P e).map fun s => .slArr n s x lo hi else none
      | some (.pointer a) => match P.underlying a with
        | some (.array n e) => if mx.isNone then (szT P e).map fun s => .slArr n s x lo hi else none
        | _ => none
      | _ => none
    | _, _, _, _ => none
  | .fieldAddr t x i => match P.underlying t, compOpd x with
    | some (.struct fs), some x => match fs[i]? with
      | some f => match szT P f.type with
        | some (_ + 1) => some (.fa f.offset x)
        | _ => none
      | none => none
    | _, _ => none
  | .field t x i => match P.underlying t, compOpd x with
    | some (.struct fs), some x => match fs[i]? with
      | some f => match szT P f.type, aggT P f.type with
        | some s, some a => some (.fld a f.offset s x)
        | _, _ => none
      | none => none
    | _, _ => none
  | .indexAddr t x i => match compOpd x, compOpd i with
    | some x, some i => match P.underlying t with
      | some (.slice e) => (szT P e).map fun s => .ia s x i
      | some (.array n e) => (szT P e).map fun s => .iaArr n s x i
      | _ => none
    | _, _ => none
  | .index t x i => match compOpd x, compOpd i with
    | some x, some i => match P.underlying t with
      | some .string => some (.idxStr x i)
      | some (.array n e) => match szT P e, aggT P e with
        | some s, some a => some (.idxArr a n s x i)
        | _, _ => none
      | _ => none
    | _, _ => none
  | .lookup t m k ok => match P.underlying t, compOpd m, compOpd k with
    | some (.map kt e), some m, some k => match keyShape P kt, zeroOne P e with
      | some s, some z => some (.look s.2 s.1 ok z m k)
      | _, _ => none
    | _, _, _ => none
  | .mapUpdate t m k v | .insert t m k v => match P.underlying t, compOpd m, compOpd k, compOpd v with
    | some (.map kt _), some m, some k, some v => (keyShape P kt).map fun s => .mput s.2 s.1 m k v
    | _, _, _, _ => none
  | .extract x i => (compOpd x).map (.ext i)
  | .call c => match mapOpt compOpd c.args.toList with
    | some args => match c.callee with
      | .builtin b => compBuiltin P b c.argTypes args
      | .value f => (compOpd f).map fun g => .call g args
      | _ => none
    | none => none
  | _ => none

/-- For each operation: what comes before it in every order. -/
def beforeBits : List Oper → List Nat → List Nat
  | [], acc => acc
  | o :: r, acc => beforeBits r (acc ++ [o.after.toList.foldl (fun s e => if Region.binds .any e then s ||| 2 ^ e.on ||| acc.getD e.on 0 else s) 0])
def compOpers (P : Program) (ops : List Oper) : List Oper → List Nat → Option (List CO)
  | [], _ => some []
  | o :: r, bs => match compOp P o.op, compOpers P ops r bs.tail with
    | some co, some cs => match o.guard with
      | none => some ({ dst := o.dst, op := co, guard := none, bits := bs.headD 0 } :: cs)
      | some (j, want) => match (ops[j]?).bind (·.dst) with
        | some d => some ({ dst := o.dst, op := co, guard := some (d, want), bits := bs.headD 0 } :: cs)
        | none => none
    | _, _ => none
def edgesOk (ops : List Oper) : Bool := ops.zipIdx.all fun p => p.1.after.all fun e => !Region.binds .any e || e.on < p.2
def dstOk (N : Nat) (ops : List Oper) : Bool := ops.all fun o => match o.dst with
  | some d => d < N
  | none => true
def compCode (N : Nat) : Code → Option CCode
  | .skip | .label _ => some .skip
  | .region _ ops draw => if edgesOk ops.toList && dstOk N ops.toList then (compOpers P ops.toList ops.toList (beforeBits ops.toList [])).map fun l => .reg l draw none else none
  | .seq a b => match compCode N a, compCode N b with
    | some x, some y => some (.seq x y)
    | _, _ => none
  | .cond c a b => match compOpd c, compCode N a, compCode N b with
    | some c, some x, some y => some (.cond c x y)
    | _, _, _ => none
  | .block id c => (compCode N c).map (.block id)
  | .loop c => (compCode N c).map (.loop [])
  | .exit id => some (.exit id)
  | .scope c => compCode N c
  | .ret => some .ret
  | _ => none
def compRes (r : ResultVar) : Option CRes := match r with
  | .tmp t => some (.tmp t)
  | .cell t ty => match aggT P ty, szT P ty with
    | some a, some s => some (.cell t a s)
    | _, _ => none
def compF (f : Func) : Option CF := match f.body.bind (compCode P f.ntmps), mapOpt (compRes P) f.results.toList with
  | some c, some rs => some { body := c, res := rs, rowArgs := [], keep := false, rowRes := [], clone := none, dl := none }
  | _, _ => none
end
end Go.Vm
end
section
/- What an abstract state says of a world. -/
set_option linter.unusedVariables false
namespace Go.Vm

abbrev Mem := Nat → Option Obj
/-- A chunk's place: where it begins; of a slice: its length, its capacity; the cells of an element. -/
structure Loc where
  base : Option Addr
  len : Nat
  cap : Nat
  sz : Nat

def cellM (M : Mem) (a : Addr) : Option Value := match M a.block with
  | some (.cells c _ _) => if a.spot.isSome then none else c[a.off]?
  | _ => none
def cellAt (M : Mem) (base : Option Addr) (n : Nat) : Option Value := match base with
  | some a => cellM M ⟨a.block, a.off + n, none⟩
  | none => none
def TagOk : Tg → Option Addr → Nat → Nat → Prop
  | .any, _, _, _ => True
  | .full, _, n, c => c = n
  | .nil, b, n, c => b = none ∧ n = 0 ∧ c = 0
  | .made, b, _, _ => b.isSome = true

inductive RepD (M : Mem) : D → Value → Prop
  | int (k : IntKind) (n : Int) : RepD M (.int k n) (.int k n)
  | bool (b : Bool) : RepD M (.bool b) (.bool b)
  | str (s : ByteArray) : RepD M (.str s) (.string s)
  | nilp : RepD M .nilp (.pointer none)
  | nilf : RepD M .nilf .nilFunc
  | nilm : RepD M .nilm (.map none)
  | sl (tg : Tg) (xs : List (List D)) (base : Option Addr) (n cap sz : Nat) (vf : Nat → Nat → Value) (hn : n = xs.length) (hc : xs.length ≤ cap) (ht : TagOk tg base xs.length cap)
      (hb : ∀ a, base = some a → a.spot = none)
      (hsz : ∀ (j : Nat) (c : List D), xs[j]? = some c → c.length = sz) (hx : ∀ (j : Nat) (c : List D) (l : Nat) (d : D), xs[j]? = some c → c[l]? = some d → cellAt M base (j * sz + l) = some (vf j l))
      (hd : ∀ (j : Nat) (c : List D) (l : Nat) (d : D), xs[j]? = some c → c[l]? = some d → RepD M d (vf j l)) : RepD M (.sl tg sz xs) (.slice base n cap)

def MemLe (M M' : Mem) : Prop := ∀ k o, M k = some o → M' k = some o
theorem MemLe.refl (M : Mem) : MemLe M M := fun _ _ h => h
theorem MemLe.trans {M M' M'' : Mem} (h : MemLe M M') (h' : MemLe M' M'') : MemLe M M'' := fun k o e => h' k o (h k o e)
theorem cellM_mono {M M' : Mem} (h : MemLe M M') {a : Addr} {v : Value} (e : cellM M a = some v) : cellM M' a = some v := by
  unfold cellM at *
  cases hk : M a.block with
  | none => rw [hk] at e; cases e
  | some o => rw [h _ _ hk]; rw [hk] at e; exact e
theorem cellAt_mono {M M' : Mem} (h : MemLe M M') {b : Option Addr} {n : Nat} {v : Value} (e : cellAt M b n = some v) : cellAt M' b n = some v := by
  unfold cellAt at *
  cases b with
  | none => exact e
  | some a => exact cellM_mono h e
theorem RepD.mono {M M' : Mem} (h : MemLe M M') {d : D} {v : Value} (e : RepD M d v) : RepD M' d v := by
  induction e with
  | int k n => exact .int k n
  | bool b => exact .bool b
  | str s => exact .str s
  | nilp => exact .nilp
  | nilf => exact .nilf
  | nilm => exact .nilm
  | sl tg xs base n cap sz vf hn hc ht hb hsz hx hd ih => exact .sl tg xs base n cap sz vf hn hc ht hb hsz (fun j c l d h1 h2 => cellAt_mono h (hx j c l d h1 h2)) (fun j c l d h1 h2 => ih j c l d h1 h2)
/-- Less is said of it. -/
theorem RepD.dim {M : Mem} {tg : Tg} {sz : Nat} {xs : List (List D)} {v : Value} (kf : Bool) (e : RepD M (.sl tg sz xs) v) : RepD M (.sl (tg.dim kf) sz xs) v := by
  cases e with
  | sl _ _ base n cap _ vf hn hc ht hb hsz hx hd =>
    refine .sl _ xs base n cap sz vf hn hc ?_ hb hsz hx hd
    cases tg <;> cases kf <;> simp_all [Tg.dim, TagOk]
theorem RepD.any {M : Mem} {tg : Tg} {sz : Nat} {xs : List (List D)} {v : Value} (e : RepD M (.sl tg sz xs) v) : RepD M (.sl .any sz xs) v := by
  cases e with
  | sl _ _ base n cap _ vf hn hc ht hb hsz hx hd => exact .sl _ xs base n cap sz vf hn hc trivial hb hsz hx hd

abbrev Rho := Nat → Option Loc
def RhoLe (ρ ρ' : Rho) : Prop := ∀ i l, ρ i = some l → ρ' i = some l
theorem RhoLe.refl (ρ : Rho) : RhoLe ρ ρ := fun _ _ h => h
theorem RhoLe.trans {ρ ρ' ρ'' : Rho} (h : RhoLe ρ ρ') (h' : RhoLe ρ' ρ'') : RhoLe ρ ρ'' := fun k o e => h' k o (h k o e)


inductive RepA (M : Mem) (ρ : Rho) : A → Value → Prop
  | d {x : D} {v : Value} (h : RepD M x v) : RepA M ρ (.d x) v
  | ptr (i o : Nat) (l : Loc) (b : Nat) (h : ρ i = some l) (hb : l.base = some ⟨b, 0, none⟩) : RepA M ρ (.ptr i o) (.pointer (some ⟨b, o, none⟩))
  | row (i : Nat) (l : Loc) (h : ρ i = some l) : RepA M ρ (.row i) (.slice l.base l.len l.cap)
  | sub (i lo hi : Nat) (own : Bool) (l : Loc) (base : Option Addr) (cap : Nat) (h : ρ i = some l) (hle : lo ≤ hi) (hc : hi - lo ≤ cap)
      (hb : lo < hi → base = l.base.map (·.add (lo * l.sz))) (ho : own = true → cap = l.cap - lo ∧ (lo < l.cap → base = l.base.map (·.add (lo * l.sz)))) (hs : ∀ a, base = some a → a.spot = none) : RepA M ρ (.sub i lo hi own) (.slice base (hi - lo) cap)
  | bs (i off n sz : Nat) (l : Loc) (b : Nat) (base : Option Addr) (cap : Nat) (h : ρ i = some l) (hl : l.base = some ⟨b, 0, none⟩) (hc : n ≤ cap) (hb : 0 < n → base = some ⟨b, off, none⟩) (hs : ∀ a, base = some a → a.spot = none) :
      RepA M ρ (.bs i off n sz) (.slice base n cap)
  | ep (i k o : Nat) (l : Loc) (a : Addr) (h : ρ i = some l) (hb : l.base = some a) : RepA M ρ (.ep i k o) (.pointer (some ⟨a.block, a.off + k * l.sz + o, none⟩))
  | dp (cs : List D) (a : Addr) (vf : Nat → Value) (hs : a.spot = none) (hx : ∀ (j : Nat) (d : D), cs[j]? = some d → cellM M ⟨a.block, a.off + j, none⟩ = some (vf j)) (hd : ∀ (j : Nat) (d : D), cs[j]? = some d → RepD M d (vf j)) : RepA M ρ (.dp cs) (.pointer (some a))
  | agg (cs : List A) (vs : Array Value) (hl : cs.length = vs.size) (h : ∀ (i : Nat) (x : A) (v : Value), cs[i]? = some x → vs[i]? = some v → RepA M ρ x v) (h1 : ∀ v ∈ vs, v.oneCell' = true) : RepA M ρ (.agg cs) (.agg vs)
  | tup (cs : List A) (vs : Array Value) (hl : cs.length = vs.size) (h : ∀ (i : Nat) (x : A) (v : Value), cs[i]? = some x → vs[i]? = some v → RepA M ρ x v) : RepA M ρ (.tup cs) (.tuple vs)
  | fn (f : FuncId) (cs : List A) (vs : Array Value) (hl : cs.length = vs.size) (h : ∀ (i : Nat) (x : A) (v : Value), cs[i]? = some x → vs[i]? = some v → RepA M ρ x v) : RepA M ρ (.fn f cs) (.func (.func f) #[] vs)
  | map (i : Nat) (l : Loc) (b : Nat) (h : ρ i = some l) (hb : l.base = some ⟨b, 0, none⟩) : RepA M ρ (.map i) (.map (some b))
  | un (v : Value) : RepA M ρ .un v

theorem RepA.mono {M M' : Mem} {ρ ρ' : Rho} (h : MemLe M M') (hr : RhoLe ρ ρ') {x : A} {v : Value} (e : RepA M ρ x v) : RepA M' ρ' x v := by
  induction e with
  | d hd => exact .d (hd.mono h)
  | ptr i o l b hi hb => exact .ptr i o l b (hr _ _ hi) hb
  | row i l hi => exact .row i l (hr _ _ hi)
  | sub i lo hi own l base cap h1 hle hc hb ho hs => exact .sub i lo hi own l base cap (hr _ _ h1) hle hc hb ho hs
  | bs i off n sz l b base cap h1 hl hc hb hs => exact .bs i off n sz l b base cap (hr _ _ h1) hl hc hb hs
  | ep i k o l a h1 hb => exact .ep i k o l a (hr _ _ h1) hb
  | dp cs a vf hs hx hd => exact .dp cs a vf hs (fun j d hj => cellM_mono h (hx j d hj)) (fun j d hj => (hd j d hj).mono h)
  | agg cs vs hl _ h1 ih => exact .agg cs vs hl ih h1
  | tup cs vs hl _ ih => exact .tup cs vs hl ih
  | fn f cs vs hl _ ih => exact .fn f cs vs hl ih
  | map i l b h1 hb => exact .map i l b (hr _ _ h1) hb
  | un v => exact .un v

def RepAs (M : Mem) (ρ : Rho) (cs : List A) (vs : List Value) : Prop := cs.length = vs.length ∧ ∀ (i : Nat) (x : A) (v : Value), cs[i]? = some x → vs[i]? = some v → RepA M ρ x v
theorem RepAs.mono {M M' : Mem} {ρ ρ' : Rho} (h : MemLe M M') (hr : RhoLe ρ ρ') {cs : List A} {vs : List Value} (e : RepAs M ρ cs vs) : RepAs M' ρ' cs vs :=
  ⟨e.1, fun i x v h1 h2 => (e.2 i x v h1 h2).mono h hr⟩
theorem RepAs.nil (M : Mem) (ρ : Rho) : RepAs M ρ [] [] := ⟨rfl, fun i x v h => by simp at h⟩
theorem RepAs.cons {M : Mem} {ρ : Rho} {x : A} {v : Value} {cs : List A} {vs : List Value} (h : RepA M ρ x v) (e : RepAs M ρ cs vs) : RepAs M ρ (x :: cs) (v :: vs) :=
  ⟨by simp [e.1], fun i y u h1 h2 => by
    cases i with
    | zero => simp at h1 h2; subst h1 h2; exact h
    | succ i => exact e.2 i y u (by simpa using h1) (by simpa using h2)⟩
theorem RepAs.head {M : Mem} {ρ : Rho} {x : A} {v : Value} {cs : List A} {vs : List Value} (e : RepAs M ρ (x :: cs) (v :: vs)) : RepA M ρ x v := e.2 0 x v rfl rfl
theorem RepAs.tail {M : Mem} {ρ : Rho} {x : A} {v : Value} {cs : List A} {vs : List Value} (e : RepAs M ρ (x :: cs) (v :: vs)) : RepAs M ρ cs vs :=
  ⟨by have := e.1; simpa using this, fun i y u h1 h2 => e.2 (i + 1) y u (by simpa using h1) (by simpa using h2)⟩
theorem RepAs.cases_cons {M : Mem} {ρ : Rho} {x : A} {cs : List A} {vs : List Value} (e : RepAs M ρ (x :: cs) vs) : ∃ v us, vs = v :: us ∧ RepA M ρ x v ∧ RepAs M ρ cs us := by
  cases vs with
  | nil => have := e.1; simp at this
  | cons v us => exact ⟨v, us, rfl, e.head, e.tail⟩
theorem RepAs.append {M : Mem} {ρ : Rho} {cs ds : List A} {vs us : List Value} (h : RepAs M ρ cs vs) (e : RepAs M ρ ds us) : RepAs M ρ (cs ++ ds) (vs ++ us) := by
  induction cs generalizing vs with
  | nil => have := h.1; cases vs <;> simp_all
  | cons x cs ih =>
    obtain ⟨v, vs, rfl, hv, ht⟩ := h.cases_cons
    exact RepAs.cons hv (ih ht)
theorem RepAs.take {M : Mem} {ρ : Rho} {cs : List A} {vs : List Value} (h : RepAs M ρ cs vs) (n : Nat) : RepAs M ρ (cs.take n) (vs.take n) :=
  ⟨by simp [h.1], fun i x v h1 h2 => by
    rw [List.getElem?_take] at h1 h2
    split at h1
    · rename_i hi; rw [if_pos hi] at h2; exact h.2 i x v h1 h2
    · cases h1⟩
theorem RepAs.drop {M : Mem} {ρ : Rho} {cs : List A} {vs : List Value} (h : RepAs M ρ cs vs) (n : Nat) : RepAs M ρ (cs.drop n) (vs.drop n) :=
  ⟨by simp [h.1], fun i x v h1 h2 => by
    rw [List.getElem?_drop] at h1 h2
    exact h.2 _ x v h1 h2⟩
theorem RepAs.splice {M : Mem} {ρ : Rho} {cs ds : List A} {vs us : List Value} (h : RepAs M ρ cs vs) (e : RepAs M ρ ds us) (o : Nat) : RepAs M ρ (splice cs o ds) (splice vs o us) := by
  unfold Vm.splice
  rw [← e.1]
  exact (h.take _).append (e.append (h.drop _))
theorem RepA.agg' {M : Mem} {ρ : Rho} {cs : List A} {vs : List Value} (h : RepAs M ρ cs vs) (h1 : ∀ v ∈ vs, v.oneCell' = true) : RepA M ρ (.agg cs) (.agg vs.toArray) :=
  .agg cs vs.toArray (by simpa using h.1) (fun i x v a b => h.2 i x v a (by simpa using b)) (by simpa using h1)

/-- The value's cells. -/
theorem cells_rep {M : Mem} {ρ : Rho} {x : A} {v : Value} {cs : List A} (h : RepA M ρ x v) (e : cellsOf x = some cs) : RepAs M ρ cs v.cells.toList ∧ ∀ u ∈ v.cells, u.oneCell' = true := by
  cases h with
  | agg cs vs hl h h1 => cases e; exact ⟨⟨by simpa [Value.cells] using hl, fun i x v a b => h i x v a (by simpa [Value.cells] using b)⟩, h1⟩
  | d hd => cases e; cases hd <;> exact ⟨.cons (.d (by constructor <;> assumption)) (.nil _ _), by simp [Value.cells, Value.oneCell']⟩
  | un v => cases e
  | tup => cases e
  | ptr i o l b h1 h2 => cases e; exact ⟨.cons (.ptr i o l b h1 h2) (.nil _ _), by simp [Value.cells, Value.oneCell']⟩
  | row i l h1 => cases e; exact ⟨.cons (.row i l h1) (.nil _ _), by simp [Value.cells, Value.oneCell']⟩
  | sub i lo hi own l base cap h1 hle hc hb ho hs => cases e; exact ⟨.cons (.sub i lo hi own l base cap h1 hle hc hb ho hs) (.nil _ _), by simp [Value.cells, Value.oneCell']⟩
  | bs i off n sz l b base cap h1 hl hc hb hs => cases e; exact ⟨.cons (.bs i off n sz l b base cap h1 hl hc hb hs) (.nil _ _), by simp [Value.cells, Value.oneCell']⟩
  | ep i k o l a h1 hb => cases e; exact ⟨.cons (.ep i k o l a h1 hb) (.nil _ _), by simp [Value.cells, Value.oneCell']⟩
  | dp cs a vf hs hx hd => cases e; exact ⟨.cons (.dp cs a vf hs hx hd) (.nil _ _), by simp [Value.cells, Value.oneCell']⟩
  | fn f cs vs hl h => cases e; exact ⟨.cons (.fn f cs vs hl h) (.nil _ _), by simp [Value.cells, Value.oneCell']⟩
  | map i l b h1 hb => cases e; exact ⟨.cons (.map i l b h1 hb) (.nil _ _), by simp [Value.cells, Value.oneCell']⟩

/-! ### Chunks -/
def FreeC (vals : Array Value) (fr : Nat × Nat) : Prop := fr.1 = fr.2 ∨ vals.size ≤ fr.1
/-- The elements lie in these cells from off on. -/
def ElsAt (M : Mem) (vals : List Value) (off sz : Nat) (xs : List (List D)) : Prop :=
  ∀ (j : Nat) (c : List D) (l : Nat) (d : D), xs[j]? = some c → c[l]? = some d → ∃ v, vals[off + j * sz + l]? = some v ∧ RepD M d v
/-- Values of data. -/
def RepDs (M : Mem) (ds : List D) (us : List Value) : Prop := ds.length = us.length ∧ ∀ (i : Nat) (d : D) (u : Value), ds[i]? = some d → us[i]? = some u → RepD M d u
def RepKey (M : Mem) (agg : Bool) (ds : List D) (v : Value) : Prop := match agg with
  | true => ∃ us : Array Value, v = .agg us ∧ RepDs M ds us.toList
  | false => ∃ d, ds = [d] ∧ RepD M d v
def KvsAt (M : Mem) (agg : Bool) : List (List D × D) → List MapEntry → Prop
  | [], [] => True
  | (k, v) :: r, e :: es => RepKey M agg k e.key ∧ RepD M v e.val ∧ KvsAt M agg r es
  | _, _ => False

def RepC (M : Mem) (ρ : Rho) (w : World) (i : Nat) : Chunk → Prop
  | .dead => True
  | .box cs => ∃ l b vals t fr, ρ i = some l ∧ l.base = some ⟨b, 0, none⟩ ∧ w.heap[b]? = some (.cells vals t fr) ∧ FreeC vals fr ∧ RepAs M ρ cs vals.toList ∧ ∀ u ∈ vals, u.oneCell' = true
  | .row sz f xs => ∃ l, ρ i = some l ∧ l.sz = sz ∧ l.len = xs.length ∧ l.len ≤ l.cap ∧ (f = true → l.cap = l.len) ∧ (∀ c ∈ xs, c.length = sz) ∧ (∀ a, l.base = some a → a.spot = none) ∧
      (l.cap = 0 ∨ ∃ b o vals t fr, l.base = some ⟨b, o, none⟩ ∧ w.heap[b]? = some (.cells vals t fr) ∧ FreeC vals fr ∧ o + l.cap * sz ≤ vals.size ∧ ElsAt M vals.toList o sz xs ∧ ∀ u ∈ vals, u.oneCell' = true)
  | .imm sz f xs => ∃ l, ρ i = some l ∧ l.sz = sz ∧ l.len = xs.length ∧ (∀ c ∈ xs, c.length = sz) ∧ (∀ a, l.base = some a → a.spot = none) ∧ RepD M (.sl (if f then .full else .any) sz xs) (.slice l.base l.len l.cap)
  | .map agg kvs => ∃ l b entries clock, ρ i = some l ∧ l.base = some ⟨b, 0, none⟩ ∧ w.heap[b]? = some (.map entries clock) ∧ KvsAt M agg kvs entries.toList

/-- Block b is chunk i's own. -/
def Owns (ρ : Rho) (i : Nat) (c : Chunk) (b : Nat) : Prop := match c with
  | .box _ | .map _ _ => ∃ l a, ρ i = some l ∧ l.base = some a ∧ a.block = b
  | .row .. => ∃ l a, ρ i = some l ∧ l.base = some a ∧ a.block = b ∧ l.cap ≠ 0
  | _ => False

structure Rel (w0 : World) (F M : Mem) (ρ : Rho) (hp : Heap) (w : World) : Prop where
  os : w.os = w0.os
  tape : w.tape = w0.tape
  output : w.output = w0.output
  size : w0.heap.size ≤ w.heap.size
  mem : ∀ k o, M k = some o → w.heap[k]? = some o
  frm : ∀ k o, F k = some o → w.heap[k]? = some o
  mf : ∀ k o, M k = some o → F k = none
  ch : ∀ i, RepC M ρ w i (hp i)
  own : ∀ i b, Owns ρ i (hp i) b → M b = none ∧ F b = none
  sep : ∀ i j b, Owns ρ i (hp i) b → Owns ρ j (hp j) b → i = j

theorem RepDs.mono {M M' : Mem} (h : MemLe M M') {ds : List D} {us : List Value} (e : RepDs M ds us) : RepDs M' ds us := ⟨e.1, fun i d u a b => (e.2 i d u a b).mono h⟩
theorem RepKey.mono {M M' : Mem} (h : MemLe M M') {agg : Bool} {ds : List D} {v : Value} (e : RepKey M agg ds v) : RepKey M' agg ds v := by
  cases agg with
  | true => obtain ⟨us, h1, h2⟩ := e; exact ⟨us, h1, h2.mono h⟩
  | false => obtain ⟨d, h1, h2⟩ := e; exact ⟨d, h1, h2.mono h⟩
theorem KvsAt.mono {M M' : Mem} {agg : Bool} (h : MemLe M M') : ∀ {kvs : List (List D × D)} {es : List MapEntry}, KvsAt M agg kvs es → KvsAt M' agg kvs es
  | [], [], _ => trivial
  | [], _ :: _, e => e
  | _ :: _, [], e => e
  | (k, v) :: r, e :: es, ⟨h1, h3, h4⟩ => ⟨h1.mono h, h3.mono h, KvsAt.mono h h4⟩
theorem ElsAt.mono {M M' : Mem} (h : MemLe M M') {vals : List Value} {off sz : Nat} {xs : List (List D)} (e : ElsAt M vals off sz xs) : ElsAt M' vals off sz xs :=
  fun j c l d h1 h2 => let ⟨v, h3, h4⟩ := e j c l d h1 h2; ⟨v, h3, h4.mono h⟩
/-- The chunk's own block as it was, more memory told, more places: the chunk reads as it did. -/
theorem RepC.mono {M M' : Mem} {ρ ρ' : Rho} {w w' : World} {i : Nat} {c : Chunk} (h : MemLe M M') (hr : RhoLe ρ ρ') (hb : ∀ b o, Owns ρ i c b → w.heap[b]? = some o → w'.heap[b]? = some o) (e : RepC M ρ w i c) : RepC M' ρ' w' i c := by
  cases c with
  | dead => trivial
  | box cs =>
    obtain ⟨l, b, vals, t, fr, h1, h2, h3, h4, h5, h6⟩ := e
    exact ⟨l, b, vals, t, fr, hr _ _ h1, h2, hb b _ ⟨l, _, h1, h2, rfl⟩ h3, h4, h5.mono h hr, h6⟩
  | row sz f xs =>
    obtain ⟨l, h1, h2, h3, h4, h5, h6, h7, h8⟩ := e
    refine ⟨l, hr _ _ h1, h2, h3, h4, h5, h6, h7, ?_⟩
    rcases h8 with h8 | ⟨b, o, vals, t, fr, k1, k2, k3, k4, k5, k6⟩
    · exact .inl h8
    · by_cases hc : l.cap = 0
      · exact .inl hc
      · exact .inr ⟨b, o, vals, t, fr, k1, hb b _ ⟨l, _, h1, k1, rfl, hc⟩ k2, k3, k4, k5.mono h, k6⟩
  | imm sz f xs =>
    obtain ⟨l, h1, h2, h3, h4, h5, h6⟩ := e
    exact ⟨l, hr _ _ h1, h2, h3, h4, h5, h6.mono h⟩
  | map agg kvs =>
    obtain ⟨l, b, es, ck, h1, h2, h3, h4⟩ := e
    exact ⟨l, b, es, ck, hr _ _ h1, h2, hb b _ ⟨l, _, h1, h2, rfl⟩ h3, h4.mono h⟩
theorem Owns.rho {ρ ρ' : Rho} (hr : RhoLe ρ ρ') {i : Nat} {c : Chunk} {b : Nat} (h : Owns ρ i c b) : Owns ρ' i c b := by
  cases c with
  | box cs => obtain ⟨l, a, h1, h2⟩ := h; exact ⟨l, a, hr _ _ h1, h2⟩
  | map agg kvs => obtain ⟨l, a, h1, h2⟩ := h; exact ⟨l, a, hr _ _ h1, h2⟩
  | row => obtain ⟨l, a, h1, h2⟩ := h; exact ⟨l, a, hr _ _ h1, h2⟩
  | dead => exact h
  | imm => exact h
/-- A live chunk has a place. -/
theorem RepC.place {M : Mem} {ρ : Rho} {w : World} {i : Nat} {c : Chunk} (h : RepC M ρ w i c) (hd : c ≠ .dead) : ∃ l, ρ i = some l := by
  cases c with
  | dead => exact absurd rfl hd
  | box => obtain ⟨l, _, _, _, _, h1, _⟩ := h; exact ⟨l, h1⟩
  | row => obtain ⟨l, h1, _⟩ := h; exact ⟨l, h1⟩
  | imm => obtain ⟨l, h1, _⟩ := h; exact ⟨l, h1⟩
  | map => obtain ⟨l, _, _, _, h1, _⟩ := h; exact ⟨l, h1⟩
theorem Owns.back {ρ ρ' : Rho} (hr : RhoLe ρ ρ') {M : Mem} {w : World} {i : Nat} {c : Chunk} {b : Nat} (hc : RepC M ρ w i c) (h : Owns ρ' i c b) : Owns ρ i c b := by
  have key : ∀ {l : Loc}, ρ' i = some l → c ≠ .dead → ρ i = some l := fun {l} h1 hd => by
    obtain ⟨l', h2⟩ := hc.place hd
    have := hr _ _ h2
    rw [this] at h1
    rw [h2]; exact h1
  cases c with
  | box cs => obtain ⟨l, a, h1, h2⟩ := h; exact ⟨l, a, key h1 (by simp), h2⟩
  | map agg kvs => obtain ⟨l, a, h1, h2⟩ := h; exact ⟨l, a, key h1 (by simp), h2⟩
  | row => obtain ⟨l, a, h1, h2⟩ := h; exact ⟨l, a, key h1 (by simp), h2⟩
  | dead => exact h
  | imm => exact h
theorem Owns.block {M : Mem} {ρ : Rho} {w : World} {i : Nat} {c : Chunk} {b : Nat} (hc : RepC M ρ w i c) (h : Owns ρ i c b) : ∃ o, w.heap[b]? = some o := by
  cases c with
  | box cs =>
    obtain ⟨l, b', vals, t, fr, h1, h2, h3, _⟩ := hc
    obtain ⟨l', a, k1, k2, rfl⟩ := h
    rw [h1] at k1; cases k1; rw [h2] at k2; cases k2
    exact ⟨_, h3⟩
  | map agg kvs =>
    obtain ⟨l, b', vals, t, h1, h2, h3, _⟩ := hc
    obtain ⟨l', a, k1, k2, rfl⟩ := h
    rw [h1] at k1; cases k1; rw [h2] at k2; cases k2
    exact ⟨_, h3⟩
  | row sz f xs =>
    obtain ⟨l, h1, h2, h3, h4, h5, h6, h7, h8⟩ := hc
    obtain ⟨l', a, k1, k2, rfl, k3⟩ := h
    rw [h1] at k1; cases k1
    rcases h8 with h8 | ⟨b, o, vals, t, fr, j1, j2, _⟩
    · exact absurd h8 k3
    · rw [j1] at k2; cases k2; exact ⟨_, j2⟩
  | dead => exact h.elim
  | imm => exact h.elim
theorem block_lt {w : World} {k : Nat} {o : Obj} (h : w.heap[k]? = some o) : k < w.heap.size := (Array.getElem?_eq_some_iff.1 h).1
theorem Rel.cell {w0 : World} {F M : Mem} {ρ : Rho} {hp : Heap} {w : World} (h : Rel w0 F M ρ hp w) {a : Addr} {v : Value} (e : cellM M a = some v) : w.cell? a = some v := by
  unfold cellM at e
  cases hk : M a.block with
  | none => rw [hk] at e; cases e
  | some o =>
    have := h.mem _ _ hk
    rw [hk] at e
    unfold World.cell?
    rw [this]
    exact e

/-! ### What may become of a state -/
/-- The world goes on: what is told or owned stays. -/
theorem Rel.world {w0 : World} {F M : Mem} {ρ : Rho} {hp : Heap} {w w' : World} (h : Rel w0 F M ρ hp w) (h1 : w'.os = w.os) (h2 : w'.tape = w.tape) (h3 : w'.output = w.output)
    (h4 : w'.heap = w.heap) : Rel w0 F M ρ hp w' :=
  ⟨h1.trans h.os, h2.trans h.tape, h3.trans h.output, by rw [h4]; exact h.size, by rw [h4]; exact h.mem, by rw [h4]; exact h.frm, h.mf,
   fun i => (h.ch i).mono (MemLe.refl _) (RhoLe.refl _) (fun b o _ e => by rw [h4]; exact e), h.own, h.sep⟩
theorem Rel.drew {w0 : World} {F M : Mem} {ρ : Rho} {hp : Heap} {w : World} (h : Rel w0 F M ρ hp w) (n : Nat) : Rel w0 F M ρ hp { w with drawn := n } := h.world rfl rfl rfl rfl
/-- A chunk is forgotten. -/
theorem Rel.kill {w0 : World} {F M : Mem} {ρ : Rho} {hp : Heap} {w : World} (h : Rel w0 F M ρ hp w) (i : Nat) : Rel w0 F M ρ (upd hp i .dead) w := by
  have key : ∀ j b, Owns ρ j (upd hp i .dead j) b → Owns ρ j (hp j) b := fun j b ho => by
    unfold upd at ho; split at ho
    · exact ho.elim
    · exact ho
  refine ⟨h.os, h.tape, h.output, h.size, h.mem, h.frm, h.mf, fun j => ?_, fun j b ho => h.own j b (key j b ho), fun j k b h1 h2 => h.sep j k b (key _ _ h1) (key _ _ h2)⟩
  unfold upd; split
  · trivial
  · exact h.ch j
/-- A new block, a new chunk. -/
theorem Rel.new {w0 : World} {F M : Mem} {ρ : Rho} {hp : Heap} {w : World} (h : Rel w0 F M ρ hp w) (i : Nat) (l : Loc) (a : Addr) (o : Obj) (c : Chunk)
    (hi : ρ i = none) (hl : l.base = some a) (ha : a.block = w.heap.size) (hc : ∀ ρ', RhoLe ρ ρ' → ρ' i = some l → RepC M ρ' (w.alloc o) i c) :
    let ρ' : Rho := upd ρ i (some l)
    RhoLe ρ ρ' ∧ Rel w0 F M ρ' (upd hp i c) (w.alloc o) := by
  have hr : RhoLe ρ (upd ρ i (some l)) := fun j l' hj => by
    unfold upd; split
    · rename_i e; subst e; rw [hi] at hj; cases hj
    · exact hj
  have hold : ∀ k o', w.heap[k]? = some o' → (w.alloc o).heap[k]? = some o' := fun k o' e => by rw [heap_alloc_old w o (block_lt e)]; exact e
  have hci := hc (upd ρ i (some l)) hr (by simp [upd])
  have hnew : ∀ b, Owns (upd ρ i (some l)) i c b → b = w.heap.size := fun b ho => by
    have hρ : (upd ρ i (some l)) i = some l := by simp [upd]
    cases c with
    | box cs => obtain ⟨l', a', h1, h2, rfl⟩ := ho; rw [hρ] at h1; cases h1; rw [hl] at h2; cases h2; exact ha
    | map cs => obtain ⟨l', a', h1, h2, rfl⟩ := ho; rw [hρ] at h1; cases h1; rw [hl] at h2; cases h2; exact ha
    | row => obtain ⟨l', a', h1, h2, rfl, _⟩ := ho; rw [hρ] at h1; cases h1; rw [hl] at h2; cases h2; exact ha
    | dead => exact ho.elim
    | imm => exact ho.elim
  have hold2 : ∀ j b, j ≠ i → Owns (upd ρ i (some l)) j (upd hp i c j) b → Owns ρ j (hp j) b := fun j b hj ho => by
    have : upd hp i c j = hp j := by simp [upd, hj]
    rw [this] at ho
    exact Owns.back hr (h.ch j) ho
  have hsame : upd hp i c i = c := by simp [upd]
  refine ⟨hr, ⟨h.os, h.tape, h.output, Nat.le_trans h.size (by simp), fun k o' e => hold _ _ (h.mem _ _ e), fun k o' e => hold _ _ (h.frm _ _ e), h.mf, fun j => ?_, fun j b ho => ?_, fun j k b h1 h2 => ?_⟩⟩
  · by_cases hj : j = i
    · subst hj; rw [hsame]; exact hci
    · have : upd hp i c j = hp j := by simp [upd, hj]
      rw [this]
      exact (h.ch j).mono (MemLe.refl _) hr (fun b o' _ e => hold _ _ e)
  · by_cases hj : j = i
    · subst hj; rw [hsame] at ho
      obtain rfl := hnew b ho
      refine ⟨?_, ?_⟩
      · cases hm : M w.heap.size with
        | none => rfl
        | some o' => have := block_lt (h.mem _ _ hm); omega
      · cases hm : F w.heap.size with
        | none => rfl
        | some o' => have := block_lt (h.frm _ _ hm); omega
    · exact h.own j b (hold2 j b hj ho)
  · by_cases hj : j = i
    · by_cases hk : k = i
      · rw [hj, hk]
      · subst hj; rw [hsame] at h1
        obtain rfl := hnew b h1
        obtain ⟨o', ho'⟩ := Owns.block (h.ch k) (hold2 k _ hk h2)
        have := block_lt ho'; omega
    · by_cases hk : k = i
      · subst hk; rw [hsame] at h2
        obtain rfl := hnew b h2
        obtain ⟨o', ho'⟩ := Owns.block (h.ch j) (hold2 j _ hj h1)
        have := block_lt ho'; omega
      · exact h.sep j k b (hold2 j b hj h1) (hold2 k b hk h2)
/-- A chunk's own block is written; its place stays. -/
theorem Rel.set {w0 : World} {F M : Mem} {ρ : Rho} {hp : Heap} {w w' : World} (h : Rel w0 F M ρ hp w) (i b : Nat) (c : Chunk) (ho : Owns ρ i (hp i) b)
    (h1 : w'.os = w.os) (h2 : w'.tape = w.tape) (h3 : w'.output = w.output) (h4 : w.heap.size ≤ w'.heap.size) (h5 : ∀ k o, k ≠ b → w.heap[k]? = some o → w'.heap[k]? = some o)
    (hc : RepC M ρ w' i c) (hown : ∀ b', Owns ρ i c b' → b' = b) : Rel w0 F M ρ (upd hp i c) w' := by
  have hmb := h.own i b ho
  have hsame : upd hp i c i = c := by simp [upd]
  have hoth : ∀ j, j ≠ i → upd hp i c j = hp j := fun j hj => by simp [upd, hj]
  refine ⟨h1.trans h.os, h2.trans h.tape, h3.trans h.output, Nat.le_trans h.size h4, fun k o e => h5 k o (fun hk => by subst hk; rw [hmb.1] at e; cases e) (h.mem _ _ e), fun k o e => h5 k o (fun hk => by subst hk; rw [hmb.2] at e; cases e) (h.frm _ _ e), h.mf, fun j => ?_, fun j b' hb' => ?_, fun j k b' hj hk => ?_⟩
  · by_cases hj : j = i
    · subst hj; rw [hsame]; exact hc
    · rw [hoth j hj]
      exact (h.ch j).mono (MemLe.refl _) (RhoLe.refl _) (fun b' o hb' e => h5 b' o (fun hbb => hj (h.sep j i b (hbb ▸ hb') ho)) e)
  · by_cases hj : j = i
    · subst hj; rw [hsame] at hb'; rw [hown b' hb']; exact hmb
    · rw [hoth j hj] at hb'; exact h.own j b' hb'
  · by_cases hji : j = i
    · by_cases hki : k = i
      · rw [hji, hki]
      · subst hji; rw [hsame] at hj; rw [hoth k hki] at hk; rw [hown b' hj] at hk; exact h.sep j k b ho hk
    · by_cases hki : k = i
      · subst hki; rw [hsame] at hk; rw [hoth j hji] at hj; rw [hown b' hk] at hj; exact h.sep j k b hj ho
      · rw [hoth j hji] at hj; rw [hoth k hki] at hk; exact h.sep j k b' hj hk
end Go.Vm
end
