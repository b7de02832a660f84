/- A part of the proof of BacklogPlaysSaid: VmKeep. -/
import Derived.Test.YtnihjdfbiddggaaKV7
/- Rules for results that stay rows. -/
set_option linter.unusedVariables false
set_option linter.defProp false
namespace Go.Vm
variable (rows : List (Nat × Nat)) (xs : List A) (i nb : Nat)
def rr1 (y : A) (q : List A × List Chunk) : List A × List Chunk := (y :: q.1, q.2)
theorem rr1_eq (y : A) (a : List A) (c : List Chunk) : rr1 y (a, c) = (y :: a, c) := rfl
def rrN (z nb : Nat) (q q' : List A × List Chunk) : Option Nat → List A × List Chunk
  | none => (.d (.sl .nil z []) :: q.1, q.2)
  | some sz => (.row nb :: q'.1, .row sz true [] :: q'.2)
theorem rrN_none (z nb : Nat) (q q' : List A × List Chunk) : rrN z nb q q' none = (.d (.sl .nil z []) :: q.1, q.2) := rfl
theorem rrN_some (z nb : Nat) (q q' : List A × List Chunk) (sz : Nat) : rrN z nb q q' (some sz) = (.row nb :: q'.1, .row sz true [] :: q'.2) := rfl
theorem rr_nil : rowResR rows [] i nb = ([], []) := rfl
theorem rr_row (k : Nat) : rowResR rows (.row k :: xs) i nb = rr1 (.row k) (rowResR rows xs (i + 1) nb) := by
  simp only [rowResR]; cases rows.lookup i <;> rfl
theorem rr_int (k : IntKind) (n : Int) : rowResR rows (.d (.int k n) :: xs) i nb = rr1 (.d (.int k n)) (rowResR rows xs (i + 1) nb) := by
  simp only [rowResR]; cases rows.lookup i <;> rfl
theorem rr_bool (b : Bool) : rowResR rows (.d (.bool b) :: xs) i nb = rr1 (.d (.bool b)) (rowResR rows xs (i + 1) nb) := by
  simp only [rowResR]; cases rows.lookup i <;> rfl
theorem rr_ptr (k o : Nat) : rowResR rows (.ptr k o :: xs) i nb = rr1 (.ptr k o) (rowResR rows xs (i + 1) nb) := by
  simp only [rowResR]; cases rows.lookup i <;> rfl
theorem rr_ep (k j o : Nat) : rowResR rows (.ep k j o :: xs) i nb = rr1 (.ep k j o) (rowResR rows xs (i + 1) nb) := by
  simp only [rowResR]; cases rows.lookup i <;> rfl
theorem rr_nilp : rowResR rows (.d .nilp :: xs) i nb = rr1 (.d .nilp) (rowResR rows xs (i + 1) nb) := by
  simp only [rowResR]; cases rows.lookup i <;> rfl
theorem rr_slnil (z : Nat) : rowResR rows (.d (.sl .nil z []) :: xs) i nb = rrN z nb (rowResR rows xs (i + 1) nb) (rowResR rows xs (i + 1) (nb + 1)) (rows.lookup i) := by
  simp only [rowResR]; cases rows.lookup i <;> rfl
def rl1 (y : A) (q : List A × List Chunk × Nat) : List A × List Chunk × Nat := (y :: q.1, q.2.1, q.2.2)
theorem rl1_eq (y : A) (a : List A) (c : List Chunk) (n : Nat) : rl1 y (a, c, n) = (y :: a, c, n) := rfl
def rlN (z nb : Nat) (q q' : List A × List Chunk × Nat) : Option Nat → List A × List Chunk × Nat
  | none => (.d (.sl .nil z []) :: q.1, q.2.1, q.2.2)
  | some sz => (.row nb :: q'.1, .row sz true [] :: q'.2.1, q'.2.2)
theorem rlN_none (z nb : Nat) (a : List A) (c : List Chunk) (n : Nat) (q' : List A × List Chunk × Nat) : rlN z nb (a, c, n) q' none = (.d (.sl .nil z []) :: a, c, n) := rfl
theorem rlN_some (z nb sz : Nat) (a : List A) (c : List Chunk) (n : Nat) (q : List A × List Chunk × Nat) : rlN z nb q (a, c, n) (some sz) = (.row nb :: a, .row sz true [] :: c, n) := rfl
theorem rl_nil : rowResL rows [] i nb = ([], [], i) := rfl
theorem rl_row (k : Nat) : rowResL rows (.row k :: xs) i nb = rl1 (.row k) (rowResL rows xs (i + 1) nb) := by
  simp only [rowResL]; cases rows.lookup i <;> rfl
theorem rl_int (k : IntKind) (n : Int) : rowResL rows (.d (.int k n) :: xs) i nb = rl1 (.d (.int k n)) (rowResL rows xs (i + 1) nb) := by
  simp only [rowResL]; cases rows.lookup i <;> rfl
theorem rl_bool (b : Bool) : rowResL rows (.d (.bool b) :: xs) i nb = rl1 (.d (.bool b)) (rowResL rows xs (i + 1) nb) := by
  simp only [rowResL]; cases rows.lookup i <;> rfl
theorem rl_str (b : ByteArray) : rowResL rows (.d (.str b) :: xs) i nb = rl1 (.d (.str b)) (rowResL rows xs (i + 1) nb) := by
  simp only [rowResL]; cases rows.lookup i <;> rfl
theorem rl_slnil (z : Nat) : rowResL rows (.d (.sl .nil z []) :: xs) i nb = rlN z nb (rowResL rows xs (i + 1) nb) (rowResL rows xs (i + 1) (nb + 1)) (rows.lookup i) := by
  simp only [rowResL]; cases rows.lookup i <;> rfl
def rrG (q : List A × List Chunk) (p : List A × List Chunk × Nat) : List A × List Chunk := (.agg p.1 :: q.1, p.2.1 ++ q.2)
theorem rrG_eq (q : List A × List Chunk) (a : List A) (c : List Chunk) (n : Nat) : rrG q (a, c, n) = (.agg a :: q.1, c ++ q.2) := rfl
theorem rr_agg1 (cs : List A) : rowResR rows [.agg cs] i nb = rrG ([], []) (rowResL rows cs i nb) := by
  simp only [rowResR, rrG]
theorem aI_agg (sz : Nat) (cs : List A) : aI rows xs i nb (some sz) (.agg cs) = aK (argsIn rows xs (i + 1) nb) (.agg cs) [] := rfl
theorem f1_fn (kf : Bool) (hp : Heap) (g : FuncId) (cs : List A) : freeze1 kf hp (.fn g cs) = (.fn g cs, []) := rfl
theorem f1_ptr (kf : Bool) (hp : Heap) (k o : Nat) : freeze1 kf hp (.ptr k o) = (.ptr k o, []) := rfl
theorem f1_nilf (kf : Bool) (hp : Heap) : freeze1 kf hp (.d .nilf) = (.d .nilf, []) := rfl
def vmK := And.intro @f1_fn (And.intro @f1_ptr (And.intro @f1_nilf (And.intro @aI_agg (And.intro @rr1_eq (And.intro @rrN_none (And.intro @rrN_some (And.intro @rr_nil (And.intro @rr_row (And.intro @rr_int (And.intro @rr_bool (And.intro @rr_ptr (And.intro @rr_ep (And.intro @rr_nilp (And.intro @rr_slnil (And.intro @rl1_eq (And.intro @rlN_none (And.intro @rlN_some (And.intro @rl_nil (And.intro @rl_row (And.intro @rl_int (And.intro @rl_bool (And.intro @rl_str (And.intro @rl_slnil (And.intro @rrG_eq @rr_agg1))))))))))))))))))))))))
end Go.Vm
