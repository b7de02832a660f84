/-
  No cell of these rows narrows 'for every input' (looked for: loops, veiled, ifaces, maps, wideKeys, modest, calm, conditions, laid).
  DERIVED. THE GIVEN ROWS OF THIS SEAT. 7 by the template 'for every input the law returns true; each argument reads behind the call as it read before'; 0 by the template 'total and deterministic' (their statements: YtnihjdfbiddggaaTotals.lean).
  GIVEN WITH THE SEED: the statements are not yours to turn. If you find one false, say at which input.
  Laid BY PROGRAM, IN A SANDBOX (cutbox-rows.mjs): the forced cells as the released guide's own fill.sh prints them over the translation 186b1e685c46f472… (all of the seat's roots in one cut). By AI agents, Wed Nov 11 2026. No macro, syntax, notation, axiom, sorry.
-/
import Derived.Test.YtnihjdfbiddggaaChecked
import GoSem.Claim
import GoSem.ClaimJoined
import GoSem.ClaimMapViews
import Derived.JoinedTies
import Derived.KernelRfl
namespace Go.Proofs.Ytnihjdfbiddggaa
/- THE CELL 'sum', in the pinned program and in every row, IS THE sha256 OF THE DUMP (.gsa) THAT YtnihjdfbiddggaaProg.lean LOADS. Nothing in Lean hashes anything: it is a label: what it is worth is what the hold of that sum in a sandbox is worth. -/
noncomputable def Try.pinned : Pinned := { name := "ytnihjdfbiddggaa", sum := "186b1e685c46f472d4242bdc1f71fab11c67825f2596b2ab2b11d99f455f675a", checked := Try.checked }
namespace Rows
def none {H : Type} : Left H := { results := [], args := [] }

/-- 'kauditlaw20.BacklogSettings': WHATEVER THE INPUT: true; the input reads as it did. -/
def backlogSettingsSpec : ChangeSpec := { name := "backlogSettings", fn := fun _ => fun
  | [d1, d2, d3, d4] => { results := [.lit (.bool true)], args := [d1, d2, d3, d4] }
  | _ => none }
def backlogSettingsRow : OpenClaim := { program := "ytnihjdfbiddggaa", sum := "186b1e685c46f472d4242bdc1f71fab11c67825f2596b2ab2b11d99f455f675a", func := "kaudit/kauditlaw20.BacklogSettings", spec := "backlogSettings", unfollowed := true, recurses := true, apart := false }
def BacklogSettingsSaid : Prop := backlogSettingsRow.holds Try.pinned (OpenSpec.ofChange backlogSettingsSpec)

/-- ITS FALSE NEIGHBOUR: 'it returns false'. Refute it at one input. -/
def backlogSettingsWrong : ChangeSpec := { name := "backlogSettings", fn := fun _ => fun
  | [d1, d2, d3, d4] => { results := [.lit (.bool false)], args := [d1, d2, d3, d4] }
  | _ => none }
def BacklogSettingsWrongFalsely : Prop := backlogSettingsRow.holds Try.pinned (OpenSpec.ofChange backlogSettingsWrong)

/-- 'kauditlaw20.BacklogPlays': WHATEVER THE INPUT: true; the input reads as it did. -/
def backlogPlaysSpec : ChangeSpec := { name := "backlogPlays", fn := fun _ => fun
  | [d] => { results := [.lit (.bool true)], args := [d] }
  | _ => none }
def backlogPlaysRow : OpenClaim := { program := "ytnihjdfbiddggaa", sum := "186b1e685c46f472d4242bdc1f71fab11c67825f2596b2ab2b11d99f455f675a", func := "kaudit/kauditlaw20.BacklogPlays", spec := "backlogPlays", unfollowed := true, recurses := true, apart := false }
def BacklogPlaysSaid : Prop := backlogPlaysRow.holds Try.pinned (OpenSpec.ofChange backlogPlaysSpec)

/-- ITS FALSE NEIGHBOUR: 'it returns false'. Refute it at one input. -/
def backlogPlaysWrong : ChangeSpec := { name := "backlogPlays", fn := fun _ => fun
  | [d] => { results := [.lit (.bool false)], args := [d] }
  | _ => none }
def BacklogPlaysWrongFalsely : Prop := backlogPlaysRow.holds Try.pinned (OpenSpec.ofChange backlogPlaysWrong)

/-- 'kauditlaw20.BacklogPartition': WHATEVER THE INPUT: true; the input reads as it did. -/
def backlogPartitionSpec : ChangeSpec := { name := "backlogPartition", fn := fun _ => fun
  | [d] => { results := [.lit (.bool true)], args := [d] }
  | _ => none }
def backlogPartitionRow : OpenClaim := { program := "ytnihjdfbiddggaa", sum := "186b1e685c46f472d4242bdc1f71fab11c67825f2596b2ab2b11d99f455f675a", func := "kaudit/kauditlaw20.BacklogPartition", spec := "backlogPartition", unfollowed := true, recurses := true, apart := false }
def BacklogPartitionSaid : Prop := backlogPartitionRow.holds Try.pinned (OpenSpec.ofChange backlogPartitionSpec)

/-- ITS FALSE NEIGHBOUR: 'it returns false'. Refute it at one input. -/
def backlogPartitionWrong : ChangeSpec := { name := "backlogPartition", fn := fun _ => fun
  | [d] => { results := [.lit (.bool false)], args := [d] }
  | _ => none }
def BacklogPartitionWrongFalsely : Prop := backlogPartitionRow.holds Try.pinned (OpenSpec.ofChange backlogPartitionWrong)

/-- 'kauditlaw20.BacklogBounds': WHATEVER THE INPUT: true; the input reads as it did. -/
def backlogBoundsSpec : ChangeSpec := { name := "backlogBounds", fn := fun _ => fun
  | [d] => { results := [.lit (.bool true)], args := [d] }
  | _ => none }
def backlogBoundsRow : OpenClaim := { program := "ytnihjdfbiddggaa", sum := "186b1e685c46f472d4242bdc1f71fab11c67825f2596b2ab2b11d99f455f675a", func := "kaudit/kauditlaw20.BacklogBounds", spec := "backlogBounds", unfollowed := true, recurses := true, apart := false }
def BacklogBoundsSaid : Prop := backlogBoundsRow.holds Try.pinned (OpenSpec.ofChange backlogBoundsSpec)

/-- ITS FALSE NEIGHBOUR: 'it returns false'. Refute it at one input. -/
def backlogBoundsWrong : ChangeSpec := { name := "backlogBounds", fn := fun _ => fun
  | [d] => { results := [.lit (.bool false)], args := [d] }
  | _ => none }
def BacklogBoundsWrongFalsely : Prop := backlogBoundsRow.holds Try.pinned (OpenSpec.ofChange backlogBoundsWrong)

/-- 'kauditlaw20.BacklogStalls': WHATEVER THE INPUT: true; the input reads as it did. -/
def backlogStallsSpec : ChangeSpec := { name := "backlogStalls", fn := fun _ => fun
  | [d] => { results := [.lit (.bool true)], args := [d] }
  | _ => none }
def backlogStallsRow : OpenClaim := { program := "ytnihjdfbiddggaa", sum := "186b1e685c46f472d4242bdc1f71fab11c67825f2596b2ab2b11d99f455f675a", func := "kaudit/kauditlaw20.BacklogStalls", spec := "backlogStalls", unfollowed := true, recurses := true, apart := false }
def BacklogStallsSaid : Prop := backlogStallsRow.holds Try.pinned (OpenSpec.ofChange backlogStallsSpec)

/-- ITS FALSE NEIGHBOUR: 'it returns false'. Refute it at one input. -/
def backlogStallsWrong : ChangeSpec := { name := "backlogStalls", fn := fun _ => fun
  | [d] => { results := [.lit (.bool false)], args := [d] }
  | _ => none }
def BacklogStallsWrongFalsely : Prop := backlogStallsRow.holds Try.pinned (OpenSpec.ofChange backlogStallsWrong)

/-- 'kauditlaw20.BacklogRates': WHATEVER THE INPUT: true; the input reads as it did. -/
def backlogRatesSpec : ChangeSpec := { name := "backlogRates", fn := fun _ => fun
  | [d1, d2] => { results := [.lit (.bool true)], args := [d1, d2] }
  | _ => none }
def backlogRatesRow : OpenClaim := { program := "ytnihjdfbiddggaa", sum := "186b1e685c46f472d4242bdc1f71fab11c67825f2596b2ab2b11d99f455f675a", func := "kaudit/kauditlaw20.BacklogRates", spec := "backlogRates", unfollowed := true, recurses := true, apart := false }
def BacklogRatesSaid : Prop := backlogRatesRow.holds Try.pinned (OpenSpec.ofChange backlogRatesSpec)

/-- ITS FALSE NEIGHBOUR: 'it returns false'. Refute it at one input. -/
def backlogRatesWrong : ChangeSpec := { name := "backlogRates", fn := fun _ => fun
  | [d1, d2] => { results := [.lit (.bool false)], args := [d1, d2] }
  | _ => none }
def BacklogRatesWrongFalsely : Prop := backlogRatesRow.holds Try.pinned (OpenSpec.ofChange backlogRatesWrong)

/-- 'kauditlaw20.BacklogPolicies': WHATEVER THE INPUT: true; the input reads as it did. -/
def backlogPoliciesSpec : ChangeSpec := { name := "backlogPolicies", fn := fun _ => fun
  | [d] => { results := [.lit (.bool true)], args := [d] }
  | _ => none }
def backlogPoliciesRow : OpenClaim := { program := "ytnihjdfbiddggaa", sum := "186b1e685c46f472d4242bdc1f71fab11c67825f2596b2ab2b11d99f455f675a", func := "kaudit/kauditlaw20.BacklogPolicies", spec := "backlogPolicies", unfollowed := true, recurses := true, apart := false }
def BacklogPoliciesSaid : Prop := backlogPoliciesRow.holds Try.pinned (OpenSpec.ofChange backlogPoliciesSpec)

/-- ITS FALSE NEIGHBOUR: 'it returns false'. Refute it at one input. -/
def backlogPoliciesWrong : ChangeSpec := { name := "backlogPolicies", fn := fun _ => fun
  | [d] => { results := [.lit (.bool false)], args := [d] }
  | _ => none }
def BacklogPoliciesWrongFalsely : Prop := backlogPoliciesRow.holds Try.pinned (OpenSpec.ofChange backlogPoliciesWrong)

/- THE SECOND FORM. 'bulk': how many values and letters a reading holds, each counted each time it is reached (what is shared counts as often as it is met; a slice's spare places count too). A statement '..UptoSaid' is the law's where the arguments, and the package variables that the reading takes, are together of bulk at most 1048576: NARROWER than '..Said'. Prove '..Said' where nothing that the law and all that it calls make is longer than what came in: it says more and counts as full. Else prove '..UptoSaid'. A law counts once. -/
mutual
def uptoBulk {H : Type} : DataW H → Nat
  | .lit (.string bytes) => bytes.length + 1
  | .lit _ => 1
  | .nil => 1
  | .ptr d => uptoBulk d + 1
  | .slice elems spare => uptoBulkAll elems + uptoBulkAll spare + 1
  | .agg parts => uptoBulkAll parts + 1
  | .iface _ d => uptoBulk d + 1
  | .map entries => uptoBulkEntries entries + 1
  | .held _ => 1
def uptoBulkAll {H : Type} : List (DataW H) → Nat
  | [] => 0
  | d :: r => uptoBulk d + uptoBulkAll r
def uptoBulkEntries {H : Type} : List (Lit × DataW H) → Nat
  | [] => 0
  | x :: r => uptoBulkEntry x + uptoBulkEntries r
def uptoBulkEntry {H : Type} : Lit × DataW H → Nat
  | (.string bytes, d) => bytes.length + uptoBulk d + 1
  | (_, d) => uptoBulk d + 1
 end
def uptoSmall : (H : Type) → List (DataW H) → Bool := fun _ ds => decide (uptoBulkAll ds ≤ 1048576)
def OpenSpec.upto (s : _root_.Go.ChangeSpec) : _root_.Go.OpenSpec := { _root_.Go.OpenSpec.ofChange s with cond := some uptoSmall }

/-- 'kauditlaw20.BacklogSettings', WHERE WHAT IT READS IS OF BULK AT MOST 1048576: true; the input reads as it did. -/
def backlogSettingsUptoRow : OpenClaim := { program := "ytnihjdfbiddggaa", sum := "186b1e685c46f472d4242bdc1f71fab11c67825f2596b2ab2b11d99f455f675a", func := "kaudit/kauditlaw20.BacklogSettings", spec := "backlogSettings", unfollowed := true, recurses := true, apart := false, narrowed := true }
def BacklogSettingsUptoSaid : Prop := backlogSettingsUptoRow.holds Try.pinned (OpenSpec.upto backlogSettingsSpec)

/-- 'kauditlaw20.BacklogPlays', WHERE WHAT IT READS IS OF BULK AT MOST 1048576: true; the input reads as it did. -/
def backlogPlaysUptoRow : OpenClaim := { program := "ytnihjdfbiddggaa", sum := "186b1e685c46f472d4242bdc1f71fab11c67825f2596b2ab2b11d99f455f675a", func := "kaudit/kauditlaw20.BacklogPlays", spec := "backlogPlays", unfollowed := true, recurses := true, apart := false, narrowed := true }
def BacklogPlaysUptoSaid : Prop := backlogPlaysUptoRow.holds Try.pinned (OpenSpec.upto backlogPlaysSpec)

/-- 'kauditlaw20.BacklogPartition', WHERE WHAT IT READS IS OF BULK AT MOST 1048576: true; the input reads as it did. -/
def backlogPartitionUptoRow : OpenClaim := { program := "ytnihjdfbiddggaa", sum := "186b1e685c46f472d4242bdc1f71fab11c67825f2596b2ab2b11d99f455f675a", func := "kaudit/kauditlaw20.BacklogPartition", spec := "backlogPartition", unfollowed := true, recurses := true, apart := false, narrowed := true }
def BacklogPartitionUptoSaid : Prop := backlogPartitionUptoRow.holds Try.pinned (OpenSpec.upto backlogPartitionSpec)

/-- 'kauditlaw20.BacklogBounds', WHERE WHAT IT READS IS OF BULK AT MOST 1048576: true; the input reads as it did. -/
def backlogBoundsUptoRow : OpenClaim := { program := "ytnihjdfbiddggaa", sum := "186b1e685c46f472d4242bdc1f71fab11c67825f2596b2ab2b11d99f455f675a", func := "kaudit/kauditlaw20.BacklogBounds", spec := "backlogBounds", unfollowed := true, recurses := true, apart := false, narrowed := true }
def BacklogBoundsUptoSaid : Prop := backlogBoundsUptoRow.holds Try.pinned (OpenSpec.upto backlogBoundsSpec)

/-- 'kauditlaw20.BacklogStalls', WHERE WHAT IT READS IS OF BULK AT MOST 1048576: true; the input reads as it did. -/
def backlogStallsUptoRow : OpenClaim := { program := "ytnihjdfbiddggaa", sum := "186b1e685c46f472d4242bdc1f71fab11c67825f2596b2ab2b11d99f455f675a", func := "kaudit/kauditlaw20.BacklogStalls", spec := "backlogStalls", unfollowed := true, recurses := true, apart := false, narrowed := true }
def BacklogStallsUptoSaid : Prop := backlogStallsUptoRow.holds Try.pinned (OpenSpec.upto backlogStallsSpec)

/-- 'kauditlaw20.BacklogRates', WHERE WHAT IT READS IS OF BULK AT MOST 1048576: true; the input reads as it did. -/
def backlogRatesUptoRow : OpenClaim := { program := "ytnihjdfbiddggaa", sum := "186b1e685c46f472d4242bdc1f71fab11c67825f2596b2ab2b11d99f455f675a", func := "kaudit/kauditlaw20.BacklogRates", spec := "backlogRates", unfollowed := true, recurses := true, apart := false, narrowed := true }
def BacklogRatesUptoSaid : Prop := backlogRatesUptoRow.holds Try.pinned (OpenSpec.upto backlogRatesSpec)

/-- 'kauditlaw20.BacklogPolicies', WHERE WHAT IT READS IS OF BULK AT MOST 1048576: true; the input reads as it did. -/
def backlogPoliciesUptoRow : OpenClaim := { program := "ytnihjdfbiddggaa", sum := "186b1e685c46f472d4242bdc1f71fab11c67825f2596b2ab2b11d99f455f675a", func := "kaudit/kauditlaw20.BacklogPolicies", spec := "backlogPolicies", unfollowed := true, recurses := true, apart := false, narrowed := true }
def BacklogPoliciesUptoSaid : Prop := backlogPoliciesUptoRow.holds Try.pinned (OpenSpec.upto backlogPoliciesSpec)

end Rows
end Go.Proofs.Ytnihjdfbiddggaa
