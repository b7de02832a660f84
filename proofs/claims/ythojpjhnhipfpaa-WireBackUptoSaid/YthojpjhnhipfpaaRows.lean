/-
  No cell of these rows narrows 'for every input' (looked for: loops, veiled, ifaces, maps, wideKeys, modest, calm, conditions, laid).
  DERIVED. THE GIVEN ROWS OF THIS SEAT. 6 by the template 'for every input the law returns true; each argument reads behind the call as it read before'; 0 by the template 'total and deterministic' (their statements: YthojpjhnhipfpaaTotals.lean).
  GIVEN WITH THE SEED: the statements are not yours to turn. If you find one false, say at which input.
  Laid BY PROGRAM, IN A SANDBOX (cutbox-rows.mjs): the forced cells as the released guide's own fill.sh prints them over the translation 55348ee0acc6ffc5… (all of the seat's roots in one cut). By AI agents, Wed Nov 11 2026. No macro, syntax, notation, axiom, sorry.
-/
import Derived.Test.YthojpjhnhipfpaaChecked
import GoSem.Claim
import GoSem.ClaimJoined
import GoSem.ClaimMapViews
import Derived.JoinedTies
import Derived.KernelRfl
namespace Go.Proofs.Ythojpjhnhipfpaa
/- THE CELL 'sum', in the pinned program and in every row, IS THE sha256 OF THE DUMP (.gsa) THAT YthojpjhnhipfpaaProg.lean LOADS. Nothing in Lean hashes anything: it is a label: what it is worth is what the hold of that sum in a sandbox is worth. -/
noncomputable def Try.pinned : Pinned := { name := "ythojpjhnhipfpaa", sum := "55348ee0acc6ffc56fefc30c2f8b64230fc9d3535398cc87ed1e4133e8aef15e", checked := Try.checked }
namespace Rows
def none {H : Type} : Left H := { results := [], args := [] }

/-- 'kauditlaw35.SenderGreets': WHATEVER THE INPUT: true; the input reads as it did. -/
def senderGreetsSpec : ChangeSpec := { name := "senderGreets", fn := fun _ => fun
  | [d1, d2] => { results := [.lit (.bool true)], args := [d1, d2] }
  | _ => none }
def senderGreetsRow : OpenClaim := { program := "ythojpjhnhipfpaa", sum := "55348ee0acc6ffc56fefc30c2f8b64230fc9d3535398cc87ed1e4133e8aef15e", func := "kaudit/kauditlaw35.SenderGreets", spec := "senderGreets", unfollowed := true, recurses := true, apart := false }
def SenderGreetsSaid : Prop := senderGreetsRow.holds Try.pinned (OpenSpec.ofChange senderGreetsSpec)

/-- ITS FALSE NEIGHBOUR: 'it returns false'. Refute it at one input. -/
def senderGreetsWrong : ChangeSpec := { name := "senderGreets", fn := fun _ => fun
  | [d1, d2] => { results := [.lit (.bool false)], args := [d1, d2] }
  | _ => none }
def SenderGreetsWrongFalsely : Prop := senderGreetsRow.holds Try.pinned (OpenSpec.ofChange senderGreetsWrong)

/-- 'kauditlaw35.SenderWaits': WHATEVER THE INPUT: true; the input reads as it did. -/
def senderWaitsSpec : ChangeSpec := { name := "senderWaits", fn := fun _ => fun
  | [d1, d2, d3] => { results := [.lit (.bool true)], args := [d1, d2, d3] }
  | _ => none }
def senderWaitsRow : OpenClaim := { program := "ythojpjhnhipfpaa", sum := "55348ee0acc6ffc56fefc30c2f8b64230fc9d3535398cc87ed1e4133e8aef15e", func := "kaudit/kauditlaw35.SenderWaits", spec := "senderWaits", unfollowed := true, recurses := true, apart := false }
def SenderWaitsSaid : Prop := senderWaitsRow.holds Try.pinned (OpenSpec.ofChange senderWaitsSpec)

/-- ITS FALSE NEIGHBOUR: 'it returns false'. Refute it at one input. -/
def senderWaitsWrong : ChangeSpec := { name := "senderWaits", fn := fun _ => fun
  | [d1, d2, d3] => { results := [.lit (.bool false)], args := [d1, d2, d3] }
  | _ => none }
def SenderWaitsWrongFalsely : Prop := senderWaitsRow.holds Try.pinned (OpenSpec.ofChange senderWaitsWrong)

/-- 'kauditlaw33.WireEncodes': WHATEVER THE INPUT: true; the input reads as it did. -/
def wireEncodesSpec : ChangeSpec := { name := "wireEncodes", fn := fun _ => fun
  | [d1, d2, d3] => { results := [.lit (.bool true)], args := [d1, d2, d3] }
  | _ => none }
def wireEncodesRow : OpenClaim := { program := "ythojpjhnhipfpaa", sum := "55348ee0acc6ffc56fefc30c2f8b64230fc9d3535398cc87ed1e4133e8aef15e", func := "kaudit/kauditlaw33.WireEncodes", spec := "wireEncodes", apart := false }
def WireEncodesSaid : Prop := wireEncodesRow.holds Try.pinned (OpenSpec.ofChange wireEncodesSpec)

/-- ITS FALSE NEIGHBOUR: 'it returns false'. Refute it at one input. -/
def wireEncodesWrong : ChangeSpec := { name := "wireEncodes", fn := fun _ => fun
  | [d1, d2, d3] => { results := [.lit (.bool false)], args := [d1, d2, d3] }
  | _ => none }
def WireEncodesWrongFalsely : Prop := wireEncodesRow.holds Try.pinned (OpenSpec.ofChange wireEncodesWrong)

/-- 'kauditlaw33.WireFeeds': WHATEVER THE INPUT: true; the input reads as it did. -/
def wireFeedsSpec : ChangeSpec := { name := "wireFeeds", fn := fun _ => fun
  | [d1, d2, d3, d4, d5, d6] => { results := [.lit (.bool true)], args := [d1, d2, d3, d4, d5, d6] }
  | _ => none }
def wireFeedsRow : OpenClaim := { program := "ythojpjhnhipfpaa", sum := "55348ee0acc6ffc56fefc30c2f8b64230fc9d3535398cc87ed1e4133e8aef15e", func := "kaudit/kauditlaw33.WireFeeds", spec := "wireFeeds", apart := false }
def WireFeedsSaid : Prop := wireFeedsRow.holds Try.pinned (OpenSpec.ofChange wireFeedsSpec)

/-- ITS FALSE NEIGHBOUR: 'it returns false'. Refute it at one input. -/
def wireFeedsWrong : ChangeSpec := { name := "wireFeeds", fn := fun _ => fun
  | [d1, d2, d3, d4, d5, d6] => { results := [.lit (.bool false)], args := [d1, d2, d3, d4, d5, d6] }
  | _ => none }
def WireFeedsWrongFalsely : Prop := wireFeedsRow.holds Try.pinned (OpenSpec.ofChange wireFeedsWrong)

/-- 'kauditlaw33.WirePieces': WHATEVER THE INPUT: true; the input reads as it did. -/
def wirePiecesSpec : ChangeSpec := { name := "wirePieces", fn := fun _ => fun
  | [d1, d2] => { results := [.lit (.bool true)], args := [d1, d2] }
  | _ => none }
def wirePiecesRow : OpenClaim := { program := "ythojpjhnhipfpaa", sum := "55348ee0acc6ffc56fefc30c2f8b64230fc9d3535398cc87ed1e4133e8aef15e", func := "kaudit/kauditlaw33.WirePieces", spec := "wirePieces", apart := false }
def WirePiecesSaid : Prop := wirePiecesRow.holds Try.pinned (OpenSpec.ofChange wirePiecesSpec)

/-- ITS FALSE NEIGHBOUR: 'it returns false'. Refute it at one input. -/
def wirePiecesWrong : ChangeSpec := { name := "wirePieces", fn := fun _ => fun
  | [d1, d2] => { results := [.lit (.bool false)], args := [d1, d2] }
  | _ => none }
def WirePiecesWrongFalsely : Prop := wirePiecesRow.holds Try.pinned (OpenSpec.ofChange wirePiecesWrong)

/-- 'kauditlaw33.WireBack': WHATEVER THE INPUT: true; the input reads as it did. -/
def wireBackSpec : ChangeSpec := { name := "wireBack", fn := fun _ => fun
  | [d1, d2] => { results := [.lit (.bool true)], args := [d1, d2] }
  | _ => none }
def wireBackRow : OpenClaim := { program := "ythojpjhnhipfpaa", sum := "55348ee0acc6ffc56fefc30c2f8b64230fc9d3535398cc87ed1e4133e8aef15e", func := "kaudit/kauditlaw33.WireBack", spec := "wireBack", apart := false }
def WireBackSaid : Prop := wireBackRow.holds Try.pinned (OpenSpec.ofChange wireBackSpec)

/-- ITS FALSE NEIGHBOUR: 'it returns false'. Refute it at one input. -/
def wireBackWrong : ChangeSpec := { name := "wireBack", fn := fun _ => fun
  | [d1, d2] => { results := [.lit (.bool false)], args := [d1, d2] }
  | _ => none }
def WireBackWrongFalsely : Prop := wireBackRow.holds Try.pinned (OpenSpec.ofChange wireBackWrong)

/- THE SECOND FORM. 'bulk': how many values and letters a reading holds, each counted each time it is reached (what is shared counts as often as it is met; a slice's spare places count too). A statement '..UptoSaid' is the law's where the arguments, and the package variables that the reading takes, are together of bulk at most 1048576: NARROWER than '..Said'. Prove '..Said' where nothing that the law and all that it calls make is longer than what came in: it says more and counts as full. Else prove '..UptoSaid'. A law counts once. -/
mutual
def uptoBulk {H : Type} : DataW H → Nat
  | .lit (.string bytes) => bytes.length + 1
  | .lit _ => 1
  | .nil => 1
  | .ptr d => uptoBulk d + 1
  | .slice elems spare => uptoBulkAll elems + uptoBulkAll spare + 1
  | .agg parts => uptoBulkAll parts + 1
  | .iface _ d => uptoBulk d + 1
  | .map entries => uptoBulkEntries entries + 1
  | .held _ => 1
def uptoBulkAll {H : Type} : List (DataW H) → Nat
  | [] => 0
  | d :: r => uptoBulk d + uptoBulkAll r
def uptoBulkEntries {H : Type} : List (Lit × DataW H) → Nat
  | [] => 0
  | x :: r => uptoBulkEntry x + uptoBulkEntries r
def uptoBulkEntry {H : Type} : Lit × DataW H → Nat
  | (.string bytes, d) => bytes.length + uptoBulk d + 1
  | (_, d) => uptoBulk d + 1
 end
def uptoSmall : (H : Type) → List (DataW H) → Bool := fun _ ds => decide (uptoBulkAll ds ≤ 1048576)
def OpenSpec.upto (s : _root_.Go.ChangeSpec) : _root_.Go.OpenSpec := { _root_.Go.OpenSpec.ofChange s with cond := some uptoSmall }

/-- 'kauditlaw35.SenderGreets', WHERE WHAT IT READS IS OF BULK AT MOST 1048576: true; the input reads as it did. -/
def senderGreetsUptoRow : OpenClaim := { program := "ythojpjhnhipfpaa", sum := "55348ee0acc6ffc56fefc30c2f8b64230fc9d3535398cc87ed1e4133e8aef15e", func := "kaudit/kauditlaw35.SenderGreets", spec := "senderGreets", unfollowed := true, recurses := true, apart := false, narrowed := true }
def SenderGreetsUptoSaid : Prop := senderGreetsUptoRow.holds Try.pinned (OpenSpec.upto senderGreetsSpec)

/-- 'kauditlaw35.SenderWaits', WHERE WHAT IT READS IS OF BULK AT MOST 1048576: true; the input reads as it did. -/
def senderWaitsUptoRow : OpenClaim := { program := "ythojpjhnhipfpaa", sum := "55348ee0acc6ffc56fefc30c2f8b64230fc9d3535398cc87ed1e4133e8aef15e", func := "kaudit/kauditlaw35.SenderWaits", spec := "senderWaits", unfollowed := true, recurses := true, apart := false, narrowed := true }
def SenderWaitsUptoSaid : Prop := senderWaitsUptoRow.holds Try.pinned (OpenSpec.upto senderWaitsSpec)

/-- 'kauditlaw33.WireEncodes', WHERE WHAT IT READS IS OF BULK AT MOST 1048576: true; the input reads as it did. -/
def wireEncodesUptoRow : OpenClaim := { program := "ythojpjhnhipfpaa", sum := "55348ee0acc6ffc56fefc30c2f8b64230fc9d3535398cc87ed1e4133e8aef15e", func := "kaudit/kauditlaw33.WireEncodes", spec := "wireEncodes", apart := false, narrowed := true }
def WireEncodesUptoSaid : Prop := wireEncodesUptoRow.holds Try.pinned (OpenSpec.upto wireEncodesSpec)

/-- 'kauditlaw33.WireFeeds', WHERE WHAT IT READS IS OF BULK AT MOST 1048576: true; the input reads as it did. -/
def wireFeedsUptoRow : OpenClaim := { program := "ythojpjhnhipfpaa", sum := "55348ee0acc6ffc56fefc30c2f8b64230fc9d3535398cc87ed1e4133e8aef15e", func := "kaudit/kauditlaw33.WireFeeds", spec := "wireFeeds", apart := false, narrowed := true }
def WireFeedsUptoSaid : Prop := wireFeedsUptoRow.holds Try.pinned (OpenSpec.upto wireFeedsSpec)

/-- 'kauditlaw33.WirePieces', WHERE WHAT IT READS IS OF BULK AT MOST 1048576: true; the input reads as it did. -/
def wirePiecesUptoRow : OpenClaim := { program := "ythojpjhnhipfpaa", sum := "55348ee0acc6ffc56fefc30c2f8b64230fc9d3535398cc87ed1e4133e8aef15e", func := "kaudit/kauditlaw33.WirePieces", spec := "wirePieces", apart := false, narrowed := true }
def WirePiecesUptoSaid : Prop := wirePiecesUptoRow.holds Try.pinned (OpenSpec.upto wirePiecesSpec)

/-- 'kauditlaw33.WireBack', WHERE WHAT IT READS IS OF BULK AT MOST 1048576: true; the input reads as it did. -/
def wireBackUptoRow : OpenClaim := { program := "ythojpjhnhipfpaa", sum := "55348ee0acc6ffc56fefc30c2f8b64230fc9d3535398cc87ed1e4133e8aef15e", func := "kaudit/kauditlaw33.WireBack", spec := "wireBack", apart := false, narrowed := true }
def WireBackUptoSaid : Prop := wireBackUptoRow.holds Try.pinned (OpenSpec.upto wireBackSpec)

end Rows
end Go.Proofs.Ythojpjhnhipfpaa
