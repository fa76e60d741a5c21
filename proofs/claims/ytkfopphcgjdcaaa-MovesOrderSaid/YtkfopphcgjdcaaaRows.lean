/-
  No cell of these rows narrows 'for every input' (looked for: loops, veiled, ifaces, maps, wideKeys, modest, calm, conditions, laid).
  DERIVED. THE GIVEN ROWS OF THIS SEAT. 5 by the template 'for every input the law returns true; each argument reads behind the call as it read before'; 0 by the template 'total and deterministic' (their statements: YtkfopphcgjdcaaaTotals.lean).
  GIVEN WITH THE SEED: the statements are not yours to turn. If you find one false, say at which input.
  Laid BY PROGRAM, IN A SANDBOX (cutbox-rows.mjs): the forced cells as the released guide's own fill.sh prints them over the translation 7589cb77aa77df97… (all of the seat's roots in one cut). By AI agents, Wed Nov 11 2026. No macro, syntax, notation, axiom, sorry.
-/
import Derived.Test.YtkfopphcgjdcaaaChecked
import GoSem.Claim
import GoSem.ClaimJoined
import GoSem.ClaimMapViews
import Derived.JoinedTies
import Derived.KernelRfl
namespace Go.Proofs.Ytkfopphcgjdcaaa
/- THE CELL 'sum', in the pinned program and in every row, IS THE sha256 OF THE DUMP (.gsa) THAT YtkfopphcgjdcaaaProg.lean LOADS. Nothing in Lean hashes anything: it is a label: what it is worth is what the hold of that sum in a sandbox is worth. -/
noncomputable def Try.pinned : Pinned := { name := "ytkfopphcgjdcaaa", sum := "7589cb77aa77df971432cb66cb97a3681f30be889cbb70df5c109efdbe860308", checked := Try.checked }
namespace Rows
def none {H : Type} : Left H := { results := [], args := [] }

/-- 'swagelaw18.MovesOrder': WHATEVER THE INPUT: true; the input reads as it did. -/
def movesOrderSpec : ChangeSpec := { name := "movesOrder", fn := fun _ => fun
  | [d1, d2] => { results := [.lit (.bool true)], args := [d1, d2] }
  | _ => none }
def movesOrderRow : OpenClaim := { program := "ytkfopphcgjdcaaa", sum := "7589cb77aa77df971432cb66cb97a3681f30be889cbb70df5c109efdbe860308", func := "swage/swagelaw18.MovesOrder", spec := "movesOrder", inPlace := ["maps.clone"], unfollowed := true, recurses := true, apart := false }
def MovesOrderSaid : Prop := movesOrderRow.holds Try.pinned (OpenSpec.ofChange movesOrderSpec)

/-- ITS FALSE NEIGHBOUR: 'it returns false'. Refute it at one input. -/
def movesOrderWrong : ChangeSpec := { name := "movesOrder", fn := fun _ => fun
  | [d1, d2] => { results := [.lit (.bool false)], args := [d1, d2] }
  | _ => none }
def MovesOrderWrongFalsely : Prop := movesOrderRow.holds Try.pinned (OpenSpec.ofChange movesOrderWrong)

/-- 'swagelaw18.MovesHold': WHATEVER THE INPUT: true; the input reads as it did. -/
def movesHoldSpec : ChangeSpec := { name := "movesHold", fn := fun _ => fun
  | [d1, d2] => { results := [.lit (.bool true)], args := [d1, d2] }
  | _ => none }
def movesHoldRow : OpenClaim := { program := "ytkfopphcgjdcaaa", sum := "7589cb77aa77df971432cb66cb97a3681f30be889cbb70df5c109efdbe860308", func := "swage/swagelaw18.MovesHold", spec := "movesHold", inPlace := ["maps.clone"], unfollowed := true, recurses := true, apart := false }
def MovesHoldSaid : Prop := movesHoldRow.holds Try.pinned (OpenSpec.ofChange movesHoldSpec)

/-- ITS FALSE NEIGHBOUR: 'it returns false'. Refute it at one input. -/
def movesHoldWrong : ChangeSpec := { name := "movesHold", fn := fun _ => fun
  | [d1, d2] => { results := [.lit (.bool false)], args := [d1, d2] }
  | _ => none }
def MovesHoldWrongFalsely : Prop := movesHoldRow.holds Try.pinned (OpenSpec.ofChange movesHoldWrong)

/-- 'swagelaw18.MovesAgree': WHATEVER THE INPUT: true; the input reads as it did. -/
def movesAgreeSpec : ChangeSpec := { name := "movesAgree", fn := fun _ => fun
  | [d1, d2, d3] => { results := [.lit (.bool true)], args := [d1, d2, d3] }
  | _ => none }
def movesAgreeRow : OpenClaim := { program := "ytkfopphcgjdcaaa", sum := "7589cb77aa77df971432cb66cb97a3681f30be889cbb70df5c109efdbe860308", func := "swage/swagelaw18.MovesAgree", spec := "movesAgree", inPlace := ["maps.clone"], unfollowed := true, recurses := true, apart := false }
def MovesAgreeSaid : Prop := movesAgreeRow.holds Try.pinned (OpenSpec.ofChange movesAgreeSpec)

/-- ITS FALSE NEIGHBOUR: 'it returns false'. Refute it at one input. -/
def movesAgreeWrong : ChangeSpec := { name := "movesAgree", fn := fun _ => fun
  | [d1, d2, d3] => { results := [.lit (.bool false)], args := [d1, d2, d3] }
  | _ => none }
def MovesAgreeWrongFalsely : Prop := movesAgreeRow.holds Try.pinned (OpenSpec.ofChange movesAgreeWrong)

/-- 'swagelaw18.MovesPlain': WHATEVER THE INPUT: true; the input reads as it did. -/
def movesPlainSpec : ChangeSpec := { name := "movesPlain", fn := fun _ => fun
  | [d1, d2] => { results := [.lit (.bool true)], args := [d1, d2] }
  | _ => none }
def movesPlainRow : OpenClaim := { program := "ytkfopphcgjdcaaa", sum := "7589cb77aa77df971432cb66cb97a3681f30be889cbb70df5c109efdbe860308", func := "swage/swagelaw18.MovesPlain", spec := "movesPlain", inPlace := ["maps.clone"], unfollowed := true, recurses := true, apart := false }
def MovesPlainSaid : Prop := movesPlainRow.holds Try.pinned (OpenSpec.ofChange movesPlainSpec)

/-- ITS FALSE NEIGHBOUR: 'it returns false'. Refute it at one input. -/
def movesPlainWrong : ChangeSpec := { name := "movesPlain", fn := fun _ => fun
  | [d1, d2] => { results := [.lit (.bool false)], args := [d1, d2] }
  | _ => none }
def MovesPlainWrongFalsely : Prop := movesPlainRow.holds Try.pinned (OpenSpec.ofChange movesPlainWrong)

/-- 'swagelaw18.MovesRound': WHATEVER THE INPUT: true; the input reads as it did. -/
def movesRoundSpec : ChangeSpec := { name := "movesRound", fn := fun _ => fun
  | [d] => { results := [.lit (.bool true)], args := [d] }
  | _ => none }
def movesRoundRow : OpenClaim := { program := "ytkfopphcgjdcaaa", sum := "7589cb77aa77df971432cb66cb97a3681f30be889cbb70df5c109efdbe860308", func := "swage/swagelaw18.MovesRound", spec := "movesRound", inPlace := ["maps.clone"], unfollowed := true, recurses := true, apart := false }
def MovesRoundSaid : Prop := movesRoundRow.holds Try.pinned (OpenSpec.ofChange movesRoundSpec)

/-- ITS FALSE NEIGHBOUR: 'it returns false'. Refute it at one input. -/
def movesRoundWrong : ChangeSpec := { name := "movesRound", fn := fun _ => fun
  | [d] => { results := [.lit (.bool false)], args := [d] }
  | _ => none }
def MovesRoundWrongFalsely : Prop := movesRoundRow.holds Try.pinned (OpenSpec.ofChange movesRoundWrong)

/- THE SECOND FORM. 'bulk': how many values and letters a reading holds, each counted each time it is reached (what is shared counts as often as it is met; a slice's spare places count too). A statement '..UptoSaid' is the law's where the arguments, and the package variables that the reading takes, are together of bulk at most 1048576: NARROWER than '..Said'. Prove '..Said' where nothing that the law and all that it calls make is longer than what came in: it says more and counts as full. Else prove '..UptoSaid'. A law counts once. -/
mutual
def uptoBulk {H : Type} : DataW H → Nat
  | .lit (.string bytes) => bytes.length + 1
  | .lit _ => 1
  | .nil => 1
  | .ptr d => uptoBulk d + 1
  | .slice elems spare => uptoBulkAll elems + uptoBulkAll spare + 1
  | .agg parts => uptoBulkAll parts + 1
  | .iface _ d => uptoBulk d + 1
  | .map entries => uptoBulkEntries entries + 1
  | .held _ => 1
def uptoBulkAll {H : Type} : List (DataW H) → Nat
  | [] => 0
  | d :: r => uptoBulk d + uptoBulkAll r
def uptoBulkEntries {H : Type} : List (Lit × DataW H) → Nat
  | [] => 0
  | x :: r => uptoBulkEntry x + uptoBulkEntries r
def uptoBulkEntry {H : Type} : Lit × DataW H → Nat
  | (.string bytes, d) => bytes.length + uptoBulk d + 1
  | (_, d) => uptoBulk d + 1
 end
def uptoSmall : (H : Type) → List (DataW H) → Bool := fun _ ds => decide (uptoBulkAll ds ≤ 1048576)
def OpenSpec.upto (s : _root_.Go.ChangeSpec) : _root_.Go.OpenSpec := { _root_.Go.OpenSpec.ofChange s with cond := some uptoSmall }

/-- 'swagelaw18.MovesOrder', WHERE WHAT IT READS IS OF BULK AT MOST 1048576: true; the input reads as it did. -/
def movesOrderUptoRow : OpenClaim := { program := "ytkfopphcgjdcaaa", sum := "7589cb77aa77df971432cb66cb97a3681f30be889cbb70df5c109efdbe860308", func := "swage/swagelaw18.MovesOrder", spec := "movesOrder", inPlace := ["maps.clone"], unfollowed := true, recurses := true, apart := false, narrowed := true }
def MovesOrderUptoSaid : Prop := movesOrderUptoRow.holds Try.pinned (OpenSpec.upto movesOrderSpec)

/-- 'swagelaw18.MovesHold', WHERE WHAT IT READS IS OF BULK AT MOST 1048576: true; the input reads as it did. -/
def movesHoldUptoRow : OpenClaim := { program := "ytkfopphcgjdcaaa", sum := "7589cb77aa77df971432cb66cb97a3681f30be889cbb70df5c109efdbe860308", func := "swage/swagelaw18.MovesHold", spec := "movesHold", inPlace := ["maps.clone"], unfollowed := true, recurses := true, apart := false, narrowed := true }
def MovesHoldUptoSaid : Prop := movesHoldUptoRow.holds Try.pinned (OpenSpec.upto movesHoldSpec)

/-- 'swagelaw18.MovesAgree', WHERE WHAT IT READS IS OF BULK AT MOST 1048576: true; the input reads as it did. -/
def movesAgreeUptoRow : OpenClaim := { program := "ytkfopphcgjdcaaa", sum := "7589cb77aa77df971432cb66cb97a3681f30be889cbb70df5c109efdbe860308", func := "swage/swagelaw18.MovesAgree", spec := "movesAgree", inPlace := ["maps.clone"], unfollowed := true, recurses := true, apart := false, narrowed := true }
def MovesAgreeUptoSaid : Prop := movesAgreeUptoRow.holds Try.pinned (OpenSpec.upto movesAgreeSpec)

/-- 'swagelaw18.MovesPlain', WHERE WHAT IT READS IS OF BULK AT MOST 1048576: true; the input reads as it did. -/
def movesPlainUptoRow : OpenClaim := { program := "ytkfopphcgjdcaaa", sum := "7589cb77aa77df971432cb66cb97a3681f30be889cbb70df5c109efdbe860308", func := "swage/swagelaw18.MovesPlain", spec := "movesPlain", inPlace := ["maps.clone"], unfollowed := true, recurses := true, apart := false, narrowed := true }
def MovesPlainUptoSaid : Prop := movesPlainUptoRow.holds Try.pinned (OpenSpec.upto movesPlainSpec)

/-- 'swagelaw18.MovesRound', WHERE WHAT IT READS IS OF BULK AT MOST 1048576: true; the input reads as it did. -/
def movesRoundUptoRow : OpenClaim := { program := "ytkfopphcgjdcaaa", sum := "7589cb77aa77df971432cb66cb97a3681f30be889cbb70df5c109efdbe860308", func := "swage/swagelaw18.MovesRound", spec := "movesRound", inPlace := ["maps.clone"], unfollowed := true, recurses := true, apart := false, narrowed := true }
def MovesRoundUptoSaid : Prop := movesRoundUptoRow.holds Try.pinned (OpenSpec.upto movesRoundSpec)

end Rows
end Go.Proofs.Ytkfopphcgjdcaaa
