/-
  No cell of these rows narrows 'for every input' (looked for: loops, veiled, ifaces, maps, wideKeys, modest, calm, conditions, laid).
  DERIVED. THE GIVEN ROWS OF THIS SEAT. 5 by the template 'for every input the law returns true; each argument reads behind the call as it read before'; 0 by the template 'total and deterministic' (their statements: YtphmlkbmnmicpaaTotals.lean).
  GIVEN WITH THE SEED: the statements are not yours to turn. If you find one false, say at which input.
  Laid BY PROGRAM, IN A SANDBOX (cutbox-rows.mjs): the forced cells as the released guide's own fill.sh prints them over the translation 51655fd9a06bdb80… (all of the seat's roots in one cut). By AI agents, Wed Nov 11 2026. No macro, syntax, notation, axiom, sorry.
-/
import Derived.Test.YtphmlkbmnmicpaaChecked
import GoSem.Claim
import GoSem.ClaimJoined
import GoSem.ClaimMapViews
import Derived.JoinedTies
import Derived.KernelRfl
namespace Go.Proofs.Ytphmlkbmnmicpaa
/- THE CELL 'sum', in the pinned program and in every row, IS THE sha256 OF THE DUMP (.gsa) THAT YtphmlkbmnmicpaaProg.lean LOADS. Nothing in Lean hashes anything: it is a label: what it is worth is what the hold of that sum in a sandbox is worth. -/
noncomputable def Try.pinned : Pinned := { name := "ytphmlkbmnmicpaa", sum := "51655fd9a06bdb8082c9c5a82a3d9f4f811789ede3dc1eafec863817e887b1bb", checked := Try.checked }
namespace Rows
def none {H : Type} : Left H := { results := [], args := [] }

/-- 'swagelaw27.SchedTells': WHATEVER THE INPUT: true; the input reads as it did. -/
def schedTellsSpec : ChangeSpec := { name := "schedTells", fn := fun _ => fun
  | [d1, d2] => { results := [.lit (.bool true)], args := [d1, d2] }
  | _ => none }
def schedTellsRow : OpenClaim := { program := "ytphmlkbmnmicpaa", sum := "51655fd9a06bdb8082c9c5a82a3d9f4f811789ede3dc1eafec863817e887b1bb", func := "swage/swagelaw27.SchedTells", spec := "schedTells", unfollowed := true, recurses := true, apart := false }
def SchedTellsSaid : Prop := schedTellsRow.holds Try.pinned (OpenSpec.ofChange schedTellsSpec)

/-- ITS FALSE NEIGHBOUR: 'it returns false'. Refute it at one input. -/
def schedTellsWrong : ChangeSpec := { name := "schedTells", fn := fun _ => fun
  | [d1, d2] => { results := [.lit (.bool false)], args := [d1, d2] }
  | _ => none }
def SchedTellsWrongFalsely : Prop := schedTellsRow.holds Try.pinned (OpenSpec.ofChange schedTellsWrong)

/-- 'swagelaw27.SchedMay': WHATEVER THE INPUT: true; the input reads as it did. -/
def schedMaySpec : ChangeSpec := { name := "schedMay", fn := fun _ => fun
  | [d] => { results := [.lit (.bool true)], args := [d] }
  | _ => none }
def schedMayRow : OpenClaim := { program := "ytphmlkbmnmicpaa", sum := "51655fd9a06bdb8082c9c5a82a3d9f4f811789ede3dc1eafec863817e887b1bb", func := "swage/swagelaw27.SchedMay", spec := "schedMay", unfollowed := true, recurses := true, apart := false }
def SchedMaySaid : Prop := schedMayRow.holds Try.pinned (OpenSpec.ofChange schedMaySpec)

/-- ITS FALSE NEIGHBOUR: 'it returns false'. Refute it at one input. -/
def schedMayWrong : ChangeSpec := { name := "schedMay", fn := fun _ => fun
  | [d] => { results := [.lit (.bool false)], args := [d] }
  | _ => none }
def SchedMayWrongFalsely : Prop := schedMayRow.holds Try.pinned (OpenSpec.ofChange schedMayWrong)

/-- 'swagelaw27.SchedHeights': WHATEVER THE INPUT: true; the input reads as it did. -/
def schedHeightsSpec : ChangeSpec := { name := "schedHeights", fn := fun _ => fun
  | [d] => { results := [.lit (.bool true)], args := [d] }
  | _ => none }
def schedHeightsRow : OpenClaim := { program := "ytphmlkbmnmicpaa", sum := "51655fd9a06bdb8082c9c5a82a3d9f4f811789ede3dc1eafec863817e887b1bb", func := "swage/swagelaw27.SchedHeights", spec := "schedHeights", unfollowed := true, recurses := true, apart := false }
def SchedHeightsSaid : Prop := schedHeightsRow.holds Try.pinned (OpenSpec.ofChange schedHeightsSpec)

/-- ITS FALSE NEIGHBOUR: 'it returns false'. Refute it at one input. -/
def schedHeightsWrong : ChangeSpec := { name := "schedHeights", fn := fun _ => fun
  | [d] => { results := [.lit (.bool false)], args := [d] }
  | _ => none }
def SchedHeightsWrongFalsely : Prop := schedHeightsRow.holds Try.pinned (OpenSpec.ofChange schedHeightsWrong)

/-- 'swagelaw27.SchedAlone': WHATEVER THE INPUT: true; the input reads as it did. -/
def schedAloneSpec : ChangeSpec := { name := "schedAlone", fn := fun _ => fun
  | [d] => { results := [.lit (.bool true)], args := [d] }
  | _ => none }
def schedAloneRow : OpenClaim := { program := "ytphmlkbmnmicpaa", sum := "51655fd9a06bdb8082c9c5a82a3d9f4f811789ede3dc1eafec863817e887b1bb", func := "swage/swagelaw27.SchedAlone", spec := "schedAlone", unfollowed := true, recurses := true, apart := false }
def SchedAloneSaid : Prop := schedAloneRow.holds Try.pinned (OpenSpec.ofChange schedAloneSpec)

/-- ITS FALSE NEIGHBOUR: 'it returns false'. Refute it at one input. -/
def schedAloneWrong : ChangeSpec := { name := "schedAlone", fn := fun _ => fun
  | [d] => { results := [.lit (.bool false)], args := [d] }
  | _ => none }
def SchedAloneWrongFalsely : Prop := schedAloneRow.holds Try.pinned (OpenSpec.ofChange schedAloneWrong)

/-- 'swagelaw27.SchedChain': WHATEVER THE INPUT: true; the input reads as it did. -/
def schedChainSpec : ChangeSpec := { name := "schedChain", fn := fun _ => fun
  | [d] => { results := [.lit (.bool true)], args := [d] }
  | _ => none }
def schedChainRow : OpenClaim := { program := "ytphmlkbmnmicpaa", sum := "51655fd9a06bdb8082c9c5a82a3d9f4f811789ede3dc1eafec863817e887b1bb", func := "swage/swagelaw27.SchedChain", spec := "schedChain", unfollowed := true, recurses := true, apart := false }
def SchedChainSaid : Prop := schedChainRow.holds Try.pinned (OpenSpec.ofChange schedChainSpec)

/-- ITS FALSE NEIGHBOUR: 'it returns false'. Refute it at one input. -/
def schedChainWrong : ChangeSpec := { name := "schedChain", fn := fun _ => fun
  | [d] => { results := [.lit (.bool false)], args := [d] }
  | _ => none }
def SchedChainWrongFalsely : Prop := schedChainRow.holds Try.pinned (OpenSpec.ofChange schedChainWrong)

/- THE SECOND FORM. 'bulk': how many values and letters a reading holds, each counted each time it is reached (what is shared counts as often as it is met; a slice's spare places count too). A statement '..UptoSaid' is the law's where the arguments, and the package variables that the reading takes, are together of bulk at most 1048576: NARROWER than '..Said'. Prove '..Said' where nothing that the law and all that it calls make is longer than what came in: it says more and counts as full. Else prove '..UptoSaid'. A law counts once. -/
mutual
def uptoBulk {H : Type} : DataW H → Nat
  | .lit (.string bytes) => bytes.length + 1
  | .lit _ => 1
  | .nil => 1
  | .ptr d => uptoBulk d + 1
  | .slice elems spare => uptoBulkAll elems + uptoBulkAll spare + 1
  | .agg parts => uptoBulkAll parts + 1
  | .iface _ d => uptoBulk d + 1
  | .map entries => uptoBulkEntries entries + 1
  | .held _ => 1
def uptoBulkAll {H : Type} : List (DataW H) → Nat
  | [] => 0
  | d :: r => uptoBulk d + uptoBulkAll r
def uptoBulkEntries {H : Type} : List (Lit × DataW H) → Nat
  | [] => 0
  | x :: r => uptoBulkEntry x + uptoBulkEntries r
def uptoBulkEntry {H : Type} : Lit × DataW H → Nat
  | (.string bytes, d) => bytes.length + uptoBulk d + 1
  | (_, d) => uptoBulk d + 1
 end
def uptoSmall : (H : Type) → List (DataW H) → Bool := fun _ ds => decide (uptoBulkAll ds ≤ 1048576)
def OpenSpec.upto (s : _root_.Go.ChangeSpec) : _root_.Go.OpenSpec := { _root_.Go.OpenSpec.ofChange s with cond := some uptoSmall }

/-- 'swagelaw27.SchedTells', WHERE WHAT IT READS IS OF BULK AT MOST 1048576: true; the input reads as it did. -/
def schedTellsUptoRow : OpenClaim := { program := "ytphmlkbmnmicpaa", sum := "51655fd9a06bdb8082c9c5a82a3d9f4f811789ede3dc1eafec863817e887b1bb", func := "swage/swagelaw27.SchedTells", spec := "schedTells", unfollowed := true, recurses := true, apart := false, narrowed := true }
def SchedTellsUptoSaid : Prop := schedTellsUptoRow.holds Try.pinned (OpenSpec.upto schedTellsSpec)

/-- 'swagelaw27.SchedMay', WHERE WHAT IT READS IS OF BULK AT MOST 1048576: true; the input reads as it did. -/
def schedMayUptoRow : OpenClaim := { program := "ytphmlkbmnmicpaa", sum := "51655fd9a06bdb8082c9c5a82a3d9f4f811789ede3dc1eafec863817e887b1bb", func := "swage/swagelaw27.SchedMay", spec := "schedMay", unfollowed := true, recurses := true, apart := false, narrowed := true }
def SchedMayUptoSaid : Prop := schedMayUptoRow.holds Try.pinned (OpenSpec.upto schedMaySpec)

/-- 'swagelaw27.SchedHeights', WHERE WHAT IT READS IS OF BULK AT MOST 1048576: true; the input reads as it did. -/
def schedHeightsUptoRow : OpenClaim := { program := "ytphmlkbmnmicpaa", sum := "51655fd9a06bdb8082c9c5a82a3d9f4f811789ede3dc1eafec863817e887b1bb", func := "swage/swagelaw27.SchedHeights", spec := "schedHeights", unfollowed := true, recurses := true, apart := false, narrowed := true }
def SchedHeightsUptoSaid : Prop := schedHeightsUptoRow.holds Try.pinned (OpenSpec.upto schedHeightsSpec)

/-- 'swagelaw27.SchedAlone', WHERE WHAT IT READS IS OF BULK AT MOST 1048576: true; the input reads as it did. -/
def schedAloneUptoRow : OpenClaim := { program := "ytphmlkbmnmicpaa", sum := "51655fd9a06bdb8082c9c5a82a3d9f4f811789ede3dc1eafec863817e887b1bb", func := "swage/swagelaw27.SchedAlone", spec := "schedAlone", unfollowed := true, recurses := true, apart := false, narrowed := true }
def SchedAloneUptoSaid : Prop := schedAloneUptoRow.holds Try.pinned (OpenSpec.upto schedAloneSpec)

/-- 'swagelaw27.SchedChain', WHERE WHAT IT READS IS OF BULK AT MOST 1048576: true; the input reads as it did. -/
def schedChainUptoRow : OpenClaim := { program := "ytphmlkbmnmicpaa", sum := "51655fd9a06bdb8082c9c5a82a3d9f4f811789ede3dc1eafec863817e887b1bb", func := "swage/swagelaw27.SchedChain", spec := "schedChain", unfollowed := true, recurses := true, apart := false, narrowed := true }
def SchedChainUptoSaid : Prop := schedChainUptoRow.holds Try.pinned (OpenSpec.upto schedChainSpec)

end Rows
end Go.Proofs.Ytphmlkbmnmicpaa
