/-
  No cell of these rows narrows 'for every input' (looked for: loops, veiled, ifaces, maps, wideKeys, modest, calm, conditions, laid).
  DERIVED. THE GIVEN ROWS OF THIS SEAT. 10 by the template 'for every input the law returns true; each argument reads behind the call as it read before'; 0 by the template 'total and deterministic' (their statements: YtkmbhknmjnbanaaTotals.lean).
  GIVEN WITH THE SEED: the statements are not yours to turn. If you find one false, say at which input.
  Laid BY PROGRAM, IN A SANDBOX (cutbox-rows.mjs): the forced cells as the released guide's own fill.sh prints them over the translation cb6ab83b7497f2ed… (all of the seat's roots in one cut). By AI agents, Wed Nov 11 2026. No macro, syntax, notation, axiom, sorry.
-/
import Derived.Test.YtkmbhknmjnbanaaChecked
import GoSem.Claim
import GoSem.ClaimJoined
import GoSem.ClaimMapViews
import Derived.JoinedTies
import Derived.KernelRfl
namespace Go.Proofs.Ytkmbhknmjnbanaa
/- THE CELL 'sum', in the pinned program and in every row, IS THE sha256 OF THE DUMP (.gsa) THAT YtkmbhknmjnbanaaProg.lean LOADS. Nothing in Lean hashes anything: it is a label: what it is worth is what the hold of that sum in a sandbox is worth. -/
noncomputable def Try.pinned : Pinned := { name := "ytkmbhknmjnbanaa", sum := "cb6ab83b7497f2ed132b8f09349112d40c0c1d214c7825252de9339a02b95210", checked := Try.checked }
namespace Rows
def none {H : Type} : Left H := { results := [], args := [] }

/-- 'swagelaw06.GraphTells': WHATEVER THE INPUT: true; the input reads as it did. -/
def graphTellsSpec : ChangeSpec := { name := "graphTells", fn := fun _ => fun
  | [d1, d2] => { results := [.lit (.bool true)], args := [d1, d2] }
  | _ => none }
def graphTellsRow : OpenClaim := { program := "ytkmbhknmjnbanaa", sum := "cb6ab83b7497f2ed132b8f09349112d40c0c1d214c7825252de9339a02b95210", func := "swage/swagelaw06.GraphTells", spec := "graphTells", unfollowed := true, recurses := true, apart := false }
def GraphTellsSaid : Prop := graphTellsRow.holds Try.pinned (OpenSpec.ofChange graphTellsSpec)

/-- ITS FALSE NEIGHBOUR: 'it returns false'. Refute it at one input. -/
def graphTellsWrong : ChangeSpec := { name := "graphTells", fn := fun _ => fun
  | [d1, d2] => { results := [.lit (.bool false)], args := [d1, d2] }
  | _ => none }
def GraphTellsWrongFalsely : Prop := graphTellsRow.holds Try.pinned (OpenSpec.ofChange graphTellsWrong)

/-- 'swagelaw06.GraphOrders': WHATEVER THE INPUT: true; the input reads as it did. -/
def graphOrdersSpec : ChangeSpec := { name := "graphOrders", fn := fun _ => fun
  | [d] => { results := [.lit (.bool true)], args := [d] }
  | _ => none }
def graphOrdersRow : OpenClaim := { program := "ytkmbhknmjnbanaa", sum := "cb6ab83b7497f2ed132b8f09349112d40c0c1d214c7825252de9339a02b95210", func := "swage/swagelaw06.GraphOrders", spec := "graphOrders", unfollowed := true, recurses := true, apart := false }
def GraphOrdersSaid : Prop := graphOrdersRow.holds Try.pinned (OpenSpec.ofChange graphOrdersSpec)

/-- ITS FALSE NEIGHBOUR: 'it returns false'. Refute it at one input. -/
def graphOrdersWrong : ChangeSpec := { name := "graphOrders", fn := fun _ => fun
  | [d] => { results := [.lit (.bool false)], args := [d] }
  | _ => none }
def GraphOrdersWrongFalsely : Prop := graphOrdersRow.holds Try.pinned (OpenSpec.ofChange graphOrdersWrong)

/-- 'swagelaw06.GraphOnward': WHATEVER THE INPUT: true; the input reads as it did. -/
def graphOnwardSpec : ChangeSpec := { name := "graphOnward", fn := fun _ => fun
  | [d] => { results := [.lit (.bool true)], args := [d] }
  | _ => none }
def graphOnwardRow : OpenClaim := { program := "ytkmbhknmjnbanaa", sum := "cb6ab83b7497f2ed132b8f09349112d40c0c1d214c7825252de9339a02b95210", func := "swage/swagelaw06.GraphOnward", spec := "graphOnward", unfollowed := true, recurses := true, apart := false }
def GraphOnwardSaid : Prop := graphOnwardRow.holds Try.pinned (OpenSpec.ofChange graphOnwardSpec)

/-- ITS FALSE NEIGHBOUR: 'it returns false'. Refute it at one input. -/
def graphOnwardWrong : ChangeSpec := { name := "graphOnward", fn := fun _ => fun
  | [d] => { results := [.lit (.bool false)], args := [d] }
  | _ => none }
def GraphOnwardWrongFalsely : Prop := graphOnwardRow.holds Try.pinned (OpenSpec.ofChange graphOnwardWrong)

/-- 'swagelaw06.GraphLoops': WHATEVER THE INPUT: true; the input reads as it did. -/
def graphLoopsSpec : ChangeSpec := { name := "graphLoops", fn := fun _ => fun
  | [d] => { results := [.lit (.bool true)], args := [d] }
  | _ => none }
def graphLoopsRow : OpenClaim := { program := "ytkmbhknmjnbanaa", sum := "cb6ab83b7497f2ed132b8f09349112d40c0c1d214c7825252de9339a02b95210", func := "swage/swagelaw06.GraphLoops", spec := "graphLoops", unfollowed := true, recurses := true, apart := false }
def GraphLoopsSaid : Prop := graphLoopsRow.holds Try.pinned (OpenSpec.ofChange graphLoopsSpec)

/-- ITS FALSE NEIGHBOUR: 'it returns false'. Refute it at one input. -/
def graphLoopsWrong : ChangeSpec := { name := "graphLoops", fn := fun _ => fun
  | [d] => { results := [.lit (.bool false)], args := [d] }
  | _ => none }
def GraphLoopsWrongFalsely : Prop := graphLoopsRow.holds Try.pinned (OpenSpec.ofChange graphLoopsWrong)

/-- 'swagelaw06.GraphReaches': WHATEVER THE INPUT: true; the input reads as it did. -/
def graphReachesSpec : ChangeSpec := { name := "graphReaches", fn := fun _ => fun
  | [d1, d2] => { results := [.lit (.bool true)], args := [d1, d2] }
  | _ => none }
def graphReachesRow : OpenClaim := { program := "ytkmbhknmjnbanaa", sum := "cb6ab83b7497f2ed132b8f09349112d40c0c1d214c7825252de9339a02b95210", func := "swage/swagelaw06.GraphReaches", spec := "graphReaches", unfollowed := true, recurses := true, apart := false }
def GraphReachesSaid : Prop := graphReachesRow.holds Try.pinned (OpenSpec.ofChange graphReachesSpec)

/-- ITS FALSE NEIGHBOUR: 'it returns false'. Refute it at one input. -/
def graphReachesWrong : ChangeSpec := { name := "graphReaches", fn := fun _ => fun
  | [d1, d2] => { results := [.lit (.bool false)], args := [d1, d2] }
  | _ => none }
def GraphReachesWrongFalsely : Prop := graphReachesRow.holds Try.pinned (OpenSpec.ofChange graphReachesWrong)

/-- 'swagelaw06.GraphChain': WHATEVER THE INPUT: true; the input reads as it did. -/
def graphChainSpec : ChangeSpec := { name := "graphChain", fn := fun _ => fun
  | [d1, d2, d3] => { results := [.lit (.bool true)], args := [d1, d2, d3] }
  | _ => none }
def graphChainRow : OpenClaim := { program := "ytkmbhknmjnbanaa", sum := "cb6ab83b7497f2ed132b8f09349112d40c0c1d214c7825252de9339a02b95210", func := "swage/swagelaw06.GraphChain", spec := "graphChain", unfollowed := true, recurses := true, apart := false }
def GraphChainSaid : Prop := graphChainRow.holds Try.pinned (OpenSpec.ofChange graphChainSpec)

/-- ITS FALSE NEIGHBOUR: 'it returns false'. Refute it at one input. -/
def graphChainWrong : ChangeSpec := { name := "graphChain", fn := fun _ => fun
  | [d1, d2, d3] => { results := [.lit (.bool false)], args := [d1, d2, d3] }
  | _ => none }
def GraphChainWrongFalsely : Prop := graphChainRow.holds Try.pinned (OpenSpec.ofChange graphChainWrong)

/-- 'swagelaw07.DomRows': WHATEVER THE INPUT: true; the input reads as it did. -/
def domRowsSpec : ChangeSpec := { name := "domRows", fn := fun _ => fun
  | [d1, d2, d3] => { results := [.lit (.bool true)], args := [d1, d2, d3] }
  | _ => none }
def domRowsRow : OpenClaim := { program := "ytkmbhknmjnbanaa", sum := "cb6ab83b7497f2ed132b8f09349112d40c0c1d214c7825252de9339a02b95210", func := "swage/swagelaw07.DomRows", spec := "domRows", unfollowed := true, recurses := true, apart := false }
def DomRowsSaid : Prop := domRowsRow.holds Try.pinned (OpenSpec.ofChange domRowsSpec)

/-- ITS FALSE NEIGHBOUR: 'it returns false'. Refute it at one input. -/
def domRowsWrong : ChangeSpec := { name := "domRows", fn := fun _ => fun
  | [d1, d2, d3] => { results := [.lit (.bool false)], args := [d1, d2, d3] }
  | _ => none }
def DomRowsWrongFalsely : Prop := domRowsRow.holds Try.pinned (OpenSpec.ofChange domRowsWrong)

/-- 'swagelaw07.DomChain': WHATEVER THE INPUT: true; the input reads as it did. -/
def domChainSpec : ChangeSpec := { name := "domChain", fn := fun _ => fun
  | [d1, d2] => { results := [.lit (.bool true)], args := [d1, d2] }
  | _ => none }
def domChainRow : OpenClaim := { program := "ytkmbhknmjnbanaa", sum := "cb6ab83b7497f2ed132b8f09349112d40c0c1d214c7825252de9339a02b95210", func := "swage/swagelaw07.DomChain", spec := "domChain", unfollowed := true, recurses := true, apart := false }
def DomChainSaid : Prop := domChainRow.holds Try.pinned (OpenSpec.ofChange domChainSpec)

/-- ITS FALSE NEIGHBOUR: 'it returns false'. Refute it at one input. -/
def domChainWrong : ChangeSpec := { name := "domChain", fn := fun _ => fun
  | [d1, d2] => { results := [.lit (.bool false)], args := [d1, d2] }
  | _ => none }
def DomChainWrongFalsely : Prop := domChainRow.holds Try.pinned (OpenSpec.ofChange domChainWrong)

/-- 'swagelaw07.DomCloses': WHATEVER THE INPUT: true; the input reads as it did. -/
def domClosesSpec : ChangeSpec := { name := "domCloses", fn := fun _ => fun
  | [d1, d2] => { results := [.lit (.bool true)], args := [d1, d2] }
  | _ => none }
def domClosesRow : OpenClaim := { program := "ytkmbhknmjnbanaa", sum := "cb6ab83b7497f2ed132b8f09349112d40c0c1d214c7825252de9339a02b95210", func := "swage/swagelaw07.DomCloses", spec := "domCloses", unfollowed := true, recurses := true, apart := false }
def DomClosesSaid : Prop := domClosesRow.holds Try.pinned (OpenSpec.ofChange domClosesSpec)

/-- ITS FALSE NEIGHBOUR: 'it returns false'. Refute it at one input. -/
def domClosesWrong : ChangeSpec := { name := "domCloses", fn := fun _ => fun
  | [d1, d2] => { results := [.lit (.bool false)], args := [d1, d2] }
  | _ => none }
def DomClosesWrongFalsely : Prop := domClosesRow.holds Try.pinned (OpenSpec.ofChange domClosesWrong)

/-- 'swagelaw07.DomTree': WHATEVER THE INPUT: true; the input reads as it did. -/
def domTreeSpec : ChangeSpec := { name := "domTree", fn := fun _ => fun
  | [d] => { results := [.lit (.bool true)], args := [d] }
  | _ => none }
def domTreeRow : OpenClaim := { program := "ytkmbhknmjnbanaa", sum := "cb6ab83b7497f2ed132b8f09349112d40c0c1d214c7825252de9339a02b95210", func := "swage/swagelaw07.DomTree", spec := "domTree", unfollowed := true, recurses := true, apart := false }
def DomTreeSaid : Prop := domTreeRow.holds Try.pinned (OpenSpec.ofChange domTreeSpec)

/-- ITS FALSE NEIGHBOUR: 'it returns false'. Refute it at one input. -/
def domTreeWrong : ChangeSpec := { name := "domTree", fn := fun _ => fun
  | [d] => { results := [.lit (.bool false)], args := [d] }
  | _ => none }
def DomTreeWrongFalsely : Prop := domTreeRow.holds Try.pinned (OpenSpec.ofChange domTreeWrong)

/- THE SECOND FORM. 'bulk': how many values and letters a reading holds, each counted each time it is reached (what is shared counts as often as it is met; a slice's spare places count too). A statement '..UptoSaid' is the law's where the arguments, and the package variables that the reading takes, are together of bulk at most 1048576: NARROWER than '..Said'. Prove '..Said' where nothing that the law and all that it calls make is longer than what came in: it says more and counts as full. Else prove '..UptoSaid'. A law counts once. -/
mutual
def uptoBulk {H : Type} : DataW H → Nat
  | .lit (.string bytes) => bytes.length + 1
  | .lit _ => 1
  | .nil => 1
  | .ptr d => uptoBulk d + 1
  | .slice elems spare => uptoBulkAll elems + uptoBulkAll spare + 1
  | .agg parts => uptoBulkAll parts + 1
  | .iface _ d => uptoBulk d + 1
  | .map entries => uptoBulkEntries entries + 1
  | .held _ => 1
def uptoBulkAll {H : Type} : List (DataW H) → Nat
  | [] => 0
  | d :: r => uptoBulk d + uptoBulkAll r
def uptoBulkEntries {H : Type} : List (Lit × DataW H) → Nat
  | [] => 0
  | x :: r => uptoBulkEntry x + uptoBulkEntries r
def uptoBulkEntry {H : Type} : Lit × DataW H → Nat
  | (.string bytes, d) => bytes.length + uptoBulk d + 1
  | (_, d) => uptoBulk d + 1
 end
def uptoSmall : (H : Type) → List (DataW H) → Bool := fun _ ds => decide (uptoBulkAll ds ≤ 1048576)
def OpenSpec.upto (s : _root_.Go.ChangeSpec) : _root_.Go.OpenSpec := { _root_.Go.OpenSpec.ofChange s with cond := some uptoSmall }

/-- 'swagelaw06.GraphTells', WHERE WHAT IT READS IS OF BULK AT MOST 1048576: true; the input reads as it did. -/
def graphTellsUptoRow : OpenClaim := { program := "ytkmbhknmjnbanaa", sum := "cb6ab83b7497f2ed132b8f09349112d40c0c1d214c7825252de9339a02b95210", func := "swage/swagelaw06.GraphTells", spec := "graphTells", unfollowed := true, recurses := true, apart := false, narrowed := true }
def GraphTellsUptoSaid : Prop := graphTellsUptoRow.holds Try.pinned (OpenSpec.upto graphTellsSpec)

/-- 'swagelaw06.GraphOrders', WHERE WHAT IT READS IS OF BULK AT MOST 1048576: true; the input reads as it did. -/
def graphOrdersUptoRow : OpenClaim := { program := "ytkmbhknmjnbanaa", sum := "cb6ab83b7497f2ed132b8f09349112d40c0c1d214c7825252de9339a02b95210", func := "swage/swagelaw06.GraphOrders", spec := "graphOrders", unfollowed := true, recurses := true, apart := false, narrowed := true }
def GraphOrdersUptoSaid : Prop := graphOrdersUptoRow.holds Try.pinned (OpenSpec.upto graphOrdersSpec)

/-- 'swagelaw06.GraphOnward', WHERE WHAT IT READS IS OF BULK AT MOST 1048576: true; the input reads as it did. -/
def graphOnwardUptoRow : OpenClaim := { program := "ytkmbhknmjnbanaa", sum := "cb6ab83b7497f2ed132b8f09349112d40c0c1d214c7825252de9339a02b95210", func := "swage/swagelaw06.GraphOnward", spec := "graphOnward", unfollowed := true, recurses := true, apart := false, narrowed := true }
def GraphOnwardUptoSaid : Prop := graphOnwardUptoRow.holds Try.pinned (OpenSpec.upto graphOnwardSpec)

/-- 'swagelaw06.GraphLoops', WHERE WHAT IT READS IS OF BULK AT MOST 1048576: true; the input reads as it did. -/
def graphLoopsUptoRow : OpenClaim := { program := "ytkmbhknmjnbanaa", sum := "cb6ab83b7497f2ed132b8f09349112d40c0c1d214c7825252de9339a02b95210", func := "swage/swagelaw06.GraphLoops", spec := "graphLoops", unfollowed := true, recurses := true, apart := false, narrowed := true }
def GraphLoopsUptoSaid : Prop := graphLoopsUptoRow.holds Try.pinned (OpenSpec.upto graphLoopsSpec)

/-- 'swagelaw06.GraphReaches', WHERE WHAT IT READS IS OF BULK AT MOST 1048576: true; the input reads as it did. -/
def graphReachesUptoRow : OpenClaim := { program := "ytkmbhknmjnbanaa", sum := "cb6ab83b7497f2ed132b8f09349112d40c0c1d214c7825252de9339a02b95210", func := "swage/swagelaw06.GraphReaches", spec := "graphReaches", unfollowed := true, recurses := true, apart := false, narrowed := true }
def GraphReachesUptoSaid : Prop := graphReachesUptoRow.holds Try.pinned (OpenSpec.upto graphReachesSpec)

/-- 'swagelaw06.GraphChain', WHERE WHAT IT READS IS OF BULK AT MOST 1048576: true; the input reads as it did. -/
def graphChainUptoRow : OpenClaim := { program := "ytkmbhknmjnbanaa", sum := "cb6ab83b7497f2ed132b8f09349112d40c0c1d214c7825252de9339a02b95210", func := "swage/swagelaw06.GraphChain", spec := "graphChain", unfollowed := true, recurses := true, apart := false, narrowed := true }
def GraphChainUptoSaid : Prop := graphChainUptoRow.holds Try.pinned (OpenSpec.upto graphChainSpec)

/-- 'swagelaw07.DomRows', WHERE WHAT IT READS IS OF BULK AT MOST 1048576: true; the input reads as it did. -/
def domRowsUptoRow : OpenClaim := { program := "ytkmbhknmjnbanaa", sum := "cb6ab83b7497f2ed132b8f09349112d40c0c1d214c7825252de9339a02b95210", func := "swage/swagelaw07.DomRows", spec := "domRows", unfollowed := true, recurses := true, apart := false, narrowed := true }
def DomRowsUptoSaid : Prop := domRowsUptoRow.holds Try.pinned (OpenSpec.upto domRowsSpec)

/-- 'swagelaw07.DomChain', WHERE WHAT IT READS IS OF BULK AT MOST 1048576: true; the input reads as it did. -/
def domChainUptoRow : OpenClaim := { program := "ytkmbhknmjnbanaa", sum := "cb6ab83b7497f2ed132b8f09349112d40c0c1d214c7825252de9339a02b95210", func := "swage/swagelaw07.DomChain", spec := "domChain", unfollowed := true, recurses := true, apart := false, narrowed := true }
def DomChainUptoSaid : Prop := domChainUptoRow.holds Try.pinned (OpenSpec.upto domChainSpec)

/-- 'swagelaw07.DomCloses', WHERE WHAT IT READS IS OF BULK AT MOST 1048576: true; the input reads as it did. -/
def domClosesUptoRow : OpenClaim := { program := "ytkmbhknmjnbanaa", sum := "cb6ab83b7497f2ed132b8f09349112d40c0c1d214c7825252de9339a02b95210", func := "swage/swagelaw07.DomCloses", spec := "domCloses", unfollowed := true, recurses := true, apart := false, narrowed := true }
def DomClosesUptoSaid : Prop := domClosesUptoRow.holds Try.pinned (OpenSpec.upto domClosesSpec)

/-- 'swagelaw07.DomTree', WHERE WHAT IT READS IS OF BULK AT MOST 1048576: true; the input reads as it did. -/
def domTreeUptoRow : OpenClaim := { program := "ytkmbhknmjnbanaa", sum := "cb6ab83b7497f2ed132b8f09349112d40c0c1d214c7825252de9339a02b95210", func := "swage/swagelaw07.DomTree", spec := "domTree", unfollowed := true, recurses := true, apart := false, narrowed := true }
def DomTreeUptoSaid : Prop := domTreeUptoRow.holds Try.pinned (OpenSpec.upto domTreeSpec)

end Rows
end Go.Proofs.Ytkmbhknmjnbanaa
