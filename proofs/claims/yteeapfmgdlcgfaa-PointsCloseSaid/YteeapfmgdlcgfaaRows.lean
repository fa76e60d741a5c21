/-
  No cell of these rows narrows 'for every input' (looked for: loops, veiled, ifaces, maps, wideKeys, modest, calm, conditions, laid).
  DERIVED. THE GIVEN ROWS OF THIS SEAT. 6 by the template 'for every input the law returns true; each argument reads behind the call as it read before'; 0 by the template 'total and deterministic' (their statements: YteeapfmgdlcgfaaTotals.lean).
  GIVEN WITH THE SEED: the statements are not yours to turn. If you find one false, say at which input.
  Laid BY PROGRAM, IN A SANDBOX (cutbox-rows.mjs): the forced cells as the released guide's own fill.sh prints them over the translation 406424bcf90a1c24… (all of the seat's roots in one cut). By AI agents, Wed Nov 11 2026. No macro, syntax, notation, axiom, sorry.
-/
import Derived.Test.YteeapfmgdlcgfaaChecked
import GoSem.Claim
import GoSem.ClaimJoined
import GoSem.ClaimMapViews
import Derived.JoinedTies
import Derived.KernelRfl
namespace Go.Proofs.Yteeapfmgdlcgfaa
/- THE CELL 'sum', in the pinned program and in every row, IS THE sha256 OF THE DUMP (.gsa) THAT YteeapfmgdlcgfaaProg.lean LOADS. Nothing in Lean hashes anything: it is a label: what it is worth is what the hold of that sum in a sandbox is worth. -/
noncomputable def Try.pinned : Pinned := { name := "yteeapfmgdlcgfaa", sum := "406424bcf90a1c24e54179cd9861a3274958c2f46e9995822ee6d639fc5a2094", checked := Try.checked }
namespace Rows
def none {H : Type} : Left H := { results := [], args := [] }

/-- 'swagelaw08.UnionNames': WHATEVER THE INPUT: true; the input reads as it did. -/
def unionNamesSpec : ChangeSpec := { name := "unionNames", fn := fun _ => fun
  | [d] => { results := [.lit (.bool true)], args := [d] }
  | _ => none }
def unionNamesRow : OpenClaim := { program := "yteeapfmgdlcgfaa", sum := "406424bcf90a1c24e54179cd9861a3274958c2f46e9995822ee6d639fc5a2094", func := "swage/swagelaw08.UnionNames", spec := "unionNames", inPlace := ["maps.clone"], unfollowed := true, recurses := true, apart := false }
def UnionNamesSaid : Prop := unionNamesRow.holds Try.pinned (OpenSpec.ofChange unionNamesSpec)

/-- ITS FALSE NEIGHBOUR: 'it returns false'. Refute it at one input. -/
def unionNamesWrong : ChangeSpec := { name := "unionNames", fn := fun _ => fun
  | [d] => { results := [.lit (.bool false)], args := [d] }
  | _ => none }
def UnionNamesWrongFalsely : Prop := unionNamesRow.holds Try.pinned (OpenSpec.ofChange unionNamesWrong)

/-- 'swagelaw08.UnionChain': WHATEVER THE INPUT: true; the input reads as it did. -/
def unionChainSpec : ChangeSpec := { name := "unionChain", fn := fun _ => fun
  | [d1, d2] => { results := [.lit (.bool true)], args := [d1, d2] }
  | _ => none }
def unionChainRow : OpenClaim := { program := "yteeapfmgdlcgfaa", sum := "406424bcf90a1c24e54179cd9861a3274958c2f46e9995822ee6d639fc5a2094", func := "swage/swagelaw08.UnionChain", spec := "unionChain", inPlace := ["maps.clone"], unfollowed := true, recurses := true, apart := false }
def UnionChainSaid : Prop := unionChainRow.holds Try.pinned (OpenSpec.ofChange unionChainSpec)

/-- ITS FALSE NEIGHBOUR: 'it returns false'. Refute it at one input. -/
def unionChainWrong : ChangeSpec := { name := "unionChain", fn := fun _ => fun
  | [d1, d2] => { results := [.lit (.bool false)], args := [d1, d2] }
  | _ => none }
def UnionChainWrongFalsely : Prop := unionChainRow.holds Try.pinned (OpenSpec.ofChange unionChainWrong)

/-- 'swagelaw08.UnionCounts': WHATEVER THE INPUT: true; the input reads as it did. -/
def unionCountsSpec : ChangeSpec := { name := "unionCounts", fn := fun _ => fun
  | [d] => { results := [.lit (.bool true)], args := [d] }
  | _ => none }
def unionCountsRow : OpenClaim := { program := "yteeapfmgdlcgfaa", sum := "406424bcf90a1c24e54179cd9861a3274958c2f46e9995822ee6d639fc5a2094", func := "swage/swagelaw08.UnionCounts", spec := "unionCounts", inPlace := ["maps.clone"], unfollowed := true, recurses := true, apart := false }
def UnionCountsSaid : Prop := unionCountsRow.holds Try.pinned (OpenSpec.ofChange unionCountsSpec)

/-- ITS FALSE NEIGHBOUR: 'it returns false'. Refute it at one input. -/
def unionCountsWrong : ChangeSpec := { name := "unionCounts", fn := fun _ => fun
  | [d] => { results := [.lit (.bool false)], args := [d] }
  | _ => none }
def UnionCountsWrongFalsely : Prop := unionCountsRow.holds Try.pinned (OpenSpec.ofChange unionCountsWrong)

/-- 'swagelaw20.PointsClose': WHATEVER THE INPUT: true; the input reads as it did. -/
def pointsCloseSpec : ChangeSpec := { name := "pointsClose", fn := fun _ => fun
  | [d] => { results := [.lit (.bool true)], args := [d] }
  | _ => none }
def pointsCloseRow : OpenClaim := { program := "yteeapfmgdlcgfaa", sum := "406424bcf90a1c24e54179cd9861a3274958c2f46e9995822ee6d639fc5a2094", func := "swage/swagelaw20.PointsClose", spec := "pointsClose", inPlace := ["maps.clone"], unfollowed := true, recurses := true, apart := false }
def PointsCloseSaid : Prop := pointsCloseRow.holds Try.pinned (OpenSpec.ofChange pointsCloseSpec)

/-- ITS FALSE NEIGHBOUR: 'it returns false'. Refute it at one input. -/
def pointsCloseWrong : ChangeSpec := { name := "pointsClose", fn := fun _ => fun
  | [d] => { results := [.lit (.bool false)], args := [d] }
  | _ => none }
def PointsCloseWrongFalsely : Prop := pointsCloseRow.holds Try.pinned (OpenSpec.ofChange pointsCloseWrong)

/-- 'swagelaw20.PointsAlone': WHATEVER THE INPUT: true; the input reads as it did. -/
def pointsAloneSpec : ChangeSpec := { name := "pointsAlone", fn := fun _ => fun
  | [d1, d2] => { results := [.lit (.bool true)], args := [d1, d2] }
  | _ => none }
def pointsAloneRow : OpenClaim := { program := "yteeapfmgdlcgfaa", sum := "406424bcf90a1c24e54179cd9861a3274958c2f46e9995822ee6d639fc5a2094", func := "swage/swagelaw20.PointsAlone", spec := "pointsAlone", inPlace := ["maps.clone"], unfollowed := true, recurses := true, apart := false }
def PointsAloneSaid : Prop := pointsAloneRow.holds Try.pinned (OpenSpec.ofChange pointsAloneSpec)

/-- ITS FALSE NEIGHBOUR: 'it returns false'. Refute it at one input. -/
def pointsAloneWrong : ChangeSpec := { name := "pointsAlone", fn := fun _ => fun
  | [d1, d2] => { results := [.lit (.bool false)], args := [d1, d2] }
  | _ => none }
def PointsAloneWrongFalsely : Prop := pointsAloneRow.holds Try.pinned (OpenSpec.ofChange pointsAloneWrong)

/-- 'swagelaw20.PointsChain': WHATEVER THE INPUT: true; the input reads as it did. -/
def pointsChainSpec : ChangeSpec := { name := "pointsChain", fn := fun _ => fun
  | [d] => { results := [.lit (.bool true)], args := [d] }
  | _ => none }
def pointsChainRow : OpenClaim := { program := "yteeapfmgdlcgfaa", sum := "406424bcf90a1c24e54179cd9861a3274958c2f46e9995822ee6d639fc5a2094", func := "swage/swagelaw20.PointsChain", spec := "pointsChain", inPlace := ["maps.clone"], unfollowed := true, recurses := true, apart := false }
def PointsChainSaid : Prop := pointsChainRow.holds Try.pinned (OpenSpec.ofChange pointsChainSpec)

/-- ITS FALSE NEIGHBOUR: 'it returns false'. Refute it at one input. -/
def pointsChainWrong : ChangeSpec := { name := "pointsChain", fn := fun _ => fun
  | [d] => { results := [.lit (.bool false)], args := [d] }
  | _ => none }
def PointsChainWrongFalsely : Prop := pointsChainRow.holds Try.pinned (OpenSpec.ofChange pointsChainWrong)

/- THE SECOND FORM. 'bulk': how many values and letters a reading holds, each counted each time it is reached (what is shared counts as often as it is met; a slice's spare places count too). A statement '..UptoSaid' is the law's where the arguments, and the package variables that the reading takes, are together of bulk at most 1048576: NARROWER than '..Said'. Prove '..Said' where nothing that the law and all that it calls make is longer than what came in: it says more and counts as full. Else prove '..UptoSaid'. A law counts once. -/
mutual
def uptoBulk {H : Type} : DataW H → Nat
  | .lit (.string bytes) => bytes.length + 1
  | .lit _ => 1
  | .nil => 1
  | .ptr d => uptoBulk d + 1
  | .slice elems spare => uptoBulkAll elems + uptoBulkAll spare + 1
  | .agg parts => uptoBulkAll parts + 1
  | .iface _ d => uptoBulk d + 1
  | .map entries => uptoBulkEntries entries + 1
  | .held _ => 1
def uptoBulkAll {H : Type} : List (DataW H) → Nat
  | [] => 0
  | d :: r => uptoBulk d + uptoBulkAll r
def uptoBulkEntries {H : Type} : List (Lit × DataW H) → Nat
  | [] => 0
  | x :: r => uptoBulkEntry x + uptoBulkEntries r
def uptoBulkEntry {H : Type} : Lit × DataW H → Nat
  | (.string bytes, d) => bytes.length + uptoBulk d + 1
  | (_, d) => uptoBulk d + 1
 end
def uptoSmall : (H : Type) → List (DataW H) → Bool := fun _ ds => decide (uptoBulkAll ds ≤ 1048576)
def OpenSpec.upto (s : _root_.Go.ChangeSpec) : _root_.Go.OpenSpec := { _root_.Go.OpenSpec.ofChange s with cond := some uptoSmall }

/-- 'swagelaw08.UnionNames', WHERE WHAT IT READS IS OF BULK AT MOST 1048576: true; the input reads as it did. -/
def unionNamesUptoRow : OpenClaim := { program := "yteeapfmgdlcgfaa", sum := "406424bcf90a1c24e54179cd9861a3274958c2f46e9995822ee6d639fc5a2094", func := "swage/swagelaw08.UnionNames", spec := "unionNames", inPlace := ["maps.clone"], unfollowed := true, recurses := true, apart := false, narrowed := true }
def UnionNamesUptoSaid : Prop := unionNamesUptoRow.holds Try.pinned (OpenSpec.upto unionNamesSpec)

/-- 'swagelaw08.UnionChain', WHERE WHAT IT READS IS OF BULK AT MOST 1048576: true; the input reads as it did. -/
def unionChainUptoRow : OpenClaim := { program := "yteeapfmgdlcgfaa", sum := "406424bcf90a1c24e54179cd9861a3274958c2f46e9995822ee6d639fc5a2094", func := "swage/swagelaw08.UnionChain", spec := "unionChain", inPlace := ["maps.clone"], unfollowed := true, recurses := true, apart := false, narrowed := true }
def UnionChainUptoSaid : Prop := unionChainUptoRow.holds Try.pinned (OpenSpec.upto unionChainSpec)

/-- 'swagelaw08.UnionCounts', WHERE WHAT IT READS IS OF BULK AT MOST 1048576: true; the input reads as it did. -/
def unionCountsUptoRow : OpenClaim := { program := "yteeapfmgdlcgfaa", sum := "406424bcf90a1c24e54179cd9861a3274958c2f46e9995822ee6d639fc5a2094", func := "swage/swagelaw08.UnionCounts", spec := "unionCounts", inPlace := ["maps.clone"], unfollowed := true, recurses := true, apart := false, narrowed := true }
def UnionCountsUptoSaid : Prop := unionCountsUptoRow.holds Try.pinned (OpenSpec.upto unionCountsSpec)

/-- 'swagelaw20.PointsClose', WHERE WHAT IT READS IS OF BULK AT MOST 1048576: true; the input reads as it did. -/
def pointsCloseUptoRow : OpenClaim := { program := "yteeapfmgdlcgfaa", sum := "406424bcf90a1c24e54179cd9861a3274958c2f46e9995822ee6d639fc5a2094", func := "swage/swagelaw20.PointsClose", spec := "pointsClose", inPlace := ["maps.clone"], unfollowed := true, recurses := true, apart := false, narrowed := true }
def PointsCloseUptoSaid : Prop := pointsCloseUptoRow.holds Try.pinned (OpenSpec.upto pointsCloseSpec)

/-- 'swagelaw20.PointsAlone', WHERE WHAT IT READS IS OF BULK AT MOST 1048576: true; the input reads as it did. -/
def pointsAloneUptoRow : OpenClaim := { program := "yteeapfmgdlcgfaa", sum := "406424bcf90a1c24e54179cd9861a3274958c2f46e9995822ee6d639fc5a2094", func := "swage/swagelaw20.PointsAlone", spec := "pointsAlone", inPlace := ["maps.clone"], unfollowed := true, recurses := true, apart := false, narrowed := true }
def PointsAloneUptoSaid : Prop := pointsAloneUptoRow.holds Try.pinned (OpenSpec.upto pointsAloneSpec)

/-- 'swagelaw20.PointsChain', WHERE WHAT IT READS IS OF BULK AT MOST 1048576: true; the input reads as it did. -/
def pointsChainUptoRow : OpenClaim := { program := "yteeapfmgdlcgfaa", sum := "406424bcf90a1c24e54179cd9861a3274958c2f46e9995822ee6d639fc5a2094", func := "swage/swagelaw20.PointsChain", spec := "pointsChain", inPlace := ["maps.clone"], unfollowed := true, recurses := true, apart := false, narrowed := true }
def PointsChainUptoSaid : Prop := pointsChainUptoRow.holds Try.pinned (OpenSpec.upto pointsChainSpec)

end Rows
end Go.Proofs.Yteeapfmgdlcgfaa
