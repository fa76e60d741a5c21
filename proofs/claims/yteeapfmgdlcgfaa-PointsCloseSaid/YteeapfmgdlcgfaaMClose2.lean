/- Parts of the proof, in the order in which they rest on one another. -/
import Derived.Test.YteeapfmgdlcgfaaMClose1
import Derived.Below
import Derived.Deep.Draws
import Derived.Deep.AppendLies
import Derived.Maps.AppendAt
import Derived.OwnWalk
import Derived.Laws.BytesArg
import Derived.Laws.MakeOwn
import Derived.Laws.OwnMore
import Derived.Deep.OwnRows
import Derived.Tactics
import Derived.Lib.ConvBytes
import Derived.Laws.Slices
import Derived.WalkKit
import Derived.KernelRfl
import Derived.RowKit3
import Derived.Deep.LoopGhost
import Derived.Deep.QuietTactic
import Derived.BigQuiet
import Derived.WideLaws
import Derived.Deep.DeepCutAuto
import Derived.Deep.CutBlock
import Derived.Deep.RegionHeld3
import Derived.Laws.Rows
import Derived.Lib.AppendStr
import Derived.ArgAppend
import Derived.Laws.IdiomCopy
import Derived.RowKit
import Derived.OrdersHeld
import Derived.Laws.BitsLemmas
import Derived.Laws.StructEq
import Derived.Test.YteeapfmgdlcgfaaProg
import Derived.Maps.Own
import Derived.Maps.OwnOps
import Derived.Maps.OwnSet
import Derived.Maps.Views
import Derived.WideKeyEntry
import Derived.RangeFuncWrites
import Derived.Lib.SlKeysI
import Derived.Shelf.SlIterI.Stops
import Derived.Shelf.SlIterI.Nil
import Derived.Shelf.SortM.Plain
import Derived.Shelf.SortM.SortNone
import Derived.Shelf.SlMaps.Clone
import Derived.Ground.GgzProg
import Derived.Ground.SlgmProg
import Derived.Ground.SlmcProg
import Derived.Shelf.SlGeneric
import Derived.RangeFuncLeaves
import Derived.RangeFuncCalls
import Derived.RangeFuncBox
import Derived.OwnWalkIn
import Derived.TacticsInMore
import Derived.LoopNIn
import Derived.LoopIn
import Derived.Maps.OwnIn
import Derived.Shelf.RegionOpen
import Derived.OpenShut
import Derived.Deep.Slices
import Derived.ChangeArms
import Derived.Maps.StringElems
import Derived.Sort.MapsRangeIn
import Derived.StringKeys
import Derived.Shelf.SlIter.Stops
import Derived.RangeFuncNested
import Derived.RangeFuncRecord
namespace Go.Proofs.Yteeapfmgdlcgfaa.A
open Go.RowKit Go.Proofs.YteeapfmgdlcgfaaW.PrintWords Go.Proofs.YteeapfmgdlcgfaaW.PrintLast Go.Proofs.YteeapfmgdlcgfaaW.PrintMore
attribute [local go_sem] max2_int min2_int max_two min_two max_three min_three max_four min_four   -- for this text's walks alone
set_option linter.unusedVariables false
set_option linter.unusedSimpArgs false



def errW : Option Int → Value
  | none => .nilIface
  | some c => .iface 0 (.int .i64 c)
theorem errW_none : errW none = .nilIface := rfl
theorem errW_some (c : Int) : errW (some c) = .iface 0 (.int .i64 c) := rfl

theorem info3 : (Try.prog.info? 3).map (fun i => (i.zero, i.size, i.bytes)) = some (some (.int .i64 0), 1, 8) := by kernel_rfl
def rd_L3 (xs : List (List Int)) (i : Int) : (List Int) := xs.getD i.toNat ([] : List Int)
theorem at_L3 {w : World} {A : Option Addr} {n : Nat} {xs : List (List Int)} (h : Kd.C (Kd.slice 3 (Kd.int .i64)) w A n xs) (i : Int) (h0 : 0 ≤ i) (h1 : i < n) : ∃ ad A0 c0, A = some ad ∧ w.cell? (ad.add i.toNat) = some (.slice A0 (rd_L3 xs i).length c0) ∧ (rd_L3 xs i).length ≤ c0 ∧ (Kd.int .i64).C w A0 (rd_L3 xs i).length (rd_L3 xs i) := by
  obtain ⟨ad, c, e, _, hK, hc0⟩ := Kd.C_get h ([] : List Int) i h0 h1
  have hc : ∀ j u, c[j]? = some u → w.cell? (ad.add (i.toNat * 1 + j)) = some u := hc0
  obtain ⟨A0, c0, rfl, l0, g0⟩ := hK
  exact ⟨ad, A0, c0, e, by have hq := hc 0 _ rfl; rwa [Nat.mul_one, Nat.add_zero] at hq, l0, g0⟩

structure S60 where
  f0 : Int
  f1 : Int
  f2 : Int
  f3 : Int
  f4 : Int
  f5 : (List Int)
def z60 : S60 := ⟨(0 : Int), (0 : Int), (0 : Int), (0 : Int), (0 : Int), ([] : List Int)⟩
def k60 : Kd S60 := Kd.iso (Kd.pair (Kd.int .i64) (Kd.pair (Kd.int .i64) (Kd.pair (Kd.int .i64) (Kd.pair (Kd.int .i64) (Kd.pair (Kd.int .i64) (Kd.slice 3 (Kd.int .i64))))))) (fun x : S60 => (x.f0, x.f1, x.f2, x.f3, x.f4, x.f5))
theorem k60_open {w : World} {x : S60} {cs : List Value} (h : k60.K w x cs) : ∃ A5 c5, cs = [.int .i64 x.f0, .int .i64 x.f1, .int .i64 x.f2, .int .i64 x.f3, .int .i64 x.f4, .slice A5 x.f5.length c5] ∧ x.f5.length ≤ c5 ∧ (Kd.int .i64).C w A5 x.f5.length x.f5 := by
  obtain ⟨_, _, rfl, rfl, ⟨_, _, rfl, rfl, ⟨_, _, rfl, rfl, ⟨_, _, rfl, rfl, ⟨_, _, rfl, rfl, ⟨A5, c5, rfl, l5, g5⟩⟩⟩⟩⟩⟩ := h
  exact ⟨A5, c5, rfl, l5, g5⟩
theorem k60_mk (w : World) (x : S60) {A5 : Option Addr} {c5 : Nat} (l5 : x.f5.length ≤ c5) (g5 : (Kd.int .i64).C w A5 x.f5.length x.f5) : k60.K w x [.int .i64 x.f0, .int .i64 x.f1, .int .i64 x.f2, .int .i64 x.f3, .int .i64 x.f4, .slice A5 x.f5.length c5] := ⟨[.int .i64 x.f0], [.int .i64 x.f1, .int .i64 x.f2, .int .i64 x.f3, .int .i64 x.f4, .slice A5 x.f5.length c5], rfl, rfl, ⟨[.int .i64 x.f1], [.int .i64 x.f2, .int .i64 x.f3, .int .i64 x.f4, .slice A5 x.f5.length c5], rfl, rfl, ⟨[.int .i64 x.f2], [.int .i64 x.f3, .int .i64 x.f4, .slice A5 x.f5.length c5], rfl, rfl, ⟨[.int .i64 x.f3], [.int .i64 x.f4, .slice A5 x.f5.length c5], rfl, rfl, ⟨[.int .i64 x.f4], [.slice A5 x.f5.length c5], rfl, rfl, ⟨A5, c5, rfl, l5, g5⟩⟩⟩⟩⟩⟩
theorem k60_mkF (W : World) (ok : Nat → Prop) (x : S60) {A5 : Option Addr} {c5 : Nat} (l5 : x.f5.length ≤ c5) (g5 : Kd.F (Kd.int .i64) W ok A5 x.f5.length x.f5) : Kd.FK k60 W ok x [.int .i64 x.f0, .int .i64 x.f1, .int .i64 x.f2, .int .i64 x.f3, .int .i64 x.f4, .slice A5 x.f5.length c5] := fun W2 hW => k60_mk W2 x l5 (g5 W2 hW)
def rd_T60 (xs : List S60) (i : Int) : S60 := xs.getD i.toNat z60
theorem at_T60 {w : World} {A : Option Addr} {n : Nat} {xs : List S60} (h : Kd.C k60 w A n xs) (i : Int) (h0 : 0 ≤ i) (h1 : i < n) : ∃ ad A5 c5, A = some ad ∧ w.cell? (ad.add (i.toNat * 6)) = some (.int .i64 (rd_T60 xs i).f0) ∧ w.cell? ⟨(ad.add (i.toNat * 6)).block, (ad.add (i.toNat * 6)).off + 1, none⟩ = some (.int .i64 (rd_T60 xs i).f1) ∧ w.cell? ⟨(ad.add (i.toNat * 6)).block, (ad.add (i.toNat * 6)).off + 2, none⟩ = some (.int .i64 (rd_T60 xs i).f2) ∧ w.cell? ⟨(ad.add (i.toNat * 6)).block, (ad.add (i.toNat * 6)).off + 3, none⟩ = some (.int .i64 (rd_T60 xs i).f3) ∧ w.cell? ⟨(ad.add (i.toNat * 6)).block, (ad.add (i.toNat * 6)).off + 4, none⟩ = some (.int .i64 (rd_T60 xs i).f4) ∧ w.cell? ⟨(ad.add (i.toNat * 6)).block, (ad.add (i.toNat * 6)).off + 5, none⟩ = some (.slice A5 (rd_T60 xs i).f5.length c5) ∧ (rd_T60 xs i).f5.length ≤ c5 ∧ (Kd.int .i64).C w A5 (rd_T60 xs i).f5.length (rd_T60 xs i).f5 := by
  obtain ⟨ad, c, e, _, hK, hc0⟩ := Kd.C_get h z60 i h0 h1
  have hc : ∀ j u, c[j]? = some u → w.cell? (ad.add (i.toNat * 6 + j)) = some u := hc0
  obtain ⟨A5, c5, rfl, l5, g5⟩ := k60_open hK
  exact ⟨ad, A5, c5, e, hc 0 _ rfl, by rw [← add_field _ _ 1 (by omega)]; exact hc 1 _ rfl, by rw [← add_field _ _ 2 (by omega)]; exact hc 2 _ rfl, by rw [← add_field _ _ 3 (by omega)]; exact hc 3 _ rfl, by rw [← add_field _ _ 4 (by omega)]; exact hc 4 _ rfl, by rw [← add_field _ _ 5 (by omega)]; exact hc 5 _ rfl, l5, g5⟩

structure S55 where
  f0 : Int
  f1 : Int
  f2 : Int
  f3 : Int
def z55 : S55 := ⟨(0 : Int), (0 : Int), (0 : Int), (0 : Int)⟩
def k55 : Kd S55 := Kd.iso (Kd.pair (Kd.int .i64) (Kd.pair (Kd.int .i64) (Kd.pair (Kd.int .i64) (Kd.int .i64)))) (fun x : S55 => (x.f0, x.f1, x.f2, x.f3))
theorem k55_open {w : World} {x : S55} {cs : List Value} (h : k55.K w x cs) : cs = [.int .i64 x.f0, .int .i64 x.f1, .int .i64 x.f2, .int .i64 x.f3] := by
  obtain ⟨_, _, rfl, rfl, ⟨_, _, rfl, rfl, ⟨_, _, rfl, rfl, rfl⟩⟩⟩ := h
  exact rfl
theorem k55_mk (w : World) (x : S55)  : k55.K w x [.int .i64 x.f0, .int .i64 x.f1, .int .i64 x.f2, .int .i64 x.f3] := ⟨[.int .i64 x.f0], [.int .i64 x.f1, .int .i64 x.f2, .int .i64 x.f3], rfl, rfl, ⟨[.int .i64 x.f1], [.int .i64 x.f2, .int .i64 x.f3], rfl, rfl, ⟨[.int .i64 x.f2], [.int .i64 x.f3], rfl, rfl, rfl⟩⟩⟩
structure S57 where
  f0 : (List S60)
  f1 : S55
def z57 : S57 := ⟨([] : List S60), z55⟩
def k57 : Kd S57 := Kd.iso (Kd.pair (Kd.slice 60 k60) k55) (fun x : S57 => (x.f0, x.f1))
theorem k57_open {w : World} {x : S57} {cs : List Value} (h : k57.K w x cs) : ∃ A0 c0, cs = [.slice A0 x.f0.length c0, .int .i64 x.f1.f0, .int .i64 x.f1.f1, .int .i64 x.f1.f2, .int .i64 x.f1.f3] ∧ x.f0.length ≤ c0 ∧ k60.C w A0 x.f0.length x.f0 := by
  obtain ⟨_, _, rfl, ⟨A0, c0, rfl, l0, g0⟩, s1⟩ := h
  obtain rfl := k55_open s1
  exact ⟨A0, c0, rfl, l0, g0⟩
theorem k57_mk (w : World) (x : S57) {A0 : Option Addr} {c0 : Nat} (l0 : x.f0.length ≤ c0) (g0 : k60.C w A0 x.f0.length x.f0) : k57.K w x [.slice A0 x.f0.length c0, .int .i64 x.f1.f0, .int .i64 x.f1.f1, .int .i64 x.f1.f2, .int .i64 x.f1.f3] := ⟨[.slice A0 x.f0.length c0], [.int .i64 x.f1.f0, .int .i64 x.f1.f1, .int .i64 x.f1.f2, .int .i64 x.f1.f3], rfl, ⟨A0, c0, rfl, l0, g0⟩, (k55_mk w x.f1 )⟩
theorem k57_mkF (W : World) (ok : Nat → Prop) (x : S57) {A0 : Option Addr} {c0 : Nat} (l0 : x.f0.length ≤ c0) (g0 : Kd.F k60 W ok A0 x.f0.length x.f0) : Kd.FK k57 W ok x [.slice A0 x.f0.length c0, .int .i64 x.f1.f0, .int .i64 x.f1.f1, .int .i64 x.f1.f2, .int .i64 x.f1.f3] := fun W2 hW => k57_mk W2 x l0 (g0 W2 hW)
def rd_T57 (xs : List S57) (i : Int) : S57 := xs.getD i.toNat z57
theorem at_T57 {w : World} {A : Option Addr} {n : Nat} {xs : List S57} (h : Kd.C k57 w A n xs) (i : Int) (h0 : 0 ≤ i) (h1 : i < n) : ∃ ad A0 c0, A = some ad ∧ w.cell? (ad.add (i.toNat * 5)) = some (.slice A0 (rd_T57 xs i).f0.length c0) ∧ w.cell? ⟨(ad.add (i.toNat * 5)).block, (ad.add (i.toNat * 5)).off + 1, none⟩ = some (.int .i64 (rd_T57 xs i).f1.f0) ∧ w.cell? ⟨(ad.add (i.toNat * 5)).block, (ad.add (i.toNat * 5)).off + 2, none⟩ = some (.int .i64 (rd_T57 xs i).f1.f1) ∧ w.cell? ⟨(ad.add (i.toNat * 5)).block, (ad.add (i.toNat * 5)).off + 3, none⟩ = some (.int .i64 (rd_T57 xs i).f1.f2) ∧ w.cell? ⟨(ad.add (i.toNat * 5)).block, (ad.add (i.toNat * 5)).off + 4, none⟩ = some (.int .i64 (rd_T57 xs i).f1.f3) ∧ (rd_T57 xs i).f0.length ≤ c0 ∧ k60.C w A0 (rd_T57 xs i).f0.length (rd_T57 xs i).f0 := by
  obtain ⟨ad, c, e, _, hK, hc0⟩ := Kd.C_get h z57 i h0 h1
  have hc : ∀ j u, c[j]? = some u → w.cell? (ad.add (i.toNat * 5 + j)) = some u := hc0
  obtain ⟨A0, c0, rfl, l0, g0⟩ := k57_open hK
  exact ⟨ad, A0, c0, e, hc 0 _ rfl, by rw [← add_field _ _ 1 (by omega)]; exact hc 1 _ rfl, by rw [← add_field _ _ 2 (by omega)]; exact hc 2 _ rfl, by rw [← add_field _ _ 3 (by omega)]; exact hc 3 _ rfl, by rw [← add_field _ _ 4 (by omega)]; exact hc 4 _ rfl, l0, g0⟩

structure S52 where
  f0 : Int
  f1 : (List S57)
def z52 : S52 := ⟨(0 : Int), ([] : List S57)⟩
def k52 : Kd S52 := Kd.iso (Kd.pair (Kd.int .i64) (Kd.slice 57 k57)) (fun x : S52 => (x.f0, x.f1))
theorem k52_open {w : World} {x : S52} {cs : List Value} (h : k52.K w x cs) : ∃ A1 c1, cs = [.int .i64 x.f0, .slice A1 x.f1.length c1] ∧ x.f1.length ≤ c1 ∧ k57.C w A1 x.f1.length x.f1 := by
  obtain ⟨_, _, rfl, rfl, ⟨A1, c1, rfl, l1, g1⟩⟩ := h
  exact ⟨A1, c1, rfl, l1, g1⟩
theorem k52_mk (w : World) (x : S52) {A1 : Option Addr} {c1 : Nat} (l1 : x.f1.length ≤ c1) (g1 : k57.C w A1 x.f1.length x.f1) : k52.K w x [.int .i64 x.f0, .slice A1 x.f1.length c1] := ⟨[.int .i64 x.f0], [.slice A1 x.f1.length c1], rfl, rfl, ⟨A1, c1, rfl, l1, g1⟩⟩
theorem k52_mkF (W : World) (ok : Nat → Prop) (x : S52) {A1 : Option Addr} {c1 : Nat} (l1 : x.f1.length ≤ c1) (g1 : Kd.F k57 W ok A1 x.f1.length x.f1) : Kd.FK k52 W ok x [.int .i64 x.f0, .slice A1 x.f1.length c1] := fun W2 hW => k52_mk W2 x l1 (g1 W2 hW)
def rd_T52 (xs : List S52) (i : Int) : S52 := xs.getD i.toNat z52
theorem at_T52 {w : World} {A : Option Addr} {n : Nat} {xs : List S52} (h : Kd.C k52 w A n xs) (i : Int) (h0 : 0 ≤ i) (h1 : i < n) : ∃ ad A1 c1, A = some ad ∧ w.cell? (ad.add (i.toNat * 2)) = some (.int .i64 (rd_T52 xs i).f0) ∧ w.cell? ⟨(ad.add (i.toNat * 2)).block, (ad.add (i.toNat * 2)).off + 1, none⟩ = some (.slice A1 (rd_T52 xs i).f1.length c1) ∧ (rd_T52 xs i).f1.length ≤ c1 ∧ k57.C w A1 (rd_T52 xs i).f1.length (rd_T52 xs i).f1 := by
  obtain ⟨ad, c, e, _, hK, hc0⟩ := Kd.C_get h z52 i h0 h1
  have hc : ∀ j u, c[j]? = some u → w.cell? (ad.add (i.toNat * 2 + j)) = some u := hc0
  obtain ⟨A1, c1, rfl, l1, g1⟩ := k52_open hK
  exact ⟨ad, A1, c1, e, hc 0 _ rfl, by rw [← add_field _ _ 1 (by omega)]; exact hc 1 _ rfl, l1, g1⟩

end Go.Proofs.Yteeapfmgdlcgfaa.A


namespace Go.Proofs.Yteeapfmgdlcgfaa.A
open Go.RowKit Go.Proofs.YteeapfmgdlcgfaaW.PrintWords Go.Proofs.YteeapfmgdlcgfaaW.PrintLast Go.Proofs.YteeapfmgdlcgfaaW.PrintMore
attribute [local go_sem] max2_int min2_int max_two min_two max_three min_three max_four min_four   -- for this text's walks alone
set_option linter.unusedVariables false
set_option linter.unusedSimpArgs false

def code_within.f (a0 : Int) (a1 : Int) (a2 : Int) : Option (Bool) := if a0 ≥ a1 then (some (decide (a0 ≤ a2))) else (some false)
set_option maxHeartbeats 8000000 in
set_option maxRecDepth 100000 in
theorem code_within.calls (a0 : Int) (a1 : Int) (a2 : Int) (r : Bool) (w : World) (h : code_within.f a0 a1 a2 = some r) :
    Calls Try.prog 54 #[.int .i64 a0, .int .i64 a1, .int .i64 a2] w fun e w' => e = .returned (.bool r) ∧ Drawn0 w w' := by
  have H : (if a0 ≥ a1 then (some (decide (a0 ≤ a2))) else (some false)) = some r := h
  clear h
  by_cases c4 : a0 ≥ a1
  · rw [if_pos c4] at H
    have c4b0 : decide (a1 ≤ a0) = true := decide_eq_true c4
    clear c4
    obtain rfl := Option.some.inj H
    go_enter Try.func54, Try.ntmps54
    go_wp2
    go_ret
    exact ⟨by first | rfl | (simp; done) | (simp [*]; done), by repeat (first | exact Drawn0.refl _ | apply Drawn0.step)⟩
  · rw [if_neg c4] at H
    have c4b0 : decide (a1 ≤ a0) = false := decide_eq_false c4
    clear c4
    obtain rfl := Option.some.inj H
    go_enter Try.func54, Try.ntmps54
    go_wp2
    go_ret
    exact ⟨by first | rfl | (simp; done) | (simp [*]; done), by repeat (first | exact Drawn0.refl _ | apply Drawn0.step)⟩

end Go.Proofs.Yteeapfmgdlcgfaa.A


namespace Go.Proofs.Yteeapfmgdlcgfaa.A
open Go.RowKit Go.Proofs.YteeapfmgdlcgfaaW.PrintWords Go.Proofs.YteeapfmgdlcgfaaW.PrintLast Go.Proofs.YteeapfmgdlcgfaaW.PrintMore
attribute [local go_sem] max2_int min2_int max_two min_two max_three min_three max_four min_four   -- for this text's walks alone
set_option linter.unusedVariables false
set_option linter.unusedSimpArgs false

def code_reg.f (a0 : Int) : Option (Bool) := (code_within.f a0 1 4096).bind fun t345 => (some t345)
set_option maxHeartbeats 8000000 in
set_option maxRecDepth 100000 in
theorem code_reg.calls (a0 : Int) (r : Bool) (w : World) (h : code_reg.f a0 = some r) :
    Calls Try.prog 106 #[.int .i64 a0] w fun e w' => e = .returned (.bool r) ∧ Drawn0 w w' := by
  have H : ((code_within.f a0 1 4096).bind fun t345 => (some t345)) = some r := h
  clear h
  replace H := Option.bind_eq_some_iff.mp H
  obtain ⟨t345, A20, H⟩ := H
  replace H : (some t345) = some r := H
  have A2 := Aside0.mk A20
  clear A20
  obtain rfl := Option.some.inj H
  go_enter Try.func106, Try.ntmps106
  go_wp2_with (first | ((with_reducible refine gate_callee (f := 54) rfl ?_); refine goesL_ (some 4) rfl rfl Try.func54 (by kernel_rfl) rfl #[.int .i64 a0, .int .i64 1, .int .i64 4096] rfl (by (try simp only [List.map_toArray, List.map_cons, List.map_nil]); first | done | rfl | (simp only [List.length_drop, List.length_take]; rfl)) ?_; (with_reducible refine (code_within.calls a0 1 4096 t345 _ A2.out).mono ?_); rintro e w' ⟨rfl, ⟨nd, rfl⟩⟩; refine ⟨_, rfl, ?_⟩))
  go_ret
  exact ⟨by first | rfl | (simp; done) | (simp [*]; done), by repeat (first | exact Drawn0.refl _ | apply Drawn0.step)⟩

end Go.Proofs.Yteeapfmgdlcgfaa.A


namespace Go.Proofs.Yteeapfmgdlcgfaa.A
open Go.RowKit Go.Proofs.YteeapfmgdlcgfaaW.PrintWords Go.Proofs.YteeapfmgdlcgfaaW.PrintLast Go.Proofs.YteeapfmgdlcgfaaW.PrintMore
attribute [local go_sem] max2_int min2_int max_two min_two max_three min_three max_four min_four   -- for this text's walks alone
set_option linter.unusedVariables false
set_option linter.unusedSimpArgs false

def code_field.f (a0 : Int) (a1 : Bool) : Option (Bool) := if a0 = 0 then (if a1 = true then ((code_reg.f a0).bind fun t346 => (some t346)) else (some true)) else (if a1 = true then ((code_reg.f a0).bind fun t347 => (some t347)) else (some false))
set_option maxHeartbeats 8000000 in
set_option maxRecDepth 100000 in
theorem code_field.calls (a0 : Int) (a1 : Bool) (r : Bool) (w : World) (h : code_field.f a0 a1 = some r) :
    Calls Try.prog 107 #[.int .i64 a0, .bool a1] w fun e w' => e = .returned (.bool r) ∧ Drawn0 w w' := by
  have H : (if a0 = 0 then (if a1 = true then ((code_reg.f a0).bind fun t346 => (some t346)) else (some true)) else (if a1 = true then ((code_reg.f a0).bind fun t347 => (some t347)) else (some false))) = some r := h
  clear h
  by_cases c3 : a0 = 0
  · rw [if_pos c3] at H
    have c3b0 : (a0 == 0) = true := beq_iff_eq.mpr c3
    have c3b1 : (a0 != 0) = false := bne_eq_false_iff_eq.mpr c3
    clear c3
    by_cases c4 : a1 = true
    · subst c4
      have H1 : ((code_reg.f a0).bind fun t346 => (some t346)) = some r := by rw [if_pos rfl] at H; exact H
      clear H
      have H := H1
      clear H1
      replace H := Option.bind_eq_some_iff.mp H
      obtain ⟨t346, A50, H⟩ := H
      replace H : (some t346) = some r := H
      have A5 := Aside0.mk A50
      clear A50
      obtain rfl := Option.some.inj H
      go_enter Try.func107, Try.ntmps107
      go_wp2_with (first | (go_at_call 106; (with_reducible refine (code_reg.calls a0 t346 _ A5.out).mono ?_); rintro e w' ⟨rfl, ⟨nd, rfl⟩⟩))
      go_ret
      exact ⟨by first | rfl | (simp; done) | (simp [*]; done), by repeat (first | exact Drawn0.refl _ | apply Drawn0.step)⟩
    · replace c4 := Bool.eq_false_iff.mpr c4
      subst c4
      have H1 : (some true) = some r := by rw [if_neg (show ¬ (false = true) by decide)] at H; exact H
      clear H
      have H := H1
      clear H1
      obtain rfl := Option.some.inj H
      go_enter Try.func107, Try.ntmps107
      go_wp2
      go_ret
      exact ⟨by first | rfl | (simp; done) | (simp [*]; done), by repeat (first | exact Drawn0.refl _ | apply Drawn0.step)⟩
  · rw [if_neg c3] at H
    have c3b0 : (a0 == 0) = false := beq_eq_false_iff_ne.mpr c3
    have c3b1 : (a0 != 0) = true := bne_iff_ne.mpr c3
    by_cases c6 : a1 = true
    · subst c6
      have H1 : ((code_reg.f a0).bind fun t347 => (some t347)) = some r := by rw [if_pos rfl] at H; exact H
      clear H
      have H := H1
      clear H1
      replace H := Option.bind_eq_some_iff.mp H
      obtain ⟨t347, A70, H⟩ := H
      replace H : (some t347) = some r := H
      have A7 := Aside0.mk A70
      clear A70
      obtain rfl := Option.some.inj H
      go_enter Try.func107, Try.ntmps107
      go_wp2_with (first | (go_at_call 106; (with_reducible refine (code_reg.calls a0 t347 _ A7.out).mono ?_); rintro e w' ⟨rfl, ⟨nd, rfl⟩⟩))
      go_ret
      exact ⟨by first | rfl | (simp; done) | (simp [*]; done), by repeat (first | exact Drawn0.refl _ | apply Drawn0.step)⟩
    · replace c6 := Bool.eq_false_iff.mpr c6
      subst c6
      have H1 : (some false) = some r := by rw [if_neg (show ¬ (false = true) by decide)] at H; exact H
      clear H
      have H := H1
      clear H1
      obtain rfl := Option.some.inj H
      go_enter Try.func107, Try.ntmps107
      go_wp2
      go_ret
      exact ⟨by first | rfl | (simp; done) | (simp [*]; done), by repeat (first | exact Drawn0.refl _ | apply Drawn0.step)⟩

end Go.Proofs.Yteeapfmgdlcgfaa.A


namespace Go.Proofs.Yteeapfmgdlcgfaa.A
open Go.RowKit Go.Proofs.YteeapfmgdlcgfaaW.PrintWords Go.Proofs.YteeapfmgdlcgfaaW.PrintLast Go.Proofs.YteeapfmgdlcgfaaW.PrintMore
attribute [local go_sem] max2_int min2_int max_two min_two max_three min_three max_four min_four   -- for this text's walks alone
set_option linter.unusedVariables false
set_option linter.unusedSimpArgs false

def code_shapeOf.j0 : Nat → Int → Bool → Option (Bool × Bool × Bool × Bool × Bool)
  | 0, _, _ => none
  | k + 1, x4, x5 => if x5 = true then (some (true, false, false, true, true)) else (if x4 = 2 then (some (true, true, true, true, true)) else (if x4 = 3 then (some (true, true, false, false, true)) else (if x4 = 4 then (some (true, true, false, true, true)) else (if x4 = 5 then (some (false, true, true, true, true)) else (if x4 = 8 then (some (true, false, false, false, true)) else (if x4 = 9 then (some (false, true, false, false, true)) else (some (false, false, false, false, false))))))))
def code_shapeOf.f (k : Nat) (a0 : Int) : Option (Bool × Bool × Bool × Bool × Bool) := if a0 = 1 then (code_shapeOf.j0 k a0 (a0 == 1)) else (if a0 = 6 then (code_shapeOf.j0 k a0 (a0 == 6)) else (code_shapeOf.j0 k a0 (a0 == 7)))
theorem code_shapeOf.mono_l : ∀ k, (∀ y0 y1, LeO (code_shapeOf.j0 k y0 y1) (code_shapeOf.j0 (k + 1) y0 y1))
  | 0 => fun _ _ r h => by simp [code_shapeOf.j0] at h
  | k + 1 => by
    have ih0 := code_shapeOf.mono_l k
    · intro y0 y1
      unfold code_shapeOf.j0
      repeat' first
      | (with_reducible exact ih0 _ _)
      | (with_reducible exact LeO.refl _)
      | (with_reducible exact LeO.none _)
      | (with_reducible refine LeO.ite ?_ ?_)
      | (with_reducible refine LeO.bind ?_ (fun _ => ?_))
      | exact ih0 _ _
      | exact LeO.none _
      | refine LeO.ite ?_ ?_
      | refine LeO.bind ?_ (fun _ => ?_)
theorem code_shapeOf.mono : ∀ a0 k, LeO (code_shapeOf.f k a0) (code_shapeOf.f (k + 1) a0) := by
  intro a0 k
  have ih0 := code_shapeOf.mono_l k
  unfold code_shapeOf.f
  repeat' first
      | (with_reducible exact ih0 _ _)
      | (with_reducible exact LeO.refl _)
      | (with_reducible exact LeO.none _)
      | (with_reducible refine LeO.ite ?_ ?_)
      | (with_reducible refine LeO.bind ?_ (fun _ => ?_))
      | exact ih0 _ _
      | exact LeO.none _
      | refine LeO.ite ?_ ?_
      | refine LeO.bind ?_ (fun _ => ?_)
set_option maxHeartbeats 8000000 in
set_option maxRecDepth 100000 in
theorem code_shapeOf.calls (k : Nat) (a0 : Int) (r1 : Bool) (r2 : Bool) (r3 : Bool) (r4 : Bool) (r5 : Bool) (w : World) (h : code_shapeOf.f k a0 = some (r1, r2, r3, r4, r5)) :
    Calls Try.prog 81 #[.int .i64 a0] w fun e w' => e = .returned (.tuple #[.agg #[.bool r1, .bool r2, .bool r3, .bool r4], .bool r5]) ∧ Below w.heap.size w w' := by
  have hu125 := Try.underlying125
  have HB := Aside0.mk (Below.refl w.heap.size w)
  have H : (if a0 = 1 then (code_shapeOf.j0 k a0 (a0 == 1)) else (if a0 = 6 then (code_shapeOf.j0 k a0 (a0 == 6)) else (code_shapeOf.j0 k a0 (a0 == 7)))) = some (r1, r2, r3, r4, r5) := h
  clear h
  have HC2 := Aside0.mk H
  clear H
  go_enter Try.func81, Try.ntmps81
  go_upto_if 5 with (first | ((with_reducible refine gate_dst (N := 2) rfl ?_); refine box_event ?hg (N := 2) ?hd (cs := #[.bool false, .bool false, .bool false, .bool false]) (t := 125) ?hr ?_; (case hd => rfl); (case hg => rfl); (case hr => first | (go_simp; done) | (go_simp; rfl)); intro gb344 hg w3 hbox hb; have n0_ := Aside0.mk (below_step (by repeat (first | (with_reducible first | exact HB.out | apply below_alloc | apply pw_below_drewN | apply below_drew1) | exact HB.out)) hb); have n1_ := Aside0.mk (hbox); have n2_ := Aside0.mk ((by rw [hg]; exact (below_size (by repeat (first | (with_reducible first | exact HB.out | apply below_alloc | apply pw_below_drewN | apply below_drew1) | exact HB.out))) : w.heap.size ≤ gb344)); have n3_ := Aside0.mk ((by rw [hg]; exact (below_size (by repeat (first | (with_reducible first | exact HB.out | apply below_alloc | apply pw_below_drewN | apply below_drew1) | exact HB.out))) : w.heap.size ≤ gb344)); clear HB; have HB := n0_; have BK344 := n1_; have GW344 := n2_; have GE344 := n3_; clear n0_ n1_ n2_ n3_; clear hb hbox hg))
  (try simp only [Act.put, List.setIfInBounds_toArray, List.set_cons_zero, List.set_cons_succ])
  go_cut [5] (fun v5 wc => ∃ (kq : Nat) (x5_1 : Bool), v5 = .bool x5_1 ∧ Aside0 (code_shapeOf.j0 kq a0 x5_1 = some (r1, r2, r3, r4, r5)) ∧ Aside0 (kq ≤ k) ∧ Aside0 (wc.heap[gb344]? = some (.cells #[.bool false, .bool false, .bool false, .bool false] 125 (0, 0))) ∧ Aside0 (Below w.heap.size w wc))
  case first =>
    have H := HC2.out
    clear HC2
    by_cases c4 : a0 = 1
    · rw [if_pos c4] at H
      have c4b0 : (a0 == 1) = true := beq_iff_eq.mpr c4
      have c4b1 : (a0 != 1) = false := bne_eq_false_iff_eq.mpr c4
      clear c4
      (first | rw [c4b0] | (simp only [i64_w, i32_w]; rw [c4b0]) | skip)
      have H' := Aside0.mk H
      clear H
      go_wp2
      go_meet
      case rel => exact ⟨_, ((a0 == 1)), (by first | rfl | (simp; done) | (simp [*]; done)), H', ⟨by first | omega | exact Nat.le_refl _⟩, ⟨by (with_reducible repeat (first | refine blk_drewN ?_ _ | refine blk_drew ?_ | refine blk_alloc ?_ _)); exact BK344.out⟩, ⟨by repeat (first | (with_reducible first | exact HB.out | apply below_alloc | apply pw_below_drewN | apply below_drew1 | refine below_set ?_ GE344.out) | exact HB.out)⟩⟩
    · rw [if_neg c4] at H
      have c4b0 : (a0 == 1) = false := beq_eq_false_iff_ne.mpr c4
      have c4b1 : (a0 != 1) = true := bne_iff_ne.mpr c4
      (first | rw [c4b0] | (simp only [i64_w, i32_w]; rw [c4b0]) | skip)
      by_cases c5 : a0 = 6
      · rw [if_pos c5] at H
        have c5b0 : (a0 == 6) = true := beq_iff_eq.mpr c5
        have c5b1 : (a0 != 6) = false := bne_eq_false_iff_eq.mpr c5
        clear c5
        have H' := Aside0.mk H
        clear H
        go_wp2
        go_meet
        case rel => exact ⟨_, ((a0 == 6)), (by first | rfl | (simp; done) | (simp [*]; done)), H', ⟨by first | omega | exact Nat.le_refl _⟩, ⟨by (with_reducible repeat (first | refine blk_drewN ?_ _ | refine blk_drew ?_ | refine blk_alloc ?_ _)); exact BK344.out⟩, ⟨by repeat (first | (with_reducible first | exact HB.out | apply below_alloc | apply pw_below_drewN | apply below_drew1 | refine below_set ?_ GE344.out) | exact HB.out)⟩⟩
      · rw [if_neg c5] at H
        have c5b0 : (a0 == 6) = false := beq_eq_false_iff_ne.mpr c5
        have c5b1 : (a0 != 6) = true := bne_iff_ne.mpr c5
        have H' := Aside0.mk H
        clear H
        go_wp2
        go_meet
        case rel => exact ⟨_, ((a0 == 7)), (by first | rfl | (simp; done) | (simp [*]; done)), H', ⟨by first | omega | exact Nat.le_refl _⟩, ⟨by (with_reducible repeat (first | refine blk_drewN ?_ _ | refine blk_drew ?_ | refine blk_alloc ?_ _)); exact BK344.out⟩, ⟨by repeat (first | (with_reducible first | exact HB.out | apply below_alloc | apply pw_below_drewN | apply below_drew1 | refine below_set ?_ GE344.out) | exact HB.out)⟩⟩
  case rest =>
    clear HC2
    try clear p2
    try clear c4
    try clear c4b0
    try clear c4b1
    try clear c5
    try clear c5b0
    try clear c5b1
    obtain ⟨kq, x5_1, rfl, HA, HJ1, BK344, HB⟩ := hcut
    cases kq with
    | zero => exact absurd HA.out (by simp [code_shapeOf.j0])
    | succ kj1 =>
      have H := HA.out
      clear HA
      simp only [code_shapeOf.j0] at H
      by_cases c6 : x5_1 = true
      · subst c6
        have H1 : (some (true, false, false, true, true)) = some (r1, r2, r3, r4, r5) := by rw [if_pos rfl] at H; exact H
        clear H
        have H := H1
        clear H1
        simp only [Option.some.injEq, Prod.mk.injEq] at H
        obtain ⟨rfl, rfl, rfl, rfl, rfl⟩ := H
        have hcz7_0 : wc.cell? ⟨gb344, 0, none⟩ = some (.bool false) := (blk_cell BK344.out 0).trans rfl
        have hcz7_1 : wc.cell? ⟨gb344, 1, none⟩ = some (.bool false) := (blk_cell BK344.out 1).trans rfl
        have hcz7_2 : wc.cell? ⟨gb344, 2, none⟩ = some (.bool false) := (blk_cell BK344.out 2).trans rfl
        have hcz7_3 : wc.cell? ⟨gb344, 3, none⟩ = some (.bool false) := (blk_cell BK344.out 3).trans rfl
        have hfz7_0 := blk_frozen BK344.out 0
        have hfz7_1 := blk_frozen BK344.out 1
        have hfz7_2 := blk_frozen BK344.out 2
        have hfz7_3 := blk_frozen BK344.out 3
        go_wp2
        refine bodyPost_ret (results_ct rfl _ _ gb344 125 #[.bool true, .bool false, .bool false, .bool true] (0, 0) _ rfl (by (with_reducible repeat (first | refine blk_drewN ?_ _ | refine blk_drew ?_ | refine blk_alloc ?_ _)); refine blk_put (cs := #[.bool true, .bool false, .bool false, .bool false]) ?_ 3 _ rfl; (with_reducible repeat (first | refine blk_drewN ?_ _ | refine blk_drew ?_ | refine blk_alloc ?_ _)); refine blk_put (cs := #[.bool true, .bool false, .bool false, .bool false]) ?_ 2 _ rfl; (with_reducible repeat (first | refine blk_drewN ?_ _ | refine blk_drew ?_ | refine blk_alloc ?_ _)); refine blk_put (cs := #[.bool true, .bool false, .bool false, .bool false]) ?_ 1 _ rfl; (with_reducible repeat (first | refine blk_drewN ?_ _ | refine blk_drew ?_ | refine blk_alloc ?_ _)); refine blk_put (cs := #[.bool false, .bool false, .bool false, .bool false]) ?_ 0 _ rfl; (with_reducible repeat (first | refine blk_drewN ?_ _ | refine blk_drew ?_ | refine blk_alloc ?_ _)); exact BK344.out) Try.underlying125 rfl (by kernel_rfl)) rfl ?_
        exact ⟨by first | rfl | (simp [errW_none, errW_some] <;> rfl) | (simp [*, errW_none, errW_some] <;> rfl), by repeat (first | (with_reducible first | exact HB.out | apply below_alloc | apply pw_below_drewN | apply below_drew1 | refine below_set ?_ GE344.out) | exact HB.out)⟩
      · replace c6 := Bool.eq_false_iff.mpr c6
        subst c6
        have H1 : (if a0 = 2 then (some (true, true, true, true, true)) else (if a0 = 3 then (some (true, true, false, false, true)) else (if a0 = 4 then (some (true, true, false, true, true)) else (if a0 = 5 then (some (false, true, true, true, true)) else (if a0 = 8 then (some (true, false, false, false, true)) else (if a0 = 9 then (some (false, true, false, false, true)) else (some (false, false, false, false, false)))))))) = some (r1, r2, r3, r4, r5) := by rw [if_neg (show ¬ (false = true) by decide)] at H; exact H
        clear H
        have H := H1
        clear H1
        by_cases c8 : a0 = 2
        · rw [if_pos c8] at H
          have c8b0 : (a0 == 2) = true := beq_iff_eq.mpr c8
          have c8b1 : (a0 != 2) = false := bne_eq_false_iff_eq.mpr c8
          clear c8
          simp only [Option.some.injEq, Prod.mk.injEq] at H
          obtain ⟨rfl, rfl, rfl, rfl, rfl⟩ := H
          have hcz9_0 : wc.cell? ⟨gb344, 0, none⟩ = some (.bool false) := (blk_cell BK344.out 0).trans rfl
          have hcz9_1 : wc.cell? ⟨gb344, 1, none⟩ = some (.bool false) := (blk_cell BK344.out 1).trans rfl
          have hcz9_2 : wc.cell? ⟨gb344, 2, none⟩ = some (.bool false) := (blk_cell BK344.out 2).trans rfl
          have hcz9_3 : wc.cell? ⟨gb344, 3, none⟩ = some (.bool false) := (blk_cell BK344.out 3).trans rfl
          have hfz9_0 := blk_frozen BK344.out 0
          have hfz9_1 := blk_frozen BK344.out 1
          have hfz9_2 := blk_frozen BK344.out 2
          have hfz9_3 := blk_frozen BK344.out 3
          go_wp2
          refine bodyPost_ret (results_ct rfl _ _ gb344 125 #[.bool true, .bool true, .bool true, .bool true] (0, 0) _ rfl (by (with_reducible repeat (first | refine blk_drewN ?_ _ | refine blk_drew ?_ | refine blk_alloc ?_ _)); refine blk_put (cs := #[.bool true, .bool true, .bool true, .bool false]) ?_ 3 _ rfl; (with_reducible repeat (first | refine blk_drewN ?_ _ | refine blk_drew ?_ | refine blk_alloc ?_ _)); refine blk_put (cs := #[.bool true, .bool true, .bool false, .bool false]) ?_ 2 _ rfl; (with_reducible repeat (first | refine blk_drewN ?_ _ | refine blk_drew ?_ | refine blk_alloc ?_ _)); refine blk_put (cs := #[.bool true, .bool false, .bool false, .bool false]) ?_ 1 _ rfl; (with_reducible repeat (first | refine blk_drewN ?_ _ | refine blk_drew ?_ | refine blk_alloc ?_ _)); refine blk_put (cs := #[.bool false, .bool false, .bool false, .bool false]) ?_ 0 _ rfl; (with_reducible repeat (first | refine blk_drewN ?_ _ | refine blk_drew ?_ | refine blk_alloc ?_ _)); exact BK344.out) Try.underlying125 rfl (by kernel_rfl)) rfl ?_
          exact ⟨by first | rfl | (simp [errW_none, errW_some] <;> rfl) | (simp [*, errW_none, errW_some] <;> rfl), by repeat (first | (with_reducible first | exact HB.out | apply below_alloc | apply pw_below_drewN | apply below_drew1 | refine below_set ?_ GE344.out) | exact HB.out)⟩
        · rw [if_neg c8] at H
          have c8b0 : (a0 == 2) = false := beq_eq_false_iff_ne.mpr c8
          have c8b1 : (a0 != 2) = true := bne_iff_ne.mpr c8
          by_cases c10 : a0 = 3
          · rw [if_pos c10] at H
            have c10b0 : (a0 == 3) = true := beq_iff_eq.mpr c10
            have c10b1 : (a0 != 3) = false := bne_eq_false_iff_eq.mpr c10
            clear c10
            simp only [Option.some.injEq, Prod.mk.injEq] at H
            obtain ⟨rfl, rfl, rfl, rfl, rfl⟩ := H
            have hcz11_0 : wc.cell? ⟨gb344, 0, none⟩ = some (.bool false) := (blk_cell BK344.out 0).trans rfl
            have hcz11_1 : wc.cell? ⟨gb344, 1, none⟩ = some (.bool false) := (blk_cell BK344.out 1).trans rfl
            have hcz11_2 : wc.cell? ⟨gb344, 2, none⟩ = some (.bool false) := (blk_cell BK344.out 2).trans rfl
            have hcz11_3 : wc.cell? ⟨gb344, 3, none⟩ = some (.bool false) := (blk_cell BK344.out 3).trans rfl
            have hfz11_0 := blk_frozen BK344.out 0
            have hfz11_1 := blk_frozen BK344.out 1
            have hfz11_2 := blk_frozen BK344.out 2
            have hfz11_3 := blk_frozen BK344.out 3
            go_wp2
            refine bodyPost_ret (results_ct rfl _ _ gb344 125 #[.bool true, .bool true, .bool false, .bool false] (0, 0) _ rfl (by (with_reducible repeat (first | refine blk_drewN ?_ _ | refine blk_drew ?_ | refine blk_alloc ?_ _)); refine blk_put (cs := #[.bool true, .bool true, .bool false, .bool false]) ?_ 3 _ rfl; (with_reducible repeat (first | refine blk_drewN ?_ _ | refine blk_drew ?_ | refine blk_alloc ?_ _)); refine blk_put (cs := #[.bool true, .bool true, .bool false, .bool false]) ?_ 2 _ rfl; (with_reducible repeat (first | refine blk_drewN ?_ _ | refine blk_drew ?_ | refine blk_alloc ?_ _)); refine blk_put (cs := #[.bool true, .bool false, .bool false, .bool false]) ?_ 1 _ rfl; (with_reducible repeat (first | refine blk_drewN ?_ _ | refine blk_drew ?_ | refine blk_alloc ?_ _)); refine blk_put (cs := #[.bool false, .bool false, .bool false, .bool false]) ?_ 0 _ rfl; (with_reducible repeat (first | refine blk_drewN ?_ _ | refine blk_drew ?_ | refine blk_alloc ?_ _)); exact BK344.out) Try.underlying125 rfl (by kernel_rfl)) rfl ?_
            exact ⟨by first | rfl | (simp [errW_none, errW_some] <;> rfl) | (simp [*, errW_none, errW_some] <;> rfl), by repeat (first | (with_reducible first | exact HB.out | apply below_alloc | apply pw_below_drewN | apply below_drew1 | refine below_set ?_ GE344.out) | exact HB.out)⟩
          · rw [if_neg c10] at H
            have c10b0 : (a0 == 3) = false := beq_eq_false_iff_ne.mpr c10
            have c10b1 : (a0 != 3) = true := bne_iff_ne.mpr c10
            by_cases c12 : a0 = 4
            · rw [if_pos c12] at H
              have c12b0 : (a0 == 4) = true := beq_iff_eq.mpr c12
              have c12b1 : (a0 != 4) = false := bne_eq_false_iff_eq.mpr c12
              clear c12
              simp only [Option.some.injEq, Prod.mk.injEq] at H
              obtain ⟨rfl, rfl, rfl, rfl, rfl⟩ := H
              have hcz13_0 : wc.cell? ⟨gb344, 0, none⟩ = some (.bool false) := (blk_cell BK344.out 0).trans rfl
              have hcz13_1 : wc.cell? ⟨gb344, 1, none⟩ = some (.bool false) := (blk_cell BK344.out 1).trans rfl
              have hcz13_2 : wc.cell? ⟨gb344, 2, none⟩ = some (.bool false) := (blk_cell BK344.out 2).trans rfl
              have hcz13_3 : wc.cell? ⟨gb344, 3, none⟩ = some (.bool false) := (blk_cell BK344.out 3).trans rfl
              have hfz13_0 := blk_frozen BK344.out 0
              have hfz13_1 := blk_frozen BK344.out 1
              have hfz13_2 := blk_frozen BK344.out 2
              have hfz13_3 := blk_frozen BK344.out 3
              go_wp2
              refine bodyPost_ret (results_ct rfl _ _ gb344 125 #[.bool true, .bool true, .bool false, .bool true] (0, 0) _ rfl (by (with_reducible repeat (first | refine blk_drewN ?_ _ | refine blk_drew ?_ | refine blk_alloc ?_ _)); refine blk_put (cs := #[.bool true, .bool true, .bool false, .bool false]) ?_ 3 _ rfl; (with_reducible repeat (first | refine blk_drewN ?_ _ | refine blk_drew ?_ | refine blk_alloc ?_ _)); refine blk_put (cs := #[.bool true, .bool true, .bool false, .bool false]) ?_ 2 _ rfl; (with_reducible repeat (first | refine blk_drewN ?_ _ | refine blk_drew ?_ | refine blk_alloc ?_ _)); refine blk_put (cs := #[.bool true, .bool false, .bool false, .bool false]) ?_ 1 _ rfl; (with_reducible repeat (first | refine blk_drewN ?_ _ | refine blk_drew ?_ | refine blk_alloc ?_ _)); refine blk_put (cs := #[.bool false, .bool false, .bool false, .bool false]) ?_ 0 _ rfl; (with_reducible repeat (first | refine blk_drewN ?_ _ | refine blk_drew ?_ | refine blk_alloc ?_ _)); exact BK344.out) Try.underlying125 rfl (by kernel_rfl)) rfl ?_
              exact ⟨by first | rfl | (simp [errW_none, errW_some] <;> rfl) | (simp [*, errW_none, errW_some] <;> rfl), by repeat (first | (with_reducible first | exact HB.out | apply below_alloc | apply pw_below_drewN | apply below_drew1 | refine below_set ?_ GE344.out) | exact HB.out)⟩
            · rw [if_neg c12] at H
              have c12b0 : (a0 == 4) = false := beq_eq_false_iff_ne.mpr c12
              have c12b1 : (a0 != 4) = true := bne_iff_ne.mpr c12
              by_cases c14 : a0 = 5
              · rw [if_pos c14] at H
                have c14b0 : (a0 == 5) = true := beq_iff_eq.mpr c14
                have c14b1 : (a0 != 5) = false := bne_eq_false_iff_eq.mpr c14
                clear c14
                simp only [Option.some.injEq, Prod.mk.injEq] at H
                obtain ⟨rfl, rfl, rfl, rfl, rfl⟩ := H
                have hcz15_0 : wc.cell? ⟨gb344, 0, none⟩ = some (.bool false) := (blk_cell BK344.out 0).trans rfl
                have hcz15_1 : wc.cell? ⟨gb344, 1, none⟩ = some (.bool false) := (blk_cell BK344.out 1).trans rfl
                have hcz15_2 : wc.cell? ⟨gb344, 2, none⟩ = some (.bool false) := (blk_cell BK344.out 2).trans rfl
                have hcz15_3 : wc.cell? ⟨gb344, 3, none⟩ = some (.bool false) := (blk_cell BK344.out 3).trans rfl
                have hfz15_0 := blk_frozen BK344.out 0
                have hfz15_1 := blk_frozen BK344.out 1
                have hfz15_2 := blk_frozen BK344.out 2
                have hfz15_3 := blk_frozen BK344.out 3
                go_wp2
                refine bodyPost_ret (results_ct rfl _ _ gb344 125 #[.bool false, .bool true, .bool true, .bool true] (0, 0) _ rfl (by (with_reducible repeat (first | refine blk_drewN ?_ _ | refine blk_drew ?_ | refine blk_alloc ?_ _)); refine blk_put (cs := #[.bool false, .bool true, .bool true, .bool false]) ?_ 3 _ rfl; (with_reducible repeat (first | refine blk_drewN ?_ _ | refine blk_drew ?_ | refine blk_alloc ?_ _)); refine blk_put (cs := #[.bool false, .bool true, .bool false, .bool false]) ?_ 2 _ rfl; (with_reducible repeat (first | refine blk_drewN ?_ _ | refine blk_drew ?_ | refine blk_alloc ?_ _)); refine blk_put (cs := #[.bool false, .bool false, .bool false, .bool false]) ?_ 1 _ rfl; (with_reducible repeat (first | refine blk_drewN ?_ _ | refine blk_drew ?_ | refine blk_alloc ?_ _)); refine blk_put (cs := #[.bool false, .bool false, .bool false, .bool false]) ?_ 0 _ rfl; (with_reducible repeat (first | refine blk_drewN ?_ _ | refine blk_drew ?_ | refine blk_alloc ?_ _)); exact BK344.out) Try.underlying125 rfl (by kernel_rfl)) rfl ?_
                exact ⟨by first | rfl | (simp [errW_none, errW_some] <;> rfl) | (simp [*, errW_none, errW_some] <;> rfl), by repeat (first | (with_reducible first | exact HB.out | apply below_alloc | apply pw_below_drewN | apply below_drew1 | refine below_set ?_ GE344.out) | exact HB.out)⟩
              · rw [if_neg c14] at H
                have c14b0 : (a0 == 5) = false := beq_eq_false_iff_ne.mpr c14
                have c14b1 : (a0 != 5) = true := bne_iff_ne.mpr c14
                by_cases c16 : a0 = 8
                · rw [if_pos c16] at H
                  have c16b0 : (a0 == 8) = true := beq_iff_eq.mpr c16
                  have c16b1 : (a0 != 8) = false := bne_eq_false_iff_eq.mpr c16
                  clear c16
                  simp only [Option.some.injEq, Prod.mk.injEq] at H
                  obtain ⟨rfl, rfl, rfl, rfl, rfl⟩ := H
                  have hcz17_0 : wc.cell? ⟨gb344, 0, none⟩ = some (.bool false) := (blk_cell BK344.out 0).trans rfl
                  have hcz17_1 : wc.cell? ⟨gb344, 1, none⟩ = some (.bool false) := (blk_cell BK344.out 1).trans rfl
                  have hcz17_2 : wc.cell? ⟨gb344, 2, none⟩ = some (.bool false) := (blk_cell BK344.out 2).trans rfl
                  have hcz17_3 : wc.cell? ⟨gb344, 3, none⟩ = some (.bool false) := (blk_cell BK344.out 3).trans rfl
                  have hfz17_0 := blk_frozen BK344.out 0
                  have hfz17_1 := blk_frozen BK344.out 1
                  have hfz17_2 := blk_frozen BK344.out 2
                  have hfz17_3 := blk_frozen BK344.out 3
                  go_wp2
                  refine bodyPost_ret (results_ct rfl _ _ gb344 125 #[.bool true, .bool false, .bool false, .bool false] (0, 0) _ rfl (by (with_reducible repeat (first | refine blk_drewN ?_ _ | refine blk_drew ?_ | refine blk_alloc ?_ _)); refine blk_put (cs := #[.bool true, .bool false, .bool false, .bool false]) ?_ 3 _ rfl; (with_reducible repeat (first | refine blk_drewN ?_ _ | refine blk_drew ?_ | refine blk_alloc ?_ _)); refine blk_put (cs := #[.bool true, .bool false, .bool false, .bool false]) ?_ 2 _ rfl; (with_reducible repeat (first | refine blk_drewN ?_ _ | refine blk_drew ?_ | refine blk_alloc ?_ _)); refine blk_put (cs := #[.bool true, .bool false, .bool false, .bool false]) ?_ 1 _ rfl; (with_reducible repeat (first | refine blk_drewN ?_ _ | refine blk_drew ?_ | refine blk_alloc ?_ _)); refine blk_put (cs := #[.bool false, .bool false, .bool false, .bool false]) ?_ 0 _ rfl; (with_reducible repeat (first | refine blk_drewN ?_ _ | refine blk_drew ?_ | refine blk_alloc ?_ _)); exact BK344.out) Try.underlying125 rfl (by kernel_rfl)) rfl ?_
                  exact ⟨by first | rfl | (simp [errW_none, errW_some] <;> rfl) | (simp [*, errW_none, errW_some] <;> rfl), by repeat (first | (with_reducible first | exact HB.out | apply below_alloc | apply pw_below_drewN | apply below_drew1 | refine below_set ?_ GE344.out) | exact HB.out)⟩
                · rw [if_neg c16] at H
                  have c16b0 : (a0 == 8) = false := beq_eq_false_iff_ne.mpr c16
                  have c16b1 : (a0 != 8) = true := bne_iff_ne.mpr c16
                  by_cases c18 : a0 = 9
                  · rw [if_pos c18] at H
                    have c18b0 : (a0 == 9) = true := beq_iff_eq.mpr c18
                    have c18b1 : (a0 != 9) = false := bne_eq_false_iff_eq.mpr c18
                    clear c18
                    simp only [Option.some.injEq, Prod.mk.injEq] at H
                    obtain ⟨rfl, rfl, rfl, rfl, rfl⟩ := H
                    have hcz19_0 : wc.cell? ⟨gb344, 0, none⟩ = some (.bool false) := (blk_cell BK344.out 0).trans rfl
                    have hcz19_1 : wc.cell? ⟨gb344, 1, none⟩ = some (.bool false) := (blk_cell BK344.out 1).trans rfl
                    have hcz19_2 : wc.cell? ⟨gb344, 2, none⟩ = some (.bool false) := (blk_cell BK344.out 2).trans rfl
                    have hcz19_3 : wc.cell? ⟨gb344, 3, none⟩ = some (.bool false) := (blk_cell BK344.out 3).trans rfl
                    have hfz19_0 := blk_frozen BK344.out 0
                    have hfz19_1 := blk_frozen BK344.out 1
                    have hfz19_2 := blk_frozen BK344.out 2
                    have hfz19_3 := blk_frozen BK344.out 3
                    go_wp2
                    refine bodyPost_ret (results_ct rfl _ _ gb344 125 #[.bool false, .bool true, .bool false, .bool false] (0, 0) _ rfl (by (with_reducible repeat (first | refine blk_drewN ?_ _ | refine blk_drew ?_ | refine blk_alloc ?_ _)); refine blk_put (cs := #[.bool false, .bool true, .bool false, .bool false]) ?_ 3 _ rfl; (with_reducible repeat (first | refine blk_drewN ?_ _ | refine blk_drew ?_ | refine blk_alloc ?_ _)); refine blk_put (cs := #[.bool false, .bool true, .bool false, .bool false]) ?_ 2 _ rfl; (with_reducible repeat (first | refine blk_drewN ?_ _ | refine blk_drew ?_ | refine blk_alloc ?_ _)); refine blk_put (cs := #[.bool false, .bool false, .bool false, .bool false]) ?_ 1 _ rfl; (with_reducible repeat (first | refine blk_drewN ?_ _ | refine blk_drew ?_ | refine blk_alloc ?_ _)); refine blk_put (cs := #[.bool false, .bool false, .bool false, .bool false]) ?_ 0 _ rfl; (with_reducible repeat (first | refine blk_drewN ?_ _ | refine blk_drew ?_ | refine blk_alloc ?_ _)); exact BK344.out) Try.underlying125 rfl (by kernel_rfl)) rfl ?_
                    exact ⟨by first | rfl | (simp [errW_none, errW_some] <;> rfl) | (simp [*, errW_none, errW_some] <;> rfl), by repeat (first | (with_reducible first | exact HB.out | apply below_alloc | apply pw_below_drewN | apply below_drew1 | refine below_set ?_ GE344.out) | exact HB.out)⟩
                  · rw [if_neg c18] at H
                    have c18b0 : (a0 == 9) = false := beq_eq_false_iff_ne.mpr c18
                    have c18b1 : (a0 != 9) = true := bne_iff_ne.mpr c18
                    simp only [Option.some.injEq, Prod.mk.injEq] at H
                    obtain ⟨rfl, rfl, rfl, rfl, rfl⟩ := H
                    have hcz20_0 : wc.cell? ⟨gb344, 0, none⟩ = some (.bool false) := (blk_cell BK344.out 0).trans rfl
                    have hcz20_1 : wc.cell? ⟨gb344, 1, none⟩ = some (.bool false) := (blk_cell BK344.out 1).trans rfl
                    have hcz20_2 : wc.cell? ⟨gb344, 2, none⟩ = some (.bool false) := (blk_cell BK344.out 2).trans rfl
                    have hcz20_3 : wc.cell? ⟨gb344, 3, none⟩ = some (.bool false) := (blk_cell BK344.out 3).trans rfl
                    have hfz20_0 := blk_frozen BK344.out 0
                    have hfz20_1 := blk_frozen BK344.out 1
                    have hfz20_2 := blk_frozen BK344.out 2
                    have hfz20_3 := blk_frozen BK344.out 3
                    go_wp2
                    refine bodyPost_ret (results_ct rfl _ _ gb344 125 #[.bool false, .bool false, .bool false, .bool false] (0, 0) _ rfl (by (with_reducible repeat (first | refine blk_drewN ?_ _ | refine blk_drew ?_ | refine blk_alloc ?_ _)); refine blk_put (cs := #[.bool false, .bool false, .bool false, .bool false]) ?_ 3 _ rfl; (with_reducible repeat (first | refine blk_drewN ?_ _ | refine blk_drew ?_ | refine blk_alloc ?_ _)); refine blk_put (cs := #[.bool false, .bool false, .bool false, .bool false]) ?_ 2 _ rfl; (with_reducible repeat (first | refine blk_drewN ?_ _ | refine blk_drew ?_ | refine blk_alloc ?_ _)); refine blk_put (cs := #[.bool false, .bool false, .bool false, .bool false]) ?_ 1 _ rfl; (with_reducible repeat (first | refine blk_drewN ?_ _ | refine blk_drew ?_ | refine blk_alloc ?_ _)); refine blk_put (cs := #[.bool false, .bool false, .bool false, .bool false]) ?_ 0 _ rfl; (with_reducible repeat (first | refine blk_drewN ?_ _ | refine blk_drew ?_ | refine blk_alloc ?_ _)); exact BK344.out) Try.underlying125 rfl (by kernel_rfl)) rfl ?_
                    exact ⟨by first | rfl | (simp [errW_none, errW_some] <;> rfl) | (simp [*, errW_none, errW_some] <;> rfl), by repeat (first | (with_reducible first | exact HB.out | apply below_alloc | apply pw_below_drewN | apply below_drew1 | refine below_set ?_ GE344.out) | exact HB.out)⟩

end Go.Proofs.Yteeapfmgdlcgfaa.A


namespace Go.Proofs.Yteeapfmgdlcgfaa.A
open Go.RowKit Go.Proofs.YteeapfmgdlcgfaaW.PrintWords Go.Proofs.YteeapfmgdlcgfaaW.PrintLast Go.Proofs.YteeapfmgdlcgfaaW.PrintMore
attribute [local go_sem] max2_int min2_int max_two min_two max_three min_three max_four min_four   -- for this text's walks alone
set_option linter.unusedVariables false
set_option linter.unusedSimpArgs false

def word_Known.f (a0 : Int) : Option (Bool) := if a0 ≥ 1 then (some (decide (a0 ≤ 14))) else (some false)
set_option maxHeartbeats 8000000 in
set_option maxRecDepth 100000 in
theorem word_Known.calls (a0 : Int) (r : Bool) (w : World) (h : word_Known.f a0 = some r) :
    Calls Try.prog 122 #[.int .i64 a0] w fun e w' => e = .returned (.bool r) ∧ Drawn0 w w' := by
  have H : (if a0 ≥ 1 then (some (decide (a0 ≤ 14))) else (some false)) = some r := h
  clear h
  by_cases c2 : a0 ≥ 1
  · rw [if_pos c2] at H
    have c2b0 : decide (1 ≤ a0) = true := decide_eq_true c2
    clear c2
    obtain rfl := Option.some.inj H
    go_enter Try.func122, Try.ntmps122
    go_wp2
    go_ret
    exact ⟨by first | rfl | (simp; done) | (simp [*]; done), by repeat (first | exact Drawn0.refl _ | apply Drawn0.step)⟩
  · rw [if_neg c2] at H
    have c2b0 : decide (1 ≤ a0) = false := decide_eq_false c2
    clear c2
    obtain rfl := Option.some.inj H
    go_enter Try.func122, Try.ntmps122
    go_wp2
    go_ret
    exact ⟨by first | rfl | (simp; done) | (simp [*]; done), by repeat (first | exact Drawn0.refl _ | apply Drawn0.step)⟩

end Go.Proofs.Yteeapfmgdlcgfaa.A


namespace Go.Proofs.Yteeapfmgdlcgfaa.A
open Go.RowKit Go.Proofs.YteeapfmgdlcgfaaW.PrintWords Go.Proofs.YteeapfmgdlcgfaaW.PrintLast Go.Proofs.YteeapfmgdlcgfaaW.PrintMore
attribute [local go_sem] max2_int min2_int max_two min_two max_three min_three max_four min_four   -- for this text's walks alone
set_option linter.unusedVariables false
set_option linter.unusedSimpArgs false

def code_immediate.j0 : Nat → Int → Int → Bool → Int → Int → Int → Int → Int → List Int → Bool → Bool → Bool → Bool → Option (Bool)
  | 0, _, _, _, _, _, _, _, _, _, _, _, _, _ => none
  | k + 1, x2, x8, x14, x349000, x349001, x349002, x349003, x349004, x349005, x350000, x350001, x350002, x350003 => if x14 = true then ((code_within.f x349004 (-2147483648) 2147483647).bind fun t351 => (some t351)) else (if x8 = 6 then ((code_within.f x349004 0 1048576).bind fun t352 => (some t352)) else (if x8 = 7 then ((code_within.f x349004 0 (wrap64 (x2 - 1))).bind fun t353 => (some t353)) else (if x350003 = true then (some true) else (some (x349004 == 0)))))
def code_immediate.f (k : Nat) (a0_0 : Int) (a0_1 : Int) (a0_2 : Int) (a0_3 : Int) (a0_4 : Int) (l0_5 : List Int) (a1_0 : Bool) (a1_1 : Bool) (a1_2 : Bool) (a1_3 : Bool) (a2 : Int) : Option (Bool) := if a0_0 = 2 then ((word_Known.f a0_4).bind fun t350 => (some t350)) else (if a0_0 = 4 then (code_immediate.j0 k a2 a0_0 (a0_0 == 4) a0_0 a0_1 a0_2 a0_3 a0_4 l0_5 a1_0 a1_1 a1_2 a1_3) else (code_immediate.j0 k a2 a0_0 (a0_0 == 5) a0_0 a0_1 a0_2 a0_3 a0_4 l0_5 a1_0 a1_1 a1_2 a1_3))
set_option maxHeartbeats 8000000 in
set_option maxRecDepth 100000 in
theorem code_immediate.calls (k : Nat) (a0_0 : Int) (a0_1 : Int) (a0_2 : Int) (a0_3 : Int) (a0_4 : Int) (A0_5 : Option Addr) (c0_5 : Nat) (l0_5 : List Int) (a1_0 : Bool) (a1_1 : Bool) (a1_2 : Bool) (a1_3 : Bool) (a2 : Int) (r : Bool) (w : World) (hr0_5 : Kd.C (Kd.int .i64) w A0_5 l0_5.length l0_5) (hc0_5 : l0_5.length ≤ c0_5) (h : code_immediate.f k a0_0 a0_1 a0_2 a0_3 a0_4 l0_5 a1_0 a1_1 a1_2 a1_3 a2 = some r) :
    Calls Try.prog 108 #[.agg #[.int .i64 a0_0, .int .i64 a0_1, .int .i64 a0_2, .int .i64 a0_3, .int .i64 a0_4, .slice A0_5 l0_5.length c0_5], .agg #[.bool a1_0, .bool a1_1, .bool a1_2, .bool a1_3], .int .i64 a2] w fun e w' => e = .returned (.bool r) ∧ Below w.heap.size w w' := by
  have hu60 := Try.underlying60
  have hu125 := Try.underlying125
  have HR0_5 := Aside0.mk hr0_5
  have HC0_5 := Aside0.mk hc0_5
  clear hr0_5 hc0_5
  have HB := Aside0.mk (Below.refl w.heap.size w)
  have H : (if a0_0 = 2 then ((word_Known.f a0_4).bind fun t350 => (some t350)) else (if a0_0 = 4 then (code_immediate.j0 k a2 a0_0 (a0_0 == 4) a0_0 a0_1 a0_2 a0_3 a0_4 l0_5 a1_0 a1_1 a1_2 a1_3) else (code_immediate.j0 k a2 a0_0 (a0_0 == 5) a0_0 a0_1 a0_2 a0_3 a0_4 l0_5 a1_0 a1_1 a1_2 a1_3))) = some r := h
  clear h
  by_cases c4 : a0_0 = 2
  · rw [if_pos c4] at H
    have c4b0 : (a0_0 == 2) = true := beq_iff_eq.mpr c4
    have c4b1 : (a0_0 != 2) = false := bne_eq_false_iff_eq.mpr c4
    clear c4
    replace H := Option.bind_eq_some_iff.mp H
    obtain ⟨t350, A50, H⟩ := H
    replace H : (some t350) = some r := H
    have A5 := Aside0.mk A50
    clear A50
    obtain rfl := Option.some.inj H
    go_enter Try.func108, Try.ntmps108
    go_wp2_with (first | ((with_reducible refine gate_dst (N := 3) rfl ?_); refine box_event ?hg (N := 3) ?hd (cs := #[.int .i64 a0_0, .int .i64 a0_1, .int .i64 a0_2, .int .i64 a0_3, .int .i64 a0_4, .slice A0_5 l0_5.length c0_5]) (t := 60) ?hr ?_; (case hd => rfl); (case hg => rfl); (case hr => first | (go_simp; done) | (go_simp; rfl)); intro gb348 hg w6 hbox hb; have n0_ := Aside0.mk (below_step (by repeat (first | (with_reducible first | exact HB.out | apply below_alloc | apply pw_below_drewN | apply below_drew1) | exact HB.out)) hb); have n1_ := Aside0.mk (hbox); have n2_ := Aside0.mk ((by rw [hg]; exact (below_size (by repeat (first | (with_reducible first | exact HB.out | apply below_alloc | apply pw_below_drewN | apply below_drew1) | exact HB.out))) : w.heap.size ≤ gb348)); have n3_ := Aside0.mk ((by rw [hg]; exact (below_size (by repeat (first | (with_reducible first | exact HB.out | apply below_alloc | apply pw_below_drewN | apply below_drew1) | exact HB.out))) : w.heap.size ≤ gb348)); clear HB; have HB := n0_; have BK348 := n1_; have GW348 := n2_; have GE348 := n3_; clear n0_ n1_ n2_ n3_; clear hb hbox hg) | ((with_reducible refine gate_dst (N := 4) rfl ?_); refine box_event ?hg (N := 4) ?hd (cs := #[.bool a1_0, .bool a1_1, .bool a1_2, .bool a1_3]) (t := 125) ?hr ?_; (case hd => rfl); (case hg => rfl); (case hr => first | (go_simp; done) | (go_simp; rfl)); intro gb349 hg w7 hbox hb; have n0_ := Aside0.mk (blk_below (g := gb348) (o := .cells #[.int .i64 a0_0, .int .i64 a0_1, .int .i64 a0_2, .int .i64 a0_3, .int .i64 a0_4, .slice A0_5 l0_5.length c0_5] 60 (0, 0)) (by (with_reducible repeat (first | refine blk_drewN ?_ _ | refine blk_drew ?_ | refine blk_alloc ?_ _)); exact BK348.out) hb); have n1_ := Aside0.mk (below_step (by repeat (first | (with_reducible first | exact HB.out | apply below_alloc | apply pw_below_drewN | apply below_drew1 | refine below_set ?_ GE348.out) | exact HB.out)) hb); have n2_ := Aside0.mk (hbox); have n3_ := Aside0.mk ((by rw [hg]; exact (below_size (by repeat (first | (with_reducible first | exact HB.out | apply below_alloc | apply pw_below_drewN | apply below_drew1 | refine below_set ?_ GE348.out) | exact HB.out))) : w.heap.size ≤ gb349)); have n4_ := Aside0.mk ((by rw [hg]; exact (below_size (by repeat (first | (with_reducible first | exact HB.out | apply below_alloc | apply pw_below_drewN | apply below_drew1 | refine below_set ?_ GE348.out) | exact HB.out))) : w.heap.size ≤ gb349)); have n5_ := Aside0.mk ((by rw [hg]; exact Nat.ne_of_lt (blk_lt (g := gb348) (o := .cells #[.int .i64 a0_0, .int .i64 a0_1, .int .i64 a0_2, .int .i64 a0_3, .int .i64 a0_4, .slice A0_5 l0_5.length c0_5] 60 (0, 0)) (by (with_reducible repeat (first | refine blk_drewN ?_ _ | refine blk_drew ?_ | refine blk_alloc ?_ _)); exact BK348.out)) : gb348 ≠ gb349)); have n6_ := Aside0.mk ((by rw [hg]; exact Nat.ne_of_gt (blk_lt (g := gb348) (o := .cells #[.int .i64 a0_0, .int .i64 a0_1, .int .i64 a0_2, .int .i64 a0_3, .int .i64 a0_4, .slice A0_5 l0_5.length c0_5] 60 (0, 0)) (by (with_reducible repeat (first | refine blk_drewN ?_ _ | refine blk_drew ?_ | refine blk_alloc ?_ _)); exact BK348.out)) : gb349 ≠ gb348)); clear BK348; clear HB; have BK348 := n0_; have HB := n1_; have BK349 := n2_; have GW349 := n3_; have GE349 := n4_; have NB348_349 := n5_; have NB349_348 := n6_; clear n0_ n1_ n2_ n3_ n4_ n5_ n6_; clear hb hbox hg; have hnb8 := NB348_349.out; have hnc8 := NB349_348.out; have hcz9_0 : w7.cell? ⟨gb348, 0, none⟩ = some (.int .i64 a0_0) := (blk_cell BK348.out 0).trans rfl; have hcz9_1 : w7.cell? ⟨gb348, 1, none⟩ = some (.int .i64 a0_1) := (blk_cell BK348.out 1).trans rfl; have hcz9_2 : w7.cell? ⟨gb348, 2, none⟩ = some (.int .i64 a0_2) := (blk_cell BK348.out 2).trans rfl; have hcz9_3 : w7.cell? ⟨gb348, 3, none⟩ = some (.int .i64 a0_3) := (blk_cell BK348.out 3).trans rfl; have hcz9_4 : w7.cell? ⟨gb348, 4, none⟩ = some (.int .i64 a0_4) := (blk_cell BK348.out 4).trans rfl; have hcz9_5 : w7.cell? ⟨gb348, 5, none⟩ = some (.slice A0_5 l0_5.length c0_5) := (blk_cell BK348.out 5).trans rfl; have hfz9_0 := blk_frozen BK348.out 0; have hfz9_1 := blk_frozen BK348.out 1; have hfz9_2 := blk_frozen BK348.out 2; have hfz9_3 := blk_frozen BK348.out 3; have hfz9_4 := blk_frozen BK348.out 4; have hfz9_5 := blk_frozen BK348.out 5) | ((with_reducible refine gate_callee (f := 122) rfl ?_); refine goesL_ (some 13) rfl rfl Try.func122 (by kernel_rfl) rfl #[.int .i64 a0_4] rfl (by (try simp only [List.map_toArray, List.map_cons, List.map_nil]); first | done | rfl | (simp only [List.length_drop, List.length_take]; rfl)) ?_; (with_reducible refine (word_Known.calls a0_4 t350 _ A5.out).mono ?_); rintro e w' ⟨rfl, ⟨nd, rfl⟩⟩; refine ⟨_, rfl, ?_⟩))
    go_ret
    exact ⟨by first | rfl | (simp [errW_none, errW_some] <;> rfl) | (simp [*, errW_none, errW_some] <;> rfl), by repeat (first | (with_reducible first | exact HB.out | apply below_alloc | apply pw_below_drewN | apply below_drew1 | refine below_set ?_ GE348.out | refine below_set ?_ GE349.out) | exact HB.out)⟩
  · rw [if_neg c4] at H
    have c4b0 : (a0_0 == 2) = false := beq_eq_false_iff_ne.mpr c4
    have c4b1 : (a0_0 != 2) = true := bne_iff_ne.mpr c4
    have HC10 := Aside0.mk H
    clear H
    go_enter Try.func108, Try.ntmps108
    go_upto_if 14 with (first | ((with_reducible refine gate_dst (N := 3) rfl ?_); refine box_event ?hg (N := 3) ?hd (cs := #[.int .i64 a0_0, .int .i64 a0_1, .int .i64 a0_2, .int .i64 a0_3, .int .i64 a0_4, .slice A0_5 l0_5.length c0_5]) (t := 60) ?hr ?_; (case hd => rfl); (case hg => rfl); (case hr => first | (go_simp; done) | (go_simp; rfl)); intro gb348 hg w11 hbox hb; have n0_ := Aside0.mk (below_step (by repeat (first | (with_reducible first | exact HB.out | apply below_alloc | apply pw_below_drewN | apply below_drew1) | exact HB.out)) hb); have n1_ := Aside0.mk (hbox); have n2_ := Aside0.mk ((by rw [hg]; exact (below_size (by repeat (first | (with_reducible first | exact HB.out | apply below_alloc | apply pw_below_drewN | apply below_drew1) | exact HB.out))) : w.heap.size ≤ gb348)); have n3_ := Aside0.mk ((by rw [hg]; exact (below_size (by repeat (first | (with_reducible first | exact HB.out | apply below_alloc | apply pw_below_drewN | apply below_drew1) | exact HB.out))) : w.heap.size ≤ gb348)); clear HB; have HB := n0_; have BK348 := n1_; have GW348 := n2_; have GE348 := n3_; clear n0_ n1_ n2_ n3_; clear hb hbox hg) | ((with_reducible refine gate_dst (N := 4) rfl ?_); refine box_event ?hg (N := 4) ?hd (cs := #[.bool a1_0, .bool a1_1, .bool a1_2, .bool a1_3]) (t := 125) ?hr ?_; (case hd => rfl); (case hg => rfl); (case hr => first | (go_simp; done) | (go_simp; rfl)); intro gb349 hg w12 hbox hb; have n0_ := Aside0.mk (blk_below (g := gb348) (o := .cells #[.int .i64 a0_0, .int .i64 a0_1, .int .i64 a0_2, .int .i64 a0_3, .int .i64 a0_4, .slice A0_5 l0_5.length c0_5] 60 (0, 0)) (by (with_reducible repeat (first | refine blk_drewN ?_ _ | refine blk_drew ?_ | refine blk_alloc ?_ _)); exact BK348.out) hb); have n1_ := Aside0.mk (below_step (by repeat (first | (with_reducible first | exact HB.out | apply below_alloc | apply pw_below_drewN | apply below_drew1 | refine below_set ?_ GE348.out) | exact HB.out)) hb); have n2_ := Aside0.mk (hbox); have n3_ := Aside0.mk ((by rw [hg]; exact (below_size (by repeat (first | (with_reducible first | exact HB.out | apply below_alloc | apply pw_below_drewN | apply below_drew1 | refine below_set ?_ GE348.out) | exact HB.out))) : w.heap.size ≤ gb349)); have n4_ := Aside0.mk ((by rw [hg]; exact (below_size (by repeat (first | (with_reducible first | exact HB.out | apply below_alloc | apply pw_below_drewN | apply below_drew1 | refine below_set ?_ GE348.out) | exact HB.out))) : w.heap.size ≤ gb349)); have n5_ := Aside0.mk ((by rw [hg]; exact Nat.ne_of_lt (blk_lt (g := gb348) (o := .cells #[.int .i64 a0_0, .int .i64 a0_1, .int .i64 a0_2, .int .i64 a0_3, .int .i64 a0_4, .slice A0_5 l0_5.length c0_5] 60 (0, 0)) (by (with_reducible repeat (first | refine blk_drewN ?_ _ | refine blk_drew ?_ | refine blk_alloc ?_ _)); exact BK348.out)) : gb348 ≠ gb349)); have n6_ := Aside0.mk ((by rw [hg]; exact Nat.ne_of_gt (blk_lt (g := gb348) (o := .cells #[.int .i64 a0_0, .int .i64 a0_1, .int .i64 a0_2, .int .i64 a0_3, .int .i64 a0_4, .slice A0_5 l0_5.length c0_5] 60 (0, 0)) (by (with_reducible repeat (first | refine blk_drewN ?_ _ | refine blk_drew ?_ | refine blk_alloc ?_ _)); exact BK348.out)) : gb349 ≠ gb348)); clear BK348; clear HB; have BK348 := n0_; have HB := n1_; have BK349 := n2_; have GW349 := n3_; have GE349 := n4_; have NB348_349 := n5_; have NB349_348 := n6_; clear n0_ n1_ n2_ n3_ n4_ n5_ n6_; clear hb hbox hg; have hnb13 := NB348_349.out; have hnc13 := NB349_348.out; have hcz14_0 : w12.cell? ⟨gb348, 0, none⟩ = some (.int .i64 a0_0) := (blk_cell BK348.out 0).trans rfl; have hcz14_1 : w12.cell? ⟨gb348, 1, none⟩ = some (.int .i64 a0_1) := (blk_cell BK348.out 1).trans rfl; have hcz14_2 : w12.cell? ⟨gb348, 2, none⟩ = some (.int .i64 a0_2) := (blk_cell BK348.out 2).trans rfl; have hcz14_3 : w12.cell? ⟨gb348, 3, none⟩ = some (.int .i64 a0_3) := (blk_cell BK348.out 3).trans rfl; have hcz14_4 : w12.cell? ⟨gb348, 4, none⟩ = some (.int .i64 a0_4) := (blk_cell BK348.out 4).trans rfl; have hcz14_5 : w12.cell? ⟨gb348, 5, none⟩ = some (.slice A0_5 l0_5.length c0_5) := (blk_cell BK348.out 5).trans rfl; have hfz14_0 := blk_frozen BK348.out 0; have hfz14_1 := blk_frozen BK348.out 1; have hfz14_2 := blk_frozen BK348.out 2; have hfz14_3 := blk_frozen BK348.out 3; have hfz14_4 := blk_frozen BK348.out 4; have hfz14_5 := blk_frozen BK348.out 5))
    (try simp only [Act.put, List.setIfInBounds_toArray, List.set_cons_zero, List.set_cons_succ])
    go_cut [14] (fun v14 wc => ∃ (kq : Nat) (x14_9 : Bool), v14 = .bool x14_9 ∧ Aside0 (code_immediate.j0 kq a2 a0_0 x14_9 a0_0 a0_1 a0_2 a0_3 a0_4 l0_5 a1_0 a1_1 a1_2 a1_3 = some r) ∧ Aside0 (kq ≤ k) ∧ Aside0 (wc.heap[gb348]? = some (.cells #[.int .i64 a0_0, .int .i64 a0_1, .int .i64 a0_2, .int .i64 a0_3, .int .i64 a0_4, (.slice A0_5 l0_5.length c0_5)] 60 (0, 0))) ∧ Aside0 (wc.heap[gb349]? = some (.cells #[.bool a1_0, .bool a1_1, .bool a1_2, .bool a1_3] 125 (0, 0))) ∧ Aside0 (Below w.heap.size w wc))
    case first =>
      have H := HC10.out
      clear HC10
      by_cases c15 : a0_0 = 4
      · rw [if_pos c15] at H
        have c15b0 : (a0_0 == 4) = true := beq_iff_eq.mpr c15
        have c15b1 : (a0_0 != 4) = false := bne_eq_false_iff_eq.mpr c15
        clear c15
        (first | rw [c15b0] | (simp only [i64_w, i32_w]; rw [c15b0]) | skip)
        have H' := Aside0.mk H
        clear H
        go_wp2
        go_meet
        case rel => exact ⟨_, ((a0_0 == 4)), (by first | rfl | (simp; done) | (simp [*]; done)), H', ⟨by first | omega | exact Nat.le_refl _⟩, ⟨by (with_reducible repeat (first | refine blk_drewN ?_ _ | refine blk_drew ?_ | refine blk_alloc ?_ _)); exact BK348.out⟩, ⟨by (with_reducible repeat (first | refine blk_drewN ?_ _ | refine blk_drew ?_ | refine blk_alloc ?_ _)); exact BK349.out⟩, ⟨by repeat (first | (with_reducible first | exact HB.out | apply below_alloc | apply pw_below_drewN | apply below_drew1 | refine below_set ?_ GE348.out | refine below_set ?_ GE349.out) | exact HB.out)⟩⟩
      · rw [if_neg c15] at H
        have c15b0 : (a0_0 == 4) = false := beq_eq_false_iff_ne.mpr c15
        have c15b1 : (a0_0 != 4) = true := bne_iff_ne.mpr c15
        (first | rw [c15b0] | (simp only [i64_w, i32_w]; rw [c15b0]) | skip)
        have H' := Aside0.mk H
        clear H
        go_wp2
        go_meet
        case rel => exact ⟨_, ((a0_0 == 5)), (by first | rfl | (simp; done) | (simp [*]; done)), H', ⟨by first | omega | exact Nat.le_refl _⟩, ⟨by (with_reducible repeat (first | refine blk_drewN ?_ _ | refine blk_drew ?_ | refine blk_alloc ?_ _)); exact BK348.out⟩, ⟨by (with_reducible repeat (first | refine blk_drewN ?_ _ | refine blk_drew ?_ | refine blk_alloc ?_ _)); exact BK349.out⟩, ⟨by repeat (first | (with_reducible first | exact HB.out | apply below_alloc | apply pw_below_drewN | apply below_drew1 | refine below_set ?_ GE348.out | refine below_set ?_ GE349.out) | exact HB.out)⟩⟩
    case rest =>
      clear HC10
      try clear c1
      try clear p2
      try clear c4
      try clear c4b0
      try clear c4b1
      try clear c8
      try clear c10
      try clear c12
      try clear c13
      try clear c15
      try clear c15b0
      try clear c15b1
      try clear hcz14_0
      try clear hcz14_1
      try clear hcz14_2
      try clear hcz14_3
      try clear hcz14_4
      try clear hcz14_5
      try clear hcz9_0
      try clear hcz9_1
      try clear hcz9_2
      try clear hcz9_3
      try clear hcz9_4
      try clear hcz9_5
      try clear hfz14_0
      try clear hfz14_1
      try clear hfz14_2
      try clear hfz14_3
      try clear hfz14_4
      try clear hfz14_5
      try clear hfz9_0
      try clear hfz9_1
      try clear hfz9_2
      try clear hfz9_3
      try clear hfz9_4
      try clear hfz9_5
      obtain ⟨kq, x14_9, rfl, HA, HJ9, BK348, BK349, HB⟩ := hcut
      cases kq with
      | zero => exact absurd HA.out (by simp [code_immediate.j0])
      | succ kj9 =>
        have H := HA.out
        clear HA
        simp only [code_immediate.j0] at H
        by_cases c16 : x14_9 = true
        · subst c16
          have H1 : ((code_within.f a0_4 (-2147483648) 2147483647).bind fun t351 => (some t351)) = some r := by rw [if_pos rfl] at H; exact H
          clear H
          have H := H1
          clear H1
          replace H := Option.bind_eq_some_iff.mp H
          obtain ⟨t351, A170, H⟩ := H
          replace H : (some t351) = some r := H
          have A17 := Aside0.mk A170
          clear A170
          obtain rfl := Option.some.inj H
          have hnb18 := NB348_349.out
          have hnc18 := NB349_348.out
          have hcz19_0 : wc.cell? ⟨gb348, 0, none⟩ = some (.int .i64 a0_0) := (blk_cell BK348.out 0).trans rfl
          have hcz19_1 : wc.cell? ⟨gb348, 1, none⟩ = some (.int .i64 a0_1) := (blk_cell BK348.out 1).trans rfl
          have hcz19_2 : wc.cell? ⟨gb348, 2, none⟩ = some (.int .i64 a0_2) := (blk_cell BK348.out 2).trans rfl
          have hcz19_3 : wc.cell? ⟨gb348, 3, none⟩ = some (.int .i64 a0_3) := (blk_cell BK348.out 3).trans rfl
          have hcz19_4 : wc.cell? ⟨gb348, 4, none⟩ = some (.int .i64 a0_4) := (blk_cell BK348.out 4).trans rfl
          have hcz19_5 : wc.cell? ⟨gb348, 5, none⟩ = some (.slice A0_5 l0_5.length c0_5) := (blk_cell BK348.out 5).trans rfl
          have hfz19_0 := blk_frozen BK348.out 0
          have hfz19_1 := blk_frozen BK348.out 1
          have hfz19_2 := blk_frozen BK348.out 2
          have hfz19_3 := blk_frozen BK348.out 3
          have hfz19_4 := blk_frozen BK348.out 4
          have hfz19_5 := blk_frozen BK348.out 5
          go_wp2_with (first | ((with_reducible refine gate_callee (f := 54) rfl ?_); refine goesL_ (some 19) rfl rfl Try.func54 (by kernel_rfl) rfl #[.int .i64 a0_4, .int .i64 (-2147483648), .int .i64 2147483647] rfl (by (try simp only [List.map_toArray, List.map_cons, List.map_nil]); first | done | rfl | (simp only [List.length_drop, List.length_take]; rfl)) ?_; (with_reducible refine (code_within.calls a0_4 (-2147483648) 2147483647 t351 _ A17.out).mono ?_); rintro e w' ⟨rfl, ⟨nd, rfl⟩⟩; refine ⟨_, rfl, ?_⟩))
          go_ret
          exact ⟨by first | rfl | (simp [errW_none, errW_some] <;> rfl) | (simp [*, errW_none, errW_some] <;> rfl), by repeat (first | (with_reducible first | exact HB.out | apply below_alloc | apply pw_below_drewN | apply below_drew1 | refine below_set ?_ GE348.out | refine below_set ?_ GE349.out) | exact HB.out)⟩
        · replace c16 := Bool.eq_false_iff.mpr c16
          subst c16
          have H1 : (if a0_0 = 6 then ((code_within.f a0_4 0 1048576).bind fun t352 => (some t352)) else (if a0_0 = 7 then ((code_within.f a0_4 0 (wrap64 (a2 - 1))).bind fun t353 => (some t353)) else (if a1_3 = true then (some true) else (some (a0_4 == 0))))) = some r := by rw [if_neg (show ¬ (false = true) by decide)] at H; exact H
          clear H
          have H := H1
          clear H1
          by_cases c20 : a0_0 = 6
          · rw [if_pos c20] at H
            have c20b0 : (a0_0 == 6) = true := beq_iff_eq.mpr c20
            have c20b1 : (a0_0 != 6) = false := bne_eq_false_iff_eq.mpr c20
            clear c20
            replace H := Option.bind_eq_some_iff.mp H
            obtain ⟨t352, A210, H⟩ := H
            replace H : (some t352) = some r := H
            have A21 := Aside0.mk A210
            clear A210
            obtain rfl := Option.some.inj H
            have hnb22 := NB348_349.out
            have hnc22 := NB349_348.out
            have hcz23_0 : wc.cell? ⟨gb348, 0, none⟩ = some (.int .i64 a0_0) := (blk_cell BK348.out 0).trans rfl
            have hcz23_1 : wc.cell? ⟨gb348, 1, none⟩ = some (.int .i64 a0_1) := (blk_cell BK348.out 1).trans rfl
            have hcz23_2 : wc.cell? ⟨gb348, 2, none⟩ = some (.int .i64 a0_2) := (blk_cell BK348.out 2).trans rfl
            have hcz23_3 : wc.cell? ⟨gb348, 3, none⟩ = some (.int .i64 a0_3) := (blk_cell BK348.out 3).trans rfl
            have hcz23_4 : wc.cell? ⟨gb348, 4, none⟩ = some (.int .i64 a0_4) := (blk_cell BK348.out 4).trans rfl
            have hcz23_5 : wc.cell? ⟨gb348, 5, none⟩ = some (.slice A0_5 l0_5.length c0_5) := (blk_cell BK348.out 5).trans rfl
            have hfz23_0 := blk_frozen BK348.out 0
            have hfz23_1 := blk_frozen BK348.out 1
            have hfz23_2 := blk_frozen BK348.out 2
            have hfz23_3 := blk_frozen BK348.out 3
            have hfz23_4 := blk_frozen BK348.out 4
            have hfz23_5 := blk_frozen BK348.out 5
            go_wp2_with (first | ((with_reducible refine gate_callee (f := 54) rfl ?_); refine goesL_ (some 24) rfl rfl Try.func54 (by kernel_rfl) rfl #[.int .i64 a0_4, .int .i64 0, .int .i64 1048576] rfl (by (try simp only [List.map_toArray, List.map_cons, List.map_nil]); first | done | rfl | (simp only [List.length_drop, List.length_take]; rfl)) ?_; (with_reducible refine (code_within.calls a0_4 0 1048576 t352 _ A21.out).mono ?_); rintro e w' ⟨rfl, ⟨nd, rfl⟩⟩; refine ⟨_, rfl, ?_⟩))
            go_ret
            exact ⟨by first | rfl | (simp [errW_none, errW_some] <;> rfl) | (simp [*, errW_none, errW_some] <;> rfl), by repeat (first | (with_reducible first | exact HB.out | apply below_alloc | apply pw_below_drewN | apply below_drew1 | refine below_set ?_ GE348.out | refine below_set ?_ GE349.out) | exact HB.out)⟩
          · rw [if_neg c20] at H
            have c20b0 : (a0_0 == 6) = false := beq_eq_false_iff_ne.mpr c20
            have c20b1 : (a0_0 != 6) = true := bne_iff_ne.mpr c20
            by_cases c24 : a0_0 = 7
            · rw [if_pos c24] at H
              have c24b0 : (a0_0 == 7) = true := beq_iff_eq.mpr c24
              have c24b1 : (a0_0 != 7) = false := bne_eq_false_iff_eq.mpr c24
              clear c24
              replace H := Option.bind_eq_some_iff.mp H
              obtain ⟨t353, A250, H⟩ := H
              replace H : (some t353) = some r := H
              have A25 := Aside0.mk A250
              clear A250
              obtain rfl := Option.some.inj H
              have hnb26 := NB348_349.out
              have hnc26 := NB349_348.out
              have hcz27_0 : wc.cell? ⟨gb348, 0, none⟩ = some (.int .i64 a0_0) := (blk_cell BK348.out 0).trans rfl
              have hcz27_1 : wc.cell? ⟨gb348, 1, none⟩ = some (.int .i64 a0_1) := (blk_cell BK348.out 1).trans rfl
              have hcz27_2 : wc.cell? ⟨gb348, 2, none⟩ = some (.int .i64 a0_2) := (blk_cell BK348.out 2).trans rfl
              have hcz27_3 : wc.cell? ⟨gb348, 3, none⟩ = some (.int .i64 a0_3) := (blk_cell BK348.out 3).trans rfl
              have hcz27_4 : wc.cell? ⟨gb348, 4, none⟩ = some (.int .i64 a0_4) := (blk_cell BK348.out 4).trans rfl
              have hcz27_5 : wc.cell? ⟨gb348, 5, none⟩ = some (.slice A0_5 l0_5.length c0_5) := (blk_cell BK348.out 5).trans rfl
              have hfz27_0 := blk_frozen BK348.out 0
              have hfz27_1 := blk_frozen BK348.out 1
              have hfz27_2 := blk_frozen BK348.out 2
              have hfz27_3 := blk_frozen BK348.out 3
              have hfz27_4 := blk_frozen BK348.out 4
              have hfz27_5 := blk_frozen BK348.out 5
              go_wp2_with (first | ((with_reducible refine gate_callee (f := 54) rfl ?_); refine goesL_ (some 31) rfl rfl Try.func54 (by kernel_rfl) rfl #[.int .i64 a0_4, .int .i64 0, .int .i64 (wrap64 (a2 - 1))] rfl (by (try simp only [List.map_toArray, List.map_cons, List.map_nil]); first | done | rfl | (simp only [List.length_drop, List.length_take]; rfl)) ?_; (with_reducible refine (code_within.calls a0_4 0 (wrap64 (a2 - 1)) t353 _ A25.out).mono ?_); rintro e w' ⟨rfl, ⟨nd, rfl⟩⟩; refine ⟨_, rfl, ?_⟩))
              go_ret
              exact ⟨by first | rfl | (simp [errW_none, errW_some] <;> rfl) | (simp [*, errW_none, errW_some] <;> rfl), by repeat (first | (with_reducible first | exact HB.out | apply below_alloc | apply pw_below_drewN | apply below_drew1 | refine below_set ?_ GE348.out | refine below_set ?_ GE349.out) | exact HB.out)⟩
            · rw [if_neg c24] at H
              have c24b0 : (a0_0 == 7) = false := beq_eq_false_iff_ne.mpr c24
              have c24b1 : (a0_0 != 7) = true := bne_iff_ne.mpr c24
              by_cases c28 : a1_3 = true
              · subst c28
                have H1 : (some true) = some r := by rw [if_pos rfl] at H; exact H
                clear H
                have H := H1
                clear H1
                obtain rfl := Option.some.inj H
                have hnb29 := NB349_348.out
                have hnc29 := NB348_349.out
                have hcz30_0 : wc.cell? ⟨gb349, 0, none⟩ = some (.bool a1_0) := (blk_cell BK349.out 0).trans rfl
                have hcz30_1 : wc.cell? ⟨gb349, 1, none⟩ = some (.bool a1_1) := (blk_cell BK349.out 1).trans rfl
                have hcz30_2 : wc.cell? ⟨gb349, 2, none⟩ = some (.bool a1_2) := (blk_cell BK349.out 2).trans rfl
                have hcz30_3 : wc.cell? ⟨gb349, 3, none⟩ = some (.bool true) := (blk_cell BK349.out 3).trans rfl
                have hfz30_0 := blk_frozen BK349.out 0
                have hfz30_1 := blk_frozen BK349.out 1
                have hfz30_2 := blk_frozen BK349.out 2
                have hfz30_3 := blk_frozen BK349.out 3
                go_wp2
                go_ret
                exact ⟨by first | rfl | (simp [errW_none, errW_some] <;> rfl) | (simp [*, errW_none, errW_some] <;> rfl), by repeat (first | (with_reducible first | exact HB.out | apply below_alloc | apply pw_below_drewN | apply below_drew1 | refine below_set ?_ GE348.out | refine below_set ?_ GE349.out) | exact HB.out)⟩
              · replace c28 := Bool.eq_false_iff.mpr c28
                subst c28
                have H1 : (some (a0_4 == 0)) = some r := by rw [if_neg (show ¬ (false = true) by decide)] at H; exact H
                clear H
                have H := H1
                clear H1
                obtain rfl := Option.some.inj H
                have hnb31 := NB349_348.out
                have hnc31 := NB348_349.out
                have hcz32_0 : wc.cell? ⟨gb349, 0, none⟩ = some (.bool a1_0) := (blk_cell BK349.out 0).trans rfl
                have hcz32_1 : wc.cell? ⟨gb349, 1, none⟩ = some (.bool a1_1) := (blk_cell BK349.out 1).trans rfl
                have hcz32_2 : wc.cell? ⟨gb349, 2, none⟩ = some (.bool a1_2) := (blk_cell BK349.out 2).trans rfl
                have hcz32_3 : wc.cell? ⟨gb349, 3, none⟩ = some (.bool false) := (blk_cell BK349.out 3).trans rfl
                have hfz32_0 := blk_frozen BK349.out 0
                have hfz32_1 := blk_frozen BK349.out 1
                have hfz32_2 := blk_frozen BK349.out 2
                have hfz32_3 := blk_frozen BK349.out 3
                have hcz33_0 : wc.cell? ⟨gb348, 0, none⟩ = some (.int .i64 a0_0) := (blk_cell BK348.out 0).trans rfl
                have hcz33_1 : wc.cell? ⟨gb348, 1, none⟩ = some (.int .i64 a0_1) := (blk_cell BK348.out 1).trans rfl
                have hcz33_2 : wc.cell? ⟨gb348, 2, none⟩ = some (.int .i64 a0_2) := (blk_cell BK348.out 2).trans rfl
                have hcz33_3 : wc.cell? ⟨gb348, 3, none⟩ = some (.int .i64 a0_3) := (blk_cell BK348.out 3).trans rfl
                have hcz33_4 : wc.cell? ⟨gb348, 4, none⟩ = some (.int .i64 a0_4) := (blk_cell BK348.out 4).trans rfl
                have hcz33_5 : wc.cell? ⟨gb348, 5, none⟩ = some (.slice A0_5 l0_5.length c0_5) := (blk_cell BK348.out 5).trans rfl
                have hfz33_0 := blk_frozen BK348.out 0
                have hfz33_1 := blk_frozen BK348.out 1
                have hfz33_2 := blk_frozen BK348.out 2
                have hfz33_3 := blk_frozen BK348.out 3
                have hfz33_4 := blk_frozen BK348.out 4
                have hfz33_5 := blk_frozen BK348.out 5
                go_wp2
                go_ret
                exact ⟨by first | rfl | (simp [errW_none, errW_some] <;> rfl) | (simp [*, errW_none, errW_some] <;> rfl), by repeat (first | (with_reducible first | exact HB.out | apply below_alloc | apply pw_below_drewN | apply below_drew1 | refine below_set ?_ GE348.out | refine below_set ?_ GE349.out) | exact HB.out)⟩

end Go.Proofs.Yteeapfmgdlcgfaa.A


namespace Go.Proofs.Yteeapfmgdlcgfaa.A
set_option linter.unusedVariables false
set_option linter.unusedSimpArgs false

def updK {K V : Type} [DecidableEq K] (f : K → Option V) (k : K) (v : V) : K → Option V := fun j => if j = k then some v else f j
def remK {K V : Type} [DecidableEq K] (f : K → Option V) (k : K) : K → Option V := fun j => if j = k then none else f j
theorem updK_same {K V : Type} [DecidableEq K] (f : K → Option V) (k : K) (v : V) : updK f k v k = some v := by unfold updK; rw [if_pos rfl]
theorem updK_other {K V : Type} [DecidableEq K] {f : K → Option V} {k j : K} {v : V} (h : j ≠ k) : updK f k v j = f j := by unfold updK; rw [if_neg h]
/-- by d steps to the root r -/
inductive To {K : Type} (U : K → Option K) : Nat → K → K → Prop
  | zero {r : K} : U r = some r → To U 0 r r
  | step {d : Nat} {k j r : K} : U k = some j → j ≠ k → To U d j r → To U (d + 1) k r
theorem To.root {K : Type} {U : K → Option K} {d : Nat} {k r : K} (h : To U d k r) : U r = some r := by
  induction h with
  | zero h => exact h
  | step _ _ _ ih => exact ih
theorem To.det {K : Type} {U : K → Option K} {d : Nat} {k r : K} (h : To U d k r) : ∀ {e : Nat} {s : K}, To U e k s → d = e ∧ r = s := by
  induction h with
  | @zero r h =>
    intro e s h2
    cases h2 with
    | zero _ => exact ⟨rfl, rfl⟩
    | step h3 h4 _ =>
      rw [h] at h3
      exact absurd (Option.some.inj h3).symm h4
  | step h1 h2 _ ih =>
    intro e s h3
    cases h3 with
    | zero h4 =>
      rw [h1] at h4
      exact absurd (Option.some.inj h4) h2
    | step h4 _ h5 =>
      rw [h1] at h4
      obtain rfl := Option.some.inj h4
      obtain ⟨h6, h7⟩ := ih h5
      exact ⟨by rw [h6], h7⟩
theorem To.has {K : Type} {U : K → Option K} {d : Nat} {k r : K} (h : To U d k r) : ∃ j, U k = Option.some j := by
  cases h with
  | zero h => exact ⟨_, h⟩
  | step h _ _ => exact ⟨_, h⟩
theorem To.halve {K : Type} [DecidableEq K] {U : K → Option K} {k j m : K} (hk : U k = some j) (hj : j ≠ k) (hm : U j = some m) : ∀ (n d : Nat) (x r : K), d ≤ n → To U d x r → ∃ e, e ≤ d ∧ To (updK U k m) e x r := by
  intro n
  induction n with
  | zero =>
    intro d x r hd h
    obtain rfl : d = 0 := by omega
    cases h with
    | zero h =>
      have hx : x ≠ k := fun e => by subst e; rw [hk] at h; exact hj (Option.some.inj h)
      exact ⟨0, Nat.le_refl _, .zero (by rw [updK_other hx]; exact h)⟩
  | succ n ih =>
    intro d x r hd h
    cases h with
    | zero h =>
      have hx : x ≠ k := fun e => by subst e; rw [hk] at h; exact hj (Option.some.inj h)
      exact ⟨0, Nat.le_refl _, .zero (by rw [updK_other hx]; exact h)⟩
    | @step d _ j' _ h1 h2 h3 =>
      by_cases hx : x = k
      · subst hx
        rw [hk] at h1
        obtain rfl := Option.some.inj h1
        have hall := To.step hk hj h3
        cases h3 with
        | zero h4 =>
          rw [hm] at h4
          obtain rfl := Option.some.inj h4
          exact ⟨1, by omega, .step (updK_same _ _ _) hj (.zero (by rw [updK_other hj]; exact hm))⟩
        | @step d2 _ m' _ h4 h5 h6 =>
          rw [hm] at h4
          obtain rfl := Option.some.inj h4
          have hmx : m ≠ x := fun e => by
            subst e
            have := (hall.det h6).1
            omega
          obtain ⟨e, he, h7⟩ := ih d2 m r (by omega) h6
          exact ⟨e + 1, by omega, .step (updK_same _ _ _) hmx h7⟩
      · obtain ⟨e, he, h7⟩ := ih d j' r (by omega) h3
        exact ⟨e + 1, by omega, .step (by rw [updK_other hx]; exact h1) h2 h7⟩
/-- in one class -/
def Eq2 {K : Type} (U : K → Option K) (x y : K) : Prop := ∃ r d e, To U d x r ∧ To U e y r
structure Forest {K : Type} (U : K → Option K) (Z : K → Option Int) : Prop where
  up : ∀ k j, U k = some j → ∃ d r, To U d k r
  z : ∀ k, (Z k).isSome = true ↔ U k = some k
theorem Eq2.symm {K : Type} {U : K → Option K} {x y : K} (h : Eq2 U x y) : Eq2 U y x := by
  obtain ⟨r, d, e, h1, h2⟩ := h
  exact ⟨r, e, d, h2, h1⟩
theorem Eq2.trans {K : Type} {U : K → Option K} {x y z : K} (h : Eq2 U x y) (h' : Eq2 U y z) : Eq2 U x z := by
  obtain ⟨r, d, e, h1, h2⟩ := h
  obtain ⟨s, d', e', h3, h4⟩ := h'
  obtain ⟨_, rfl⟩ := h2.det h3
  exact ⟨r, d, e', h1, h4⟩
theorem Eq2.root_iff {K : Type} {U : K → Option K} {x y r s : K} {d e : Nat} (h1 : To U d x r) (h2 : To U e y s) : Eq2 U x y ↔ r = s := by
  constructor
  · rintro ⟨t, d', e', h3, h4⟩
    rw [(h1.det h3).2, (h2.det h4).2]
  · rintro rfl
    exact ⟨r, d, e, h1, h2⟩
theorem Eq2.self_iff {K : Type} {U : K → Option K} {Z : K → Option Int} (h : Forest U Z) {x : K} : Eq2 U x x ↔ (U x).isSome = true := by
  constructor
  · rintro ⟨r, d, e, h1, _⟩
    obtain ⟨j, hj⟩ := h1.has
    rw [hj]; rfl
  · intro hx
    obtain ⟨j, hj⟩ := Option.isSome_iff_exists.1 hx
    obtain ⟨d, r, h1⟩ := h.up x j hj
    exact ⟨r, d, d, h1, h1⟩
theorem Eq2.of_same {K : Type} {U V : K → Option K} (h : ∀ d x r, To U d x r → ∃ e, To V e x r) (h' : ∀ x, (V x).isSome = true → (U x).isSome = true) {Z : K → Option Int} (hF : Forest U Z) (x y : K) : Eq2 V x y ↔ Eq2 U x y := by
  constructor
  · rintro ⟨r, d, e, h1, h2⟩
    have H : ∀ x d, To V d x r → ∃ c, To U c x r := fun x d hx => by
      obtain ⟨j, hj⟩ := hx.has
      obtain ⟨j', hj'⟩ := Option.isSome_iff_exists.1 (h' x (by rw [hj]; rfl))
      obtain ⟨c, s, hc⟩ := hF.up x j' hj'
      obtain ⟨c', hc'⟩ := h _ _ _ hc
      rw [(hx.det hc').2]
      exact ⟨c, hc⟩
    obtain ⟨c1, hc1⟩ := H _ _ h1
    obtain ⟨c2, hc2⟩ := H _ _ h2
    exact ⟨r, c1, c2, hc1, hc2⟩
  · rintro ⟨r, d, e, h1, h2⟩
    obtain ⟨c1, hc1⟩ := h _ _ _ h1
    obtain ⟨c2, hc2⟩ := h _ _ _ h2
    exact ⟨r, c1, c2, hc1, hc2⟩
theorem Forest.halve {K : Type} [DecidableEq K] {U : K → Option K} {Z : K → Option Int} (h : Forest U Z) {k j m : K} (hk : U k = some j) (hj : j ≠ k) (hm : U j = some m) :
    Forest (updK U k m) Z ∧ (∀ x y, Eq2 (updK U k m) x y ↔ Eq2 U x y) ∧ (∀ x, (updK U k m x).isSome = (U x).isSome) := by
  have hh := To.halve hk hj hm
  have hs : ∀ x, (updK U k m x).isSome = (U x).isSome := fun x => by
    by_cases e : x = k
    · subst e; rw [updK_same, hk]; rfl
    · rw [updK_other e]
  have hup : ∀ d x r, To U d x r → ∃ e, To (updK U k m) e x r := fun d x r hx => by
    obtain ⟨e, _, h2⟩ := hh d d x r (Nat.le_refl _) hx
    exact ⟨e, h2⟩
  have hmk : m ≠ k := fun e => by
    subst e
    obtain ⟨d, r, h1⟩ := h.up m j hk
    have h2 := h1
    cases h2 with
    | zero h3 => rw [hk] at h3; exact hj (Option.some.inj h3)
    | step h3 h4 h5 =>
      rw [hk] at h3
      obtain rfl := Option.some.inj h3
      cases h5 with
      | zero h6 => rw [hm] at h6; exact hj (Option.some.inj h6).symm
      | step h6 h7 h8 =>
        rw [hm] at h6
        obtain rfl := Option.some.inj h6
        have := (h1.det h8).1
        omega
  refine ⟨⟨fun x y hx => ?_, fun x => ?_⟩, Eq2.of_same hup (fun x hx => by rwa [hs] at hx) h, hs⟩
  · have h1 : (U x).isSome = true := by rw [← hs, hx]; rfl
    obtain ⟨j', hj'⟩ := Option.isSome_iff_exists.1 h1
    obtain ⟨d, r, h2⟩ := h.up x j' hj'
    obtain ⟨e, h3⟩ := hup _ _ _ h2
    exact ⟨e, r, h3⟩
  · rw [h.z x]
    by_cases e : x = k
    · subst e
      rw [updK_same, hk]
      constructor
      · intro h1; exact absurd (Option.some.inj h1) hj
      · intro h1; exact absurd (Option.some.inj h1) hmk
    · rw [updK_other e]
theorem Forest.add {K : Type} [DecidableEq K] {U : K → Option K} {Z : K → Option Int} (h : Forest U Z) {k : K} (hk : U k = none) (v : Int) :
    Forest (updK U k k) (updK Z k v) ∧ ∀ x y, Eq2 (updK U k k) x y ↔ (Eq2 U x y ∨ (x = k ∧ y = k)) := by
  have h1 : ∀ d x r, To U d x r → To (updK U k k) d x r := fun d x r hx => by
    induction hx with
    | @zero r hr =>
      refine .zero ?_
      rw [updK_other (fun e => by subst e; rw [hk] at hr; cases hr)]; exact hr
    | @step d x j r h1 h2 _ ih =>
      refine .step ?_ h2 ih
      rw [updK_other (fun e => by subst e; rw [hk] at h1; cases h1)]; exact h1
  have h2 : ∀ d x r, To (updK U k k) d x r → (x = k ∧ r = k) ∨ To U d x r := fun d x r hx => by
    induction hx with
    | @zero r hr =>
      by_cases e : r = k
      · exact .inl ⟨e, e⟩
      · rw [updK_other e] at hr; exact .inr (.zero hr)
    | @step d x j r g1 g2 _ ih =>
      have hx : x ≠ k := fun e => by
        subst e
        rw [updK_same] at g1
        exact g2 (Option.some.inj g1).symm
      rw [updK_other hx] at g1
      obtain ⟨c, s, hc⟩ := h.up x j g1
      cases hc with
      | zero g3 => rw [g1] at g3; exact absurd (Option.some.inj g3) g2
      | step g3 _ g4 =>
        rw [g1] at g3
        obtain rfl := Option.some.inj g3
        rcases ih with ⟨e1, _⟩ | ih
        · subst e1
          obtain ⟨y, hy⟩ := g4.has
          rw [hk] at hy; cases hy
        · exact .inr (.step g1 g2 ih)
  have hkk : To (updK U k k) 0 k k := .zero (updK_same _ _ _)
  refine ⟨⟨fun x j hx => ?_, fun x => ?_⟩, fun x y => ?_⟩
  · by_cases e : x = k
    · subst e; exact ⟨0, x, hkk⟩
    · rw [updK_other e] at hx
      obtain ⟨d, r, h3⟩ := h.up x j hx
      exact ⟨d, r, h1 _ _ _ h3⟩
  · by_cases e : x = k
    · subst e; rw [updK_same, updK_same]; simp
    · rw [updK_other e, updK_other e]; exact h.z x
  · constructor
    · rintro ⟨r, d, e, g1, g2⟩
      rcases h2 _ _ _ g1 with ⟨a1, a2⟩ | g1'
      · rcases h2 _ _ _ g2 with ⟨b1, b2⟩ | g2'
        · exact .inr ⟨a1, b1⟩
        · subst a2
          have := g2'.root
          rw [hk] at this; cases this
      · rcases h2 _ _ _ g2 with ⟨b1, b2⟩ | g2'
        · subst b2
          have := g1'.root
          rw [hk] at this; cases this
        · exact .inl ⟨r, d, e, g1', g2'⟩
    · rintro (⟨r, d, e, g1, g2⟩ | ⟨rfl, rfl⟩)
      · exact ⟨r, d, e, h1 _ _ _ g1, h1 _ _ _ g2⟩
      · exact ⟨_, 0, 0, hkk, hkk⟩
theorem Forest.link {K : Type} [DecidableEq K] {U : K → Option K} {Z : K → Option Int} (h : Forest U Z) {a b : K} (ha : U a = some a) (hb : U b = some b) (hab : a ≠ b) (v : Int) :
    Forest (updK U b a) (remK (updK Z a v) b) ∧ ∀ x y, Eq2 (updK U b a) x y ↔ (Eq2 U x y ∨ (Eq2 U x a ∧ Eq2 U y b) ∨ (Eq2 U x b ∧ Eq2 U y a)) := by
  have ha' : To (updK U b a) 0 a a := .zero (by rw [updK_other hab]; exact ha)
  have h1 : ∀ d x r, To U d x r → (r ≠ b ∧ To (updK U b a) d x r) ∨ (r = b ∧ To (updK U b a) (d + 1) x a) := fun d x r hx => by
    induction hx with
    | @zero r hr =>
      by_cases e : r = b
      · subst e; exact .inr ⟨rfl, .step (updK_same _ _ _) hab ha'⟩
      · exact .inl ⟨e, .zero (by rw [updK_other e]; exact hr)⟩
    | @step d x j r g1 g2 _ ih =>
      have hx : x ≠ b := fun e => by
        subst e
        rw [hb] at g1; exact g2 (Option.some.inj g1).symm
      rcases ih with ⟨e, ih⟩ | ⟨e, ih⟩
      · exact .inl ⟨e, .step (by rw [updK_other hx]; exact g1) g2 ih⟩
      · exact .inr ⟨e, .step (by rw [updK_other hx]; exact g1) g2 ih⟩
  have hra : ∀ x, Eq2 U x a ↔ ∃ d, To U d x a := fun x => by
    constructor
    · rintro ⟨r, d, e, g1, g2⟩
      rw [((To.zero ha).det g2).2]; exact ⟨d, g1⟩
    · rintro ⟨d, g⟩; exact ⟨a, d, 0, g, .zero ha⟩
  have hrb : ∀ x, Eq2 U x b ↔ ∃ d, To U d x b := fun x => by
    constructor
    · rintro ⟨r, d, e, g1, g2⟩
      rw [((To.zero hb).det g2).2]; exact ⟨d, g1⟩
    · rintro ⟨d, g⟩; exact ⟨b, d, 0, g, .zero hb⟩
  have hs : ∀ x, (updK U b a x).isSome = (U x).isSome := fun x => by
    by_cases e : x = b
    · subst e; rw [updK_same, hb]; rfl
    · rw [updK_other e]
  have h2 : ∀ d x r, To (updK U b a) d x r → ∃ c s, To U c x s ∧ ((s ≠ b ∧ r = s) ∨ (s = b ∧ r = a)) := fun d x r hx => by
    obtain ⟨j, hj⟩ := hx.has
    obtain ⟨j', hj'⟩ := Option.isSome_iff_exists.1 (show (U x).isSome = true by rw [← hs, hj]; rfl)
    obtain ⟨c, s, hc⟩ := h.up x j' hj'
    rcases h1 _ _ _ hc with ⟨e, g⟩ | ⟨e, g⟩
    · exact ⟨c, s, hc, .inl ⟨e, (hx.det g).2⟩⟩
    · exact ⟨c, s, hc, .inr ⟨e, (hx.det g).2⟩⟩
  refine ⟨⟨fun x j hx => ?_, fun x => ?_⟩, fun x y => ?_⟩
  · obtain ⟨j', hj'⟩ := Option.isSome_iff_exists.1 (show (U x).isSome = true by rw [← hs, hx]; rfl)
    obtain ⟨c, s, hc⟩ := h.up x j' hj'
    rcases h1 _ _ _ hc with ⟨_, g⟩ | ⟨_, g⟩
    · exact ⟨_, _, g⟩
    · exact ⟨_, _, g⟩
  · by_cases e : x = b
    · subst e
      unfold remK
      rw [if_pos rfl, updK_same]
      constructor
      · intro h; cases h
      · intro h; exact absurd (Option.some.inj h) hab
    · unfold remK
      rw [if_neg e, updK_other e]
      by_cases e2 : x = a
      · subst e2; rw [updK_same]; exact ⟨fun _ => ha, fun _ => rfl⟩
      · rw [updK_other e2]; exact h.z x
  · constructor
    · rintro ⟨r, d, e, g1, g2⟩
      obtain ⟨c1, s1, k1, l1⟩ := h2 _ _ _ g1
      obtain ⟨c2, s2, k2, l2⟩ := h2 _ _ _ g2
      rcases l1 with ⟨l1, m1⟩ | ⟨l1, m1⟩ <;> rcases l2 with ⟨l2, m2⟩ | ⟨l2, m2⟩
      · refine .inl ⟨r, c1, c2, ?_, ?_⟩
        · rw [m1]; exact k1
        · rw [m2]; exact k2
      · refine .inr (.inl ⟨(hra x).2 ⟨c1, ?_⟩, (hrb y).2 ⟨c2, ?_⟩⟩)
        · rw [← m2, m1]; exact k1
        · rw [← l2]; exact k2
      · refine .inr (.inr ⟨(hrb x).2 ⟨c1, ?_⟩, (hra y).2 ⟨c2, ?_⟩⟩)
        · rw [← l1]; exact k1
        · rw [← m1, m2]; exact k2
      · refine .inl ⟨b, c1, c2, ?_, ?_⟩
        · rw [← l1]; exact k1
        · rw [← l2]; exact k2
    · have hto : ∀ x d, To U d x a → ∃ c, To (updK U b a) c x a := fun x d g => by
        rcases h1 _ _ _ g with ⟨_, g⟩ | ⟨e, g⟩
        · exact ⟨_, g⟩
        · exact absurd e hab
      have htb : ∀ x d, To U d x b → ∃ c, To (updK U b a) c x a := fun x d g => by
        rcases h1 _ _ _ g with ⟨e, g⟩ | ⟨e, g⟩
        · exact absurd rfl e
        · exact ⟨_, g⟩
      rintro (⟨r, d, e, g1, g2⟩ | ⟨g1, g2⟩ | ⟨g1, g2⟩)
      · rcases h1 _ _ _ g1 with ⟨a1, a2⟩ | ⟨a1, a2⟩ <;> rcases h1 _ _ _ g2 with ⟨b1, b2⟩ | ⟨b1, b2⟩
        · exact ⟨r, _, _, a2, b2⟩
        · exact absurd b1 a1
        · exact absurd a1 b1
        · exact ⟨a, _, _, a2, b2⟩
      · obtain ⟨d, g1⟩ := (hra x).1 g1
        obtain ⟨e, g2⟩ := (hrb y).1 g2
        obtain ⟨c1, k1⟩ := hto _ _ g1
        obtain ⟨c2, k2⟩ := htb _ _ g2
        exact ⟨a, c1, c2, k1, k2⟩
      · obtain ⟨d, g1⟩ := (hrb x).1 g1
        obtain ⟨e, g2⟩ := (hra y).1 g2
        obtain ⟨c1, k1⟩ := htb _ _ g1
        obtain ⟨c2, k2⟩ := hto _ _ g2
        exact ⟨a, c1, c2, k1, k2⟩
end Go.Proofs.Yteeapfmgdlcgfaa.A


namespace Go.Proofs.Yteeapfmgdlcgfaa.A
open Go.RowKit Go.Maps Go.Proofs.YteeapfmgdlcgfaaW.PrintWords Go.Proofs.YteeapfmgdlcgfaaW.PrintLast
set_option linter.unusedVariables false
set_option linter.unusedSimpArgs false

abbrev DU := DataW Unit
structure Kind (K : Type) where
  t : TypeId
  val : K → Value
  lit : K → Lit
  wf : K → Prop
  z : K
structure KindOk {K : Type} (κ : Kind K) : Prop where
  plain : ∀ {k : K}, κ.wf k → plainElem (H := Unit) Try.prog κ.t (κ.val k) = some (.lit (κ.lit k), [])
  inv : ∀ {v : Value} {y : DU × List MemPlace}, plainElem Try.prog κ.t v = some y → ∃ k, κ.wf k ∧ v = κ.val k ∧ y = (.lit (κ.lit k), [])
  zero : ∀ w, (zeroValue κ.t).run Try.prog w = .ok (κ.val κ.z) w
  wfz : κ.wf κ.z
  inj : ∀ {a b : K}, κ.lit a = κ.lit b → a = b
  keyed : Keyed Try.prog κ.t
  key : ∀ {k : K}, κ.wf k → keyOf Try.prog κ.t (κ.val k) = some (κ.lit k)
  keyinv : ∀ {v : Value} {l : Lit}, keyOf Try.prog κ.t v = some l → ∃ k, κ.wf k ∧ v = κ.val k ∧ l = κ.lit k
  isKey : ∀ k : K, WideAt.IsKeyLit (κ.lit k)
/-- the datum reads as the function -/
structure Reads {K V : Type} (κ : Kind K) (ν : Kind V) (D : DU) (f : K → Option V) : Prop where
  tidy : Tidy D
  has : ∀ k, Maps.has D (κ.lit k) = (f k).isSome
  at_ : ∀ k, D.atKey (κ.lit k) (.lit (ν.lit ν.z)) = .lit (ν.lit ((f k).getD ν.z))
section
variable {K V : Type} [DecidableEq K] {κ : Kind K} {ν : Kind V}
theorem Reads.empty {K V : Type} {κ : Kind K} {ν : Kind V} : Reads κ ν (.map []) (fun _ => none) := ⟨tidy_empty, fun k => rfl, fun k => rfl⟩
theorem Reads.put {K V : Type} [DecidableEq K] {κ : Kind K} {ν : Kind V} (O : KindOk κ) {D : DU} {f : K → Option V} (h : Reads κ ν D f) (k : K) (v : V) : Reads κ ν (D.put (κ.lit k) (.lit (ν.lit v))) (updK f k v) := by
  refine ⟨h.tidy.put (O.isKey k) _, fun j => ?_, fun j => ?_⟩
  · by_cases hj : j = k
    · subst hj
      rw [has_put_same h.tidy.isMap (O.isKey j), updK_same]; rfl
    · rw [has_put_other (fun e => hj (O.inj e)), h.has j, updK_other hj]
  · by_cases hj : j = k
    · subst hj
      rw [atKey_put_same h.tidy.isMap (O.isKey j), updK_same]; rfl
    · rw [atKey_put_other (fun e => hj (O.inj e)), h.at_ j, updK_other hj]
theorem Reads.del {K V : Type} [DecidableEq K] {κ : Kind K} {ν : Kind V} (O : KindOk κ) {D : DU} {f : K → Option V} (h : Reads κ ν D f) (k : K) : Reads κ ν (D.del (κ.lit k)) (remK f k) := by
  refine ⟨h.tidy.del _, fun j => ?_, fun j => ?_⟩
  · by_cases hj : j = k
    · subst hj
      rw [has_del_same]; unfold remK; rw [if_pos rfl]; rfl
    · rw [has_del_other (fun e => hj (O.inj e)), h.has j]; unfold remK; rw [if_neg hj]
  · by_cases hj : j = k
    · subst hj
      rw [atKey_del_same]; unfold remK; rw [if_pos rfl]; rfl
    · rw [atKey_del_other (fun e => hj (O.inj e)), h.at_ j]; unfold remK; rw [if_neg hj]
end
theorem owns_tight {R : Value → Option (DU × List MemPlace)} {w : World} {k : TypeId} {b n : Nat} {D : DU} (h : w.ownsMap Try.prog k R b n D) : w.ownsMap Try.prog k R b (Maps.size D) D := by
  obtain ⟨es, clock, hb, F, hs, rfl⟩ := h
  refine ⟨es, clock, hb, F, ?_, rfl⟩
  simp [Maps.size, length_sorted]

/-- block b is a map of N entries that reads as f -/
def MapAt {K V : Type} (κ : Kind K) (ν : Kind V) (w : World) (b : Nat) (f : K → Option V) (N : Nat) : Prop :=
  ∃ D : DU, w.ownsMap Try.prog κ.t (plainElem Try.prog ν.t) b N D ∧ Reads κ ν D f ∧ Maps.size D = N ∧ ∀ k v, f k = some v → κ.wf k ∧ ν.wf v
section
variable {K V : Type} {κ : Kind K} {ν : Kind V} {w w' : World} {b N : Nat} {f : K → Option V}
theorem MapAt.lt {K V : Type} {κ : Kind K} {ν : Kind V} {w : World} {b N : Nat} {f : K → Option V} (h : MapAt κ ν w b f N) : b < w.heap.size := by
  obtain ⟨D, h1, _⟩ := h; exact h1.lt
theorem MapAt.same {K V : Type} {κ : Kind K} {ν : Kind V} {w w' : World} {b N : Nat} {f : K → Option V} (h : MapAt κ ν w b f N) (hb : w'.heap[b]? = w.heap[b]?) : MapAt κ ν w' b f N := by
  obtain ⟨D, ⟨es, clock, h1, h2⟩, h3⟩ := h
  exact ⟨D, ⟨es, clock, hb.trans h1, h2⟩, h3⟩
theorem MapAt.made {K V : Type} {κ : Kind K} {ν : Kind V} (w : World) : MapAt κ ν (w.alloc (.map #[] 0)) w.heap.size (fun _ => none) 0 := ⟨.map [], World.ownsMap_made _ _ _ _, Reads.empty, rfl, fun _ _ h => by cases h⟩
theorem MapAt.noCell {K V : Type} {κ : Kind K} {ν : Kind V} {w : World} {b N : Nat} {f : K → Option V} (h : MapAt κ ν w b f N) {a : Addr} {v : Value} (hc : w.cell? a = some v) : a.block ≠ b := by
  intro e
  obtain ⟨D, ⟨es, clock, h1, _⟩, _⟩ := h
  unfold World.cell? at hc
  rw [e, h1] at hc
  cases hc
theorem MapAt.wfs {K V : Type} {κ : Kind K} {ν : Kind V} {w : World} {b N : Nat} {f : K → Option V} (h : MapAt κ ν w b f N) {k : K} {v : V} (hk : f k = some v) : κ.wf k ∧ ν.wf v := by
  obtain ⟨D, _, _, _, h4⟩ := h; exact h4 k v hk
theorem MapAt.look {K V : Type} {κ : Kind K} {ν : Kind V} {w : World} {b N : Nat} {f : K → Option V} (O : KindOk κ) (O' : KindOk ν) (h : MapAt κ ν w b f N) {tm : TypeId} (ht : Try.prog.underlying tm = some (.map κ.t ν.t)) {k : K} (hk : κ.wf k) :
    (Instr.lookup tm (.map (some b)) (κ.val k) false).run Try.prog w = .ok (ν.val ((f k).getD ν.z)) w := by
  obtain ⟨D, h1, h2, h3, h4⟩ := h
  obtain ⟨v, ps, hrun, hv⟩ := h1.lookup O.keyed ht (O'.zero w) (O'.plain O'.wfz) (O.key hk)
  obtain ⟨c, _, rfl, hz⟩ := O'.inv hv
  have hx : D.atKey (κ.lit k) (.lit (ν.lit ν.z)) = .lit (ν.lit c) := congrArg Prod.fst hz
  rw [h2.at_ k] at hx
  have := O'.inj (DataW.lit.inj hx)
  rw [hrun, this]
theorem MapAt.look_ok {K V : Type} {κ : Kind K} {ν : Kind V} {w : World} {b N : Nat} {f : K → Option V} (O : KindOk κ) (O' : KindOk ν) (h : MapAt κ ν w b f N) {tm : TypeId} (ht : Try.prog.underlying tm = some (.map κ.t ν.t)) {k : K} (hk : κ.wf k) :
    (Instr.lookup tm (.map (some b)) (κ.val k) true).run Try.prog w = .ok (.tuple #[ν.val ((f k).getD ν.z), .bool (f k).isSome]) w := by
  obtain ⟨D, h1, h2, h3, h4⟩ := h
  obtain ⟨v, ps, hrun, hv⟩ := h1.look_ok O.keyed ht (O'.zero w) (O'.plain O'.wfz) (O.key hk)
  obtain ⟨c, _, rfl, hz⟩ := O'.inv hv
  have hx : D.atKey (κ.lit k) (.lit (ν.lit ν.z)) = .lit (ν.lit c) := congrArg Prod.fst hz
  rw [h2.at_ k] at hx
  have := O'.inj (DataW.lit.inj hx)
  rw [hrun, this, h2.has k]
theorem wf_upd {K V : Type} [DecidableEq K] {κ : Kind K} {ν : Kind V} {f : K → Option V} (h4 : ∀ k v, f k = some v → κ.wf k ∧ ν.wf v) {k : K} {v : V} (hk : κ.wf k) (hv : ν.wf v) : ∀ j u, updK f k v j = some u → κ.wf j ∧ ν.wf u := fun j u hj => by
  by_cases e : j = k
  · subst e; rw [updK_same] at hj; rw [← Option.some.inj hj]; exact ⟨hk, hv⟩
  · rw [updK_other e] at hj; exact h4 j u hj
theorem MapAt.store {K V : Type} [DecidableEq K] {κ : Kind K} {ν : Kind V} {w : World} {b N : Nat} {f : K → Option V} (O : KindOk κ) (O' : KindOk ν) (h : MapAt κ ν w b f N) {tm : TypeId} (ht : Try.prog.underlying tm = some (.map κ.t ν.t)) {k : K} (hk : κ.wf k) {v : V} (hv : ν.wf v) (hN : N < maxLen) :
    ∃ w1, (Instr.mapUpdate tm (.map (some b)) (κ.val k) (ν.val v)).run Try.prog w = .ok () w1 ∧ MapAt κ ν w1 b (updK f k v) (if (f k).isSome = true then N else N + 1) ∧ w.mapTurned w1 b := by
  obtain ⟨D, h1, h2, h3, h4⟩ := h
  obtain ⟨w1, r1, r2, r3⟩ := h1.store O.keyed ht hN (O.key hk) (O'.plain hv)
  have e : Maps.size (D.put (κ.lit k) (.lit (ν.lit v))) = if (f k).isSome = true then N else N + 1 := by rw [size_put h2.tidy, h2.has k, h3]
  refine ⟨w1, r1, ⟨_, ?_, h2.put O k v, e, wf_upd h4 hk hv⟩, r3⟩
  rw [← e]; exact owns_tight r2
theorem MapAt.drop {K V : Type} [DecidableEq K] {κ : Kind K} {ν : Kind V} {w : World} {b N : Nat} {f : K → Option V} (O : KindOk κ) (h : MapAt κ ν w b f N) {tm : TypeId} (ht : Try.prog.underlying tm = some (.map κ.t ν.t)) {k : K} (hk : κ.wf k) (ty : TypeId) :
    ∃ w1, (Builtin.delete_ #[tm, κ.t] ty #[.map (some b), κ.val k]).run Try.prog w = .ok (.tuple #[]) w1 ∧ MapAt κ ν w1 b (remK f k) (if (f k).isSome = true then N - 1 else N) ∧ w.mapTurned w1 b := by
  obtain ⟨D, h1, h2, h3, h4⟩ := h
  obtain ⟨w1, r1, r2, r3⟩ := h1.drop O.keyed ht (O.key hk) ty
  have e : Maps.size (D.del (κ.lit k)) = if (f k).isSome = true then N - 1 else N := by
    have := size_del (k := κ.lit k) h2.tidy
    rw [h2.has k, h3] at this
    split at this <;> split <;> simp_all <;> omega
  refine ⟨w1, r1, ⟨_, ?_, h2.del O k, e, fun j u hj => ?_⟩, r3⟩
  · rw [← e]; exact owns_tight r2
  · unfold remK at hj
    by_cases e : j = k
    · rw [if_pos e] at hj; cases hj
    · rw [if_neg e] at hj; exact h4 j u hj
theorem MapAt.len {K V : Type} {κ : Kind K} {ν : Kind V} {w : World} {b N : Nat} {f : K → Option V} (h : MapAt κ ν w b f N) {tm : TypeId} (ht : Try.prog.underlying tm = some (.map κ.t ν.t)) (ty : TypeId) :
    (Builtin.len_ #[tm] ty #[.map (some b)]).run Try.prog w = .ok (.int .i64 N) w := by
  obtain ⟨D, h1, h2, h3, h4⟩ := h
  rw [h1.len ht ty, h3]
open Go.WideElems Go.ChangeShapes Go.WideShapes Go.MapKept Go.ChangeMaps in
/-- an entry is made, then stored into: as one store does -/
theorem entry_store {P : Program} {w : World} {t k e : TypeId} {R : Value → Option (DU × List MemPlace)} {b : Nat} {es : Array MapEntry} {clock : Nat} (K : Keyed P k) (ht : P.underlying t = some (.map k e)) {z : Value} (hz : ∀ u : World, (zeroValue e).run P u = .ok z u) (hb : w.heap[b]? = some (.map es clock)) (F : Fit P k R es clock)
    {key : Value} {kl : Lit} (hkey : keyOf P k key = some kl) :
    ∃ (v0 : Value) (st : Nat) (es1 : Array MapEntry) (clock1 : Nat), (Instr.mapEntry t (.map (some b)) key).run P w = .ok (.tuple #[v0, goInt st]) (setBlock w b (.map es1 clock1)) ∧
      ∀ (w2 : World) (val : Value), w2.heap[b]? = some (.map es1 clock1) → ∃ es' clock', (Instr.entryStore t (.map (some b)) (goInt st) val).run P w2 = .ok () (setBlock w2 b (.map es' clock')) ∧
        (Instr.mapUpdate t (.map (some b)) key val).run P w = .ok () (setBlock w b (.map es' clock')) := by
  obtain ⟨s1, s2, _⟩ := F.stamped
  rcases K.find w hkey es.toList F.keys with ⟨h1, h2⟩ | ⟨j, e0, h1, h2, h3⟩
  · refine ⟨z, clock, es.push ⟨key, z, clock⟩, clock + 1, ?_, fun w2 val hw2 => ⟨es.push ⟨key, val, clock⟩, clock + 1, ?_, ?_⟩⟩
    · simp [Instr.mapEntry, run_underlying ht, MapKept.run_getObj_map hb, K.check w false hkey, h1, hz, MapKept.run_setObj_map _ hb, Result.andThen, setBlock]
    · have hidx : (es.push ⟨key, z, clock⟩).findIdx? (fun e => ((e.born : Nat) : Int) == ((clock : Nat) : Int)) = some es.size := by
        rw [findIdx_arr]
        have := findIdx_born (l := (es.push ⟨key, z, clock⟩).toList) (j := es.size) (e0 := ⟨key, z, clock⟩) (by
          simp only [Array.toList_push, List.map_append, List.map_cons, List.map_nil]
          refine List.nodup_append.2 ⟨s2, by simp, fun a ha c hc e1 => ?_⟩
          simp only [List.mem_singleton] at hc
          obtain ⟨x, hx, rfl⟩ := List.mem_map.1 ha
          have := s1 x hx
          omega) (by simp)
        exact this
      have hmod : (es.push ⟨key, z, clock⟩).modify es.size (fun e => { e with val := val }) = es.push ⟨key, val, clock⟩ := by
        apply Array.ext'
        rw [Array.toList_modify, Array.toList_push, Array.toList_push, ← Array.length_toList, modify_last]
      simp [Instr.entryStore, MapKept.run_getObj_map hw2, asInt, asIntOf, goInt, hidx, hmod, MapKept.run_setObj_map _ hw2, Result.andThen, setBlock]
    · simp [Instr.mapUpdate, run_underlying ht, MapKept.run_getObj_map hb, K.check w false hkey, h1, MapKept.run_setObj_map _ hb, Result.andThen, setBlock]
  · have hj : es[j]? = some e0 := by simpa using h2
    have hsame : es.modify j (fun e => { e with key := key }) = es := by
      apply Array.ext'
      rw [Array.toList_modify, modify_eq_set _ _ _ _ h2]
      have : ({ e0 with key := key } : MapEntry) = e0 := by rw [← h3]
      rw [this]
      exact set_self _ _ _ h2
    refine ⟨e0.val, e0.born, es, clock, ?_, fun w2 val hw2 => ⟨es.modify j (fun e' => { e' with key := key, val := val }), clock, ?_, ?_⟩⟩
    · simp [Instr.mapEntry, run_underlying ht, MapKept.run_getObj_map hb, K.check w false hkey, h1, hj, h3, K.stays w hkey, hsame, MapKept.run_setObj_map _ hb, Result.andThen, setBlock]
    · have hidx : es.findIdx? (fun e => ((e.born : Nat) : Int) == ((e0.born : Nat) : Int)) = some j := by
        rw [findIdx_arr]
        exact findIdx_born s2 h2
      have hmod : es.modify j (fun e => { e with val := val }) = es.modify j (fun e' => { e' with key := key, val := val }) := by
        apply Array.ext'
        rw [Array.toList_modify, Array.toList_modify, modify_eq_set _ _ _ _ h2, modify_eq_set _ _ _ _ h2, ← h3]
      simp [Instr.entryStore, MapKept.run_getObj_map hw2, asInt, asIntOf, goInt, hidx, hmod, MapKept.run_setObj_map _ hw2, Result.andThen, setBlock]
    · simp [Instr.mapUpdate, run_underlying ht, MapKept.run_getObj_map hb, K.check w false hkey, h1, hj, h3, K.stays w hkey, MapKept.run_setObj_map _ hb, Result.andThen, setBlock]
open Go.WideElems Go.ChangeShapes Go.WideShapes Go.MapKept Go.ChangeMaps in
/-- .. at such a map -/
theorem MapAt.entry {K V : Type} [DecidableEq K] {κ : Kind K} {ν : Kind V} {w : World} {b N : Nat} {f : K → Option V} (O : KindOk κ) (O' : KindOk ν) (h : MapAt κ ν w b f N) {tm : TypeId} (ht : Try.prog.underlying tm = some (.map κ.t ν.t)) {k : K} (hk : κ.wf k) {v : V} (hv : ν.wf v) (hN : N < maxLen) :
    ∃ (v0 : Value) (st : Nat) (w1 w2 : World), (Instr.mapEntry tm (.map (some b)) (κ.val k)).run Try.prog w = .ok (.tuple #[v0, goInt st]) w1 ∧ w.grownBy w1 (some b) ∧ (Instr.entryStore tm (.map (some b)) (goInt st) (ν.val v)).run Try.prog w1 = .ok () w2 ∧
      w1.grownBy w2 (some b) ∧ MapAt κ ν w2 b (updK f k v) (if (f k).isSome = true then N else N + 1) := by
  have h0 := h
  obtain ⟨D, ⟨es, clock, hb, F, hs, hD⟩, h2, h3, h4⟩ := h
  obtain ⟨v0, st, es1, clock1, r1, r2⟩ := entry_store (w := w) O.keyed ht O'.zero hb F (O.key hk)
  have hlt : b < w.heap.size := (Array.getElem?_eq_some_iff.1 hb).1
  have hb1 : (setBlock w b (.map es1 clock1)).heap[b]? = some (.map es1 clock1) := heap_setBlock_same hb _
  obtain ⟨es', clock', r3, r4⟩ := r2 (setBlock w b (.map es1 clock1)) (ν.val v) hb1
  obtain ⟨w3, q1, q2, q3⟩ := h0.store O O' ht hk hv hN
  rw [r4] at q1
  have e3 : setBlock w b (.map es' clock') = w3 := by injection q1
  have e4 : setBlock (setBlock w b (.map es1 clock1)) b (.map es' clock') = setBlock w b (.map es' clock') := by
    simp [setBlock]
  refine ⟨v0, st, _, _, r1, World.mapTurned.grown (w := w) ⟨es, clock, es1, clock1, hb, rfl⟩, r3, World.mapTurned.grown (w := setBlock w b (.map es1 clock1)) ⟨es1, clock1, es', clock', hb1, rfl⟩, ?_⟩
  rw [e4, e3]; exact q2
end
end Go.Proofs.Yteeapfmgdlcgfaa.A


namespace Go.Proofs.Yteeapfmgdlcgfaa.A
open Go.RowKit

/-- whatever lay, but for the blocks of X, lies as it lay -/
structure KeepsBut (X : Nat → Prop) (W W' : World) : Prop where
  os : W'.os = W.os
  tape : W'.tape = W.tape
  output : W'.output = W.output
  size : W.heap.size ≤ W'.heap.size
  block : ∀ k, k < W.heap.size → ¬ X k → W'.heap[k]? = W.heap[k]?
theorem KeepsBut.refl (X : Nat → Prop) (W : World) : KeepsBut X W W := ⟨rfl, rfl, rfl, Nat.le_refl _, fun _ _ _ => rfl⟩
theorem KeepsBut.trans {X : Nat → Prop} {A B C : World} (h : KeepsBut X A B) (k : KeepsBut X B C) : KeepsBut X A C :=
  ⟨k.os.trans h.os, k.tape.trans h.tape, k.output.trans h.output, Nat.le_trans h.size k.size, fun i hi hx => (k.block i (Nat.lt_of_lt_of_le hi h.size) hx).trans (h.block i hi hx)⟩
theorem KeepsBut.mono {X Y : Nat → Prop} {A B : World} (h : KeepsBut X A B) (hxy : ∀ k, X k → Y k) : KeepsBut Y A B := ⟨h.os, h.tape, h.output, h.size, fun k hk hn => h.block k hk (fun hx => hn (hxy k hx))⟩
theorem KeepsBut.alloc (X : Nat → Prop) (W : World) (o : Obj) : KeepsBut X W (W.alloc o) := ⟨rfl, rfl, rfl, by simp, fun k hk _ => Below.heap_alloc W o k hk⟩
theorem KeepsBut.putObj {X : Nat → Prop} (W : World) {l : Nat} (o : Obj) (hx : X l) : KeepsBut X W (W.putObj l o) := ⟨rfl, rfl, rfl, by simp, fun k hk hn => World.putObj_heap_other (fun e => hn (e ▸ hx))⟩
theorem KeepsBut.below {X : Nat → Prop} {W W' : World} {n : Nat} (h : KeepsBut X W W') (hn : n ≤ W.heap.size) (hx : ∀ k, k < n → ¬ X k) : Below n W W' := ⟨h.os, h.tape, h.output, h.size, fun k hk => h.block k (by omega) (hx k hk)⟩
theorem KeepsBut.cell {X : Nat → Prop} {W W' : World} (h : KeepsBut X W W') {p : Addr} {v : Value} (hc : W.cell? p = some v) (hx : ¬ X p.block) : W'.cell? p = some v := by
  have hb := h.block p.block (World.block_lt_of_cell? _ _ hc) hx
  unfold World.cell? at hc ⊢
  rw [hb]; exact hc
theorem KeepsBut.setCell {X : Nat → Prop} (W : World) (a : Addr) (v : Value) (hx : X a.block) : KeepsBut X W (W.setCell a v) :=
  ⟨rfl, rfl, rfl, by show W.heap.size ≤ (W.heap.modify _ _).size; rw [Array.size_modify]; exact Nat.le_refl _, fun k _ hn => Below.heap_setCell W a v k (fun e => hn (e ▸ hx))⟩

/-- J does not mind what happens in X, nor what is new -/
def AbX {β : Type} (X : Nat → Prop) (J : β → World → Prop) : Prop := ∀ s W W', J s W → KeepsBut X W W' → J s W'
/-- X, and the loop's own two blocks -/
def XX (X : Nat → Nat → Prop) (B : Nat) (k : Nat) : Prop := X (B + 2) k ∨ (B ≤ k ∧ k ≤ B + 1)
theorem AbX.alloc {β : Type} {X : Nat → Prop} {I : β → World → Prop} (h : AbX X I) {s : β} {W : World} (o : Obj) (hs : I s W) : I s (W.alloc o) := h s W _ hs (KeepsBut.alloc X W o)
theorem AbX.putObj {β : Type} {X : Nat → Nat → Prop} {B : Nat} {I : β → World → Prop} (h : AbX (XX X B) I) {s : β} {W : World} {l : Nat} (o : Obj) (hs : I s W) (hl : B ≤ l ∧ l ≤ B + 1) : I s (W.putObj l o) := h s W _ hs (KeepsBut.putObj W o (.inr hl))

variable {F : Fence} {n : Nat} {P : Program}

end Go.Proofs.Yteeapfmgdlcgfaa.A


namespace Go.Proofs.Yteeapfmgdlcgfaa.A
open Go.RowKit Go.Maps Go.Proofs.YteeapfmgdlcgfaaW.PrintWords Go.Proofs.YteeapfmgdlcgfaaW.PrintLast
set_option linter.unusedVariables false
set_option linter.unusedSimpArgs false

def κI : Kind Int := { t := 3, val := .int .i64, lit := .int .i64, wf := fun k => (Lit.int .i64 k).wf = true, z := 0 }
theorem κI_ok : KindOk κI where
  plain := fun h => plainElem_int Try.underlying3 h
  inv := fun h => by obtain ⟨a, h1, h2, h3⟩ := plainElem_int_inv Try.underlying3 h; exact ⟨a, h3, h1, h2⟩
  zero := fun w => by kernel_rfl
  wfz := by show (Lit.int .i64 0).wf = true; decide
  inj := fun h => by injection h
  keyed := int_keyed Try.underlying3
  key := fun h => keyOf_int_mk Try.underlying3 h
  keyinv := fun h => by obtain ⟨a, h1, h2, h3⟩ := Maps.keyOf_i64 Try.underlying3 h; exact ⟨a, h3, h1, h2⟩
  isKey := fun k => by simp [κI, WideAt.IsKeyLit]
/-- block p is such a set of classes -/
structure Uni {K : Type} (κ : Kind K) (w : World) (p bu bs nu N : Nat) (U : K → Option K) (Z : K → Option Int) : Prop where
  cu : w.cell? ⟨p, 0, none⟩ = some (.map (some bu))
  cs : w.cell? ⟨p, 1, none⟩ = some (.map (some bs))
  mu : MapAt κ κ w bu U nu
  ms : MapAt κ κI w bs Z N
  ne : bu ≠ bs
  F : Forest U Z
def UX (bu bs : Nat) (k : Nat) : Prop := k = bu ∨ k = bs
theorem Uni.pne {K : Type} {κ : Kind K} {w : World} {p bu bs nu N : Nat} {U : K → Option K} {Z : K → Option Int} (h : Uni κ w p bu bs nu N U Z) : p ≠ bu ∧ p ≠ bs := ⟨h.mu.noCell h.cu, h.ms.noCell h.cu⟩
theorem Uni.keep {K : Type} {κ : Kind K} {w w' : World} {p bu bs nu N : Nat} {U : K → Option K} {Z : K → Option Int} (h : Uni κ w p bu bs nu N U Z) {X : Nat → Prop} (hk : KeepsBut X w w') (hp : ¬ X p) (hu : ¬ X bu) (hs : ¬ X bs) : Uni κ w' p bu bs nu N U Z :=
  ⟨hk.cell h.cu hp, hk.cell h.cs hp, h.mu.same (hk.block _ h.mu.lt hu), h.ms.same (hk.block _ h.ms.lt hs), h.ne, h.F⟩
theorem keeps_grown {w w' : World} {b : Nat} (h : w.grownBy w' (some b)) {X : Nat → Prop} (hx : X b) : KeepsBut X w w' :=
  ⟨h.os, h.tape, h.output, h.size, fun k hk hn => h.block k hk (fun e => by injection e with e; exact hn (e ▸ hx))⟩
theorem keeps_grown0 {w w' : World} (h : w.grownBy w' none) (X : Nat → Prop) : KeepsBut X w w' :=
  ⟨h.os, h.tape, h.output, h.size, fun k hk hn => h.block k hk (fun e => by cases e)⟩
theorem keeps_below {w w' : World} (h : Below w.heap.size w w') (X : Nat → Prop) : KeepsBut X w w' :=
  ⟨h.os, h.tape, h.output, h.size, fun k hk _ => h.block k hk⟩

set_option maxRecDepth 100000 in
set_option maxHeartbeats 1000000 in
theorem new_calls (w : World) : Calls Try.prog 10 #[] w fun e w' => ∃ p bu bs, e = .returned (.pointer (some ⟨p, 0, none⟩)) ∧ w.heap.size ≤ p ∧ w.heap.size ≤ bu ∧ w.heap.size ≤ bs ∧ Uni κI w' p bu bs 0 0 (fun _ => none) (fun _ => none) ∧ Below w.heap.size w w' := by
  have hmm := @run_makeMap Try.prog
  go_enter Try.func10, Try.ntmps10
  go_wp2
  go_ret
  obtain ⟨w1, h1⟩ : ∃ w1, (w.alloc (Obj.map #[] 0)) = w1 := ⟨_, rfl⟩
  have hs1 : w1.heap.size = w.heap.size + 1 := by rw [← h1]; simp
  have m1 : MapAt κI κI w1 w.heap.size (fun _ => none) 0 := by rw [← h1]; exact MapAt.made w
  have m2 : MapAt κI κI (w1.alloc (Obj.map #[] 0)) w1.heap.size (fun _ => none) 0 := MapAt.made w1
  have hs2 : (w1.alloc (Obj.map #[] 0)).heap.size = w.heap.size + 2 := by simp [hs1]
  have hB : Below w.heap.size w w1 := by rw [← h1]; exact below_alloc (Below.refl _ _) _
  refine ⟨w.heap.size + 1 + 1, w.heap.size, w.heap.size + 1, rfl, by omega, by omega, by omega, ?_, ?_⟩
  · rw [h1]
    refine ⟨by simp [go_sem, hs1], by simp [go_sem, hs1], ?_, ?_, by omega, ⟨fun k j h => (nomatch h), fun k => ⟨fun h => (nomatch h), fun h => (nomatch h)⟩⟩⟩
    · refine m1.same ?_
      rw [Below.heap_alloc _ _ _ (by rw [hs2]; omega), Below.heap_alloc _ _ _ (by rw [hs1]; omega)]
    · rw [← hs1]
      exact m2.same (Below.heap_alloc _ _ _ (by rw [hs2]; omega))
  · rw [h1]
    exact below_alloc (below_alloc hB _) _
set_option maxRecDepth 100000 in
set_option maxHeartbeats 1000000 in
theorem has_calls {p bu bs nu N : Nat} {U Z : Int → Option Int} (w : World) (h : Uni κI w p bu bs nu N U Z) {k : Int} (hk : κI.wf k) :
    Calls Try.prog 37 #[.pointer (some ⟨p, 0, none⟩), .int .i64 k] w fun e w' => e = .returned (.bool (U k).isSome) ∧ w' = w := by
  have hc := h.cu
  have hl := h.mu.look_ok κI_ok κI_ok Try.underlying66 hk
  simp only [κI] at hl
  go_enter Try.func37, Try.ntmps37
  go_wp2
  go_ret
  exact ⟨rfl, rfl⟩
/-- the same classes, paths made shorter -/
structure Halved {K : Type} (U V : K → Option K) : Prop where
  tos : ∀ d x r, To U d x r → ∃ e, To V e x r
  dom : ∀ x, (V x).isSome = (U x).isSome
theorem Halved.refl {K : Type} (U : K → Option K) : Halved U U := ⟨fun d x r h => ⟨d, h⟩, fun _ => rfl⟩
theorem Halved.trans {K : Type} {U V W : K → Option K} (h : Halved U V) (h' : Halved V W) : Halved U W :=
  ⟨fun d x r hx => by obtain ⟨e, he⟩ := h.tos d x r hx; exact h'.tos e x r he, fun x => (h'.dom x).trans (h.dom x)⟩
theorem Halved.eq2 {K : Type} {U V : K → Option K} (h : Halved U V) {Z : K → Option Int} (hF : Forest U Z) (x y : K) : Eq2 V x y ↔ Eq2 U x y := Eq2.of_same h.tos (fun x hx => by rwa [h.dom] at hx) hF x y

set_option maxRecDepth 100000 in
set_option maxHeartbeats 2000000 in
theorem root_calls {p bu bs nu N : Nat} {U Z : Int → Option Int} (w : World) (h : Uni κI w p bu bs nu N U Z) (hn : nu < maxLen) {k : Int} (hk : (U k).isSome = true) :
    Calls Try.prog 34 #[.pointer (some ⟨p, 0, none⟩), .int .i64 k] w fun e w' => ∃ (r : Int) (U' : Int → Option Int), e = .returned (.int .i64 r) ∧ (∃ d, To U d k r) ∧ Uni κI w' p bu bs nu N U' Z ∧ Halved U U' ∧ KeepsBut (UX bu bs) w w' := by
  obtain ⟨j0, hj0⟩ := Option.isSome_iff_exists.1 hk
  obtain ⟨d0, r, hr⟩ := h.F.up k j0 hj0
  have hmix : Try.prog.follows .mixedOrders = true := by kernel_rfl
  go_enter Try.func34, Try.ntmps34
  go_wp2
  go_loopg [1] d0 (fun kq v1 wr => ∃ (k' : Int) (U' : Int → Option Int) (d : Nat), v1 = .int .i64 k' ∧ d ≤ kq ∧ To U' d k' r ∧ Uni κI wr p bu bs nu N U' Z ∧ Halved U U' ∧ KeepsBut (UX bu bs) w wr)
  case atStart => exact ⟨k, U, d0, rfl, Nat.le_refl _, hr, h, Halved.refl _, KeepsBut.refl _ _⟩
  case round =>
    obtain ⟨k', U', d, rfl, hd, hto, hu, hh, hkp⟩ := hrel
    have hc := hu.cu
    obtain ⟨j, hj⟩ := hto.has
    have hwk := hu.mu.wfs hj
    have hl := hu.mu.look κI_ok κI_ok Try.underlying66 hwk.1
    rw [hj] at hl
    simp only [κI, Option.getD_some] at hl
    by_cases e : j = k'
    · subst e
      have ht : (j != j) = false := by simp
      have hr' : r = j := ((To.zero hj).det hto).2.symm
      subst hr'
      go_wp2
      go_ret
      exact ⟨r, U', rfl, ⟨d0, hr⟩, hu, hh, hkp⟩
    · have ht : (j != k') = true := by simpa using e
      have hto' := hto
      cases hto with
      | zero h1 => rw [hj] at h1; exact absurd (Option.some.inj h1) e
      | @step d1 _ j1 _ h1 h2 h3 =>
        rw [hj] at h1
        obtain rfl := Option.some.inj h1
        obtain ⟨m, hm⟩ := h3.has
        have hwm := hu.mu.wfs hm
        obtain ⟨hF', heq, hdom⟩ := hu.F.halve hj e hm
        have hstep : ∃ d2, d2 + 1 ≤ d1 + 1 ∧ To (updK U' k' m) d2 m r := by
          cases h3 with
          | zero h4 =>
            rw [hm] at h4
            obtain rfl := Option.some.inj h4
            exact ⟨0, by omega, .zero (by rw [updK_other e]; exact hm)⟩
          | @step d3 _ m1 _ h4 h5 h6 =>
            rw [hm] at h4
            obtain rfl := Option.some.inj h4
            obtain ⟨e2, he2, h7⟩ := To.halve hj e hm d3 d3 m r (Nat.le_refl _) h6
            exact ⟨e2, by omega, h7⟩
        obtain ⟨d2, hd2, hto2⟩ := hstep
        have hhv : Halved U' (updK U' k' m) := ⟨fun d x r hx => by obtain ⟨e2, _, h7⟩ := To.halve hj e hm d d x r (Nat.le_refl _) hx; exact ⟨e2, h7⟩, hdom⟩
        have hl2 := hu.mu.look κI_ok κI_ok Try.underlying66 hwk.2
        rw [hm] at hl2
        simp only [κI, Option.getD_some] at hl2
        have hmd : MapAt κI κI wr.drew bu U' nu := hu.mu.same rfl
        have hld := hmd.look κI_ok κI_ok Try.underlying66 hwk.1
        rw [hj] at hld
        simp only [κI, Option.getD_some] at hld
        have hl2d := hmd.look κI_ok κI_ok Try.underlying66 hwk.2
        rw [hm] at hl2d
        simp only [κI, Option.getD_some] at hl2d
        have hcd : wr.drew.cell? ⟨p, 0, none⟩ = some (.map (some bu)) := hc
        obtain ⟨w1, hs1, hs2, hs3⟩ := hmd.store κI_ok κI_ok Try.underlying66 hwk.1 hwm.2 hn
        rw [hj] at hs2
        simp only [Option.isSome_some, if_true] at hs2
        simp only [κI] at hs1
        have hk1 : KeepsBut (UX bu bs) wr w1 := (show KeepsBut (UX bu bs) wr wr.drew from ⟨rfl, rfl, rfl, Nat.le_refl _, fun _ _ _ => rfl⟩).trans (keeps_grown hs3.grown (.inl rfl))
        have hne := hu.pne
        have hc1 : w1.cell? ⟨p, 0, none⟩ = some (.map (some bu)) := hk1.cell hu.cu (fun h => h.elim hne.1 hne.2)
        have hu1 : Uni κI w1 p bu bs nu N (updK U' k' m) Z := ⟨hc1, hk1.cell hu.cs (fun h => h.elim hne.1 hne.2), hs2, hu.ms.same ((hs3.grown.block bs (show bs < wr.drew.heap.size from hu.ms.lt) (fun e => by injection e with e; exact hu.ne e.symm)).trans rfl), hu.ne, hF'⟩
        have hl3 := hs2.look κI_ok κI_ok Try.underlying66 hwk.1
        rw [updK_same] at hl3
        simp only [κI, Option.getD_some] at hl3
        have hfin : Aside0 (∃ (k'' : Int) (U'' : Int → Option Int) (d : Nat), Value.int .i64 m = .int .i64 k'' ∧ d ≤ d1 ∧ To U'' d k'' r ∧ Uni κI w1 p bu bs nu N U'' Z ∧ Halved U U'' ∧ KeepsBut (UX bu bs) w w1) :=
          ⟨⟨m, _, d2, rfl, by omega, hto2, hu1, hh.trans hhv, hkp.trans hk1⟩⟩
        clear hs2 hs3 hk1 hu1 hu hmd hF' heq hdom
        obtain ⟨gk', rfl⟩ : ∃ q, gk = q + 1 := ⟨gk - 1, by omega⟩
        go_wp2
        go_region_with (fail)
        all_goals
          go_wp2
          go_roundg gk'
          case measure => omega
          case rel =>
            obtain ⟨k'', U'', d, a1, a2, a3⟩ := hfin.out
            exact ⟨k'', U'', d, a1, by omega, a3⟩
end Go.Proofs.Yteeapfmgdlcgfaa.A


namespace Go.Proofs.Yteeapfmgdlcgfaa.A
open Go.RowKit Go.Maps Go.Proofs.YteeapfmgdlcgfaaW.PrintWords Go.Proofs.YteeapfmgdlcgfaaW.PrintLast
set_option linter.unusedVariables false
set_option linter.unusedSimpArgs false

set_option maxRecDepth 100000 in
set_option maxHeartbeats 2000000 in
theorem add_had {p bu bs nu N : Nat} {U Z : Int → Option Int} (w : World) (h : Uni κI w p bu bs nu N U Z) {k : Int} (hk : κI.wf k) (hu : (U k).isSome = true) :
    Calls Try.prog 22 #[.pointer (some ⟨p, 0, none⟩), .int .i64 k] w fun e w' => e = .returned (.bool false) ∧ w' = w := by
  have hc := h.cu
  have hl := h.mu.look_ok κI_ok κI_ok Try.underlying66 hk
  rw [hu] at hl
  simp only [κI] at hl
  go_enter Try.func22, Try.ntmps22
  go_wp2
  go_ret
  exact ⟨rfl, rfl⟩
set_option maxRecDepth 100000 in
set_option maxHeartbeats 2000000 in
theorem add_new {p bu bs nu N : Nat} {U Z : Int → Option Int} (w : World) (h : Uni κI w p bu bs nu N U Z) {k : Int} (hk : κI.wf k) (hu : U k = none) (hn : nu < maxLen) (hN : N < maxLen) :
    Calls Try.prog 22 #[.pointer (some ⟨p, 0, none⟩), .int .i64 k] w fun e w' => e = .returned (.bool true) ∧ Uni κI w' p bu bs (nu + 1) (N + 1) (updK U k k) (updK Z k 1) ∧ KeepsBut (UX bu bs) w w' := by
  have hmix : Try.prog.follows .mixedOrders = true := by kernel_rfl
  have hZ : Z k = none := by
    have := h.F.z k
    rw [hu] at this
    cases hz : Z k with
    | none => rfl
    | some v => rw [hz] at this; exact absurd (this.1 rfl) (by simp)
  have hc := h.cu
  have hcs := h.cs
  have hne := h.pne
  have hl := h.mu.look_ok κI_ok κI_ok Try.underlying66 hk
  rw [hu] at hl
  simp only [κI, Option.isSome_none] at hl
  have hmd : MapAt κI κI w.drew bu U nu := h.mu.same rfl
  obtain ⟨v0, st, w1, w2, r1, g1, r2, g2, hm2⟩ := hmd.entry κI_ok κI_ok Try.underlying66 hk hk hn
  rw [hu] at hm2
  have k0 : KeepsBut (UX bu bs) w w.drew := ⟨rfl, rfl, rfl, Nat.le_refl _, fun _ _ _ => rfl⟩
  have k1 := k0.trans (keeps_grown g1 (X := UX bu bs) (.inl rfl))
  have k2 := k1.trans (keeps_grown g2 (X := UX bu bs) (.inl rfl))
  have hsd : bs < w.drew.heap.size := h.ms.lt
  have hms2 : MapAt κI κI w2 bs Z N := h.ms.same ((g2.block bs (Nat.lt_of_lt_of_le hsd g1.size) (fun e => by injection e with e; exact h.ne e.symm)).trans (g1.block bs hsd (fun e => by injection e with e; exact h.ne e.symm)))
  obtain ⟨v0', st', w3, w4, r3, g3, r4, g4, hm4⟩ := hms2.entry κI_ok κI_ok Try.underlying66 hk (v := 1) (by show (Lit.int .i64 1).wf = true; decide) hN
  rw [hZ] at hm4
  have k3 := k2.trans (keeps_grown g3 (X := UX bu bs) (.inr rfl))
  have k4 := k3.trans (keeps_grown g4 (X := UX bu bs) (.inr rfl))
  have hnx : ¬ UX bu bs p := fun h => h.elim hne.1 hne.2
  have c0 := k0.cell hc hnx
  have c1 := k1.cell hc hnx
  have c2 := k2.cell hc hnx
  have c3 := k3.cell hc hnx
  have d0 := k0.cell hcs hnx
  have d1 := k1.cell hcs hnx
  have d2 := k2.cell hcs hnx
  have d3 := k3.cell hcs hnx
  have hu2 : bu < w2.heap.size := hm2.lt
  have hfin : Aside0 (Uni κI w4 p bu bs (nu + 1) (N + 1) (updK U k k) (updK Z k 1) ∧ KeepsBut (UX bu bs) w w4) := by
    refine ⟨⟨k4.cell hc hnx, k4.cell hcs hnx, ?_, hm4, h.ne, (h.F.add hu 1).1⟩, k4⟩
    exact hm2.same ((g4.block bu (Nat.lt_of_lt_of_le hu2 g3.size) (fun e => by injection e with e; exact h.ne e)).trans (g3.block bu hu2 (fun e => by injection e with e; exact h.ne e)))
  simp only [κI, goInt] at r1 r2 r3 r4
  clear hm2 hm4 hms2 k0 k1 k2 k3 k4 g1 g2 g3 g4 hmd hsd hu2
  go_enter Try.func22, Try.ntmps22
  go_wp2
  go_region_with (fail)
  all_goals
    go_wp2
    go_ret
    exact ⟨rfl, hfin.out⟩
end Go.Proofs.Yteeapfmgdlcgfaa.A


namespace Go.Proofs.Yteeapfmgdlcgfaa.A
open Go.RowKit Go.Maps Go.Proofs.YteeapfmgdlcgfaaW.PrintWords Go.Proofs.YteeapfmgdlcgfaaW.PrintLast
set_option linter.unusedVariables false
set_option linter.unusedSimpArgs false

def addE {K : Type} (E : K → K → Prop) (k : K) (x y : K) : Prop := E x y ∨ (x = k ∧ y = k)
def joinE {K : Type} (E : K → K → Prop) (a b x y : K) : Prop := E x y ∨ (E x a ∧ E y b) ∨ (E x b ∧ E y a)
/-- such a set of classes, by what is in one class -/
def UN {K : Type} (κ : Kind K) (w : World) (p bu bs nu N : Nat) (E : K → K → Prop) : Prop := ∃ U Z, Uni κ w p bu bs nu N U Z ∧ ∀ x y, Eq2 U x y ↔ E x y
theorem UN.keep {K : Type} {κ : Kind K} {w w' : World} {p bu bs nu N : Nat} {E : K → K → Prop} (h : UN κ w p bu bs nu N E) {X : Nat → Prop} (hk : KeepsBut X w w') (hp : ¬ X p) (hu : ¬ X bu) (hs : ¬ X bs) : UN κ w' p bu bs nu N E := by
  obtain ⟨U, Z, h1, h2⟩ := h
  exact ⟨U, Z, h1.keep hk hp hu hs, h2⟩
theorem UN.congr {K : Type} {κ : Kind K} {w : World} {p bu bs nu N : Nat} {E E' : K → K → Prop} (h : UN κ w p bu bs nu N E) (he : ∀ x y, E x y ↔ E' x y) : UN κ w p bu bs nu N E' := by
  obtain ⟨U, Z, h1, h2⟩ := h
  exact ⟨U, Z, h1, fun x y => (h2 x y).trans (he x y)⟩
theorem addE_had {K : Type} {U : K → Option K} {Z : K → Option Int} (hF : Forest U Z) {k : K} (hk : (U k).isSome = true) (x y : K) : Eq2 U x y ↔ addE (Eq2 U) k x y := by
  constructor
  · exact .inl
  · rintro (h | ⟨rfl, rfl⟩)
    · exact h
    · exact (Eq2.self_iff hF).2 hk

theorem add_calls {p bu bs nu N : Nat} {U Z : Int → Option Int} (w : World) (h : Uni κI w p bu bs nu N U Z) {k : Int} (hk : κI.wf k) (hn : nu < maxLen) (hN : N < maxLen) :
    Calls Try.prog 22 #[.pointer (some ⟨p, 0, none⟩), .int .i64 k] w fun e w' => ∃ (r : Bool) (U' Z' : Int → Option Int), e = .returned (.bool r) ∧ (r = true ↔ ¬ Eq2 U k k) ∧ Uni κI w' p bu bs (nu + r.toNat) (N + r.toNat) U' Z' ∧ (∀ x y, Eq2 U' x y ↔ addE (Eq2 U) k x y) ∧ KeepsBut (UX bu bs) w w' := by
  cases hu : U k with
  | none =>
    refine (add_new w h hk hu hn hN).mono ?_
    rintro e w' ⟨rfl, h1, h2⟩
    refine ⟨true, _, _, rfl, ?_, h1, (h.F.add hu 1).2, h2⟩
    rw [Eq2.self_iff h.F, hu]; simp
  | some j =>
    have hs : (U k).isSome = true := by rw [hu]; rfl
    refine (add_had w h hk hs).mono ?_
    rintro e w' ⟨rfl, rfl⟩
    refine ⟨false, U, Z, rfl, ?_, h, addE_had h.F hs, KeepsBut.refl _ _⟩
    rw [Eq2.self_iff h.F, hs]; simp

theorem link_world {p bu bs nu N : Nat} {U Z : Int → Option Int} (W : World) (h : Uni κI W p bu bs nu N U Z) (hn : nu < maxLen) (hN : N < maxLen) {a b : Int} (ha : U a = some a) (hb : U b = some b) (hab : a ≠ b) {va vb : Int} (hva : (Z a).getD 0 = va) (hvb : (Z b).getD 0 = vb) :
    ∃ (W1 W2 W3 : World), (Instr.lookup 66 (.map (some bs)) (.int .i64 a) false).run Try.prog W = .ok (.int .i64 va) W ∧ (Instr.lookup 66 (.map (some bs)) (.int .i64 b) false).run Try.prog W = .ok (.int .i64 vb) W ∧
      (Instr.mapUpdate 66 (.map (some bu)) (.int .i64 b) (.int .i64 a)).run Try.prog W = .ok () W1 ∧
      (Instr.lookup 66 (.map (some bs)) (.int .i64 a) false).run Try.prog W1.drew = .ok (.int .i64 va) W1.drew ∧ (Instr.lookup 66 (.map (some bs)) (.int .i64 b) false).run Try.prog W1.drew = .ok (.int .i64 vb) W1.drew ∧
      (Instr.mapUpdate 66 (.map (some bs)) (.int .i64 a) (.int .i64 (IntKind.i64.wrap (va + vb)))).run Try.prog W1.drew = .ok () W2 ∧
      (Builtin.delete_ #[66, 3] 0 #[.map (some bs), .int .i64 b]).run Try.prog W2 = .ok (.tuple #[]) W3 ∧
      W1.cell? ⟨p, 1, none⟩ = some (.map (some bs)) ∧ W1.drew.cell? ⟨p, 1, none⟩ = some (.map (some bs)) ∧ W2.cell? ⟨p, 1, none⟩ = some (.map (some bs)) ∧
      Uni κI W3 p bu bs nu (N - 1) (updK U b a) (remK (updK Z a (IntKind.i64.wrap (va + vb))) b) ∧ KeepsBut (UX bu bs) W W3 := by
  have hwa := (h.mu.wfs ha).1
  have hwb := (h.mu.wfs hb).1
  have hne := h.pne
  have hnx : ¬ UX bu bs p := fun h => h.elim hne.1 hne.2
  obtain ⟨W1, r1, m1, t1⟩ := h.mu.store κI_ok κI_ok Try.underlying66 hwb hwa hn
  rw [hb] at m1
  simp only [Option.isSome_some, if_true] at m1
  have k1 : KeepsBut (UX bu bs) W W1 := keeps_grown t1.grown (.inl rfl)
  have ms1 : MapAt κI κI W1 bs Z N := h.ms.same (t1.grown.block bs h.ms.lt (fun e => by injection e with e; exact h.ne e.symm))
  have ms1d : MapAt κI κI W1.drew bs Z N := ms1.same rfl
  have hZa : (Z a).isSome = true := (h.F.z a).2 ha
  have hZb : (Z b).isSome = true := (h.F.z b).2 hb
  have la := h.ms.look κI_ok κI_ok Try.underlying66 hwa
  have lb := h.ms.look κI_ok κI_ok Try.underlying66 hwb
  have la1 := ms1d.look κI_ok κI_ok Try.underlying66 hwa
  have lb1 := ms1d.look κI_ok κI_ok Try.underlying66 hwb
  obtain ⟨W2, r2, m2, t2⟩ := ms1d.store κI_ok κI_ok Try.underlying66 hwa (v := IntKind.i64.wrap ((Z a).getD κI.z + (Z b).getD κI.z)) (by show (Lit.int .i64 _).wf = true; rw [i64_w]; exact wrap64_wf _) hN
  rw [hZa] at m2
  simp only [if_true] at m2
  obtain ⟨W3, r3, m3, t3⟩ := m2.drop κI_ok Try.underlying66 hwb 0
  rw [show (updK Z a (IntKind.i64.wrap ((Z a).getD κI.z + (Z b).getD κI.z)) b).isSome = true by rw [updK_other (fun e => hab e.symm)]; exact hZb] at m3
  simp only [if_true] at m3
  have kd : KeepsBut (UX bu bs) W1 W1.drew := ⟨rfl, rfl, rfl, Nat.le_refl _, fun _ _ _ => rfl⟩
  have k2 := (k1.trans kd).trans (keeps_grown t2.grown (X := UX bu bs) (.inr rfl))
  have k3 := k2.trans (keeps_grown t3.grown (X := UX bu bs) (.inr rfl))
  have hb1 : bu < W1.drew.heap.size := m1.lt
  subst hva hvb
  refine ⟨W1, W2, W3, la, lb, r1, la1, lb1, r2, r3, k1.cell h.cs hnx, (k1.trans kd).cell h.cs hnx, k2.cell h.cs hnx, ⟨k3.cell h.cu hnx, k3.cell h.cs hnx, ?_, m3, h.ne, (h.F.link ha hb hab _).1⟩, k3⟩
  exact m1.same ((t3.grown.block bu (Nat.lt_of_lt_of_le hb1 t2.grown.size) (fun e => by injection e with e; exact h.ne e)).trans (t2.grown.block bu hb1 (fun e => by injection e with e; exact h.ne e)))
theorem Halved.root {K : Type} {U V : K → Option K} (h : Halved U V) {r : K} (hr : U r = some r) : V r = some r := by
  obtain ⟨e, he⟩ := h.tos 0 r r (.zero hr)
  exact he.root
set_option maxRecDepth 100000 in
set_option maxHeartbeats 4000000 in
theorem join_calls {p bu bs nu N : Nat} {U Z : Int → Option Int} (w : World) (h : Uni κI w p bu bs nu N U Z) {a b : Int} (ha : κI.wf a) (hb : κI.wf b) (hn : nu + 2 < maxLen) (hN : N + 2 < maxLen) :
    Calls Try.prog 12 #[.pointer (some ⟨p, 0, none⟩), .int .i64 a, .int .i64 b] w fun e w' => ∃ (ra rb r : Bool) (U' Z' : Int → Option Int), e = .returned (.bool r) ∧ (ra = true ↔ ¬ Eq2 U a a) ∧ (rb = true ↔ ¬ addE (Eq2 U) a b b) ∧ (r = true ↔ ¬ addE (addE (Eq2 U) a) b a b) ∧
      Uni κI w' p bu bs (nu + ra.toNat + rb.toNat) (N + ra.toNat + rb.toNat - r.toNat) U' Z' ∧ (∀ x y, Eq2 U' x y ↔ joinE (addE (addE (Eq2 U) a) b) a b x y) ∧ KeepsBut (UX bu bs) w w' := by
  have hmix : Try.prog.follows .mixedOrders = true := by kernel_rfl
  go_enter Try.func12, Try.ntmps12
  go_wp2_with fail
  refine (add_calls w h ha (by omega) (by omega)).mono ?_
  rintro e w1 ⟨ra, U1, Z1, rfl, hra, h1, he1, k1⟩
  have hra1 : ra.toNat ≤ 1 := by cases ra <;> simp
  go_wp2_with fail
  refine (add_calls w1 h1 hb (by omega) (by omega)).mono ?_
  rintro e w2 ⟨rb, U2, Z2, rfl, hrb, h2, he2, k2⟩
  have hrb1 : rb.toNat ≤ 1 := by cases rb <;> simp
  have hE : ∀ x y, Eq2 U2 x y ↔ addE (addE (Eq2 U) a) b x y := fun x y => by
    rw [he2]; unfold addE; rw [he1]; rfl
  have haa : (U2 a).isSome = true := (Eq2.self_iff h2.F).1 ((hE a a).2 (.inl (.inr ⟨rfl, rfl⟩)))
  have hbb : (U2 b).isSome = true := (Eq2.self_iff h2.F).1 ((hE b b).2 (.inr ⟨rfl, rfl⟩))
  go_wp2_with fail
  refine (root_calls w2 h2 (by omega) haa).mono ?_
  rintro e w3 ⟨r1, U3, rfl, ⟨d1, hto1⟩, h3, hv3, k3⟩
  go_wp2_with fail
  refine (root_calls w3 h3 (by omega) (by rw [hv3.dom]; exact hbb)).mono ?_
  rintro e w4 ⟨r2, U4, rfl, ⟨d2, hto2⟩, h4, hv4, k4⟩
  have hroot1 : U4 r1 = some r1 := hv4.root (hv3.root hto1.root)
  have hroot2 : U4 r2 = some r2 := hv4.root hto2.root
  have hv : Halved U2 U4 := hv3.trans hv4
  obtain ⟨e1, hto1'⟩ := hv.tos _ _ _ hto1
  obtain ⟨e2, hto2'⟩ := hv4.tos _ _ _ hto2
  have hE4 : ∀ x y, Eq2 U4 x y ↔ addE (addE (Eq2 U) a) b x y := fun x y => (hv.eq2 h2.F x y).trans (hE x y)
  have hab : addE (addE (Eq2 U) a) b a b ↔ r1 = r2 := (hE4 a b).symm.trans (Eq2.root_iff hto1' hto2')
  have kk : KeepsBut (UX bu bs) w w4 := ((k1.trans k2).trans k3).trans k4
  have hrb' : rb = true ↔ ¬ addE (Eq2 U) a b b := hrb.trans (not_congr (he1 b b))
  clear hto1 hto2 hE hrb k1 k2 k3 k4 h1 h2 h3 he1 he2 haa hbb hv3 hv4 hv
  by_cases e : r1 = r2
  · have hc : (r1 == r2) = true := beq_iff_eq.2 e
    have hx : addE (addE (Eq2 U) a) b a b := hab.2 e
    have hsym : ∀ x y, addE (addE (Eq2 U) a) b x y → addE (addE (Eq2 U) a) b y x := fun x y hxy => (hE4 _ _).1 ((hE4 _ _).2 hxy).symm
    have htr : ∀ x y z, addE (addE (Eq2 U) a) b x y → addE (addE (Eq2 U) a) b y z → addE (addE (Eq2 U) a) b x z := fun x y z h1 h2 => (hE4 _ _).1 (((hE4 _ _).2 h1).trans ((hE4 _ _).2 h2))
    go_wp2
    go_ret
    refine ⟨ra, rb, false, U4, Z2, rfl, hra, hrb', by simp [hx], h4, fun x y => ?_, kk⟩
    rw [hE4]
    constructor
    · exact .inl
    · rintro (g | ⟨g1, g2⟩ | ⟨g1, g2⟩)
      · exact g
      · exact htr _ _ _ (htr _ _ _ g1 hx) (hsym _ _ g2)
      · exact htr _ _ _ (htr _ _ _ g1 (hsym _ _ hx)) (hsym _ _ g2)
  · have hc : (r1 == r2) = false := beq_false_of_ne e
    have hx : ¬ addE (addE (Eq2 U) a) b a b := fun g => e (hab.1 g)
    have hxa : ∀ x, Eq2 U4 x r1 ↔ addE (addE (Eq2 U) a) b x a := fun x => by
      rw [← hE4]
      exact ⟨fun g => g.trans ⟨r1, 0, e1, .zero hroot1, hto1'⟩, fun g => g.trans ⟨r1, e1, 0, hto1', .zero hroot1⟩⟩
    have hxb : ∀ x, Eq2 U4 x r2 ↔ addE (addE (Eq2 U) a) b x b := fun x => by
      rw [← hE4]
      exact ⟨fun g => g.trans ⟨r2, 0, e2, .zero hroot2, hto2'⟩, fun g => g.trans ⟨r2, e2, 0, hto2', .zero hroot2⟩⟩
    have h4d : Uni κI w4.drew p bu bs (nu + ra.toNat + rb.toNat) (N + ra.toNat + rb.toNat) U4 Z2 := ⟨h4.cu, h4.cs, h4.mu.same rfl, h4.ms.same rfl, h4.ne, h4.F⟩
    have kd : KeepsBut (UX bu bs) w4 w4.drew := ⟨rfl, rfl, rfl, Nat.le_refl _, fun _ _ _ => rfl⟩
    obtain ⟨v1, hv1⟩ : ∃ v, (Z2 r1).getD 0 = v := ⟨_, rfl⟩
    obtain ⟨v2, hv2⟩ : ∃ v, (Z2 r2).getD 0 = v := ⟨_, rfl⟩
    have hcd : w4.drew.cell? ⟨p, 0, none⟩ = some (.map (some bu)) := h4d.cu
    have hcs : w4.drew.cell? ⟨p, 1, none⟩ = some (.map (some bs)) := h4d.cs
    by_cases hlt : v1 < v2
    · have hltb : decide (v1 < v2) = true := decide_eq_true hlt
      obtain ⟨W1, W2, W3, l2, l1, q1, l3, l4, q2, q3, c1, c2, c3, h5, k5⟩ := link_world w4.drew h4d (by omega) (by omega) hroot2 hroot1 (fun g => e g.symm) hv2 hv1
      have hfin : Aside0 (∃ (ra rb r : Bool) (U' Z' : Int → Option Int), Value.bool true = .bool r ∧ (ra = true ↔ ¬ Eq2 U a a) ∧ (rb = true ↔ ¬ addE (Eq2 U) a b b) ∧ (r = true ↔ ¬ addE (addE (Eq2 U) a) b a b) ∧
          Uni κI W3 p bu bs (nu + ra.toNat + rb.toNat) (N + ra.toNat + rb.toNat - r.toNat) U' Z' ∧ (∀ x y, Eq2 U' x y ↔ joinE (addE (addE (Eq2 U) a) b) a b x y) ∧ KeepsBut (UX bu bs) w W3) := by
        refine ⟨⟨ra, rb, true, _, _, rfl, hra, hrb', by simp [hx], h5, fun x y => ?_, (kk.trans kd).trans k5⟩⟩
        rw [(h4.F.link hroot2 hroot1 (fun g => e g.symm) 0).2, hE4, hxa, hxb, hxa, hxb]
        exact or_congr_right or_comm
      clear h5 k5 hra hrb' hxa hxb hE4 hab kk kd h4d hv1 hv2 hx hroot1 hroot2 hto1' hto2' h4 h
      go_wp2
      go_region_with (fail)
      all_goals
        go_wp2
        go_region_with (fail)
        all_goals
          go_wp2
          go_ret
          obtain ⟨ra, rb, r, U', Z', a1, a2⟩ := hfin.out
          exact ⟨ra, rb, r, U', Z', by rw [← a1]; rfl, a2⟩
    · have hltb : decide (v1 < v2) = false := decide_eq_false hlt
      obtain ⟨W1, W2, W3, l2, l1, q1, l3, l4, q2, q3, c1, c2, c3, h5, k5⟩ := link_world w4.drew h4d (by omega) (by omega) hroot1 hroot2 e hv1 hv2
      have hfin : Aside0 (∃ (ra rb r : Bool) (U' Z' : Int → Option Int), Value.bool true = .bool r ∧ (ra = true ↔ ¬ Eq2 U a a) ∧ (rb = true ↔ ¬ addE (Eq2 U) a b b) ∧ (r = true ↔ ¬ addE (addE (Eq2 U) a) b a b) ∧
          Uni κI W3 p bu bs (nu + ra.toNat + rb.toNat) (N + ra.toNat + rb.toNat - r.toNat) U' Z' ∧ (∀ x y, Eq2 U' x y ↔ joinE (addE (addE (Eq2 U) a) b) a b x y) ∧ KeepsBut (UX bu bs) w W3) := by
        refine ⟨⟨ra, rb, true, _, _, rfl, hra, hrb', by simp [hx], h5, fun x y => ?_, (kk.trans kd).trans k5⟩⟩
        rw [(h4.F.link hroot1 hroot2 e 0).2, hE4, hxa, hxb, hxa, hxb]
        exact Iff.rfl
      clear h5 k5 hra hrb' hxa hxb hE4 hab kk kd h4d hv1 hv2 hx hroot1 hroot2 hto1' hto2' h4 h
      go_wp2
      go_region_with (fail)
      all_goals
        go_wp2
        go_region_with (fail)
        all_goals
          go_wp2
          go_ret
          obtain ⟨ra, rb, r, U', Z', a1, a2⟩ := hfin.out
          exact ⟨ra, rb, r, U', Z', by rw [← a1]; rfl, a2⟩
end Go.Proofs.Yteeapfmgdlcgfaa.A


namespace Go.Proofs
open Go.Shelf
def Try.keys38_ren : Go.Shelf.Ren := ⟨fun | 7 => 38 | 10 => 64 | n => n, fun | 23 => 66 | 26 => 3 | 3 => 3 | 28 => 78 | 0 => 0 | 27 => 77 | 33 => 43 | 4 => 4 | n => n, fun | n => n⟩
theorem Try.keys38 : Go.Proofs.SlLaysZI.n7 Try.prog Try.keys38_ren := {
  mixed := by kernel_rfl
  f7 := ⟨Try.f38.name, by decide, Try.func38.trans (congrArg some (by kernel_rfl))⟩
  f10 := ⟨Try.f64.name, by decide, Try.func64.trans (congrArg some (by kernel_rfl))⟩
  t0 := Try.underlying0
  a0 := Try.isAgg0
  z0 := Try.sizeOf0
  v0 := Try.zeroValue0
  t4 := Try.underlying4
  a4 := Try.isAgg4
  z4 := Try.sizeOf4
  v4 := Try.zeroValue4
  t23 := Try.underlying66
  a23 := Try.isAgg66
  z23 := Try.sizeOf66
  v23 := Try.zeroValue66
  t26 := Try.underlying3
  a26 := Try.isAgg3
  z26 := Try.sizeOf3
  v26 := Try.zeroValue3
  t27 := Try.underlying77
  a27 := Try.isAgg77
  z27 := Try.sizeOf77
  v27 := Try.zeroValue77
  t28 := Try.underlying78
  a28 := Try.isAgg78
  z28 := Try.sizeOf78
  v28 := Try.zeroValue78
  t33 := Try.underlying43
  a33 := Try.isAgg43
  z33 := Try.sizeOf43
  v33 := Try.zeroValue43 }
def Try.sort40_ren : Go.Shelf.Ren := ⟨fun | 5 => 40 | 8 => 67 | 7 => 66 | 19 => 91 | 20 => 92 | 10 => 82 | 11 => 83 | 12 => 84 | 13 => 85 | 14 => 86 | 15 => 87 | 16 => 88 | 17 => 89 | 18 => 90 | 30 => 111 | 31 => 112 | 32 => 113 | 33 => 114 | 34 => 115 | 35 => 116 | 40 => 124 | n => n, fun | 23 => 36 | 25 => 3 | 3 => 3 | 32 => 111 | 22 => 36 | 0 => 0 | 44 => 136 | 46 => 138 | 4 => 4 | 36 => 130 | 35 => 129 | 41 => 32 | 5 => 5 | 9 => 9 | 53 => 148 | 57 => 152 | 63 => 158 | 64 => 159 | n => n, fun | n => n⟩
theorem Try.sort40 : Go.Proofs.SlLaysM.n5 Try.prog Try.sort40_ren := {
  mixed := by kernel_rfl
  f5 := ⟨Try.f40.name, by decide, Try.func40.trans (congrArg some (by kernel_rfl))⟩
  f7 := ⟨Try.f66.name, by decide, Try.func66.trans (congrArg some (by kernel_rfl))⟩
  f8 := Try.func67.trans (congrArg some (by kernel_rfl))
  f10 := ⟨Try.f82.name, by decide, Try.func82.trans (congrArg some (by kernel_rfl))⟩
  f11 := ⟨Try.f83.name, by decide, Try.func83.trans (congrArg some (by kernel_rfl))⟩
  f12 := ⟨Try.f84.name, by decide, Try.func84.trans (congrArg some (by kernel_rfl))⟩
  f13 := ⟨Try.f85.name, by decide, Try.func85.trans (congrArg some (by kernel_rfl))⟩
  f14 := ⟨Try.f86.name, by decide, Try.func86.trans (congrArg some (by kernel_rfl))⟩
  f15 := ⟨Try.f87.name, by decide, Try.func87.trans (congrArg some (by kernel_rfl))⟩
  f16 := ⟨Try.f88.name, by decide, Try.func88.trans (congrArg some (by kernel_rfl))⟩
  f17 := ⟨Try.f89.name, by decide, Try.func89.trans (congrArg some (by kernel_rfl))⟩
  f18 := ⟨Try.f90.name, by decide, Try.func90.trans (congrArg some (by kernel_rfl))⟩
  f19 := Try.func91.trans (congrArg some (by kernel_rfl))
  f20 := Try.func92.trans (congrArg some (by kernel_rfl))
  f30 := ⟨Try.f111.name, by decide, Try.func111.trans (congrArg some (by kernel_rfl))⟩
  f31 := Try.func112.trans (congrArg some (by kernel_rfl))
  f32 := Try.func113.trans (congrArg some (by kernel_rfl))
  f33 := ⟨Try.f114.name, by decide, Try.func114.trans (congrArg some (by kernel_rfl))⟩
  f34 := ⟨Try.f115.name, by decide, Try.func115.trans (congrArg some (by kernel_rfl))⟩
  f35 := ⟨Try.f116.name, by decide, Try.func116.trans (congrArg some (by kernel_rfl))⟩
  f40 := ⟨Try.f124.name, by decide, Try.func124.trans (congrArg some (by kernel_rfl))⟩
  t0 := Try.underlying0
  a0 := Try.isAgg0
  z0 := Try.sizeOf0
  v0 := Try.zeroValue0
  t3 := Try.underlying3
  a3 := Try.isAgg3
  z3 := Try.sizeOf3
  v3 := Try.zeroValue3
  t4 := Try.underlying4
  a4 := Try.isAgg4
  z4 := Try.sizeOf4
  v4 := Try.zeroValue4
  t5 := Try.underlying5
  a5 := Try.isAgg5
  z5 := Try.sizeOf5
  v5 := Try.zeroValue5
  t9 := Try.underlying9
  a9 := Try.isAgg9
  z9 := Try.sizeOf9
  v9 := Try.zeroValue9
  t22 := Try.underlying36
  a22 := Try.isAgg36
  z22 := Try.sizeOf36
  v22 := Try.zeroValue36
  t23 := Try.underlying36
  a23 := Try.isAgg36
  z23 := Try.sizeOf36
  v23 := Try.zeroValue36
  t25 := Try.underlying3
  a25 := Try.isAgg3
  z25 := Try.sizeOf3
  v25 := Try.zeroValue3
  t32 := Try.underlying111
  a32 := Try.isAgg111
  z32 := Try.sizeOf111
  v32 := Try.zeroValue111
  t35 := Try.underlying129
  a35 := Try.isAgg129
  z35 := Try.sizeOf129
  v35 := Try.zeroValue129
  t36 := Try.underlying130
  a36 := Try.isAgg130
  z36 := Try.sizeOf130
  v36 := Try.zeroValue130
  t41 := Try.underlying32
  a41 := Try.isAgg32
  z41 := Try.sizeOf32
  v41 := Try.zeroValue32
  t44 := Try.underlying136
  a44 := Try.isAgg136
  z44 := Try.sizeOf136
  v44 := Try.zeroValue136
  t46 := Try.underlying138
  a46 := Try.isAgg138
  z46 := Try.sizeOf138
  v46 := Try.zeroValue138
  t53 := Try.underlying148
  a53 := Try.isAgg148
  z53 := Try.sizeOf148
  v53 := Try.zeroValue148
  t57 := Try.underlying152
  a57 := Try.isAgg152
  z57 := Try.sizeOf152
  v57 := Try.zeroValue152
  t63 := Try.underlying158
  a63 := Try.isAgg158
  z63 := Try.sizeOf158
  v63 := Try.zeroValue158
  t64 := Try.underlying159
  a64 := Try.isAgg159
  z64 := Try.sizeOf159
  v64 := Try.zeroValue159 }
def Try.clone39_ren : Go.Shelf.Ren := ⟨fun | 5 => 39 | 7 => 65 | n => n, fun | 23 => 66 | 25 => 3 | 3 => 3 | 4 => 4 | 20 => 20 | n => n, fun | n => n⟩
theorem Try.clone39 : Go.Proofs.SlLaysW.n5 Try.prog Try.clone39_ren := {
  mixed := by kernel_rfl
  f5 := ⟨Try.f39.name, by decide, Try.func39.trans (congrArg some (by kernel_rfl))⟩
  f7 := Try.func65.trans (congrArg some (by kernel_rfl))
  t4 := Try.underlying4
  a4 := Try.isAgg4
  z4 := Try.sizeOf4
  v4 := Try.zeroValue4
  t20 := Try.underlying20
  a20 := Try.isAgg20
  z20 := Try.sizeOf20
  v20 := Try.zeroValue20
  t23 := Try.underlying66
  a23 := Try.isAgg66
  z23 := Try.sizeOf66
  v23 := Try.zeroValue66 }
end Go.Proofs


namespace Go.Proofs.Yteeapfmgdlcgfaa.A
open Go.RowKit Go.Maps Go.Sort Go.Shelf Go.Proofs.YteeapfmgdlcgfaaW.PrintWords Go.Proofs.YteeapfmgdlcgfaaW.PrintLast
set_option linter.unusedVariables false
set_option linter.unusedSimpArgs false

/-- the map b, and what was laid from B0 on, goes on as it was ranged over -/
def KpB (b B0 : Nat) (W W' : World) : Prop := W.heap.size ≤ W'.heap.size ∧ ∀ (k : Nat) (o : Obj), (k = b ∨ B0 ≤ k) → W.heap[k]? = some o → o.isWalk = true → W'.heap[k]? = some o
theorem KpB.trans {b B0 : Nat} {A B C : World} (h : KpB b B0 A B) (k : KpB b B0 B C) : KpB b B0 A C := ⟨Nat.le_trans h.1 k.1, fun i o hi ho hw => k.2 i o hi (h.2 i o hi ho hw) hw⟩
theorem KpB.putObj {b B0 : Nat} (W : World) (l : Nat) (o o' : Obj) (h : W.heap[l]? = some o) (hw : o.isWalk = false) : KpB b B0 W (W.putObj l o') :=
  ⟨by simp, fun k ob _ hk hob => by
    by_cases e : k = l
    · subst e; rw [h] at hk; have := Option.some.inj hk; subst this; rw [hw] at hob; cases hob
    · rw [World.putObj_heap_other e]; exact hk⟩
theorem KpB.of_keeps {b B0 : Nat} {X : Nat → Prop} {W W' : World} (h : KeepsBut X W W') (hb : ¬ X b) (hB : ∀ k, B0 ≤ k → ¬ X k) : KpB b B0 W W' :=
  ⟨h.size, fun k o hk ho _ => by
    rw [h.block k (Array.getElem?_eq_some_iff.1 ho).1 (by rcases hk with rfl | hk; exact hb; exact hB k hk)]; exact ho⟩
theorem ranges_kpB {P : Program} {k : TypeId} {R : Value → Option (DU × List MemPlace)} {w w' : World} {b r n B0 : Nat} {D : DU} {left : Lit → Bool} {cnt : Nat} (h : w.ranges P k R b r n D left cnt) (hr : B0 ≤ r) (hk : KpB b B0 w w') : w'.ranges P k R b r n D left cnt := by
  obtain ⟨es, clock, since, seen, c0, hb, F, hs, hD, hr', rest⟩ := h
  exact ⟨es, clock, since, seen, c0, hk.2 b _ (.inl rfl) hb rfl, F, hs, hD, hk.2 r _ (.inr hr) hr' rfl, rest⟩

variable {P : Program} {ρ : Ren}
set_option maxRecDepth 100000 in
set_option maxHeartbeats 1000000 in
theorem keys1B_in {P : Program} {ρ : Ren} (L : SlLaysZI.n10 P ρ) (F : Fence) (n : Nat) (h10 : F.fn (ρ.f 10)) (hro : F.round = none) (hn : 1 ≤ n) (l Bm b nn B0 : Nat) (D0 : DU) {R : Value → Option (DU × List MemPlace)} (J Jx : List Int → World → Prop)
    (hY : ∀ pre x W, J pre W → pre.length < Maps.size D0 → has D0 (.int .i64 x) = true → YieldAt F (n - 1) P l #[encZ x] W fun e W' =>
      (e = .returned (.bool true) ∧ J (pre ++ [x]) W' ∧ KpB b B0 W W') ∨ (e = .returned (.bool false) ∧ Jx (pre ++ [x]) W'))
    (W : World) (hB0 : B0 ≤ W.heap.size) (hJ : AbidesFrom W.heap.size J) (hm : W.cell? ⟨Bm, 0, none⟩ = some (.map (some b))) (hown : W.ownsMap P (ρ.t 26) R b nn D0) (h0 : J [] W) :
    CallsIn F n P (ρ.f 10) #[.func (.yield l) #[] #[], .pointer (some ⟨Bm, 0, none⟩)] W fun e W' => (∃ v, e = .returned v) ∧
      ((∃ ss : List Int, (ss.Perm (intKeys D0) ∧ ∀ x, x ∈ ss ↔ has D0 (.int .i64 x) = true) ∧ J ss W') ∨ (∃ pre : List Int, (pre.Nodup ∧ ∀ x ∈ pre, has D0 (.int .i64 x) = true) ∧ Jx pre W')) := by
  have mixed := L.mixed; have t0 := L.t0; have a0 := L.a0; have z0 := L.z0; have v0 := L.v0; have t4 := L.t4; have a4 := L.a4; have z4 := L.z4; have v4 := L.v4; have t23 := L.t23; have a23 := L.a23; have z23 := L.z23; have v23 := L.v23; have t26 := L.t26; have a26 := L.a26; have z26 := L.z26; have v26 := L.v26; have t33 := L.t33; have a33 := L.a33; have z33 := L.z33; have v33 := L.v33
  have u0 := run_underlying L.t0; have u4 := run_underlying L.t4; have u23 := run_underlying L.t23; have u26 := run_underlying L.t26; have u33 := run_underlying L.t33
  obtain ⟨_, _, FG⟩ := L.f10
  refine callsIn_of_wp FG rfl h10 ?_ hro
  simp only [SlBodyZ.n10_ntmps ρ, List.size_toArray, List.length_cons, List.length_nil, Nat.reduceAdd, Nat.reduceSub, Array.replicate_succ, Array.replicate_zero, List.push_toArray, List.append_toArray, List.nil_append, List.cons_append]
  gi_wp2_with (first
    | (gi_at_range; refine wpListIn_range_own _ rfl _ (ρ.t 23) rfl (ρ.t 26) (ρ.t 3) (int_keyed L.t26) L.t23 _ b nn _ rfl hown ?_; intro w0 hrg0 hg0 hs0)
    | gi_in)
  go_frame
  gi_loopw [3] (fun _ wr => ∃ (left : Lit → Bool) (cnt : Nat) (ss : List Int), wr.ranges P (ρ.t 26) R b W.heap.size nn D0 left cnt ∧ ss.length + cnt ≤ Maps.size D0 ∧ CollectedI D0 left ss ∧ J ss wr)
    (fun _ wr => wr.rangeLeft b W.heap.size)
  case atStart =>
    exact ⟨_, _, [], hrg0, by simp, CollectedI.start D0, hJ [] W w0 none h0 hg0 (fun r e => by cases e)⟩
  case round =>
    obtain ⟨left, cnt, ss, hrg, hcs, hC, hJs⟩ := hrel
    gi_wp2_with (first
      | (gi_at_next; refine wpListIn_next_ranges _ rfl _ rfl (ρ.t 26) (int_keyed L.t26) R encZ id (fun key kl hk => by obtain ⟨x, hx, _⟩ := Maps.keyOf_i64 L.t26 hk; exact ⟨x, hx⟩) (fun v _ _ => ⟨v, rfl⟩) b W.heap.size nn _ _ _ rfl hrg ?_ ?_)
      | gi_in)
    · intro hc0 hl0
      gi_wp2
      go_end0
      exact ⟨⟨_, rfl⟩, .inl ⟨ss, ⟨hC.perm hown (int_keyed L.t26) L.t26 hl0, fun x => by rw [hC.2 x, hl0]; simp⟩, hJs⟩⟩
    · intro x c kl yd yp w2 cnt2 hkey hlk hv hat hrg2 hlt hg2 hs2 hen
      obtain ⟨x', ex, rfl, _⟩ := Maps.keyOf_i64 L.t26 hkey
      obtain rfl : x = x' := encZ_inj ex
      have hJ2 : J ss w2 := hJ ss wr w2 (some W.heap.size) hJs hg2 (fun r e => by cases e; exact ⟨Nat.le_refl _, hrg.iter_walk⟩)
      have hC2 := hC.step hlk hat
      have hhas : has D0 (.int .i64 x) = true := ((hC2.2 x).1 (by simp)).1
      obtain ⟨fn, tmps, assign, body, hy, hR⟩ := hY ss x w2 hJ2 (by omega) hhas
      clear hs2
      gi_wp2
      refine hR.mono ?_
      rintro e W3 (⟨rfl, hJ3, hk3⟩ | ⟨rfl, hJx3⟩)
      · gi_wp2
        have hrg3 := ranges_kpB hrg2 hB0 hk3
        go_roundw
        case rel => exact ⟨_, cnt2, ss ++ [x], hrg3, by simp; omega, hC2, hJ3⟩
        case measure => rw [hrg3.left_eq, hrg.left_eq]; exact hlt
      · gi_wp2
        refine bodyPost_ret (results_none rfl _ _ _) rfl ?_
        exact ⟨⟨_, rfl⟩, .inr ⟨ss ++ [x], ⟨hC2.1, fun y hy => ((hC2.2 y).1 hy).1⟩, hJx3⟩⟩

/-- the keys of a datum -/
abbrev KeyI (D0 : DU) := { x : Int // has D0 (.int .i64 x) = true }
theorem keys38_calls (mb : Option Nat) (W : World) : Calls Try.prog 38 #[.map mb] W fun e w' => e = .returned (.func (.func 64) #[] #[.pointer (some ⟨W.heap.size, 0, none⟩)]) ∧ w' = W.alloc (.cells #[.map mb] 66) :=
  (callsIn_wide (n := 5)).1 (AnyZI.keys_in Try.keys38 Fence.wide 5 trivial rfl mb W)
theorem keys64_stops (F : Fence) (n : Nat) (h10 : F.fn 64) (hro : F.round = none) (hn : 1 ≤ n) (Bm b nn B0 : Nat) (D0 : DU) {R : Value → Option (DU × List MemPlace)} (w : World) (hB0 : B0 ≤ w.heap.size) (hBm : Bm < w.heap.size)
    (hm : w.cell? ⟨Bm, 0, none⟩ = some (.map (some b))) (hown : w.ownsMap Try.prog 3 R b nn D0) :
    SeqStopsK F n Try.prog 64 #[.pointer (some ⟨Bm, 0, none⟩)] (fun x : KeyI D0 => #[Value.int .i64 x.1]) (KpB b B0) (fun ss => (ss.map (·.1)).Nodup ∧ ∀ x, has D0 (.int .i64 x) = true → x ∈ ss.map (·.1)) (fun _ => True) (Maps.size D0) w := by
  intro l J Jx W hW hJ hJx hY h0
  have hown' : W.ownsMap Try.prog 3 R b nn D0 := by
    have hbl := hown.lt
    obtain ⟨es, clock, hb, Ft, hs, hD⟩ := hown
    exact ⟨es, clock, (hW.block b hbl).trans hb, Ft, hs, hD⟩
  have H := keys1B_in (ρ := Try.keys38_ren) { Try.keys38 with } F n h10 hro hn l Bm b nn B0 D0 (fun ss W => ∃ pre : List (KeyI D0), pre.map (·.1) = ss ∧ J pre W) (fun ss W => ∃ pre : List (KeyI D0), pre.map (·.1) = ss ∧ Jx pre W)
    (fun ss x W1 hs hl hx => by
      obtain ⟨pre, rfl, hs⟩ := hs
      obtain ⟨fn, tmps, assign, body, hy, hR⟩ := hY pre ⟨x, hx⟩ W1 hs (by simpa using hl)
      refine ⟨fn, tmps, assign, body, hy, hR.mono ?_⟩
      rintro e W' (⟨rfl, h1, h2⟩ | ⟨rfl, h1⟩)
      · exact .inl ⟨rfl, ⟨_, by simp, h1⟩, h2⟩
      · exact .inr ⟨rfl, _, by simp, h1⟩)
    W (Nat.le_trans hB0 hW.size) (fun s A B row hs hg hr => by obtain ⟨pre, e, hs⟩ := hs; exact ⟨pre, e, hJ pre A B row hs hg hr⟩) ((hW.cell (p := ⟨Bm, 0, none⟩) hBm).trans hm) hown' ⟨[], rfl, h0⟩
  refine H.mono ?_
  rintro e W' ⟨hv, (⟨ss, ⟨hp, hmem⟩, pre, rfl, hJ'⟩ | ⟨ss, hp, pre, rfl, hJ'⟩)⟩
  · refine ⟨hv, .inl ⟨pre, ⟨?_, fun x hx => (hmem x).2 hx⟩, hJ'⟩⟩
    refine hp.nodup_iff.2 ?_
    obtain ⟨es, hD, hpw, _⟩ := hown.entries (int_keyed Try.underlying3)
    obtain ⟨es', hD', hko⟩ := hown.keysOf
    obtain rfl : es = es' := by rw [hD] at hD'; simpa using hD'
    subst hD
    have hk : ∀ p ∈ es, ∃ x, p.1 = Lit.int .i64 x := fun p hp => by
      obtain ⟨v, hv⟩ := hko p hp
      obtain ⟨x, _, hx, _⟩ := Maps.keyOf_i64 Try.underlying3 hv
      exact ⟨x, hx⟩
    show (es.map fun p => Go.intOf p.1).Nodup
    refine List.pairwise_map.2 (hpw.imp_of_mem fun {p q} hp' hq' hne e => hne ?_)
    obtain ⟨a, ha⟩ := hk p hp'
    obtain ⟨b, hb⟩ := hk q hq'
    rw [ha, hb] at e ⊢
    exact congrArg _ e
  · exact ⟨hv, .inr ⟨pre, trivial, hJ'⟩⟩

/-- slices.Sort of a row that a call owns -/
theorem sort_own (base : Nat) (v : Value) (ss : List Int) (w : World) (hrow : w.ownsRow base 3 1 v ss.length (ss.map encZ)) (hl : ss.length ≤ 1000000) :
    Calls Try.prog 40 #[v] w fun e w' => e = .returned (.tuple #[]) ∧ w'.ownsRow base 3 1 v ss.length ((ss.mergeSort fun x y => decide (x ≤ y)).map encZ) ∧ w.grownBy w' v.ownBlock := by
  rcases hrow.2 with ⟨rfl, hz⟩ | ⟨gb, cap, cur, rfl, hbase, hgb, r1, r2, r3, r4⟩
  · have hss : ss = [] := List.eq_nil_of_length_eq_zero hz
    subst hss
    refine (AnyM.slices_Sort_int_none Try.sort40 none 0 w).mono ?_
    rintro e w' ⟨rfl, rfl⟩
    exact ⟨rfl, by simpa using hrow, ⟨rfl, rfl, rfl, Nat.le_refl _, fun _ _ _ => rfl⟩⟩
  · have hH : Holds encZ w gb 0 ss.toArray := holds_of_block_i hgb (by simpa using r4)
    have hgl : gb < w.heap.size := (Array.getElem?_eq_some_iff.1 hgb).1
    refine (AnyM.slices_Sort_int Try.sort40 gb 0 cap ss w hH hgl (by omega)).mono ?_
    rintro e w' ⟨rfl, nn, os, rfl⟩
    exact ⟨rfl, ownsRow_sorted_i (by simp) hbase hgb r1 r2 r3, grownBy_sorted_i _⟩
end Go.Proofs.Yteeapfmgdlcgfaa.A


namespace Go.Proofs.Yteeapfmgdlcgfaa.A
open Go.RowKit Go.Maps Go.Sort Go.Shelf Go.Proofs.YteeapfmgdlcgfaaW.PrintWords Go.Proofs.YteeapfmgdlcgfaaW.PrintLast
attribute [local go_sem] Oper.semAt_some
set_option linter.unusedVariables false
set_option linter.unusedSimpArgs false

def Rising (ks : List Int) : Prop := ks.Pairwise (· < ·)
theorem merge_rising {ss : List Int} (h : ss.Nodup) : Rising (ss.mergeSort fun x y => decide (x ≤ y)) := by
  have h1 : (ss.mergeSort fun x y => decide (x ≤ y)).Pairwise (fun x y => decide (x ≤ y) = true) := List.pairwise_mergeSort (by intro a b c; simp; omega) (by intro a b; simp; omega) ss
  have h2 : (ss.mergeSort fun x y => decide (x ≤ y)).Nodup := (List.mergeSort_perm ss _).nodup_iff.2 h
  exact (h1.and h2).imp (fun {a b} ⟨h3, h4⟩ => by have := of_decide_eq_true h3; omega)
theorem Uni.alloc {K : Type} {κ : Kind K} {w : World} {p bu bs nu N : Nat} {U : K → Option K} {Z : K → Option Int} (h : Uni κ w p bu bs nu N U Z) (o : Obj) : Uni κ (w.alloc o) p bu bs nu N U Z :=
  h.keep (KeepsBut.alloc (fun _ => False) w o) id id id

set_option maxRecDepth 100000 in
set_option maxHeartbeats 4000000 in
theorem class_none {p bu bs nu N : Nat} {U Z : Int → Option Int} (w : World) (h : Uni κI w p bu bs nu N U Z) {k : Int} (hk : κI.wf k) (hu : U k = none) :
    Calls Try.prog 17 #[.pointer (some ⟨p, 0, none⟩), .int .i64 k] w fun e w' => e = .returned (.slice none 0 0) ∧ Uni κI w' p bu bs nu N U Z ∧ Below w.heap.size w w' := by
  rw [← callsIn_wide (n := 5)]
  have hro : (Fence.wide).round = none := rfl
  have hUa := h.alloc (.cells #[.pointer (some ⟨p, 0, none⟩)] 24)
  have hc1 := has_calls _ hUa hk
  rw [hu] at hc1
  have hB : Below w.heap.size w (w.alloc (.cells #[.pointer (some ⟨p, 0, none⟩)] 24)) := below_alloc (Below.refl _ _) _
  refine callsIn_of_wp_marks Try.func17 rfl trivial ?_ hro
  simp only [Try.ntmps17, List.size_toArray, List.length_cons, List.length_nil, Nat.reduceAdd, Nat.reduceSub, Array.replicate_succ, Array.replicate_zero, List.push_toArray, List.append_toArray, List.nil_append, List.cons_append]
  gi_wp2_with ((try refine ⟨trivial, ?_⟩); gi_at_call 37; refine (callsIn_wide.2 hc1).mono ?_; rintro e w' ⟨rfl, rfl⟩)
  refine ⟨.slice none 0 0, ?_, rfl, hUa, hB⟩
  simp [results, Try.f17, go_sem]

theorem own_lower {W : World} {base base' : Nat} {e : TypeId} {size : Nat} {v : Value} {k : Nat} {xs : List Value} (h : W.ownsRow base e size v k xs) (hb : base' ≤ base) : W.ownsRow base' e size v k xs := by
  refine ⟨h.1, ?_⟩
  rcases h.2 with h0 | ⟨g, cap, cur, hv, hb', hgb, hr⟩
  · exact .inl h0
  · exact .inr ⟨g, cap, cur, hv, Nat.le_trans hb hb', hgb, hr⟩
theorem own_base {W : World} {base : Nat} {e : TypeId} {size : Nat} {v : Value} {k : Nat} {xs : List Value} (h : W.ownsRow base e size v k xs) : ∀ r, v.ownBlock = some r → base ≤ r ∧ r < W.heap.size := by
  intro r hr
  rcases h.2 with ⟨rfl, _⟩ | ⟨g, cap, cur, rfl, hb, hgb, _⟩
  · simp [Value.ownBlock] at hr
  · obtain rfl : g = r := by simpa [Value.ownBlock] using hr
    exact ⟨hb, (Array.getElem?_eq_some_iff.1 hgb).1⟩
theorem own_keep {X : Nat → Prop} {W W' : World} {base : Nat} {e : TypeId} {size : Nat} {v : Value} {k : Nat} {xs : List Value} (h : W.ownsRow base e size v k xs) (hk : KeepsBut X W W') (hx : ∀ r, base ≤ r → ¬ X r) : W'.ownsRow base e size v k xs := by
  refine ⟨h.1, ?_⟩
  rcases h.2 with h0 | ⟨g, cap, cur, hv, hb, hgb, hr⟩
  · exact .inl h0
  · exact .inr ⟨g, cap, cur, hv, hb, (hk.block g (Array.getElem?_eq_some_iff.1 hgb).1 (hx g hb)).trans hgb, hr⟩
theorem own_turn {W W' : World} {row : Option Nat} {base : Nat} {e : TypeId} {size : Nat} {v : Value} {k : Nat} {xs : List Value} (h : W.ownsRow base e size v k xs) (hg : W.grownBy W' row) (hr : ∀ r, row = some r → ∃ o : Obj, W.heap[r]? = some o ∧ o.isCells = false) : W'.ownsRow base e size v k xs := by
  refine ⟨h.1, ?_⟩
  rcases h.2 with h0 | ⟨g, cap, cur, hv, hb, hgb, hq⟩
  · exact .inl h0
  · refine .inr ⟨g, cap, cur, hv, hb, (hg.block g (Array.getElem?_eq_some_iff.1 hgb).1 (fun e => ?_)).trans hgb, hq⟩
    obtain ⟨o, ho, hc⟩ := hr g e.symm
    rw [hgb] at ho
    have := Option.some.inj ho
    subst this
    cases hc
theorem KeepsBut.of_grownBy {X : Nat → Prop} {W W' : World} {row : Option Nat} (hg : W.grownBy W' row) (hrow : ∀ r, row = some r → X r) : KeepsBut X W W' :=
  ⟨hg.os, hg.tape, hg.output, hg.size, fun k hk hn => hg.block k hk (fun e => hn (hrow k e.symm))⟩
/-- those of a row that are in one class with k -/
noncomputable def pick (U : Int → Option Int) (k : Int) (l : List Int) : List Int := l.filter (fun x => @decide (Eq2 U x k) (Classical.propDecidable _))
theorem pick_len (U : Int → Option Int) (k : Int) (l : List Int) : (pick U k l).length ≤ l.length := List.length_filter_le _ _
theorem pick_mem {U : Int → Option Int} {k : Int} {l : List Int} {x : Int} : x ∈ pick U k l ↔ x ∈ l ∧ Eq2 U x k := by unfold pick; rw [List.mem_filter]; simp
theorem pick_yes {U : Int → Option Int} {k x : Int} {l : List Int} (h : Eq2 U x k) : pick U k (l ++ [x]) = pick U k l ++ [x] := by unfold pick; rw [List.filter_append, List.filter_cons]; simp [h]
theorem pick_no {U : Int → Option Int} {k x : Int} {l : List Int} (h : ¬ Eq2 U x k) : pick U k (l ++ [x]) = pick U k l := by unfold pick; rw [List.filter_append, List.filter_cons]; simp [h]

theorem KpB.of_others {b B0 : Nat} {W W' : World} (h : KeepsOthers W W') : KpB b B0 W W' :=
  ⟨h.size, fun k o _ ho hw => h.same k o ho (by cases o <;> simp_all [Obj.isWalk, Obj.isCells])⟩
theorem KeepsBut.low {X Y : Nat → Prop} {A B C : World} (h : KeepsBut X A B) (k : KeepsBut Y B C) (hy : ∀ q, q < A.heap.size → ¬ Y q) : KeepsBut X A C :=
  ⟨k.os.trans h.os, k.tape.trans h.tape, k.output.trans h.output, Nat.le_trans h.size k.size, fun q hq hx => (k.block q (Nat.lt_of_lt_of_le hq h.size) (hy q hq)).trans (h.block q hq hx)⟩
theorem keeps_drew (X : Nat → Prop) (W : World) : KeepsBut X W W.drew := ⟨rfl, rfl, rfl, Nat.le_refl _, fun _ _ _ => rfl⟩
theorem Uni.drew {K : Type} {κ : Kind K} {w : World} {p bu bs nu N : Nat} {U : K → Option K} {Z : K → Option Int} (h : Uni κ w p bu bs nu N U Z) : Uni κ w.drew p bu bs nu N U Z := ⟨h.cu, h.cs, h.mu.same rfl, h.ms.same rfl, h.ne, h.F⟩
theorem keepsFrom_but {X : Nat → Prop} {B : Nat} {W W' : World} (h : KeepsBut X W W') (hx : ∀ q, B ≤ q → ¬ X q) : KeepsFrom B W W' :=
  ⟨h.size, fun q o hq ho _ => (h.block q (Array.getElem?_eq_some_iff.1 ho).1 (hx q hq)).trans ho⟩
/-- what a class's loop holds between its rounds -/
structure CI (p bu bs nu N : Nat) (U Z : Int → Option Int) (k r : Int) (w : World) (n1 nc : Nat) (l : List Int) (W : World) : Prop where
  ex : ∃ (U' : Int → Option Int) (v : Value), Uni κI W p bu bs nu N U' Z ∧ Halved U U' ∧ Boxed W (n1 + 1) 36 v ∧ W.ownsRow (n1 + 2) 3 1 v (pick U k l).length ((pick U k l).map encZ)
  keep : KeepsBut (UX bu bs) w W
  c2 : W.cell? ⟨w.heap.size, 0, none⟩ = some (.pointer (some ⟨p, 0, none⟩))
  c5 : W.cell? ⟨n1, 0, none⟩ = some (.int .i64 r)
  big : n1 + 3 ≤ W.heap.size
  len : l.length ≤ nc

set_option maxRecDepth 100000 in
set_option maxHeartbeats 4000000 in
theorem class_some {p bu bs nu N : Nat} {U Z : Int → Option Int} (w : World) (h : Uni κI w p bu bs nu N U Z) {k : Int} (hk : κI.wf k) (hu : (U k).isSome = true) (hn : nu ≤ 100000) :
    Calls Try.prog 17 #[.pointer (some ⟨p, 0, none⟩), .int .i64 k] w fun e w' => ∃ (v : Value) (ks : List Int) (U' : Int → Option Int), e = .returned v ∧ Rising ks ∧ (∀ x, x ∈ ks ↔ Eq2 U x k) ∧ w'.ownsRow w.heap.size 3 1 v ks.length (ks.map (Value.int .i64)) ∧ Uni κI w' p bu bs nu N U' Z ∧ Halved U U' ∧ KeepsBut (UX bu bs) w w' := by
  rw [← callsIn_wide (n := 5)]
  have hro : (Fence.wide).round = none := rfl
  have hmix : Try.prog.follows .mixedOrders = true := by kernel_rfl
  have hmx : nu < maxLen := by unfold maxLen; omega
  have hplt : p < w.heap.size := World.block_lt_of_cell? _ _ h.cu
  have hbult := h.mu.lt
  have hbslt := h.ms.lt
  have hUa := h.alloc (.cells #[.pointer (some ⟨p, 0, none⟩)] 24)
  have hc1 := has_calls _ hUa hk
  rw [hu] at hc1
  have hc2 := root_calls _ hUa hmx hu
  have hX0 : ∀ q, w.heap.size ≤ q → ¬ UX bu bs q := fun q hq hx => by rcases hx with rfl | rfl <;> omega
  refine callsIn_of_wp_marks Try.func17 rfl trivial ?_ hro
  simp only [Try.ntmps17, List.size_toArray, List.length_cons, List.length_nil, Nat.reduceAdd, Nat.reduceSub, Array.replicate_succ, Array.replicate_zero, List.push_toArray, List.append_toArray, List.nil_append, List.cons_append]
  gi_wp2_with (first
    | ((try refine ⟨trivial, ?_⟩); gi_at_call 37; refine (callsIn_wide.2 hc1).mono ?_; clear hc1; rintro e w' ⟨rfl, rfl⟩)
    | ((try refine ⟨trivial, ?_⟩); gi_at_call 34; refine (callsIn_wide.2 hc2).mono ?_; clear hc2; rintro e w1 ⟨r, U1, rfl, ⟨d1, hto⟩, h1, hh1, k1⟩; have hn1 : w.heap.size + 1 ≤ w1.heap.size := (by have := k1.size; simpa using this); have g2 : w1.cell? ⟨w.heap.size, 0, none⟩ = some (.pointer (some ⟨p, 0, none⟩)) := k1.cell (by simp [go_sem]) (hX0 _ (Nat.le_refl _)); have g2v : ((w1.alloc (.cells #[.int .i64 r] 3)).alloc (.cells #[.slice none 0 0] 36)).cell? ⟨w.heap.size, 0, none⟩ = some (.pointer (some ⟨p, 0, none⟩)) := (by rw [World.cell?_alloc_lt _ _ _ (by show w.heap.size < _; simp; omega), World.cell?_alloc_lt _ _ _ (by show w.heap.size < _; omega)]; exact g2); have hUv := (h1.alloc (.cells #[.int .i64 r] 3)).alloc (.cells #[.slice none 0 0] 36); have gpv := hUv.cu; have hmuv := hUv.mu; obtain ⟨D, hown, hR, hsz, hwf⟩ := hmuv)
    | ((try refine ⟨trivial, ?_⟩); gi_at_call 39; refine (callsIn_wide.2 (AnyW.maps_Clone_owns Try.clone39 3 (plainElem (H := Unit) Try.prog 3) bu nu D _ hown)).mono ?_; rintro e w2 ⟨rfl, hcl, hbu2, hB2⟩)
    | ((try refine ⟨trivial, ?_⟩); gi_at_call 38; refine (callsIn_wide.2 (keys38_calls _ _)).mono ?_; rintro e w' ⟨rfl, rfl⟩))
  have hs2 : w1.heap.size + 2 ≤ w2.heap.size := by have := hB2.size; simpa using this
  simp only [World.size_alloc] at hB2 hcl
  obtain ⟨WL, hWL⟩ : ∃ WL, w2.alloc (.cells #[.map (some (w1.heap.size + 1 + 1))] 66) = WL := ⟨_, rfl⟩
  have hBL : Below (w1.heap.size + 1 + 1) ((w1.alloc (.cells #[.int .i64 r] 3)).alloc (.cells #[.slice none 0 0] 36)) WL := by rw [← hWL]; exact hB2.alloc (by omega) _
  have hsL : WL.heap.size = w2.heap.size + 1 := by rw [← hWL]; simp
  have hUL : Uni κI WL p bu bs nu N U1 Z := by
    refine hUv.keep (X := fun q => w1.heap.size + 1 + 1 ≤ q) ⟨hBL.os, hBL.tape, hBL.output, hBL.size, fun q hq hx => hBL.block q (by omega)⟩ ?_ ?_ ?_ <;> omega
  have kL : KeepsBut (UX bu bs) w WL := by
    refine ⟨hBL.os.trans k1.os, hBL.tape.trans k1.tape, hBL.output.trans k1.output, by omega, fun q hq hx => ?_⟩
    rw [hBL.block q (by omega), Below.heap_alloc _ _ _ (by simp; omega), Below.heap_alloc _ _ _ (by omega), k1.block q (by simp; omega) hx, Below.heap_alloc _ _ _ hq]
  have c2L : WL.cell? ⟨w.heap.size, 0, none⟩ = some (.pointer (some ⟨p, 0, none⟩)) := (hBL.cell (p := ⟨w.heap.size, 0, none⟩) (by show w.heap.size < _; omega)).trans g2v
  have c5L : WL.cell? ⟨w1.heap.size, 0, none⟩ = some (.int .i64 r) := (hBL.cell (p := ⟨w1.heap.size, 0, none⟩) (by show w1.heap.size < _; omega)).trans (by
    rw [World.cell?_alloc_lt _ _ _ (by show w1.heap.size < _; simp)]; simp [go_sem])
  have b6L : Boxed WL (w1.heap.size + 1) 36 (.slice none 0 0) := (hBL.block _ (by omega)).trans (by
    have := World.alloc_heap_new (w1.alloc (.cells #[.int .i64 r] 3)) (.cells #[.slice none 0 0] 36); rwa [World.size_alloc] at this)
  have hclL : WL.ownsMap Try.prog 3 (plainElem (H := Unit) Try.prog 3) (w1.heap.size + 1 + 1) nu D := by rw [← hWL]; exact hcl.alloc _
  have hmL : WL.cell? ⟨w2.heap.size, 0, none⟩ = some (.map (some (w1.heap.size + 1 + 1))) := by rw [← hWL]; simp [go_sem]
  have hstop := keys64_stops Fence.wide 4 trivial hro (by omega) w2.heap.size (w1.heap.size + 1 + 1) nu WL.heap.size D WL (Nat.le_refl _) (by omega) hmL hclL
  have hrk : ∀ U' : Int → Option Int, Halved U U' → ∃ d, To U' d k r := fun U' hh => hh.tos _ _ _ hto
  rw [hWL]
  clear hB2 hcl hbu2 hWL hBL hown hmL hclL g2 g2v gpv k1 h1
  refine wpIn_rangeFunc_ownG hro (by omega) (gf := 64) (lb := #[.pointer (some ⟨w2.heap.size, 0, none⟩)]) rfl trivial (enters_of Try.func64 (by kernel_rfl) rfl) hstop
    KpB.trans (fun W l o o' _ h _ hw => KpB.putObj W l o o' h hw) (Below.refl _ _) (fun _ => rfl)
    (fun pre W => Aside0 (CI p bu bs nu N U Z k r w w1.heap.size (Maps.size D) (pre.map (·.1)) W)) (fun _ _ _ => False) ?hI (fun _ _ _ _ _ hs _ _ => hs) ⟨⟨⟨U1, _, hUL, hh1, b6L, World.ownsRow_nil _ _ _ _⟩, kL, c2L, c5L, by omega, by simp⟩⟩ ?a1 ?assign ?body ?done ?stop
  case hI =>
    rintro pre W W' row ⟨⟨⟨U', v, hU, hh, hbx, hrow⟩, hkp, g2, g5, hbg, hln⟩⟩ hg hr
    have hlow : ∀ q, q < WL.heap.size → row ≠ some q := fun q hq e => by have := (hr q e).1; omega
    refine ⟨⟨⟨U', v, hU.keep (X := fun q => row = some q) (KeepsBut.of_grownBy hg fun r e => e) (hlow p (by omega)) (hlow bu (by omega)) (hlow bs (by omega)), hh, hbx.kept hg (fun e => hlow _ (by omega) e.symm), own_turn hrow hg fun r e => (hr r e).2⟩, ?_, cell_kept g2 hg (fun r e => (hr r e).2), cell_kept g5 hg (fun r e => (hr r e).2), Nat.le_trans hbg hg.size, hln⟩⟩
    exact ⟨hg.os.trans hkp.os, hg.tape.trans hkp.tape, hg.output.trans hkp.output, Nat.le_trans hkp.size hg.size, fun q hq hx => (hg.block q (Nat.lt_of_lt_of_le hq hkp.size) (fun e => hlow q (by omega) e.symm)).trans (hkp.block q hq hx)⟩
  case assign =>
    intro l x W K hK
    gi_wp2
    exact hK
  case body =>
    rintro l pre ⟨x, hx⟩ W ⟨⟨⟨U', v, hU, hh, hbx, hrow⟩, hkp, g2, g5, hbg, hln⟩⟩ hlt
    dsimp only
    have hxs : (U' x).isSome = true := by
      have := hR.has x
      rw [show κI.lit x = Lit.int .i64 x from rfl, hx] at this
      rw [hh.dom, ← hh1.dom]; exact this.symm
    obtain ⟨d0, hk0⟩ := hrk U' hh
    have hroot := root_calls W.drew hU.drew hmx hxs
    have g2d : W.drew.cell? ⟨w.heap.size, 0, none⟩ = some (.pointer (some ⟨p, 0, none⟩)) := g2
    have g5d : W.drew.cell? ⟨w1.heap.size, 0, none⟩ = some (.int .i64 r) := g5
    obtain ⟨i0, hi, hz0, hz1, hz2⟩ := info_parts info3
    have hlen1 : (pick U k (pre.map (·.1))).length ≤ 100000 := by
      have := pick_len U k (pre.map (·.1))
      have : pre.length ≤ Maps.size D := by omega
      rw [List.length_map] at *
      omega
    have hpre : ((pre ++ [(⟨x, hx⟩ : KeyI D)]).map (·.1)) = pre.map (·.1) ++ [x] := by rw [List.map_append]; rfl
    gi_wp2
    gi_region_with_o ((try refine ⟨trivial, ?_⟩); gi_at_call 34; refine (CallsIn.inRound l (callsIn_wide.2 hroot)).mono ?_; clear hroot; rintro e w5 ⟨r2, U2, rfl, ⟨d2, hto2⟩, h5, hh5, k5⟩; have g5w := k5.cell g5d (hX0 _ (by show w.heap.size ≤ w1.heap.size; omega)))
    all_goals
      have hEq : Eq2 U x k ↔ r2 = r := (hh.eq2 h.F x k).symm.trans (Eq2.root_iff hto2 hk0)
      have k5' : KeepsBut (UX bu bs) W w5 := (keeps_drew _ W).trans k5
      have hbx5 : Boxed w5 (w1.heap.size + 1) 36 v := (k5'.block _ hbx.lt (hX0 _ (by omega))).trans hbx
      have hrow5 := own_keep hrow k5' (fun q hq => hX0 q (by omega))
      have g2w := k5'.cell g2 (hX0 _ (Nat.le_refl _))
      have hsz5 : W.heap.size ≤ w5.heap.size := k5'.size
      by_cases e : r2 = r
      · have hb : (r2 == r) = true := beq_iff_eq.2 e
        have hc1 := hbx5.cell
        have hf1 := hbx5.frozen
        gi_wp2_with (gi_at_builtin; refine wpListIn_append_own _ rfl _ _ 36 rfl (w1.heap.size + 2) 3 i0 _ 1 8 Try.underlying36 hi hz0 hz1 hz2 rfl (by decide) _ _ _ rfl (hrow5.alloc _) ⟨w5.heap.size, 0, none⟩ 1 1 [.int .i64 x] rfl rfl (cell_one_new _ _ _) (by simp [Value.oneCell']) (by unfold maxLen; omega) (by omega) (by simp; omega) ?_; intro v' w6 hown' hgrow _; replace hgrow : (w5.alloc (.cells #[.int .i64 x] 3)).grownBy w6 v.ownBlock := hgrow; obtain ⟨g', cap', rfl⟩ := ownsRow_succ hown'; have hv1 := (hbx5.alloc (.cells #[.int .i64 x] 3)).kept hgrow (hbx5.not_row (by decide) hrow5); have hc2 := hv1.cell; have hf2 := hv1.frozen)
        have hkb : KeepsBut (fun q => q = w1.heap.size + 1 ∨ w1.heap.size + 2 ≤ q) w5 (w6.setCell ⟨w1.heap.size + 1, 0, none⟩ (.slice (some ⟨g', 0, none⟩) ((pick U k (pre.map (·.1))).length + 1) cap')) :=
          ((KeepsBut.alloc _ w5 _).trans (KeepsBut.of_grownBy hgrow fun r hr => .inr (own_base hrow5 r hr).1)).trans (KeepsBut.setCell _ _ _ (.inl rfl))
        have hko : KeepsOthers w5 (w6.setCell ⟨w1.heap.size + 1, 0, none⟩ (.slice (some ⟨g', 0, none⟩) ((pick U k (pre.map (·.1))).length + 1) cap')) := by
          refine ((KeepsOthers.alloc w5 _).trans (KeepsOthers.of_grownBy hgrow fun j o ej hj => ?_)).trans (KeepsOthers.setCell _ _ _)
          rcases (hrow5.alloc (.cells #[.int .i64 x] 3)).2 with ⟨rfl, _⟩ | ⟨g, cap, cur, rfl, _, hgb, _⟩
          · simp [Value.ownBlock] at ej
          · obtain rfl : g = j := by simpa [Value.ownBlock] using ej
            rw [hgb] at hj; cases hj; rfl
        refine ⟨(keepsFrom_but k5' (fun q hq => hX0 q (by omega))).trans (hko.from _), (KpB.of_keeps k5' (hX0 _ (by omega)) (fun q hq => hX0 q (by omega))).trans (KpB.of_others hko), ⟨⟨⟨U2, _, h5.keep hkb (by omega) (by omega) (by omega), hh.trans hh5, hv1.set _, ?_⟩, (hkp.trans k5').low hkb (by omega), hkb.cell g2w (by show ¬ (w.heap.size = _ ∨ _ ≤ w.heap.size); omega), hkb.cell g5w (by show ¬ (w1.heap.size = _ ∨ _ ≤ w1.heap.size); omega), Nat.le_trans (Nat.le_trans hbg hsz5) hkb.size, by rw [hpre, List.length_append, List.length_map]; exact hlt⟩⟩⟩
        have := hown'.kept (grownBy_setCell' w6 (w1.heap.size + 1) (.slice (some ⟨g', 0, none⟩) ((pick U k (pre.map (·.1))).length + 1) cap')) (.inr (hv1.not_row (by decide) hown').symm)
        rw [hpre, pick_yes (hEq.2 e), List.length_append, List.map_append]
        exact this
      · have hb : (r2 == r) = false := beq_false_of_ne e
        gi_wp2
        refine ⟨keepsFrom_but k5' (fun q hq => hX0 q (by omega)), KpB.of_keeps k5' (hX0 _ (by omega)) (fun q hq => hX0 q (by omega)), ⟨⟨⟨U2, v, h5, hh.trans hh5, hbx5, ?_⟩, hkp.trans k5', g2w, g5w, by omega, by rw [hpre, List.length_append, List.length_map]; exact hlt⟩⟩⟩
        rw [hpre, pick_no (fun g => e (hEq.1 g))]
        exact hrow5
  case done =>
    rintro Dd ys W hDd ⟨hnd, hall⟩ ⟨⟨⟨U', v, hU, hh, hbx, hrow⟩, hkp, g2, g5, hbg, hln⟩⟩ hK
    have hc1 := hbx.cell
    have hlen1 : (pick U k (ys.map (·.1))).length ≤ 100000 := by
      have := pick_len U k (ys.map (·.1))
      omega
    have hsort := sort_own (w1.heap.size + 2) v _ W hrow (by omega)
    gi_wp2_with ((try refine ⟨trivial, ?_⟩); gi_at_call 40; refine (callsIn_wide.2 hsort).mono ?_; clear hsort; rintro e w5 ⟨rfl, hrow5, hg5⟩; have hbx5 := hbx.kept hg5 (hbx.not_row (by decide) hrow); have hc5 := hbx5.cell)
    have hK' : w5.heap[Dd]? = some (.deferred (some [])) := by
      refine (hg5.block Dd (Array.getElem?_eq_some_iff.1 hK).1 (fun e => ?_)).trans hK
      rcases hrow.2 with ⟨rfl, _⟩ | ⟨g, cap, cur, rfl, _, hgb, _⟩
      · simp [Value.ownBlock] at e
      · obtain rfl : Dd = g := by simpa [Value.ownBlock] using e
        rw [hgb] at hK; cases hK
    refine ⟨by simp, .inl ⟨_, _, rfl, run_takeDeferred hK', ?_⟩⟩
    have hX2 : KeepsBut (fun q => w.heap.size ≤ q) W (w5.putObj Dd (.deferred none)) := (KeepsBut.of_grownBy hg5 fun r hr => by have := (own_base hrow r hr).1; show w.heap.size ≤ r; omega).trans (KeepsBut.putObj w5 _ (by show w.heap.size ≤ Dd; omega))
    refine ⟨_, results_tmp rfl _ _ _, _, _, U', rfl, merge_rising (ss := pick U k (ys.map (·.1))) ?_, fun x => ?_, ?_, hU.keep hX2 (by omega) (by omega) (by omega), hh, hkp.low hX2 (by omega)⟩
    · exact hnd.filter _
    · rw [List.mem_mergeSort, pick_mem]
      refine ⟨fun g => g.2, fun g => ⟨hall x ?_, g⟩⟩
      have := hR.has x
      rw [show κI.lit x = Lit.int .i64 x from rfl] at this
      rw [this, hh1.dom]
      exact (Eq2.self_iff h.F).1 (g.trans g.symm)
    · refine own_lower ?_ (show w.heap.size ≤ w1.heap.size + 2 by omega)
      have := ownsRow_putObj hrow5 (.deferred none) hK' rfl
      rw [show (pick U k (ys.map (·.1))).length = ((pick U k (ys.map (·.1))).mergeSort fun x y => decide (x ≤ y)).length by simp] at this
      exact this
  case stop =>
    rintro D c pre W _ _ h _
    exact h.elim
end Go.Proofs.Yteeapfmgdlcgfaa.A


namespace Go.Proofs.Yteeapfmgdlcgfaa.A
open Go.RowKit Go.Maps Go.Proofs.YteeapfmgdlcgfaaW.PrintWords Go.Proofs.YteeapfmgdlcgfaaW.PrintLast
set_option linter.unusedVariables false
set_option linter.unusedSimpArgs false

theorem class_un {p bu bs nu N : Nat} {E : Int → Int → Prop} (w : World) (h : UN κI w p bu bs nu N E) {k : Int} (hk : κI.wf k) (hn : nu ≤ 100000) :
    Calls Try.prog 17 #[.pointer (some ⟨p, 0, none⟩), .int .i64 k] w fun e w' => ∃ (v : Value) (ks : List Int), e = .returned v ∧ Rising ks ∧ (∀ x, x ∈ ks ↔ E x k) ∧ w'.ownsRow w.heap.size 3 1 v ks.length (ks.map (Value.int .i64)) ∧ UN κI w' p bu bs nu N E ∧ KeepsBut (UX bu bs) w w' := by
  obtain ⟨U, Z, h1, h2⟩ := h
  cases hu : U k with
  | none =>
    refine (class_none w h1 hk hu).mono ?_
    rintro e w' ⟨rfl, h3, hB⟩
    refine ⟨_, [], rfl, List.Pairwise.nil, fun x => ?_, World.ownsRow_nil _ _ _ _, ⟨U, Z, h3, h2⟩, keeps_below hB _⟩
    rw [← h2]
    constructor
    · intro g; cases g
    · intro g
      have := (Eq2.self_iff h1.F).1 (g.symm.trans g)
      rw [hu] at this; cases this
  | some j =>
    refine (class_some w h1 hk (by rw [hu]; rfl) hn).mono ?_
    rintro e w' ⟨v, ks, U', rfl, h3, h4, h5, h6, h7, h8⟩
    exact ⟨v, ks, rfl, h3, fun x => (h4 x).trans (h2 x k), h5, ⟨U', Z, h6, fun x y => (h7.eq2 h1.F x y).trans (h2 x y)⟩, h8⟩
theorem add_un {p bu bs nu N : Nat} {E : Int → Int → Prop} (w : World) (h : UN κI w p bu bs nu N E) {k : Int} (hk : κI.wf k) (hn : nu ≤ 100000) (hN : N ≤ 100000) :
    Calls Try.prog 22 #[.pointer (some ⟨p, 0, none⟩), .int .i64 k] w fun e w' => ∃ r : Bool, e = .returned (.bool r) ∧ (r = true ↔ ¬ E k k) ∧ UN κI w' p bu bs (nu + r.toNat) (N + r.toNat) (addE E k) ∧ KeepsBut (UX bu bs) w w' := by
  obtain ⟨U, Z, h1, h2⟩ := h
  refine (add_calls w h1 hk (by unfold maxLen; omega) (by unfold maxLen; omega)).mono ?_
  rintro e w' ⟨r, U', Z', rfl, h3, h4, h5, h6⟩
  exact ⟨r, rfl, h3.trans (not_congr (h2 k k)), ⟨U', Z', h4, fun x y => by rw [h5]; unfold addE; rw [h2]⟩, h6⟩
theorem join_un {p bu bs nu N : Nat} {E : Int → Int → Prop} (w : World) (h : UN κI w p bu bs nu N E) {a b : Int} (ha : κI.wf a) (hb : κI.wf b) (hn : nu ≤ 100000) (hN : N ≤ 100000) :
    Calls Try.prog 12 #[.pointer (some ⟨p, 0, none⟩), .int .i64 a, .int .i64 b] w fun e w' => ∃ (ra rb r : Bool), e = .returned (.bool r) ∧ (ra = true ↔ ¬ E a a) ∧ (rb = true ↔ ¬ addE E a b b) ∧ (r = true ↔ ¬ addE (addE E a) b a b) ∧
      UN κI w' p bu bs (nu + ra.toNat + rb.toNat) (N + ra.toNat + rb.toNat - r.toNat) (joinE (addE (addE E a) b) a b) ∧ KeepsBut (UX bu bs) w w' := by
  obtain ⟨U, Z, h1, h2⟩ := h
  have hE : ∀ x y, addE (addE (Eq2 U) a) b x y ↔ addE (addE E a) b x y := fun x y => by unfold addE; rw [h2]
  refine (join_calls w h1 ha hb (by unfold maxLen; omega) (by unfold maxLen; omega)).mono ?_
  rintro e w' ⟨ra, rb, r, U', Z', rfl, h3, h4, h5, h6, h7, h8⟩
  refine ⟨ra, rb, r, rfl, h3.trans (not_congr (h2 a a)), h4.trans (not_congr ?_), h5.trans (not_congr (hE a b)), ⟨U', Z', h6, fun x y => ?_⟩, h8⟩
  · unfold addE; rw [h2]
  · rw [h7]; unfold joinE; rw [hE, hE, hE, hE, hE]
theorem new_un (w : World) : Calls Try.prog 10 #[] w fun e w' => ∃ p bu bs, e = .returned (.pointer (some ⟨p, 0, none⟩)) ∧ w.heap.size ≤ p ∧ w.heap.size ≤ bu ∧ w.heap.size ≤ bs ∧ UN κI w' p bu bs 0 0 (fun _ _ => False) ∧ Below w.heap.size w w' := by
  refine (new_calls w).mono ?_
  rintro e w' ⟨p, bu, bs, rfl, h1, h2, h3, h4, h5⟩
  refine ⟨p, bu, bs, rfl, h1, h2, h3, ⟨_, _, h4, fun x y => ⟨?_, False.elim⟩⟩, h5⟩
  rintro ⟨r, d, e, g, _⟩
  obtain ⟨j, hj⟩ := g.has
  cases hj
theorem UN.lt {p bu bs nu N : Nat} {E : Int → Int → Prop} {w : World} (h : UN κI w p bu bs nu N E) : p < w.heap.size ∧ bu < w.heap.size ∧ bs < w.heap.size := by
  obtain ⟨U, Z, h1, h2⟩ := h
  exact ⟨World.block_lt_of_cell? _ _ h1.cu, h1.mu.lt, h1.ms.lt⟩
theorem UN.ne {p bu bs nu N : Nat} {E : Int → Int → Prop} {w : World} (h : UN κI w p bu bs nu N E) : p ≠ bu ∧ p ≠ bs := by
  obtain ⟨U, Z, h1, h2⟩ := h
  exact h1.pne

set_option maxRecDepth 100000 in
set_option maxHeartbeats 4000000 in
theorem find_un {p bu bs nu N : Nat} {E : Int → Int → Prop} (w : World) (h : UN κI w p bu bs nu N E) {k : Int} (hk : κI.wf k) (hn : nu ≤ 100000) :
    Calls Try.prog 15 #[.pointer (some ⟨p, 0, none⟩), .int .i64 k] w fun e w' => ∃ (m : Int) (r : Bool), e = .returned (.tuple #[.int .i64 m, .bool r]) ∧ (r = true → E m k ∧ ∀ x, E x k → m ≤ x) ∧ (r = false → m = 0 ∧ ∀ x, ¬ E x k) ∧ UN κI w' p bu bs nu N E ∧ KeepsBut (UX bu bs) w w' := by
  have hc := class_un w h hk hn
  go_enter Try.func15, Try.ntmps15
  go_wp2_with fail
  refine hc.mono ?_
  clear hc
  rintro e w1 ⟨v, ks, rfl, h1, h2, h30, h4, h5⟩
  have h3 : Kd.R (Kd.int .i64) 3 w1 w.heap.size (fun _ => True) v ks := Kd.R_of_own h30 (fun _ _ => trivial)
  clear h30
  obtain ⟨A, c, rfl⟩ := Kd.R_slice h3
  cases ks with
  | nil =>
    have hz : ((([] : List Int).length : Nat) : Int) = 0 := rfl
    have hz2 : (((([] : List Int).length : Nat) : Int) == 0) = true := rfl
    go_wp2
    (try simp only [Exit.inBlock, Exit.then])
    refine bodyPost_ret (results_tmp2 rfl _ _ _) rfl ?_
    exact ⟨0, false, rfl, fun g => by simp at g, fun _ => ⟨rfl, fun x g => by have := (h2 x).2 g; cases this⟩, h4, h5⟩
  | cons m l =>
    have hz2 : ((((m :: l).length : Nat) : Int) == 0) = false := by simp; omega
    have hp : (0 : Int) ≤ 0 := by omega
    have hq : (0 : Int) < (((m :: l).length : Nat) : Int) := by simp
    obtain ⟨ad, e1, hx⟩ := Kd.at_int (Kd.R_reads' h3).2.2 0 hp hq
    cases e1
    have hm : rd (m :: l) 0 = m := rfl
    rw [hm] at hx
    have hx0 : w1.cell? ad = some (.int .i64 m) := by have := hx; simpa [Addr.add] using this
    have hz3 : ((l.length : Int) + 1 == 0) = false := by simpa using hz2
    have hfin : Aside0 (E m k ∧ ∀ x, E x k → m ≤ x) := ⟨⟨(h2 m).1 (by simp), fun x g => by
      rcases List.mem_cons.1 ((h2 x).2 g) with rfl | g
      · exact Int.le_refl _
      · have := (List.pairwise_cons.1 h1).1 x g; omega⟩⟩
    clear h1 h2
    go_wp2
    (try simp only [Exit.inBlock, Exit.then])
    refine bodyPost_ret (results_tmp2 rfl _ _ _) rfl ?_
    exact ⟨m, true, rfl, fun _ => hfin.out, fun g => by simp at g, h4, h5⟩
end Go.Proofs.Yteeapfmgdlcgfaa.A


namespace Go.Proofs.Yteeapfmgdlcgfaa.A
open Go.Deep Go.RowKit Go.Proofs.YteeapfmgdlcgfaaW.PrintWords Go.Proofs.YteeapfmgdlcgfaaW.PrintLast
set_option linter.unusedVariables false
set_option linter.unusedSimpArgs false

section
variable {H : Type} {enc : TypeId × Value → H} {P : Program} {w : World} {base : Nat} {α : Type} [Inhabited α]

def Opens (enc : TypeId × Value → H) (P : Program) (w : World) (base : Nat) (t : TypeId) (d : Kd α) (p : α → Prop) : Prop :=
  ∀ fuel cs x, DataW.trod enc P w base (fun _ => true) true fuel t cs = some x → ∃ y, d.K w y cs ∧ p y

theorem opens_int {t : TypeId} {k : IntKind} (ht : P.underlying t = some (.int k)) : Opens enc P w base t (Kd.int k) (fun n => (Lit.int k n).wf = true) := by
  intro fuel cs x h
  obtain ⟨n, rfl, _, hw⟩ := DataW.trod_int ht h
  exact ⟨n, rfl, hw⟩

theorem opens_slice {t e : TypeId} {d : Kd α} {p : α → Prop} (ht : P.underlying t = some (.slice e)) (hc : P.cellsOf e = d.sz) (ho : Opens enc P w base e d p) : Opens enc P w base t (Kd.slice e d) (fun xs => ∀ x ∈ xs, p x) := by
  intro fuel cs x h
  rcases open_slice ht h with ⟨rfl, _⟩ | ⟨a, len, cap, m, n, D, Pl, rfl, hb, hl, hm, hmm, _, hx⟩
  · exact ⟨[], ⟨none, 0, rfl, Nat.le_refl _, rfl, by simp, fun h => by simp at h⟩, fun x hx => by simp at hx⟩
  · simp only [if_true] at hmm
    obtain ⟨Y, hY⟩ := choose_lt (α := α) (n := len) (p := fun i y => p y ∧ ∃ c, d.K w y c ∧ ∀ j u, c[j]? = some u → w.cell? (a.add (i * d.sz + j)) = some u) (fun i hi => by
      obtain ⟨cs', h1, h2⟩ := hx i (by omega)
      obtain ⟨y, hy, hp⟩ := ho _ _ _ h2
      obtain ⟨_, hlen, hcell⟩ := World.cells?_some h1
      refine ⟨y, hp, cs', hy, fun j u hj => ?_⟩
      have hj' : j < cs'.length := (List.getElem?_eq_some_iff.1 hj).1
      have := hcell j (by omega)
      rw [hj, hc] at this
      rwa [Addr.add_add] at this)
    have hlen : ((List.range len).map Y).length = len := by simp
    refine ⟨(List.range len).map Y, ⟨some a, cap, by rw [hlen], by rw [hlen]; exact hl, hlen.trans hlen.symm, by rw [hlen]; unfold maxLen at hm; omega, fun _ => ⟨a, rfl, fun j y hj => ?_⟩⟩, fun y hy => ?_⟩
    · have hjl : j < len := by have := (List.getElem?_eq_some_iff.1 hj).1; omega
      rw [List.getElem?_map, List.getElem?_range hjl] at hj
      obtain rfl := Option.some.inj hj
      obtain ⟨_, c, hk, hcell⟩ := hY j hjl
      exact ⟨c, d.K_len hk, hk, hcell⟩
    · obtain ⟨i, hi, rfl⟩ := List.mem_map.1 hy
      exact (hY i (List.mem_range.1 hi)).1
end

end Go.Proofs.Yteeapfmgdlcgfaa.A


namespace Go.Proofs.Yteeapfmgdlcgfaa.A
open Go.RowKit Go.Maps Go.Sort Go.Shelf Go.Proofs.YteeapfmgdlcgfaaW.PrintWords Go.Proofs.YteeapfmgdlcgfaaW.PrintLast
set_option linter.unusedVariables false
set_option linter.unusedSimpArgs false

/-- strings -/
abbrev Str := ByteArray
def κS : Kind Str := { t := 9, val := .string, lit := fun s => .string s.data.toList, wf := fun s => s.size ≤ maxLen, z := ⟨#[]⟩ }
end Go.Proofs.Yteeapfmgdlcgfaa.A


namespace Go.Proofs.Yteeapfmgdlcgfaa.A
open Go.RowKit Go.Maps Go.Sort Go.Shelf Go.Proofs.YteeapfmgdlcgfaaW.PrintWords Go.Proofs.YteeapfmgdlcgfaaW.PrintLast
set_option linter.unusedVariables false
set_option linter.unusedSimpArgs false

theorem own_cell {W : World} {base : Nat} {e : TypeId} {v : Value} {k : Nat} {xs : List Value} (h : W.ownsRow base e 1 v k xs) {j : Nat} {x : Value} (hj : xs[j]? = some x) (hjk : j < k) : ∃ g cap, v = .slice (some ⟨g, 0, none⟩) k cap ∧ W.cell? ⟨g, j, none⟩ = some x := by
  rcases h.2 with ⟨rfl, hz⟩ | ⟨g, cap, cur, rfl, hb, hgb, h1, h2, h3, h4⟩
  · omega
  · refine ⟨g, cap, rfl, ?_⟩
    have hx : cur.toList[j]? = some x := by
      rw [← hj, ← h4, List.getElem?_take_of_lt (by omega)]
    have hc : cur[j]? = some x := by rw [← Array.getElem?_toList]; exact hx
    unfold World.cell?
    rw [hgb]
    simpa using hc
end Go.Proofs.Yteeapfmgdlcgfaa.A


namespace Go.Proofs.Yteeapfmgdlcgfaa.A
open Go.RowKit Go.Proofs.YteeapfmgdlcgfaaW.PrintWords Go.Proofs.YteeapfmgdlcgfaaW.PrintLast Go.Proofs.YteeapfmgdlcgfaaW.PrintMore
attribute [local go_sem] max2_int min2_int max_two min_two max_three min_three max_four min_four   -- for this text's walks alone
set_option linter.unusedVariables false
set_option linter.unusedSimpArgs false

def swageref02_Ints.l0 : Nat → List Int → List Int → Int → Option (Bool)
  | 0, _, _, _ => none
  | k + 1, x0, x1, x5 => if x5 < (x0.length : Int) then (if 0 ≤ x5 then (if x5 < (x1.length : Int) then (if (rd x0 x5) = (rd x1 x5) then (swageref02_Ints.l0 k x0 x1 (wrap64 (x5 + 1))) else (some false)) else (none)) else (none)) else (some true)
def swageref02_Ints.f (k : Nat) (l0 : List Int) (l1 : List Int) : Option (Bool) := if (l0.length : Int) = (l1.length : Int) then (swageref02_Ints.l0 k l0 l1 0) else (some false)
set_option maxHeartbeats 8000000 in
set_option maxRecDepth 100000 in
theorem swageref02_Ints.calls (k : Nat) (A0 : Option Addr) (c0 : Nat) (l0 : List Int) (A1 : Option Addr) (c1 : Nat) (l1 : List Int) (r : Bool) (w : World) (hr0 : Kd.C (Kd.int .i64) w A0 l0.length l0) (hc0 : l0.length ≤ c0) (hr1 : Kd.C (Kd.int .i64) w A1 l1.length l1) (hc1 : l1.length ≤ c1) (h : swageref02_Ints.f k l0 l1 = some r) :
    Calls Try.prog 21 #[.slice A0 l0.length c0, .slice A1 l1.length c1] w fun e w' => e = .returned (.bool r) ∧ Drawn0 w w' := by
  have HR0 := Aside0.mk hr0
  have HC0 := Aside0.mk hc0
  clear hr0 hc0
  have HR1 := Aside0.mk hr1
  have HC1 := Aside0.mk hc1
  clear hr1 hc1
  have H : (if (l0.length : Int) = (l1.length : Int) then (swageref02_Ints.l0 k l0 l1 0) else (some false)) = some r := h
  clear h
  by_cases c3 : (l0.length : Int) = (l1.length : Int)
  · rw [if_pos c3] at H
    have c3b0 : ((l0.length : Int) == (l1.length : Int)) = true := beq_iff_eq.mpr c3
    have c3b1 : ((l0.length : Int) != (l1.length : Int)) = false := bne_eq_false_iff_eq.mpr c3
    have c3b2 : (l0.length == l1.length) = true := by first | simpa using c3 | (simp at c3 ⊢; omega)
    clear c3
    have H' := Aside0.mk H
    clear H
    go_enter Try.func21, Try.ntmps21
    go_wp2
    repeat (go_quiet (fail); try go_wp2)
    go_loopg [5] k (fun kq v5 w' => ∃ (x5_1 : Int), v5 = .int .i64 x5_1 ∧ Aside0 (swageref02_Ints.l0 kq l0 l1 x5_1 = some r) ∧ Aside0 (kq ≤ k) ∧ Drawn0 w w')
    case atStart => exact ⟨(0), (by first | rfl | (simp; done) | (simp [*]; done)), H', ⟨Nat.le_refl _⟩, by repeat (first | exact Drawn0.refl _ | apply Drawn0.step)⟩
    case round =>
      clear H'
      try clear c1
      try clear c2
      try clear p2
      try clear c3
      try clear c3b0
      try clear c3b1
      try clear c3b2
      obtain ⟨x5_1, rfl, HA, HK1, ⟨m1, rfl⟩⟩ := hrel
      cases gk with
      | zero => exact absurd HA.out (by simp [swageref02_Ints.l0])
      | succ k1 =>
        have H := HA.out
        clear HA
        simp only [swageref02_Ints.l0] at H
        by_cases c4 : x5_1 < (l0.length : Int)
        · rw [if_pos c4] at H
          have c4b0 : decide (x5_1 < (l0.length : Int)) = true := decide_eq_true c4
          clear c4
          by_cases c5 : 0 ≤ x5_1
          · rw [if_pos c5] at H
            have c5b0 : decide (0 ≤ x5_1) = true := decide_eq_true c5
            clear c5
            by_cases c6 : x5_1 < (l1.length : Int)
            · rw [if_pos c6] at H
              have c6b0 : decide (x5_1 < (l1.length : Int)) = true := decide_eq_true c6
              clear c6
              by_cases c7 : (rd l0 x5_1) = (rd l1 x5_1)
              · rw [if_pos c7] at H
                have c7b0 : ((rd l0 x5_1) == (rd l1 x5_1)) = true := beq_iff_eq.mpr c7
                have c7b1 : ((rd l0 x5_1) != (rd l1 x5_1)) = false := bne_eq_false_iff_eq.mpr c7
                clear c7
                have H' := Aside0.mk H
                clear H
                have p221 : 0 ≤ (x5_1 : Int) := of_decide_eq_true (by first | (with_reducible assumption) | assumption)
                have q221 : x5_1 < (l0.length : Int) := of_decide_eq_true (by first | (with_reducible assumption) | assumption)
                obtain ⟨ad221, e221, hx221_0⟩ := Kd.at_int HR0.out x5_1 p221 q221
                cases e221
                replace p221 := eq_true p221
                replace q221 := eq_true q221
                have p222 : 0 ≤ (x5_1 : Int) := of_decide_eq_true (by first | (with_reducible assumption) | assumption)
                have q222 : x5_1 < (l1.length : Int) := of_decide_eq_true (by first | (with_reducible assumption) | assumption)
                obtain ⟨ad222, e222, hx222_0⟩ := Kd.at_int HR1.out x5_1 p222 q222
                cases e222
                replace p222 := eq_true p222
                replace q222 := eq_true q222
                go_wp2
                repeat (go_quiet (fail); try go_wp2)
                go_roundg k1
                case measure => have := HK1.out; omega
                case rel => exact ⟨(wrap64 (x5_1 + 1)), (by first | rfl | (simp; done) | (simp [*]; done)), H', ⟨by have := HK1.out; omega⟩, by repeat (first | exact Drawn0.refl _ | apply Drawn0.step)⟩
              · rw [if_neg c7] at H
                have c7b0 : ((rd l0 x5_1) == (rd l1 x5_1)) = false := beq_eq_false_iff_ne.mpr c7
                have c7b1 : ((rd l0 x5_1) != (rd l1 x5_1)) = true := bne_iff_ne.mpr c7
                obtain rfl := Option.some.inj H
                have p221 : 0 ≤ (x5_1 : Int) := of_decide_eq_true (by first | (with_reducible assumption) | assumption)
                have q221 : x5_1 < (l0.length : Int) := of_decide_eq_true (by first | (with_reducible assumption) | assumption)
                obtain ⟨ad221, e221, hx221_0⟩ := Kd.at_int HR0.out x5_1 p221 q221
                cases e221
                replace p221 := eq_true p221
                replace q221 := eq_true q221
                have p222 : 0 ≤ (x5_1 : Int) := of_decide_eq_true (by first | (with_reducible assumption) | assumption)
                have q222 : x5_1 < (l1.length : Int) := of_decide_eq_true (by first | (with_reducible assumption) | assumption)
                obtain ⟨ad222, e222, hx222_0⟩ := Kd.at_int HR1.out x5_1 p222 q222
                cases e222
                replace p222 := eq_true p222
                replace q222 := eq_true q222
                go_wp2
                repeat (go_quiet (fail); try go_wp2)
                go_ret
                exact ⟨by first | rfl | (simp; done) | (simp [*]; done), by repeat (first | exact Drawn0.refl _ | apply Drawn0.step)⟩
            · rw [if_neg c6] at H
              exact absurd H (by simp)
          · rw [if_neg c5] at H
            exact absurd H (by simp)
        · rw [if_neg c4] at H
          have c4b0 : decide (x5_1 < (l0.length : Int)) = false := decide_eq_false c4
          clear c4
          obtain rfl := Option.some.inj H
          go_wp2
          repeat (go_quiet (fail); try go_wp2)
          go_ret
          exact ⟨by first | rfl | (simp; done) | (simp [*]; done), by repeat (first | exact Drawn0.refl _ | apply Drawn0.step)⟩
  · rw [if_neg c3] at H
    have c3b0 : ((l0.length : Int) == (l1.length : Int)) = false := beq_eq_false_iff_ne.mpr c3
    have c3b1 : ((l0.length : Int) != (l1.length : Int)) = true := bne_iff_ne.mpr c3
    have c3b2 : (l0.length == l1.length) = false := by first | simpa using c3 | (simp at c3 ⊢; omega)
    obtain rfl := Option.some.inj H
    go_enter Try.func21, Try.ntmps21
    go_wp2
    repeat (go_quiet (fail); try go_wp2)
    go_ret
    exact ⟨by first | rfl | (simp; done) | (simp [*]; done), by repeat (first | exact Drawn0.refl _ | apply Drawn0.step)⟩

end Go.Proofs.Yteeapfmgdlcgfaa.A


namespace Go.Proofs.Yteeapfmgdlcgfaa.A
open Go.RowKit Go.Maps Go.Proofs.YteeapfmgdlcgfaaW.PrintWords Go.Proofs.YteeapfmgdlcgfaaW.PrintLast
set_option linter.unusedVariables false
set_option linter.unusedSimpArgs false

def Evt {α : Type} (g : Nat → Option α) (r : α) : Prop := ∃ K, ∀ k, K ≤ k → g k = some r
theorem Evt.const {α : Type} {x : Option α} {r : α} (h : x = some r) : Evt (fun _ => x) r := ⟨0, fun _ _ => h⟩
theorem Evt.step {α : Type} {f g : Nat → Option α} {r : α} (h : Evt g r) (e : ∀ k, f (k + 1) = g k) : Evt f r := by
  obtain ⟨K, h⟩ := h
  refine ⟨K + 1, fun k hk => ?_⟩
  obtain ⟨j, rfl⟩ : ∃ j, k = j + 1 := ⟨k - 1, by omega⟩
  rw [e]; exact h j (by omega)
theorem Evt.congr {α : Type} {f g : Nat → Option α} {r : α} (h : Evt g r) (e : ∀ k, f k = g k) : Evt f r := by
  obtain ⟨K, h⟩ := h
  exact ⟨K, fun k hk => (e k).trans (h k hk)⟩
theorem Evt.get {α : Type} {g : Nat → Option α} {r : α} (h : Evt g r) : ∃ k, g k = some r := by
  obtain ⟨K, h⟩ := h
  exact ⟨K, h K (Nat.le_refl _)⟩
theorem w64 {n : Int} (h1 : -1000000000000 ≤ n) (h2 : n ≤ 1000000000000) : wrap64 n = n := by unfold wrap64; omega
theorem wsucc {i : Nat} (h : i ≤ 1000000000) : wrap64 ((i : Int) + 1) = ((i + 1 : Nat) : Int) := by rw [w64 (by omega) (by omega)]; rfl
theorem R_new_lit {α : Type} (d : Kd α) (W : World) (base e : Nat) {xs : List α} {inner : List Value} {ok okp : Nat → Prop}
    (hrep : Reps (d.M W base okp) d.sz xs inner) (hok : ∀ k, okp k → ok k) (hfresh : ok W.heap.size) (hbase : base ≤ W.heap.size) (hm : xs.length ≤ 9223372036854775807) :
    d.R e (W.alloc (.cells inner.toArray e)) base ok (.slice (some ⟨W.heap.size, 0, none⟩) xs.length xs.length) xs := by
  refine ⟨fun k hk => ?_, inner, ?_, ?_⟩
  · have : W.heap.size = k := by simpa [Value.ownBlock] using hk
    subst this
    exact hfresh
  · have h2 := World.ownsRow_lit (base := base) (e := e) (size := d.sz) W inner.toArray xs.length hbase (by simpa [maxLen] using hm) (by simpa using hrep.1)
    simpa using h2
  · refine hrep.imp_ (fun p c hp => d.M_mono (fun k hk => ⟨hok k hk.1, fun he => ?_⟩) (Kd.M_below (d.M_bound hp) (below_alloc (Below.refl _ _) _)))
    have : W.heap.size = k := by simpa [Value.ownBlock] using he.symm
    have := hk.2.2.1
    omega
end Go.Proofs.Yteeapfmgdlcgfaa.A


namespace Go.Proofs.Yteeapfmgdlcgfaa.A
open Go.RowKit Go.Maps Go.Proofs.YteeapfmgdlcgfaaW.PrintWords Go.Proofs.YteeapfmgdlcgfaaW.PrintLast
set_option linter.unusedVariables false
set_option linter.unusedSimpArgs false

theorem UN.alloc {p bu bs nu N : Nat} {E : Int → Int → Prop} {w : World} (h : UN κI w p bu bs nu N E) (o : Obj) : UN κI (w.alloc o) p bu bs nu N E := h.keep (KeepsBut.alloc (fun _ => False) w o) id id id
def T1 (x y : Int) : Prop := x = 3 ∧ y = 3
def T2 (x y : Int) : Prop := (x = 3 ∧ y = 3) ∨ ((x = 5 ∨ x = 2) ∧ (y = 5 ∨ y = 2))
def T3 (x y : Int) : Prop := (x = 3 ∧ y = 3) ∨ ((x = 5 ∨ x = 2 ∨ x = 9) ∧ (y = 5 ∨ y = 2 ∨ y = 9))
theorem t1 (x y : Int) : addE (fun _ _ => False) 3 x y ↔ T1 x y := by unfold addE T1; simp
theorem t2 (x y : Int) : joinE (addE (addE T1 5) 2) 5 2 x y ↔ T2 x y := by simp only [joinE, addE, T1, T2]; grind
theorem t3 (x y : Int) : joinE (addE (addE T2 2) 9) 2 9 x y ↔ T3 x y := by simp only [joinE, addE, T2, T3]; grind
theorem t4 (x y : Int) : joinE (addE (addE T3 9) 5) 9 5 x y ↔ T3 x y := by simp only [joinE, addE, T3]; grind

end Go.Proofs.Yteeapfmgdlcgfaa.A


namespace Go.Proofs.Yteeapfmgdlcgfaa.A
open Go.Deep Go.RowKit Go.Maps Go.Sort Go.Shelf Go.Proofs.YteeapfmgdlcgfaaW.PrintWords Go.Proofs.YteeapfmgdlcgfaaW.PrintLast
set_option linter.unusedVariables false
set_option linter.unusedSimpArgs false

structure S28 where
  f0 : Int
  f1 : Int
def z28 : S28 := ⟨(0 : Int), (0 : Int)⟩
def k28 : Kd S28 := Kd.iso (Kd.pair (Kd.int .i64) (Kd.int .i64)) (fun x : S28 => (x.f0, x.f1))
theorem k28_open {w : World} {x : S28} {cs : List Value} (h : k28.K w x cs) : cs = [.int .i64 x.f0, .int .i64 x.f1] := by
  obtain ⟨_, _, rfl, rfl, rfl⟩ := h
  exact rfl
def rd_T28 (xs : List S28) (i : Int) : S28 := xs.getD i.toNat z28
theorem at_T28 {w : World} {A : Option Addr} {n : Nat} {xs : List S28} (h : Kd.C k28 w A n xs) (i : Int) (h0 : 0 ≤ i) (h1 : i < n) : ∃ ad , A = some ad ∧ w.cell? (ad.add (i.toNat * 2)) = some (.int .i64 (rd_T28 xs i).f0) ∧ w.cell? ⟨(ad.add (i.toNat * 2)).block, (ad.add (i.toNat * 2)).off + 1, none⟩ = some (.int .i64 (rd_T28 xs i).f1) := by
  obtain ⟨ad, c, e, _, hK, hc0⟩ := Kd.C_get h z28 i h0 h1
  have hc : ∀ j u, c[j]? = some u → w.cell? (ad.add (i.toNat * 2 + j)) = some u := hc0
  obtain rfl := k28_open hK
  exact ⟨ad, e, hc 0 _ rfl, by rw [← add_field _ _ 1 (by omega)]; exact hc 1 _ rfl⟩
instance : Inhabited S28 := ⟨z28⟩
def nm (n : Int) : Str := strOfNums (([(wrap64 (97 + (Int.tmod (wrap64 (Int.tdiv n 26)) 26))) % 256, (wrap64 (97 + (Int.tmod n 26))) % 256] : List Int))
/-- a relation of numbers, of their names -/
def Img (E : Int → Int → Prop) (s t : Str) : Prop := ∃ a b, s = nm a ∧ t = nm b ∧ E a b
end Go.Proofs.Yteeapfmgdlcgfaa.A


namespace Go.Proofs.Yteeapfmgdlcgfaa.A
open Go.Deep Go.RowKit Go.Maps Go.Sort Go.Shelf Go.Proofs.YteeapfmgdlcgfaaW.PrintWords Go.Proofs.YteeapfmgdlcgfaaW.PrintLast
set_option linter.unusedVariables false
set_option linter.unusedSimpArgs false

theorem UN.keepB {K : Type} {κ : Kind K} {w w' : World} {p bu bs nu N : Nat} {E : K → K → Prop} (h : UN κ w p bu bs nu N E) (hb : Below w.heap.size w w') : UN κ w' p bu bs nu N E := h.keep (keeps_below hb (fun _ => False)) id id id
theorem own_shape {W : World} {base : Nat} {e : TypeId} {v : Value} {k : Nat} {xs : List Value} (h : W.ownsRow base e 1 v k xs) : ∃ A c, v = .slice A k c := by
  rcases h.2 with ⟨rfl, hz⟩ | ⟨g, cap, cur, rfl, _⟩
  · exact ⟨none, 0, by rw [hz]⟩
  · exact ⟨_, _, rfl⟩
theorem own_at {W : World} {base : Nat} {e : TypeId} {A : Option Addr} {c k : Nat} {xs : List Value} (h : W.ownsRow base e 1 (.slice A k c) k xs) {j : Nat} {x : Value} (hj : xs[j]? = some x) (hjk : j < k) : ∃ ad, A = some ad ∧ W.cell? (ad.add j) = some x := by
  obtain ⟨g, cap, e1, hc⟩ := own_cell h hj hjk
  injection e1 with e1 _ e2
  refine ⟨_, e1, ?_⟩
  have : (⟨g, 0, none⟩ : Addr).add j = ⟨g, j, none⟩ := by
    by_cases h0 : j = 0
    · subst h0; rfl
    · simp [Addr.add, h0]
  rw [this]; exact hc
theorem own_below {W W' : World} {base : Nat} {e : TypeId} {v : Value} {k : Nat} {xs : List Value} (h : W.ownsRow base e 1 v k xs) (hb : Below W.heap.size W W') : W'.ownsRow base e 1 v k xs := own_keep h (keeps_below hb (fun _ => False)) (fun _ _ => id)
/-- what the inner loop keeps -/
structure NJ (w : World) (px bux bsx py buy bsy : Nat) (nu N : Nat) (E : Int → Int → Prop) (l : List Int) (vl vm : Value) (bl bm : Nat) (W : World) : Prop where
  x : UN κI W px bux bsx nu N E
  y : UN κS W py buy bsy nu N (Img E)
  below : Below w.heap.size w W
  rl : W.ownsRow bl 3 1 vl l.length (l.map (Value.int .i64))
  rm : W.ownsRow bm 9 1 vm l.length (l.map fun a => Value.string (nm a))
theorem NJ.step {w W W' : World} {px bux bsx py buy bsy nu N : Nat} {E : Int → Int → Prop} {l : List Int} {vl vm : Value} {bl bm : Nat} (h : NJ w px bux bsx py buy bsy nu N E l vl vm bl bm W) (hb : Below W.heap.size W W') : NJ w px bux bsx py buy bsy nu N E l vl vm bl bm W' :=
  ⟨h.x.keepB hb, h.y.keepB hb, below_step h.below hb, own_below h.rl hb, own_below h.rm hb⟩
end Go.Proofs.Yteeapfmgdlcgfaa.A


namespace Go.Proofs.Yteeapfmgdlcgfaa.A
open Go.RowKit Go.Proofs.YteeapfmgdlcgfaaW.PrintWords Go.Proofs.YteeapfmgdlcgfaaW.PrintLast
set_option linter.unusedVariables false
set_option linter.unusedSimpArgs false

def wthB (a b c : Int) : Bool := decide (b ≤ a) && decide (a ≤ c)
theorem within_eq (a b c : Int) : code_within.f a b c = some (wthB a b c) := by
  unfold code_within.f wthB
  by_cases h : b ≤ a
  · rw [if_pos h]; simp [h]
  · rw [if_neg h]; simp [h]
def regB (a : Int) : Bool := wthB a 1 4096
theorem reg_eq (a : Int) : code_reg.f a = some (regB a) := by unfold code_reg.f regB; rw [within_eq]; rfl
def fieldB (a : Int) (b : Bool) : Bool := if a = 0 then (if b = true then regB a else true) else (if b = true then regB a else false)
theorem field_eq (a : Int) (b : Bool) : code_field.f a b = some (fieldB a b) := by
  unfold code_field.f fieldB
  rw [reg_eq]
  by_cases h : a = 0 <;> cases b <;> simp [h]
def shp (a : Int) : Bool × Bool × Bool × Bool × Bool :=
  if a = 1 ∨ a = 6 ∨ a = 7 then (true, false, false, true, true) else if a = 2 then (true, true, true, true, true) else if a = 3 then (true, true, false, false, true) else if a = 4 then (true, true, false, true, true)
  else if a = 5 then (false, true, true, true, true) else if a = 8 then (true, false, false, false, true) else if a = 9 then (false, true, false, false, true) else (false, false, false, false, false)
theorem shape_eq (a : Int) : code_shapeOf.f 1 a = some (shp a) := by
  unfold code_shapeOf.f code_shapeOf.j0 shp
  by_cases h1 : a = 1
  · simp [h1]
  by_cases h6 : a = 6
  · simp [h6]
  by_cases h7 : a = 7
  · simp [h7]
  simp only [h1, h6, h7, if_false, false_or]
  have : (a == 7) = false := beq_false_of_ne h7
  simp only [this, Bool.false_eq_true, if_false]
  repeat' split
  all_goals rfl
def knownB (a : Int) : Bool := wthB a 1 14
theorem known_eq (a : Int) : word_Known.f a = some (knownB a) := by
  unfold word_Known.f knownB wthB
  by_cases h : 1 ≤ a
  · rw [if_pos h]; simp [h]
  · rw [if_neg h]; simp [h]
def immB (x : S60) (s4 : Bool) (funcs : Int) : Bool :=
  if x.f0 = 2 then knownB x.f4 else if x.f0 = 4 ∨ x.f0 = 5 then wthB x.f4 (-2147483648) 2147483647 else if x.f0 = 6 then wthB x.f4 0 1048576 else if x.f0 = 7 then wthB x.f4 0 (wrap64 (funcs - 1)) else s4 || x.f4 == 0
theorem imm_eq (x : S60) (s1 s2 s3 s4 : Bool) (funcs : Int) : code_immediate.f 1 x.f0 x.f1 x.f2 x.f3 x.f4 x.f5 s1 s2 s3 s4 funcs = some (immB x s4 funcs) := by
  unfold code_immediate.f code_immediate.j0 immB
  rw [known_eq]
  simp only [within_eq, Option.bind_some]
  by_cases h2 : x.f0 = 2
  · simp [h2]
  by_cases h4 : x.f0 = 4
  · simp [h4]
  by_cases h5 : x.f0 = 5
  · simp [h5]
  by_cases h6 : x.f0 = 6
  · simp [h6]
  by_cases h7 : x.f0 = 7
  · simp [h7]
  have : (x.f0 == 5) = false := beq_false_of_ne h5
  simp only [h2, h4, h5, h6, h7, if_false, false_or, this, Bool.false_eq_true]
  cases s4 <;> simp
/-- an operation is right -/
def rightOpB (x : S60) (funcs : Int) : Bool :=
  (shp x.f0).2.2.2.2 && fieldB x.f1 (shp x.f0).1 && fieldB x.f2 (shp x.f0).2.1 && fieldB x.f3 (shp x.f0).2.2.1 && immB x (shp x.f0).2.2.2.1 funcs &&
    (if x.f0 = 7 then decide (x.f5.length ≤ 8) && !(x.f5.any fun n => !regB n) else decide (x.f5.length = 0))
theorem not110_calls (n : Int) (w : World) : Calls Try.prog 110 #[.int .i64 n] w fun e w' => e = .returned (.bool (!regB n)) ∧ Drawn0 w w' := by
  go_enter Try.func110, Try.ntmps110
  go_wp2_with (go_at_call 106; (with_reducible refine (code_reg.calls n _ _ (reg_eq n)).mono ?_); rintro e w' ⟨rfl, ⟨nd, rfl⟩⟩)
  go_ret
  exact ⟨rfl, by repeat (first | exact Drawn0.refl _ | apply Drawn0.step)⟩
theorem drawn0_below {w w' : World} (h : Drawn0 w w') (n : Nat) : Below n w w' := by
  obtain ⟨k, rfl⟩ := h
  exact ⟨rfl, rfl, rfl, Nat.le_refl _, fun _ _ => rfl⟩
theorem any_at {p : Int → Bool} {l : List Int} {i : Nat} (h : i < l.length) (hp : p (l[i]) = true) : l.any p = true := List.any_eq_true.2 ⟨_, List.getElem_mem h, hp⟩
theorem idx123_calls (A : Option Addr) (c : Nat) (l : List Int) (w : World) (hC : Kd.C (Kd.int .i64) w A l.length l) (hL : l.length ≤ 1000000) :
    Calls Try.prog 123 #[.slice A l.length c, .func (.func 110) #[] #[]] w fun e w' => ∃ r : Int, e = .returned (.int .i64 r) ∧ (decide (r ≥ 0) = l.any fun n => !regB n) ∧ Below w.heap.size w w' := by
  have hC' := Aside0.mk hC
  clear hC
  go_enter Try.func123, Try.ntmps123
  go_wp2
  go_loopw [8] (fun v8 wr => ∃ (i : Nat), v8 = .int .i64 i ∧ i ≤ l.length ∧ Aside0 (((l.take i).any fun n => !regB n) = false) ∧ Aside0 (Below w.heap.size w wr)) (fun v8 _ => l.length - (RowKit.intOf v8).toNat)
  case atStart => exact ⟨0, rfl, by omega, ⟨rfl⟩, ⟨Below.refl _ _⟩⟩
  case round =>
    obtain ⟨i, rfl, hi, hI, hB⟩ := hrel
    by_cases hlt : i < l.length
    · have hltb : decide ((i : Int) < (l.length : Int)) = true := decide_eq_true (by omega)
      have hp0 : (0 : Int) ≤ (i : Int) := by omega
      have hq0 : (i : Int) < (l.length : Int) := by omega
      obtain ⟨ad, rfl, hc⟩ := Kd.at_int (Kd.C_below hC'.out hB.out) (i : Int) hp0 hq0
      rw [Int.toNat_natCast] at hc
      have hx : Aside0 (l[i] = rd l (i : Int)) := ⟨by unfold rd; simp [List.getD_eq_getElem?_getD, hlt]⟩
      generalize rd l (i : Int) = x at hc hx
      go_wp2_with fail
      refine (not110_calls x wr).mono ?_
      rintro e w2 ⟨rfl, hd⟩
      have hB2 := Aside0.mk (hB.out.trans ((drawn0_below hd _)))
      clear hd hc
      cases hr : regB x with
      | true =>
        go_wp2
        go_roundw
        case rel => exact ⟨i + 1, by go_num, by omega, ⟨by rw [List.take_add_one, List.any_append, hI.out, List.getElem?_eq_getElem hlt, hx.out]; simp [hr]⟩, hB2⟩
        case measure => simp [RowKit.intOf]; omega
      | false =>
        go_wp2
        go_ret
        refine ⟨_, rfl, ?_, hB2.out⟩
        rw [any_at (p := fun n => !regB n) hlt (by rw [hx.out]; simp [hr])]
        exact decide_eq_true (by omega)
    · have hltb : decide ((i : Int) < (l.length : Int)) = false := decide_eq_false (by omega)
      go_wp2
      go_ret
      refine ⟨_, rfl, ?_, hB.out⟩
      have := hI.out
      rw [List.take_of_length_le (by omega)] at this
      rw [this]; rfl
theorem any109_calls (A : Option Addr) (c : Nat) (l : List Int) (w : World) (hC : Kd.C (Kd.int .i64) w A l.length l) (hL : l.length ≤ 1000000) :
    Calls Try.prog 109 #[.slice A l.length c, .func (.func 110) #[] #[]] w fun e w' => e = .returned (.bool (l.any fun n => !regB n)) ∧ Below w.heap.size w w' := by
  have hx := idx123_calls A c l w hC hL
  clear hC
  go_enter Try.func109, Try.ntmps109
  go_wp2_with fail
  refine hx.mono ?_
  clear hx
  rintro e w2 ⟨r, rfl, hr, hB⟩
  have hB' := Aside0.mk hB
  clear hB
  go_wp2
  go_ret
  exact ⟨by rw [← hr]; rfl, hB'.out⟩
end Go.Proofs.Yteeapfmgdlcgfaa.A


namespace Go.Proofs.Yteeapfmgdlcgfaa.A
open Go.RowKit Go.Proofs.YteeapfmgdlcgfaaW.PrintWords Go.Proofs.YteeapfmgdlcgfaaW.PrintLast
set_option linter.unusedVariables false
set_option linter.unusedSimpArgs false

set_option maxRecDepth 100000 in
set_option maxHeartbeats 8000000 in
theorem rightop_calls (x : S60) (A5 : Option Addr) (c5 : Nat) (funcs : Int) (w : World) (hC : Kd.C (Kd.int .i64) w A5 x.f5.length x.f5) (hc : x.f5.length ≤ c5) (hL : x.f5.length ≤ 1000000) :
    Calls Try.prog 79 #[.agg #[.int .i64 x.f0, .int .i64 x.f1, .int .i64 x.f2, .int .i64 x.f3, .int .i64 x.f4, .slice A5 x.f5.length c5], .int .i64 funcs] w fun e w' => e = .returned (.bool (rightOpB x funcs)) ∧ Below w.heap.size w w' := by
  have hu60 := Try.underlying60
  have hu125 := Try.underlying125
  obtain ⟨s1, s2, s3, s4, s5, hs⟩ : ∃ s1 s2 s3 s4 s5, shp x.f0 = (s1, s2, s3, s4, s5) := ⟨_, _, _, _, _, rfl⟩
  have hC' := Aside0.mk hC
  clear hC
  have hf : rightOpB x funcs = (s5 && fieldB x.f1 s1 && fieldB x.f2 s2 && fieldB x.f3 s3 && immB x s4 funcs && (if x.f0 = 7 then decide (x.f5.length ≤ 8) && !(x.f5.any fun n => !regB n) else decide (x.f5.length = 0))) := by
    unfold rightOpB; rw [hs]
  have hf' := Aside0.mk hf
  clear hf
  replace hs := Aside0.mk hs
  have BK1 := Aside0.mk (heap_alloc_new w (.cells #[.int .i64 x.f0, .int .i64 x.f1, .int .i64 x.f2, .int .i64 x.f3, .int .i64 x.f4, .slice A5 x.f5.length c5] 60))
  cases s5 with
  | false =>
    go_enter Try.func79, Try.ntmps79
    go_wp2_with (first
        | (go_at_call 81; refine (code_shapeOf.calls 1 x.f0 s1 s2 s3 s4 _ _ ((shape_eq x.f0).trans (congrArg some hs.out))).mono ?_; rintro e w2 ⟨rfl, hB2⟩; have hs2 : w.heap.size + 1 ≤ w2.heap.size := (by have := hB2.size; simpa using this); have BK3 := Aside0.mk (blk_alloc (blk_below (g := w.heap.size) BK1.out hB2) (.cells #[.bool s1, .bool s2, .bool s3, .bool s4] 125)); have hBw2 := Aside0.mk ((below_alloc (Below.refl w.heap.size w) (.cells #[.int .i64 x.f0, .int .i64 x.f1, .int .i64 x.f2, .int .i64 x.f3, .int .i64 x.f4, .slice A5 x.f5.length c5] 60)).trans (hB2.mono (by simp))); clear hB2; have k0 : (w2.alloc (.cells #[.bool s1, .bool s2, .bool s3, .bool s4] 125)).cell? ⟨w.heap.size, 0, none⟩ = some (.int .i64 x.f0) := (blk_cell BK3.out 0).trans rfl; have k1 : (w2.alloc (.cells #[.bool s1, .bool s2, .bool s3, .bool s4] 125)).cell? ⟨w.heap.size, 1, none⟩ = some (.int .i64 x.f1) := (blk_cell BK3.out 1).trans rfl; have k2 : (w2.alloc (.cells #[.bool s1, .bool s2, .bool s3, .bool s4] 125)).cell? ⟨w.heap.size, 2, none⟩ = some (.int .i64 x.f2) := (blk_cell BK3.out 2).trans rfl; have k3 : (w2.alloc (.cells #[.bool s1, .bool s2, .bool s3, .bool s4] 125)).cell? ⟨w.heap.size, 3, none⟩ = some (.int .i64 x.f3) := (blk_cell BK3.out 3).trans rfl; have k4 : (w2.alloc (.cells #[.bool s1, .bool s2, .bool s3, .bool s4] 125)).cell? ⟨w.heap.size, 4, none⟩ = some (.int .i64 x.f4) := (blk_cell BK3.out 4).trans rfl; have k5 : (w2.alloc (.cells #[.bool s1, .bool s2, .bool s3, .bool s4] 125)).cell? ⟨w.heap.size, 5, none⟩ = some (.slice A5 x.f5.length c5) := (blk_cell BK3.out 5).trans rfl)
        | (go_at_call 107; refine (code_field.calls _ _ _ _ (field_eq _ _)).mono ?_; rintro e w' ⟨rfl, ⟨nd, rfl⟩⟩)
        | (go_at_call 108; refine (code_immediate.calls 1 x.f0 x.f1 x.f2 x.f3 x.f4 A5 c5 x.f5 s1 s2 s3 s4 funcs _ _ (by repeat (first | exact Kd.C_below hC'.out hBw2.out | (with_reducible refine Kd.C_alloc ?_ _) | (with_reducible refine Kd.C_drewN ?_ _) | (with_reducible refine Kd.C_drew ?_))) hc (imm_eq x s1 s2 s3 s4 funcs)).mono ?_; rintro e w4 ⟨rfl, hB4⟩; have BK4 := Aside0.mk (blk_below (g := w.heap.size) (by (with_reducible repeat (first | refine blk_drewN ?_ _ | refine blk_drew ?_ | refine blk_alloc ?_ _)); exact BK3.out) hB4); have hBw4 := Aside0.mk (below_step (by repeat (first | (with_reducible first | exact hBw2.out | apply below_alloc | apply pw_below_drewN | apply below_drew1) | exact hBw2.out)) hB4); clear hB4; have j0 : w4.cell? ⟨w.heap.size, 0, none⟩ = some (.int .i64 x.f0) := (blk_cell BK4.out 0).trans rfl; have j5 : w4.cell? ⟨w.heap.size, 5, none⟩ = some (.slice A5 x.f5.length c5) := (blk_cell BK4.out 5).trans rfl)
        | (go_at_call 109; refine (any109_calls A5 c5 x.f5 _ (Kd.C_below hC'.out hBw4.out) hL).mono ?_; rintro e w5 ⟨rfl, hB5⟩; have hBw5 := Aside0.mk (below_step hBw4.out hB5); clear hB5))
    go_ret
    refine ⟨by rw [hf'.out]; simp [*], ?_⟩
    first
      | exact hBw5.out
      | exact hBw4.out
      | (repeat (first | (with_reducible first | exact hBw2.out | apply below_alloc | apply pw_below_drewN | apply below_drew1) | exact hBw2.out))
  | true =>
    cases h1 : fieldB x.f1 s1 with
    | false =>
      go_enter Try.func79, Try.ntmps79
      go_wp2_with (first
          | (go_at_call 81; refine (code_shapeOf.calls 1 x.f0 s1 s2 s3 s4 _ _ ((shape_eq x.f0).trans (congrArg some hs.out))).mono ?_; rintro e w2 ⟨rfl, hB2⟩; have hs2 : w.heap.size + 1 ≤ w2.heap.size := (by have := hB2.size; simpa using this); have BK3 := Aside0.mk (blk_alloc (blk_below (g := w.heap.size) BK1.out hB2) (.cells #[.bool s1, .bool s2, .bool s3, .bool s4] 125)); have hBw2 := Aside0.mk ((below_alloc (Below.refl w.heap.size w) (.cells #[.int .i64 x.f0, .int .i64 x.f1, .int .i64 x.f2, .int .i64 x.f3, .int .i64 x.f4, .slice A5 x.f5.length c5] 60)).trans (hB2.mono (by simp))); clear hB2; have k0 : (w2.alloc (.cells #[.bool s1, .bool s2, .bool s3, .bool s4] 125)).cell? ⟨w.heap.size, 0, none⟩ = some (.int .i64 x.f0) := (blk_cell BK3.out 0).trans rfl; have k1 : (w2.alloc (.cells #[.bool s1, .bool s2, .bool s3, .bool s4] 125)).cell? ⟨w.heap.size, 1, none⟩ = some (.int .i64 x.f1) := (blk_cell BK3.out 1).trans rfl; have k2 : (w2.alloc (.cells #[.bool s1, .bool s2, .bool s3, .bool s4] 125)).cell? ⟨w.heap.size, 2, none⟩ = some (.int .i64 x.f2) := (blk_cell BK3.out 2).trans rfl; have k3 : (w2.alloc (.cells #[.bool s1, .bool s2, .bool s3, .bool s4] 125)).cell? ⟨w.heap.size, 3, none⟩ = some (.int .i64 x.f3) := (blk_cell BK3.out 3).trans rfl; have k4 : (w2.alloc (.cells #[.bool s1, .bool s2, .bool s3, .bool s4] 125)).cell? ⟨w.heap.size, 4, none⟩ = some (.int .i64 x.f4) := (blk_cell BK3.out 4).trans rfl; have k5 : (w2.alloc (.cells #[.bool s1, .bool s2, .bool s3, .bool s4] 125)).cell? ⟨w.heap.size, 5, none⟩ = some (.slice A5 x.f5.length c5) := (blk_cell BK3.out 5).trans rfl)
          | (go_at_call 107; refine (code_field.calls _ _ _ _ (field_eq _ _)).mono ?_; rintro e w' ⟨rfl, ⟨nd, rfl⟩⟩)
          | (go_at_call 108; refine (code_immediate.calls 1 x.f0 x.f1 x.f2 x.f3 x.f4 A5 c5 x.f5 s1 s2 s3 s4 funcs _ _ (by repeat (first | exact Kd.C_below hC'.out hBw2.out | (with_reducible refine Kd.C_alloc ?_ _) | (with_reducible refine Kd.C_drewN ?_ _) | (with_reducible refine Kd.C_drew ?_))) hc (imm_eq x s1 s2 s3 s4 funcs)).mono ?_; rintro e w4 ⟨rfl, hB4⟩; have BK4 := Aside0.mk (blk_below (g := w.heap.size) (by (with_reducible repeat (first | refine blk_drewN ?_ _ | refine blk_drew ?_ | refine blk_alloc ?_ _)); exact BK3.out) hB4); have hBw4 := Aside0.mk (below_step (by repeat (first | (with_reducible first | exact hBw2.out | apply below_alloc | apply pw_below_drewN | apply below_drew1) | exact hBw2.out)) hB4); clear hB4; have j0 : w4.cell? ⟨w.heap.size, 0, none⟩ = some (.int .i64 x.f0) := (blk_cell BK4.out 0).trans rfl; have j5 : w4.cell? ⟨w.heap.size, 5, none⟩ = some (.slice A5 x.f5.length c5) := (blk_cell BK4.out 5).trans rfl)
          | (go_at_call 109; refine (any109_calls A5 c5 x.f5 _ (Kd.C_below hC'.out hBw4.out) hL).mono ?_; rintro e w5 ⟨rfl, hB5⟩; have hBw5 := Aside0.mk (below_step hBw4.out hB5); clear hB5))
      go_ret
      refine ⟨by rw [hf'.out]; simp [*], ?_⟩
      first
        | exact hBw5.out
        | exact hBw4.out
        | (repeat (first | (with_reducible first | exact hBw2.out | apply below_alloc | apply pw_below_drewN | apply below_drew1) | exact hBw2.out))
    | true =>
      cases h2 : fieldB x.f2 s2 with
      | false =>
        go_enter Try.func79, Try.ntmps79
        go_wp2_with (first
            | (go_at_call 81; refine (code_shapeOf.calls 1 x.f0 s1 s2 s3 s4 _ _ ((shape_eq x.f0).trans (congrArg some hs.out))).mono ?_; rintro e w2 ⟨rfl, hB2⟩; have hs2 : w.heap.size + 1 ≤ w2.heap.size := (by have := hB2.size; simpa using this); have BK3 := Aside0.mk (blk_alloc (blk_below (g := w.heap.size) BK1.out hB2) (.cells #[.bool s1, .bool s2, .bool s3, .bool s4] 125)); have hBw2 := Aside0.mk ((below_alloc (Below.refl w.heap.size w) (.cells #[.int .i64 x.f0, .int .i64 x.f1, .int .i64 x.f2, .int .i64 x.f3, .int .i64 x.f4, .slice A5 x.f5.length c5] 60)).trans (hB2.mono (by simp))); clear hB2; have k0 : (w2.alloc (.cells #[.bool s1, .bool s2, .bool s3, .bool s4] 125)).cell? ⟨w.heap.size, 0, none⟩ = some (.int .i64 x.f0) := (blk_cell BK3.out 0).trans rfl; have k1 : (w2.alloc (.cells #[.bool s1, .bool s2, .bool s3, .bool s4] 125)).cell? ⟨w.heap.size, 1, none⟩ = some (.int .i64 x.f1) := (blk_cell BK3.out 1).trans rfl; have k2 : (w2.alloc (.cells #[.bool s1, .bool s2, .bool s3, .bool s4] 125)).cell? ⟨w.heap.size, 2, none⟩ = some (.int .i64 x.f2) := (blk_cell BK3.out 2).trans rfl; have k3 : (w2.alloc (.cells #[.bool s1, .bool s2, .bool s3, .bool s4] 125)).cell? ⟨w.heap.size, 3, none⟩ = some (.int .i64 x.f3) := (blk_cell BK3.out 3).trans rfl; have k4 : (w2.alloc (.cells #[.bool s1, .bool s2, .bool s3, .bool s4] 125)).cell? ⟨w.heap.size, 4, none⟩ = some (.int .i64 x.f4) := (blk_cell BK3.out 4).trans rfl; have k5 : (w2.alloc (.cells #[.bool s1, .bool s2, .bool s3, .bool s4] 125)).cell? ⟨w.heap.size, 5, none⟩ = some (.slice A5 x.f5.length c5) := (blk_cell BK3.out 5).trans rfl)
            | (go_at_call 107; refine (code_field.calls _ _ _ _ (field_eq _ _)).mono ?_; rintro e w' ⟨rfl, ⟨nd, rfl⟩⟩)
            | (go_at_call 108; refine (code_immediate.calls 1 x.f0 x.f1 x.f2 x.f3 x.f4 A5 c5 x.f5 s1 s2 s3 s4 funcs _ _ (by repeat (first | exact Kd.C_below hC'.out hBw2.out | (with_reducible refine Kd.C_alloc ?_ _) | (with_reducible refine Kd.C_drewN ?_ _) | (with_reducible refine Kd.C_drew ?_))) hc (imm_eq x s1 s2 s3 s4 funcs)).mono ?_; rintro e w4 ⟨rfl, hB4⟩; have BK4 := Aside0.mk (blk_below (g := w.heap.size) (by (with_reducible repeat (first | refine blk_drewN ?_ _ | refine blk_drew ?_ | refine blk_alloc ?_ _)); exact BK3.out) hB4); have hBw4 := Aside0.mk (below_step (by repeat (first | (with_reducible first | exact hBw2.out | apply below_alloc | apply pw_below_drewN | apply below_drew1) | exact hBw2.out)) hB4); clear hB4; have j0 : w4.cell? ⟨w.heap.size, 0, none⟩ = some (.int .i64 x.f0) := (blk_cell BK4.out 0).trans rfl; have j5 : w4.cell? ⟨w.heap.size, 5, none⟩ = some (.slice A5 x.f5.length c5) := (blk_cell BK4.out 5).trans rfl)
            | (go_at_call 109; refine (any109_calls A5 c5 x.f5 _ (Kd.C_below hC'.out hBw4.out) hL).mono ?_; rintro e w5 ⟨rfl, hB5⟩; have hBw5 := Aside0.mk (below_step hBw4.out hB5); clear hB5))
        go_ret
        refine ⟨by rw [hf'.out]; simp [*], ?_⟩
        first
          | exact hBw5.out
          | exact hBw4.out
          | (repeat (first | (with_reducible first | exact hBw2.out | apply below_alloc | apply pw_below_drewN | apply below_drew1) | exact hBw2.out))
      | true =>
        cases h3 : fieldB x.f3 s3 with
        | false =>
          go_enter Try.func79, Try.ntmps79
          go_wp2_with (first
              | (go_at_call 81; refine (code_shapeOf.calls 1 x.f0 s1 s2 s3 s4 _ _ ((shape_eq x.f0).trans (congrArg some hs.out))).mono ?_; rintro e w2 ⟨rfl, hB2⟩; have hs2 : w.heap.size + 1 ≤ w2.heap.size := (by have := hB2.size; simpa using this); have BK3 := Aside0.mk (blk_alloc (blk_below (g := w.heap.size) BK1.out hB2) (.cells #[.bool s1, .bool s2, .bool s3, .bool s4] 125)); have hBw2 := Aside0.mk ((below_alloc (Below.refl w.heap.size w) (.cells #[.int .i64 x.f0, .int .i64 x.f1, .int .i64 x.f2, .int .i64 x.f3, .int .i64 x.f4, .slice A5 x.f5.length c5] 60)).trans (hB2.mono (by simp))); clear hB2; have k0 : (w2.alloc (.cells #[.bool s1, .bool s2, .bool s3, .bool s4] 125)).cell? ⟨w.heap.size, 0, none⟩ = some (.int .i64 x.f0) := (blk_cell BK3.out 0).trans rfl; have k1 : (w2.alloc (.cells #[.bool s1, .bool s2, .bool s3, .bool s4] 125)).cell? ⟨w.heap.size, 1, none⟩ = some (.int .i64 x.f1) := (blk_cell BK3.out 1).trans rfl; have k2 : (w2.alloc (.cells #[.bool s1, .bool s2, .bool s3, .bool s4] 125)).cell? ⟨w.heap.size, 2, none⟩ = some (.int .i64 x.f2) := (blk_cell BK3.out 2).trans rfl; have k3 : (w2.alloc (.cells #[.bool s1, .bool s2, .bool s3, .bool s4] 125)).cell? ⟨w.heap.size, 3, none⟩ = some (.int .i64 x.f3) := (blk_cell BK3.out 3).trans rfl; have k4 : (w2.alloc (.cells #[.bool s1, .bool s2, .bool s3, .bool s4] 125)).cell? ⟨w.heap.size, 4, none⟩ = some (.int .i64 x.f4) := (blk_cell BK3.out 4).trans rfl; have k5 : (w2.alloc (.cells #[.bool s1, .bool s2, .bool s3, .bool s4] 125)).cell? ⟨w.heap.size, 5, none⟩ = some (.slice A5 x.f5.length c5) := (blk_cell BK3.out 5).trans rfl)
              | (go_at_call 107; refine (code_field.calls _ _ _ _ (field_eq _ _)).mono ?_; rintro e w' ⟨rfl, ⟨nd, rfl⟩⟩)
              | (go_at_call 108; refine (code_immediate.calls 1 x.f0 x.f1 x.f2 x.f3 x.f4 A5 c5 x.f5 s1 s2 s3 s4 funcs _ _ (by repeat (first | exact Kd.C_below hC'.out hBw2.out | (with_reducible refine Kd.C_alloc ?_ _) | (with_reducible refine Kd.C_drewN ?_ _) | (with_reducible refine Kd.C_drew ?_))) hc (imm_eq x s1 s2 s3 s4 funcs)).mono ?_; rintro e w4 ⟨rfl, hB4⟩; have BK4 := Aside0.mk (blk_below (g := w.heap.size) (by (with_reducible repeat (first | refine blk_drewN ?_ _ | refine blk_drew ?_ | refine blk_alloc ?_ _)); exact BK3.out) hB4); have hBw4 := Aside0.mk (below_step (by repeat (first | (with_reducible first | exact hBw2.out | apply below_alloc | apply pw_below_drewN | apply below_drew1) | exact hBw2.out)) hB4); clear hB4; have j0 : w4.cell? ⟨w.heap.size, 0, none⟩ = some (.int .i64 x.f0) := (blk_cell BK4.out 0).trans rfl; have j5 : w4.cell? ⟨w.heap.size, 5, none⟩ = some (.slice A5 x.f5.length c5) := (blk_cell BK4.out 5).trans rfl)
              | (go_at_call 109; refine (any109_calls A5 c5 x.f5 _ (Kd.C_below hC'.out hBw4.out) hL).mono ?_; rintro e w5 ⟨rfl, hB5⟩; have hBw5 := Aside0.mk (below_step hBw4.out hB5); clear hB5))
          go_ret
          refine ⟨by rw [hf'.out]; simp [*], ?_⟩
          first
            | exact hBw5.out
            | exact hBw4.out
            | (repeat (first | (with_reducible first | exact hBw2.out | apply below_alloc | apply pw_below_drewN | apply below_drew1) | exact hBw2.out))
        | true =>
          cases h4 : immB x s4 funcs with
          | false =>
            go_enter Try.func79, Try.ntmps79
            go_wp2_with (first
                | (go_at_call 81; refine (code_shapeOf.calls 1 x.f0 s1 s2 s3 s4 _ _ ((shape_eq x.f0).trans (congrArg some hs.out))).mono ?_; rintro e w2 ⟨rfl, hB2⟩; have hs2 : w.heap.size + 1 ≤ w2.heap.size := (by have := hB2.size; simpa using this); have BK3 := Aside0.mk (blk_alloc (blk_below (g := w.heap.size) BK1.out hB2) (.cells #[.bool s1, .bool s2, .bool s3, .bool s4] 125)); have hBw2 := Aside0.mk ((below_alloc (Below.refl w.heap.size w) (.cells #[.int .i64 x.f0, .int .i64 x.f1, .int .i64 x.f2, .int .i64 x.f3, .int .i64 x.f4, .slice A5 x.f5.length c5] 60)).trans (hB2.mono (by simp))); clear hB2; have k0 : (w2.alloc (.cells #[.bool s1, .bool s2, .bool s3, .bool s4] 125)).cell? ⟨w.heap.size, 0, none⟩ = some (.int .i64 x.f0) := (blk_cell BK3.out 0).trans rfl; have k1 : (w2.alloc (.cells #[.bool s1, .bool s2, .bool s3, .bool s4] 125)).cell? ⟨w.heap.size, 1, none⟩ = some (.int .i64 x.f1) := (blk_cell BK3.out 1).trans rfl; have k2 : (w2.alloc (.cells #[.bool s1, .bool s2, .bool s3, .bool s4] 125)).cell? ⟨w.heap.size, 2, none⟩ = some (.int .i64 x.f2) := (blk_cell BK3.out 2).trans rfl; have k3 : (w2.alloc (.cells #[.bool s1, .bool s2, .bool s3, .bool s4] 125)).cell? ⟨w.heap.size, 3, none⟩ = some (.int .i64 x.f3) := (blk_cell BK3.out 3).trans rfl; have k4 : (w2.alloc (.cells #[.bool s1, .bool s2, .bool s3, .bool s4] 125)).cell? ⟨w.heap.size, 4, none⟩ = some (.int .i64 x.f4) := (blk_cell BK3.out 4).trans rfl; have k5 : (w2.alloc (.cells #[.bool s1, .bool s2, .bool s3, .bool s4] 125)).cell? ⟨w.heap.size, 5, none⟩ = some (.slice A5 x.f5.length c5) := (blk_cell BK3.out 5).trans rfl)
                | (go_at_call 107; refine (code_field.calls _ _ _ _ (field_eq _ _)).mono ?_; rintro e w' ⟨rfl, ⟨nd, rfl⟩⟩)
                | (go_at_call 108; refine (code_immediate.calls 1 x.f0 x.f1 x.f2 x.f3 x.f4 A5 c5 x.f5 s1 s2 s3 s4 funcs _ _ (by repeat (first | exact Kd.C_below hC'.out hBw2.out | (with_reducible refine Kd.C_alloc ?_ _) | (with_reducible refine Kd.C_drewN ?_ _) | (with_reducible refine Kd.C_drew ?_))) hc (imm_eq x s1 s2 s3 s4 funcs)).mono ?_; rintro e w4 ⟨rfl, hB4⟩; have BK4 := Aside0.mk (blk_below (g := w.heap.size) (by (with_reducible repeat (first | refine blk_drewN ?_ _ | refine blk_drew ?_ | refine blk_alloc ?_ _)); exact BK3.out) hB4); have hBw4 := Aside0.mk (below_step (by repeat (first | (with_reducible first | exact hBw2.out | apply below_alloc | apply pw_below_drewN | apply below_drew1) | exact hBw2.out)) hB4); clear hB4; have j0 : w4.cell? ⟨w.heap.size, 0, none⟩ = some (.int .i64 x.f0) := (blk_cell BK4.out 0).trans rfl; have j5 : w4.cell? ⟨w.heap.size, 5, none⟩ = some (.slice A5 x.f5.length c5) := (blk_cell BK4.out 5).trans rfl)
                | (go_at_call 109; refine (any109_calls A5 c5 x.f5 _ (Kd.C_below hC'.out hBw4.out) hL).mono ?_; rintro e w5 ⟨rfl, hB5⟩; have hBw5 := Aside0.mk (below_step hBw4.out hB5); clear hB5))
            go_ret
            refine ⟨by rw [hf'.out]; simp [*], ?_⟩
            first
              | exact hBw5.out
              | exact hBw4.out
              | (repeat (first | (with_reducible first | exact hBw2.out | apply below_alloc | apply pw_below_drewN | apply below_drew1) | exact hBw2.out))
          | true =>
            by_cases c7 : x.f0 = 7
            · have c7b : (x.f0 != 7) = false := by simp [c7]
              by_cases c8 : x.f5.length ≤ 8
              · have c8b : decide ((x.f5.length : Int) ≤ 8) = true := decide_eq_true (by omega)
                have c8' := Aside0.mk c8
                have c7' := Aside0.mk c7
                clear c7 c8
                go_enter Try.func79, Try.ntmps79
                go_wp2_with (first
                  | (go_at_call 81; refine (code_shapeOf.calls 1 x.f0 s1 s2 s3 s4 _ _ ((shape_eq x.f0).trans (congrArg some hs.out))).mono ?_; rintro e w2 ⟨rfl, hB2⟩; have hs2 : w.heap.size + 1 ≤ w2.heap.size := (by have := hB2.size; simpa using this); have BK3 := Aside0.mk (blk_alloc (blk_below (g := w.heap.size) BK1.out hB2) (.cells #[.bool s1, .bool s2, .bool s3, .bool s4] 125)); have hBw2 := Aside0.mk ((below_alloc (Below.refl w.heap.size w) (.cells #[.int .i64 x.f0, .int .i64 x.f1, .int .i64 x.f2, .int .i64 x.f3, .int .i64 x.f4, .slice A5 x.f5.length c5] 60)).trans (hB2.mono (by simp))); clear hB2; have k0 : (w2.alloc (.cells #[.bool s1, .bool s2, .bool s3, .bool s4] 125)).cell? ⟨w.heap.size, 0, none⟩ = some (.int .i64 x.f0) := (blk_cell BK3.out 0).trans rfl; have k1 : (w2.alloc (.cells #[.bool s1, .bool s2, .bool s3, .bool s4] 125)).cell? ⟨w.heap.size, 1, none⟩ = some (.int .i64 x.f1) := (blk_cell BK3.out 1).trans rfl; have k2 : (w2.alloc (.cells #[.bool s1, .bool s2, .bool s3, .bool s4] 125)).cell? ⟨w.heap.size, 2, none⟩ = some (.int .i64 x.f2) := (blk_cell BK3.out 2).trans rfl; have k3 : (w2.alloc (.cells #[.bool s1, .bool s2, .bool s3, .bool s4] 125)).cell? ⟨w.heap.size, 3, none⟩ = some (.int .i64 x.f3) := (blk_cell BK3.out 3).trans rfl; have k4 : (w2.alloc (.cells #[.bool s1, .bool s2, .bool s3, .bool s4] 125)).cell? ⟨w.heap.size, 4, none⟩ = some (.int .i64 x.f4) := (blk_cell BK3.out 4).trans rfl; have k5 : (w2.alloc (.cells #[.bool s1, .bool s2, .bool s3, .bool s4] 125)).cell? ⟨w.heap.size, 5, none⟩ = some (.slice A5 x.f5.length c5) := (blk_cell BK3.out 5).trans rfl)
                  | (go_at_call 107; refine (code_field.calls _ _ _ _ (field_eq _ _)).mono ?_; rintro e w' ⟨rfl, ⟨nd, rfl⟩⟩)
                  | (go_at_call 108; refine (code_immediate.calls 1 x.f0 x.f1 x.f2 x.f3 x.f4 A5 c5 x.f5 s1 s2 s3 s4 funcs _ _ (by repeat (first | exact Kd.C_below hC'.out hBw2.out | (with_reducible refine Kd.C_alloc ?_ _) | (with_reducible refine Kd.C_drewN ?_ _) | (with_reducible refine Kd.C_drew ?_))) hc (imm_eq x s1 s2 s3 s4 funcs)).mono ?_; rintro e w4 ⟨rfl, hB4⟩; have BK4 := Aside0.mk (blk_below (g := w.heap.size) (by (with_reducible repeat (first | refine blk_drewN ?_ _ | refine blk_drew ?_ | refine blk_alloc ?_ _)); exact BK3.out) hB4); have hBw4 := Aside0.mk (below_step (by repeat (first | (with_reducible first | exact hBw2.out | apply below_alloc | apply pw_below_drewN | apply below_drew1) | exact hBw2.out)) hB4); clear hB4; have j0 : w4.cell? ⟨w.heap.size, 0, none⟩ = some (.int .i64 x.f0) := (blk_cell BK4.out 0).trans rfl; have j5 : w4.cell? ⟨w.heap.size, 5, none⟩ = some (.slice A5 x.f5.length c5) := (blk_cell BK4.out 5).trans rfl)
                  | (go_at_call 109; refine (any109_calls A5 c5 x.f5 _ (Kd.C_below hC'.out hBw4.out) hL).mono ?_; rintro e w5 ⟨rfl, hB5⟩; have hBw5 := Aside0.mk (below_step hBw4.out hB5); clear hB5))
                go_ret
                refine ⟨?_, hBw5.out⟩
                rw [hf'.out, h1, h2, h3, h4, if_pos c7'.out, decide_eq_true c8'.out]
                rfl
              · have c8b : decide ((x.f5.length : Int) ≤ 8) = false := decide_eq_false (by omega)
                have c8' := Aside0.mk c8
                have c7' := Aside0.mk c7
                clear c7 c8
                go_enter Try.func79, Try.ntmps79
                go_wp2_with (first
                  | (go_at_call 81; refine (code_shapeOf.calls 1 x.f0 s1 s2 s3 s4 _ _ ((shape_eq x.f0).trans (congrArg some hs.out))).mono ?_; rintro e w2 ⟨rfl, hB2⟩; have hs2 : w.heap.size + 1 ≤ w2.heap.size := (by have := hB2.size; simpa using this); have BK3 := Aside0.mk (blk_alloc (blk_below (g := w.heap.size) BK1.out hB2) (.cells #[.bool s1, .bool s2, .bool s3, .bool s4] 125)); have hBw2 := Aside0.mk ((below_alloc (Below.refl w.heap.size w) (.cells #[.int .i64 x.f0, .int .i64 x.f1, .int .i64 x.f2, .int .i64 x.f3, .int .i64 x.f4, .slice A5 x.f5.length c5] 60)).trans (hB2.mono (by simp))); clear hB2; have k0 : (w2.alloc (.cells #[.bool s1, .bool s2, .bool s3, .bool s4] 125)).cell? ⟨w.heap.size, 0, none⟩ = some (.int .i64 x.f0) := (blk_cell BK3.out 0).trans rfl; have k1 : (w2.alloc (.cells #[.bool s1, .bool s2, .bool s3, .bool s4] 125)).cell? ⟨w.heap.size, 1, none⟩ = some (.int .i64 x.f1) := (blk_cell BK3.out 1).trans rfl; have k2 : (w2.alloc (.cells #[.bool s1, .bool s2, .bool s3, .bool s4] 125)).cell? ⟨w.heap.size, 2, none⟩ = some (.int .i64 x.f2) := (blk_cell BK3.out 2).trans rfl; have k3 : (w2.alloc (.cells #[.bool s1, .bool s2, .bool s3, .bool s4] 125)).cell? ⟨w.heap.size, 3, none⟩ = some (.int .i64 x.f3) := (blk_cell BK3.out 3).trans rfl; have k4 : (w2.alloc (.cells #[.bool s1, .bool s2, .bool s3, .bool s4] 125)).cell? ⟨w.heap.size, 4, none⟩ = some (.int .i64 x.f4) := (blk_cell BK3.out 4).trans rfl; have k5 : (w2.alloc (.cells #[.bool s1, .bool s2, .bool s3, .bool s4] 125)).cell? ⟨w.heap.size, 5, none⟩ = some (.slice A5 x.f5.length c5) := (blk_cell BK3.out 5).trans rfl)
                  | (go_at_call 107; refine (code_field.calls _ _ _ _ (field_eq _ _)).mono ?_; rintro e w' ⟨rfl, ⟨nd, rfl⟩⟩)
                  | (go_at_call 108; refine (code_immediate.calls 1 x.f0 x.f1 x.f2 x.f3 x.f4 A5 c5 x.f5 s1 s2 s3 s4 funcs _ _ (by repeat (first | exact Kd.C_below hC'.out hBw2.out | (with_reducible refine Kd.C_alloc ?_ _) | (with_reducible refine Kd.C_drewN ?_ _) | (with_reducible refine Kd.C_drew ?_))) hc (imm_eq x s1 s2 s3 s4 funcs)).mono ?_; rintro e w4 ⟨rfl, hB4⟩; have BK4 := Aside0.mk (blk_below (g := w.heap.size) (by (with_reducible repeat (first | refine blk_drewN ?_ _ | refine blk_drew ?_ | refine blk_alloc ?_ _)); exact BK3.out) hB4); have hBw4 := Aside0.mk (below_step (by repeat (first | (with_reducible first | exact hBw2.out | apply below_alloc | apply pw_below_drewN | apply below_drew1) | exact hBw2.out)) hB4); clear hB4; have j0 : w4.cell? ⟨w.heap.size, 0, none⟩ = some (.int .i64 x.f0) := (blk_cell BK4.out 0).trans rfl; have j5 : w4.cell? ⟨w.heap.size, 5, none⟩ = some (.slice A5 x.f5.length c5) := (blk_cell BK4.out 5).trans rfl)
                  | (go_at_call 109; refine (any109_calls A5 c5 x.f5 _ (Kd.C_below hC'.out hBw4.out) hL).mono ?_; rintro e w5 ⟨rfl, hB5⟩; have hBw5 := Aside0.mk (below_step hBw4.out hB5); clear hB5))
                go_ret
                refine ⟨?_, hBw4.out⟩
                rw [hf'.out, h1, h2, h3, h4, if_pos c7'.out, decide_eq_false c8'.out]
                rfl
            · have c7b : (x.f0 != 7) = true := bne_iff_ne.2 c7
              have c7' := Aside0.mk c7
              clear c7
              go_enter Try.func79, Try.ntmps79
              go_wp2_with (first
                  | (go_at_call 81; refine (code_shapeOf.calls 1 x.f0 s1 s2 s3 s4 _ _ ((shape_eq x.f0).trans (congrArg some hs.out))).mono ?_; rintro e w2 ⟨rfl, hB2⟩; have hs2 : w.heap.size + 1 ≤ w2.heap.size := (by have := hB2.size; simpa using this); have BK3 := Aside0.mk (blk_alloc (blk_below (g := w.heap.size) BK1.out hB2) (.cells #[.bool s1, .bool s2, .bool s3, .bool s4] 125)); have hBw2 := Aside0.mk ((below_alloc (Below.refl w.heap.size w) (.cells #[.int .i64 x.f0, .int .i64 x.f1, .int .i64 x.f2, .int .i64 x.f3, .int .i64 x.f4, .slice A5 x.f5.length c5] 60)).trans (hB2.mono (by simp))); clear hB2; have k0 : (w2.alloc (.cells #[.bool s1, .bool s2, .bool s3, .bool s4] 125)).cell? ⟨w.heap.size, 0, none⟩ = some (.int .i64 x.f0) := (blk_cell BK3.out 0).trans rfl; have k1 : (w2.alloc (.cells #[.bool s1, .bool s2, .bool s3, .bool s4] 125)).cell? ⟨w.heap.size, 1, none⟩ = some (.int .i64 x.f1) := (blk_cell BK3.out 1).trans rfl; have k2 : (w2.alloc (.cells #[.bool s1, .bool s2, .bool s3, .bool s4] 125)).cell? ⟨w.heap.size, 2, none⟩ = some (.int .i64 x.f2) := (blk_cell BK3.out 2).trans rfl; have k3 : (w2.alloc (.cells #[.bool s1, .bool s2, .bool s3, .bool s4] 125)).cell? ⟨w.heap.size, 3, none⟩ = some (.int .i64 x.f3) := (blk_cell BK3.out 3).trans rfl; have k4 : (w2.alloc (.cells #[.bool s1, .bool s2, .bool s3, .bool s4] 125)).cell? ⟨w.heap.size, 4, none⟩ = some (.int .i64 x.f4) := (blk_cell BK3.out 4).trans rfl; have k5 : (w2.alloc (.cells #[.bool s1, .bool s2, .bool s3, .bool s4] 125)).cell? ⟨w.heap.size, 5, none⟩ = some (.slice A5 x.f5.length c5) := (blk_cell BK3.out 5).trans rfl)
                  | (go_at_call 107; refine (code_field.calls _ _ _ _ (field_eq _ _)).mono ?_; rintro e w' ⟨rfl, ⟨nd, rfl⟩⟩)
                  | (go_at_call 108; refine (code_immediate.calls 1 x.f0 x.f1 x.f2 x.f3 x.f4 A5 c5 x.f5 s1 s2 s3 s4 funcs _ _ (by repeat (first | exact Kd.C_below hC'.out hBw2.out | (with_reducible refine Kd.C_alloc ?_ _) | (with_reducible refine Kd.C_drewN ?_ _) | (with_reducible refine Kd.C_drew ?_))) hc (imm_eq x s1 s2 s3 s4 funcs)).mono ?_; rintro e w4 ⟨rfl, hB4⟩; have BK4 := Aside0.mk (blk_below (g := w.heap.size) (by (with_reducible repeat (first | refine blk_drewN ?_ _ | refine blk_drew ?_ | refine blk_alloc ?_ _)); exact BK3.out) hB4); have hBw4 := Aside0.mk (below_step (by repeat (first | (with_reducible first | exact hBw2.out | apply below_alloc | apply pw_below_drewN | apply below_drew1) | exact hBw2.out)) hB4); clear hB4; have j0 : w4.cell? ⟨w.heap.size, 0, none⟩ = some (.int .i64 x.f0) := (blk_cell BK4.out 0).trans rfl; have j5 : w4.cell? ⟨w.heap.size, 5, none⟩ = some (.slice A5 x.f5.length c5) := (blk_cell BK4.out 5).trans rfl)
                  | (go_at_call 109; refine (any109_calls A5 c5 x.f5 _ (Kd.C_below hC'.out hBw4.out) hL).mono ?_; rintro e w5 ⟨rfl, hB5⟩; have hBw5 := Aside0.mk (below_step hBw4.out hB5); clear hB5))
              go_ret
              refine ⟨?_, hBw4.out⟩
              rw [hf'.out, h1, h2, h3, h4, if_neg c7'.out]
              by_cases h0 : x.f5.length = 0
              · have : ((x.f5.length : Int) == 0) = true := by simp [h0]
                simp [h0]
              · have : ((x.f5.length : Int) == 0) = false := beq_false_of_ne (by omega)
                simp [this, h0]
end Go.Proofs.Yteeapfmgdlcgfaa.A


namespace Go.Proofs.Yteeapfmgdlcgfaa.A
open Go.RowKit Go.Proofs.YteeapfmgdlcgfaaW.PrintWords Go.Proofs.YteeapfmgdlcgfaaW.PrintLast
set_option linter.unusedVariables false
set_option linter.unusedSimpArgs false

theorem eq55 (a b c d a' b' c' d' : Int) (W : World) : (Op.equalIn 10000 55 (.agg #[.int .i64 a, .int .i64 b, .int .i64 c, .int .i64 d]) (.agg #[.int .i64 a', .int .i64 b', .int .i64 c', .int .i64 d'])).run Try.prog W = .ok (a == a' && (b == b' && (c == c' && d == d'))) W := by
  have hu3 := Try.underlying3
  refine eqA_of Try.underlying55 (by kernel_rfl) ?_
  refine eqf_cons (a := .int .i64 a) (b := .int .i64 a') rfl ?_ ?_ (run_equalIn_int _ _ _ _ _ _ _ hu3) ?_
  · go_simp
  · go_simp
  refine eqf_cons (a := .int .i64 b) (b := .int .i64 b') rfl ?_ ?_ (run_equalIn_int _ _ _ _ _ _ _ hu3) ?_
  · go_simp
  · go_simp
  refine eqf_cons (a := .int .i64 c) (b := .int .i64 c') rfl ?_ ?_ (run_equalIn_int _ _ _ _ _ _ _ hu3) ?_
  · go_simp
  · go_simp
  refine eqf_last (a := .int .i64 d) (b := .int .i64 d') rfl ?_ ?_ (run_equalIn_int _ _ _ _ _ _ _ hu3)
  · go_simp
  · go_simp
def blockB (n blocks : Int) : Bool := wthB n 0 (wrap64 (blocks - 1))
theorem block105_calls (n blocks : Int) (g : Nat) (w : World) (hc : w.cell? ⟨g, 0, none⟩ = some (.int .i64 blocks)) : Calls Try.prog 105 #[.int .i64 n, .pointer (some ⟨g, 0, none⟩)] w fun e w' => e = .returned (.bool (blockB n blocks)) ∧ Drawn0 w w' := by
  go_enter Try.func105, Try.ntmps105
  go_wp2_with (go_at_call 54; (with_reducible refine (code_within.calls n 0 (wrap64 (blocks - 1)) _ _ (within_eq _ _ _)).mono ?_); rintro e w' ⟨rfl, ⟨nd, rfl⟩⟩)
  go_ret
  exact ⟨rfl, by repeat (first | exact Drawn0.refl _ | apply Drawn0.step)⟩
/-- a block's end is right -/
def rightTermB (t : S55) (blocks : Int) : Bool :=
  if t.f0 = 1 then blockB t.f2 blocks && (t.f1 == 0 && t.f3 == 0) else if t.f0 = 2 then blockB t.f2 blocks && blockB t.f3 blocks && regB t.f1 else if t.f0 = 3 then regB t.f1 && (t.f2 == 0 && t.f3 == 0)
  else if t.f0 = 4 then wthB t.f2 1 15 && (t.f1 == 0 && t.f3 == 0) else false

set_option maxRecDepth 100000 in
set_option maxHeartbeats 8000000 in
theorem rightterm_calls (t : S55) (blocks : Int) (w : World) :
    Calls Try.prog 78 #[.agg #[.int .i64 t.f0, .int .i64 t.f1, .int .i64 t.f2, .int .i64 t.f3], .int .i64 blocks] w fun e w' => e = .returned (.bool (rightTermB t blocks)) ∧ Below w.heap.size w w' := by
  have hu55 := Try.underlying55
  have heq := eq55
  by_cases c1 : t.f0 = 1
  · have hf : rightTermB t blocks = (blockB t.f2 blocks && (t.f1 == 0 && t.f3 == 0)) := by unfold rightTermB; simp [c1]
    have d1 : (t.f0 == 1) = true := beq_iff_eq.2 c1
    clear c1
    cases q1 : blockB t.f2 blocks with
    | false =>
      go_enter Try.func78, Try.ntmps78
      go_wp2_with (first
        | (go_at_call 105; refine (block105_calls _ blocks (w.heap.size + 1) _ (by simp [go_sem])).mono ?_; rintro e w' ⟨rfl, ⟨nd, rfl⟩⟩)
        | (go_at_call 106; refine (code_reg.calls _ _ _ (reg_eq _)).mono ?_; rintro e w' ⟨rfl, ⟨nd, rfl⟩⟩)
        | (go_at_call 54; refine (code_within.calls _ _ _ _ _ (within_eq _ _ _)).mono ?_; rintro e w' ⟨rfl, ⟨nd, rfl⟩⟩))
      go_ret
      refine ⟨?_, by repeat (first | exact Below.refl _ _ | apply below_alloc | apply pw_below_drewN | apply below_drew1)⟩
      rw [hf]
      simp [*]
    | true =>
      go_enter Try.func78, Try.ntmps78
      go_wp2_with (first
        | (go_at_call 105; refine (block105_calls _ blocks (w.heap.size + 1) _ (by simp [go_sem])).mono ?_; rintro e w' ⟨rfl, ⟨nd, rfl⟩⟩)
        | (go_at_call 106; refine (code_reg.calls _ _ _ (reg_eq _)).mono ?_; rintro e w' ⟨rfl, ⟨nd, rfl⟩⟩)
        | (go_at_call 54; refine (code_within.calls _ _ _ _ _ (within_eq _ _ _)).mono ?_; rintro e w' ⟨rfl, ⟨nd, rfl⟩⟩))
      go_ret
      refine ⟨?_, by repeat (first | exact Below.refl _ _ | apply below_alloc | apply pw_below_drewN | apply below_drew1)⟩
      rw [hf]
      simp [*]
  by_cases c2 : t.f0 = 2
  · have hf : rightTermB t blocks = (blockB t.f2 blocks && blockB t.f3 blocks && regB t.f1) := by unfold rightTermB; simp [c2]
    have d1 : (t.f0 == 1) = false := beq_false_of_ne c1
    clear c1
    have d2 : (t.f0 == 2) = true := beq_iff_eq.2 c2
    clear c2
    cases q1 : blockB t.f2 blocks with
    | false =>
      go_enter Try.func78, Try.ntmps78
      go_wp2_with (first
        | (go_at_call 105; refine (block105_calls _ blocks (w.heap.size + 1) _ (by simp [go_sem])).mono ?_; rintro e w' ⟨rfl, ⟨nd, rfl⟩⟩)
        | (go_at_call 106; refine (code_reg.calls _ _ _ (reg_eq _)).mono ?_; rintro e w' ⟨rfl, ⟨nd, rfl⟩⟩)
        | (go_at_call 54; refine (code_within.calls _ _ _ _ _ (within_eq _ _ _)).mono ?_; rintro e w' ⟨rfl, ⟨nd, rfl⟩⟩))
      go_ret
      refine ⟨?_, by repeat (first | exact Below.refl _ _ | apply below_alloc | apply pw_below_drewN | apply below_drew1)⟩
      rw [hf]
      simp [*]
    | true =>
      cases q2 : blockB t.f3 blocks with
      | false =>
        go_enter Try.func78, Try.ntmps78
        go_wp2_with (first
          | (go_at_call 105; refine (block105_calls _ blocks (w.heap.size + 1) _ (by simp [go_sem])).mono ?_; rintro e w' ⟨rfl, ⟨nd, rfl⟩⟩)
          | (go_at_call 106; refine (code_reg.calls _ _ _ (reg_eq _)).mono ?_; rintro e w' ⟨rfl, ⟨nd, rfl⟩⟩)
          | (go_at_call 54; refine (code_within.calls _ _ _ _ _ (within_eq _ _ _)).mono ?_; rintro e w' ⟨rfl, ⟨nd, rfl⟩⟩))
        go_ret
        refine ⟨?_, by repeat (first | exact Below.refl _ _ | apply below_alloc | apply pw_below_drewN | apply below_drew1)⟩
        rw [hf]
        simp [*]
      | true =>
        go_enter Try.func78, Try.ntmps78
        go_wp2_with (first
          | (go_at_call 105; refine (block105_calls _ blocks (w.heap.size + 1) _ (by simp [go_sem])).mono ?_; rintro e w' ⟨rfl, ⟨nd, rfl⟩⟩)
          | (go_at_call 106; refine (code_reg.calls _ _ _ (reg_eq _)).mono ?_; rintro e w' ⟨rfl, ⟨nd, rfl⟩⟩)
          | (go_at_call 54; refine (code_within.calls _ _ _ _ _ (within_eq _ _ _)).mono ?_; rintro e w' ⟨rfl, ⟨nd, rfl⟩⟩))
        go_ret
        refine ⟨?_, by repeat (first | exact Below.refl _ _ | apply below_alloc | apply pw_below_drewN | apply below_drew1)⟩
        rw [hf]
        simp [*]
  by_cases c3 : t.f0 = 3
  · have hf : rightTermB t blocks = (regB t.f1 && (t.f2 == 0 && t.f3 == 0)) := by unfold rightTermB; simp [c3]
    have d1 : (t.f0 == 1) = false := beq_false_of_ne c1
    clear c1
    have d2 : (t.f0 == 2) = false := beq_false_of_ne c2
    clear c2
    have d3 : (t.f0 == 3) = true := beq_iff_eq.2 c3
    clear c3
    cases q1 : regB t.f1 with
    | false =>
      go_enter Try.func78, Try.ntmps78
      go_wp2_with (first
        | (go_at_call 105; refine (block105_calls _ blocks (w.heap.size + 1) _ (by simp [go_sem])).mono ?_; rintro e w' ⟨rfl, ⟨nd, rfl⟩⟩)
        | (go_at_call 106; refine (code_reg.calls _ _ _ (reg_eq _)).mono ?_; rintro e w' ⟨rfl, ⟨nd, rfl⟩⟩)
        | (go_at_call 54; refine (code_within.calls _ _ _ _ _ (within_eq _ _ _)).mono ?_; rintro e w' ⟨rfl, ⟨nd, rfl⟩⟩))
      go_ret
      refine ⟨?_, by repeat (first | exact Below.refl _ _ | apply below_alloc | apply pw_below_drewN | apply below_drew1)⟩
      rw [hf]
      simp [*]
    | true =>
      go_enter Try.func78, Try.ntmps78
      go_wp2_with (first
        | (go_at_call 105; refine (block105_calls _ blocks (w.heap.size + 1) _ (by simp [go_sem])).mono ?_; rintro e w' ⟨rfl, ⟨nd, rfl⟩⟩)
        | (go_at_call 106; refine (code_reg.calls _ _ _ (reg_eq _)).mono ?_; rintro e w' ⟨rfl, ⟨nd, rfl⟩⟩)
        | (go_at_call 54; refine (code_within.calls _ _ _ _ _ (within_eq _ _ _)).mono ?_; rintro e w' ⟨rfl, ⟨nd, rfl⟩⟩))
      go_ret
      refine ⟨?_, by repeat (first | exact Below.refl _ _ | apply below_alloc | apply pw_below_drewN | apply below_drew1)⟩
      rw [hf]
      simp [*]
  by_cases c4 : t.f0 = 4
  · have hf : rightTermB t blocks = (wthB t.f2 1 15 && (t.f1 == 0 && t.f3 == 0)) := by unfold rightTermB; simp [c4]
    have d1 : (t.f0 == 1) = false := beq_false_of_ne c1
    clear c1
    have d2 : (t.f0 == 2) = false := beq_false_of_ne c2
    clear c2
    have d3 : (t.f0 == 3) = false := beq_false_of_ne c3
    clear c3
    have d4 : (t.f0 == 4) = true := beq_iff_eq.2 c4
    clear c4
    cases q1 : wthB t.f2 1 15 with
    | false =>
      go_enter Try.func78, Try.ntmps78
      go_wp2_with (first
        | (go_at_call 105; refine (block105_calls _ blocks (w.heap.size + 1) _ (by simp [go_sem])).mono ?_; rintro e w' ⟨rfl, ⟨nd, rfl⟩⟩)
        | (go_at_call 106; refine (code_reg.calls _ _ _ (reg_eq _)).mono ?_; rintro e w' ⟨rfl, ⟨nd, rfl⟩⟩)
        | (go_at_call 54; refine (code_within.calls _ _ _ _ _ (within_eq _ _ _)).mono ?_; rintro e w' ⟨rfl, ⟨nd, rfl⟩⟩))
      go_ret
      refine ⟨?_, by repeat (first | exact Below.refl _ _ | apply below_alloc | apply pw_below_drewN | apply below_drew1)⟩
      rw [hf]
      simp [*]
    | true =>
      go_enter Try.func78, Try.ntmps78
      go_wp2_with (first
        | (go_at_call 105; refine (block105_calls _ blocks (w.heap.size + 1) _ (by simp [go_sem])).mono ?_; rintro e w' ⟨rfl, ⟨nd, rfl⟩⟩)
        | (go_at_call 106; refine (code_reg.calls _ _ _ (reg_eq _)).mono ?_; rintro e w' ⟨rfl, ⟨nd, rfl⟩⟩)
        | (go_at_call 54; refine (code_within.calls _ _ _ _ _ (within_eq _ _ _)).mono ?_; rintro e w' ⟨rfl, ⟨nd, rfl⟩⟩))
      go_ret
      refine ⟨?_, by repeat (first | exact Below.refl _ _ | apply below_alloc | apply pw_below_drewN | apply below_drew1)⟩
      rw [hf]
      simp [*]
  have hf : rightTermB t blocks = false := by unfold rightTermB; simp [c1, c2, c3, c4]
  have d1 : (t.f0 == 1) = false := beq_false_of_ne c1
  clear c1
  have d2 : (t.f0 == 2) = false := beq_false_of_ne c2
  clear c2
  have d3 : (t.f0 == 3) = false := beq_false_of_ne c3
  clear c3
  have d4 : (t.f0 == 4) = false := beq_false_of_ne c4
  clear c4
  go_enter Try.func78, Try.ntmps78
  go_wp2_with (first
    | (go_at_call 105; refine (block105_calls _ blocks (w.heap.size + 1) _ (by simp [go_sem])).mono ?_; rintro e w' ⟨rfl, ⟨nd, rfl⟩⟩)
    | (go_at_call 106; refine (code_reg.calls _ _ _ (reg_eq _)).mono ?_; rintro e w' ⟨rfl, ⟨nd, rfl⟩⟩)
    | (go_at_call 54; refine (code_within.calls _ _ _ _ _ (within_eq _ _ _)).mono ?_; rintro e w' ⟨rfl, ⟨nd, rfl⟩⟩))
  go_ret
  refine ⟨?_, by repeat (first | exact Below.refl _ _ | apply below_alloc | apply pw_below_drewN | apply below_drew1)⟩
  rw [hf]
  simp [*]
end Go.Proofs.Yteeapfmgdlcgfaa.A


namespace Go.Proofs.Yteeapfmgdlcgfaa.A
open Go.RowKit Go.Proofs.YteeapfmgdlcgfaaW.PrintWords Go.Proofs.YteeapfmgdlcgfaaW.PrintLast
set_option linter.unusedVariables false
set_option linter.unusedSimpArgs false

theorem ends77_calls (t : S55) (A0 : Option Addr) (n0 c0 : Nat) (g : Nat) (Ab : Option Addr) (nb cb : Nat) (w : World) (hg : w.cell? ⟨g, 1, none⟩ = some (.slice Ab nb cb)) :
    Calls Try.prog 77 #[.agg #[.slice A0 n0 c0, .int .i64 t.f0, .int .i64 t.f1, .int .i64 t.f2, .int .i64 t.f3], .pointer (some ⟨g, 0, none⟩)] w fun e w' => e = .returned (.bool (!rightTermB t nb)) ∧ Below w.heap.size w w' := by
  have hu57 := Try.underlying57
  have hu55 := Try.underlying55
  have hu52 := Try.underlying52
  have hlt := World.block_lt_of_cell? _ _ hg
  have hg1 : (w.alloc (.cells #[.slice A0 n0 c0, .int .i64 t.f0, .int .i64 t.f1, .int .i64 t.f2, .int .i64 t.f3] 57)).cell? ⟨g, 1, none⟩ = some (.slice Ab nb cb) := (World.cell?_alloc_lt _ _ _ hlt).trans hg
  go_enter Try.func77, Try.ntmps77
  go_wp2_with (go_at_call 78; refine (rightterm_calls t nb _).mono ?_; rintro e w' ⟨rfl, hB⟩; have hB' := Aside0.mk (below_step (below_alloc (Below.refl w.heap.size w) _) hB); clear hB)
  go_ret
  exact ⟨rfl, hB'.out⟩
theorem idx104_calls (A : Option Addr) (c : Nat) (l : List S57) (g : Nat) (Ab : Option Addr) (nb cb : Nat) (w : World) (hg : w.cell? ⟨g, 1, none⟩ = some (.slice Ab nb cb)) (hC : Kd.C k57 w A l.length l) (hL : l.length ≤ 1000000) :
    Calls Try.prog 104 #[.slice A l.length c, .func (.func 77) #[] #[.pointer (some ⟨g, 0, none⟩)]] w fun e w' => ∃ r : Int, e = .returned (.int .i64 r) ∧ (decide (r ≥ 0) = l.any fun y => !rightTermB y.f1 nb) ∧ Below w.heap.size w w' := by
  have hu57 := Try.underlying57
  have hC' := Aside0.mk hC
  have hg' := Aside0.mk hg
  have hlt := World.block_lt_of_cell? _ _ hg
  clear hC hg
  go_enter Try.func104, Try.ntmps104
  go_wp2
  go_loopw [8] (fun v8 wr => ∃ (i : Nat), v8 = .int .i64 i ∧ i ≤ l.length ∧ Aside0 (((l.take i).any fun y => !rightTermB y.f1 nb) = false) ∧ Aside0 (Below w.heap.size w wr)) (fun v8 _ => l.length - (RowKit.intOf v8).toNat)
  case atStart => exact ⟨0, rfl, by omega, ⟨rfl⟩, ⟨Below.refl _ _⟩⟩
  case round =>
    obtain ⟨i, rfl, hi, hI, hB⟩ := hrel
    by_cases hl : i < l.length
    · have hltb : decide ((i : Int) < (l.length : Int)) = true := decide_eq_true (by omega)
      have hp0 : (0 : Int) ≤ (i : Int) := by omega
      have hq0 : (i : Int) < (l.length : Int) := by omega
      obtain ⟨ad, A0, c0, rfl, h0, h1, h2, h3, h4, _⟩ := at_T57 (Kd.C_below hC'.out hB.out) (i : Int) hp0 hq0
      rw [Int.toNat_natCast] at h0 h1 h2 h3 h4
      have hx : Aside0 (l[i] = rd_T57 l (i : Int)) := ⟨by unfold rd_T57; simp [List.getD_eq_getElem?_getD, hl]⟩
      generalize rd_T57 l (i : Int) = y at h0 h1 h2 h3 h4 hx
      have hgr : wr.cell? ⟨g, 1, none⟩ = some (.slice Ab nb cb) := (hB.out.cell hlt).trans hg'.out
      have h77 := ends77_calls y.f1 A0 y.f0.length c0 g Ab nb cb wr hgr
      go_wp2_with fail
      refine h77.mono ?_
      clear h77
      rintro e w2 ⟨rfl, hd⟩
      have hB2 := Aside0.mk (below_step hB.out hd)
      clear hd h0 h1 h2 h3 h4 hgr
      cases hr : rightTermB y.f1 nb with
      | true =>
        go_wp2
        go_roundw
        case rel => exact ⟨i + 1, by go_num, by omega, ⟨by rw [List.take_add_one, List.any_append, hI.out, List.getElem?_eq_getElem hl, hx.out]; simp [hr]⟩, hB2⟩
        case measure => simp [RowKit.intOf]; omega
      | false =>
        go_wp2
        go_ret
        refine ⟨_, rfl, ?_, hB2.out⟩
        rw [show l.any (fun y => !rightTermB y.f1 nb) = true from List.any_eq_true.2 ⟨_, List.getElem_mem hl, by rw [hx.out]; simp [hr]⟩]
        exact decide_eq_true (by omega)
    · have hltb : decide ((i : Int) < (l.length : Int)) = false := decide_eq_false (by omega)
      go_wp2
      go_ret
      refine ⟨_, rfl, ?_, hB.out⟩
      have := hI.out
      rw [List.take_of_length_le (by omega)] at this
      rw [this]; rfl
theorem any76_calls (A : Option Addr) (c : Nat) (l : List S57) (g : Nat) (Ab : Option Addr) (nb cb : Nat) (w : World) (hg : w.cell? ⟨g, 1, none⟩ = some (.slice Ab nb cb)) (hC : Kd.C k57 w A l.length l) (hL : l.length ≤ 1000000) :
    Calls Try.prog 76 #[.slice A l.length c, .func (.func 77) #[] #[.pointer (some ⟨g, 0, none⟩)]] w fun e w' => e = .returned (.bool (l.any fun y => !rightTermB y.f1 nb)) ∧ Below w.heap.size w w' := by
  have hx := idx104_calls A c l g Ab nb cb w hg hC hL
  clear hC hg
  go_enter Try.func76, Try.ntmps76
  go_wp2_with fail
  refine hx.mono ?_
  clear hx
  rintro e w2 ⟨r, rfl, hr, hB⟩
  have hB' := Aside0.mk hB
  clear hB
  go_wp2
  go_ret
  exact ⟨by rw [← hr]; rfl, hB'.out⟩
end Go.Proofs.Yteeapfmgdlcgfaa.A


namespace Go.Proofs.Yteeapfmgdlcgfaa.A
open Go.RowKit Go.Proofs.YteeapfmgdlcgfaaW.PrintWords Go.Proofs.YteeapfmgdlcgfaaW.PrintLast
set_option linter.unusedVariables false
set_option linter.unusedSimpArgs false

/-- an operation, as it comes: where its arguments lie -/
structure OpV where
  x : S60
  A : Option Addr
  c : Nat
def OpV.encs (o : OpV) : Array Value := #[.agg #[.int .i64 o.x.f0, .int .i64 o.x.f1, .int .i64 o.x.f2, .int .i64 o.x.f3, .int .i64 o.x.f4, .slice o.A o.x.f5.length o.c]]
abbrev OpIn (w : World) (l : List S57) := { o : OpV // Kd.C (Kd.int .i64) w o.A o.x.f5.length o.x.f5 ∧ o.x.f5.length ≤ o.c ∧ ∃ y ∈ l, o.x ∈ y.f0 }
def opsOf (l : List S57) : List S60 := l.flatMap (·.f0)
theorem opsOf_snoc {l : List S57} {i : Nat} {y : S57} (h : l[i]? = some y) : opsOf (l.take (i + 1)) = opsOf (l.take i) ++ y.f0 := by
  unfold opsOf
  rw [List.take_add_one, h]; simp
theorem opsOf_take (l : List S57) (i : Nat) : ∃ r, opsOf l = opsOf (l.take i) ++ r := by
  refine ⟨opsOf (l.drop i), ?_⟩
  unfold opsOf
  rw [← List.flatMap_append, List.take_append_drop]

set_option maxRecDepth 100000 in
set_option maxHeartbeats 8000000 in
theorem ops80_stops (F : Fence) (n : Nat) (h80 : F.fn 80) (hro : F.round = none) (hn : 1 ≤ n) (wB w : World) (g : Nat) (A : Option Addr) (c : Nat) (l : List S57) (hC : Kd.C k57 wB A l.length l) (hB : Below wB.heap.size wB w) (hg : w.cell? ⟨g, 1, none⟩ = some (.slice A l.length c))
    (hL : l.length ≤ 1000000) (hL2 : ∀ y ∈ l, y.f0.length ≤ 1000000) :
    SeqStopsK F n Try.prog 80 #[.pointer (some ⟨g, 0, none⟩)] (fun o : OpIn wB l => o.1.encs) (fun W W' => Below wB.heap.size W W') (fun xs => xs.map (·.1.x) = opsOf l) (fun pre => ∃ r, opsOf l = pre.map (·.1.x) ++ r) (opsOf l).length w := by
  intro lp J Jx W hW hJ hJx hY h0
  have hu57 := Try.underlying57
  have hu60 := Try.underlying60
  have hgW : W.cell? ⟨g, 1, none⟩ = some (.slice A l.length c) := (hW.cell (World.block_lt_of_cell? _ _ hg)).trans hg
  have hBW : Below wB.heap.size wB W := hB.trans (hW.mono hB.size)
  have hC' := Aside0.mk hC
  have hB' := Aside0.mk hBW
  have hJ' := Aside0.mk hJ
  have hY' := Aside0.mk hY
  have h0' := Aside0.mk h0
  have hL2' := Aside0.mk hL2
  have hal : Aside0 (∀ pre W1 o, W.heap.size ≤ W1.heap.size → J pre W1 → J pre (W1.alloc o)) := ⟨fun pre W1 o _ h => hJ pre W1 _ none h (World.grownBy_alloc W1 o none) (fun r e => by cases e)⟩
  clear hC hB hW hJ hJx hY h0 hg hL2 hBW
  refine callsIn_of_wp Try.func80 rfl h80 ?_ hro
  simp only [Try.ntmps80, List.size_toArray, List.length_cons, List.length_nil, Nat.reduceAdd, Nat.reduceSub, Array.replicate_succ, Array.replicate_zero, List.push_toArray, List.append_toArray, List.nil_append, List.cons_append]
  gi_wp2
  gi_loopw [10] (fun v10 wr => ∃ (i : Nat) (pre : List (OpIn wB l)), v10 = .int .i64 i ∧ i ≤ l.length ∧ Aside0 (pre.map (·.1.x) = opsOf (l.take i)) ∧ Aside0 (J pre wr) ∧ Aside0 (Below wB.heap.size wB wr ∧ W.heap.size ≤ wr.heap.size)) (fun v10 _ => l.length - (RowKit.intOf v10).toNat)
  case atStart => exact ⟨0, [], rfl, by omega, ⟨rfl⟩, h0', ⟨hB'.out, Nat.le_refl _⟩⟩
  case round =>
    obtain ⟨i, pre, rfl, hi, hp, hJp, hBr⟩ := hrel
    by_cases hl : i < l.length
    · have hltb : decide ((i : Int) < (l.length : Int)) = true := decide_eq_true (by omega)
      have hp0 : (0 : Int) ≤ (i : Int) := by omega
      have hq0 : (i : Int) < (l.length : Int) := by omega
      obtain ⟨ad, A0, c0, rfl, g0, g1, g2, g3, g4, hc0, hCo⟩ := at_T57 (Kd.C_below hC'.out hBr.out.1) (i : Int) hp0 hq0
      obtain ⟨ad', A0', c0', e, g0', g1', g2', g3', g4', _, hCb⟩ := at_T57 hC'.out (i : Int) hp0 hq0
      obtain rfl := Option.some.inj e
      obtain ⟨rfl, rfl⟩ : A0' = A0 ∧ c0' = c0 := by
        have := (hBr.out.1.cell (World.block_lt_of_cell? _ _ g0')).trans g0'
        rw [g0] at this
        injection this with this
        injection this with e1 _ e2
        exact ⟨e1.symm, e2.symm⟩
      clear hCo g0' g1' g2' g3' g4' e
      rw [Int.toNat_natCast] at g0 g1 g2 g3 g4
      have hx : Aside0 (l[i]? = some (rd_T57 l (i : Int))) := ⟨by unfold rd_T57; rw [List.getElem?_eq_getElem hl]; simp [List.getD_eq_getElem?_getD, hl]⟩
      have hCb' := Aside0.mk hCb
      clear hCb
      generalize rd_T57 l (i : Int) = y at g0 g1 g2 g3 g4 hx hCb' hc0
      have hym : Aside0 (y ∈ l) := ⟨List.mem_of_getElem? hx.out⟩
      have hyl : y.f0.length ≤ 1000000 := hL2'.out y hym.out
      have hJ1 := Aside0.mk (hal.out pre wr (.cells #[.slice A0' y.f0.length c0', .int .i64 y.f1.f0, .int .i64 y.f1.f1, .int .i64 y.f1.f2, .int .i64 y.f1.f3] 57) hBr.out.2 hJp.out)
      have hB1 : Aside0 (Below wB.heap.size wB (wr.alloc (.cells #[.slice A0' y.f0.length c0', .int .i64 y.f1.f0, .int .i64 y.f1.f1, .int .i64 y.f1.f2, .int .i64 y.f1.f3] 57)) ∧ W.heap.size ≤ (wr.alloc (.cells #[.slice A0' y.f0.length c0', .int .i64 y.f1.f0, .int .i64 y.f1.f1, .int .i64 y.f1.f2, .int .i64 y.f1.f3] 57)).heap.size) := ⟨below_alloc hBr.out.1 _, by have := hBr.out.2; rw [World.size_alloc]; omega⟩
      gi_wp2
      clear g0 g1 g2 g3 g4
      gi_loopw [17] (fun v17 wr => ∃ (j : Nat) (pre : List (OpIn wB l)), v17 = .int .i64 j ∧ j ≤ y.f0.length ∧ Aside0 (pre.map (·.1.x) = opsOf (l.take i) ++ y.f0.take j) ∧ Aside0 (J pre wr) ∧ Aside0 (Below wB.heap.size wB wr ∧ W.heap.size ≤ wr.heap.size)) (fun v17 _ => y.f0.length - (RowKit.intOf v17).toNat)
      case atStart => exact ⟨0, pre, rfl, by omega, ⟨by rw [hp.out]; simp⟩, hJ1, hB1⟩
      case round =>
        obtain ⟨j, pre, rfl, hj, hp2, hJp, hBr⟩ := hrel
        clear hJ1 hB1
        by_cases hjl : j < y.f0.length
        · have hjb : decide ((j : Int) < (y.f0.length : Int)) = true := decide_eq_true (by omega)
          have hp1 : (0 : Int) ≤ (j : Int) := by omega
          have hq1 : (j : Int) < (y.f0.length : Int) := by omega
          obtain ⟨ao, A5, c5, rfl, b0, b1, b2, b3, b4, b5, hc5, hC5⟩ := at_T60 (Kd.C_below hCb'.out hBr.out.1) (j : Int) hp1 hq1
          obtain ⟨ao', A5', c5', e, _, _, _, _, _, b5', hc5', hC5'⟩ := at_T60 hCb'.out (j : Int) hp1 hq1
          obtain rfl := Option.some.inj e
          obtain ⟨rfl, rfl⟩ : A5' = A5 ∧ c5' = c5 := by
            have := (hBr.out.1.cell (World.block_lt_of_cell? _ _ b5')).trans b5'
            rw [b5] at this
            injection this with this
            injection this with e1 _ e2
            exact ⟨e1.symm, e2.symm⟩
          clear hC5 e b5'
          rw [Int.toNat_natCast] at b0 b1 b2 b3 b4 b5
          have hxo : Aside0 (y.f0[j]? = some (rd_T60 y.f0 (j : Int))) := ⟨by unfold rd_T60; rw [List.getElem?_eq_getElem hjl]; simp [List.getD_eq_getElem?_getD, hjl]⟩
          have hC5'' := Aside0.mk hC5'
          have hc5'' := Aside0.mk hc5'
          clear hC5' hc5 hc5'
          generalize rd_T60 y.f0 (j : Int) = x at b0 b1 b2 b3 b4 b5 hxo hC5'' hc5''
          obtain ⟨ov, hov⟩ : ∃ ov : OpIn wB l, ov.1 = ⟨x, A5', c5'⟩ := ⟨⟨⟨x, A5', c5'⟩, hC5''.out, hc5''.out, y, hym.out, List.mem_of_getElem? hxo.out⟩, rfl⟩
          have hJ2 := hal.out pre wr (.cells #[.int .i64 x.f0, .int .i64 x.f1, .int .i64 x.f2, .int .i64 x.f3, .int .i64 x.f4, .slice A5' x.f5.length c5'] 60) hBr.out.2 hJp.out
          have hB2 : Aside0 (Below wB.heap.size wB (wr.alloc (.cells #[.int .i64 x.f0, .int .i64 x.f1, .int .i64 x.f2, .int .i64 x.f3, .int .i64 x.f4, .slice A5' x.f5.length c5'] 60)) ∧ W.heap.size ≤ (wr.alloc (.cells #[.int .i64 x.f0, .int .i64 x.f1, .int .i64 x.f2, .int .i64 x.f3, .int .i64 x.f4, .slice A5' x.f5.length c5'] 60)).heap.size) := ⟨below_alloc hBr.out.1 _, by have := hBr.out.2; rw [World.size_alloc]; omega⟩
          have hplen : pre.length < (opsOf l).length := by
            obtain ⟨r, hr⟩ := opsOf_take l (i + 1)
            rw [hr, opsOf_snoc hx.out]
            have := congrArg List.length hp2.out
            rw [List.length_map, List.length_append, List.length_take] at this
            rw [List.length_append, List.length_append]
            omega
          have hp3 : Aside0 ((pre ++ [ov]).map (·.1.x) = opsOf (l.take i) ++ y.f0.take (j + 1)) := ⟨by rw [List.map_append, hp2.out, List.take_add_one, hxo.out]; simp [hov]⟩
          obtain ⟨fn, tmps, assign, body, hy, hR⟩ := hY'.out pre ov _ hJ2 hplen
          simp only [OpV.encs, hov] at hy
          clear hJ2
          gi_wp2
          refine hR.mono ?_
          rintro e W3 (⟨rfl, hJ3, hk3⟩ | ⟨rfl, hJx3⟩)
          · have hB3 : Aside0 (Below wB.heap.size wB W3 ∧ W.heap.size ≤ W3.heap.size) := ⟨hB2.out.1.trans hk3, by have h1 := hB2.out.2; have h2 := hk3.size; omega⟩
            have hJ3' := Aside0.mk hJ3
            clear hJ3 hk3 hR hy b0 b1 b2 b3 b4 b5
            gi_wp2
            go_roundw
            case rel => exact ⟨j + 1, _, by go_num, by omega, hp3, hJ3', hB3⟩
            case measure => simp [RowKit.intOf]; omega
          · clear hR hy b0 b1 b2 b3 b4 b5
            gi_wp2
            refine bodyPost_ret (results_none rfl _ _ _) rfl ?_
            refine ⟨⟨_, rfl⟩, .inr ⟨pre ++ [ov], ?_, hJx3⟩⟩
            obtain ⟨r, hr⟩ := opsOf_take l (i + 1)
            rw [hr, opsOf_snoc hx.out, hp3.out]
            refine ⟨y.f0.drop (j + 1) ++ r, ?_⟩
            rw [List.append_assoc, List.append_assoc, ← List.append_assoc (y.f0.take (j + 1)), List.take_append_drop]
        · have hjb : decide ((j : Int) < (y.f0.length : Int)) = false := decide_eq_false (by omega)
          gi_wp2
          go_roundw
          case rel => exact ⟨i + 1, pre, by go_num, by omega, ⟨by rw [hp2.out, opsOf_snoc hx.out, List.take_of_length_le (l := y.f0) (by omega)]⟩, hJp, hBr⟩
          case measure => simp [RowKit.intOf]; omega
    · have hltb : decide ((i : Int) < (l.length : Int)) = false := decide_eq_false (by omega)
      gi_wp2
      go_end0
      refine ⟨⟨_, rfl⟩, .inl ⟨pre, ?_, hJp.out⟩⟩
      have := hp.out
      rwa [List.take_of_length_le (by omega)] at this
theorem ops56_calls (v0 v1 : Value) (w : World) : Calls Try.prog 56 #[.agg #[v0, v1]] w fun e w' => e = .returned (.func (.func 80) #[] #[.pointer (some ⟨w.heap.size, 0, none⟩)]) ∧ w' = w.alloc (.cells #[v0, v1] 52) := by
  have hu52 := Try.underlying52
  go_enter Try.func56, Try.ntmps56
  go_wp2
  go_ret
  exact ⟨rfl, rfl⟩
end Go.Proofs.Yteeapfmgdlcgfaa.A


namespace Go.Proofs
open Go.Shelf
def Try.keys73_ren : Go.Shelf.Ren := ⟨fun | 7 => 73 | 10 => 103 | n => n, fun | 23 => 114 | 26 => 3 | 3 => 36 | 28 => 78 | 0 => 0 | 27 => 77 | 33 => 43 | 4 => 4 | n => n, fun | n => n⟩
theorem Try.keys73 : Go.Proofs.SlLaysZI.n7 Try.prog Try.keys73_ren := {
  mixed := by kernel_rfl
  f7 := ⟨Try.f73.name, by decide, Try.func73.trans (congrArg some (by kernel_rfl))⟩
  f10 := ⟨Try.f103.name, by decide, Try.func103.trans (congrArg some (by kernel_rfl))⟩
  t0 := Try.underlying0
  a0 := Try.isAgg0
  z0 := Try.sizeOf0
  v0 := Try.zeroValue0
  t4 := Try.underlying4
  a4 := Try.isAgg4
  z4 := Try.sizeOf4
  v4 := Try.zeroValue4
  t23 := Try.underlying114
  a23 := Try.isAgg114
  z23 := Try.sizeOf114
  v23 := Try.zeroValue114
  t26 := Try.underlying3
  a26 := Try.isAgg3
  z26 := Try.sizeOf3
  v26 := Try.zeroValue3
  t27 := Try.underlying77
  a27 := Try.isAgg77
  z27 := Try.sizeOf77
  v27 := Try.zeroValue77
  t28 := Try.underlying78
  a28 := Try.isAgg78
  z28 := Try.sizeOf78
  v28 := Try.zeroValue78
  t33 := Try.underlying43
  a33 := Try.isAgg43
  z33 := Try.sizeOf43
  v33 := Try.zeroValue43 }
def Try.sorted72_ren : Go.Shelf.Ren := ⟨fun | 6 => 72 | 8 => 102 | 9 => 40 | 11 => 121 | 13 => 67 | 12 => 66 | 23 => 91 | 24 => 92 | 14 => 82 | 15 => 83 | 16 => 84 | 17 => 85 | 18 => 86 | 19 => 87 | 20 => 88 | 21 => 89 | 22 => 90 | 25 => 111 | 26 => 112 | 27 => 113 | 28 => 114 | 29 => 115 | 30 => 116 | 31 => 124 | n => n, fun | 26 => 3 | 28 => 78 | 24 => 36 | 0 => 0 | 3 => 3 | 37 => 111 | 48 => 136 | 50 => 138 | 4 => 4 | 40 => 130 | 39 => 129 | 45 => 32 | 5 => 5 | 9 => 9 | 51 => 148 | 55 => 152 | 57 => 158 | 58 => 159 | 33 => 43 | n => n, fun | n => n⟩
theorem Try.sorted72 : Go.Proofs.SlLaysZI.n6 Try.prog Try.sorted72_ren := {
  mixed := by kernel_rfl
  f6 := ⟨Try.f72.name, by decide, Try.func72.trans (congrArg some (by kernel_rfl))⟩
  f8 := ⟨Try.f102.name, by decide, Try.func102.trans (congrArg some (by kernel_rfl))⟩
  f11 := ⟨Try.f121.name, by decide, Try.func121.trans (congrArg some (by kernel_rfl))⟩
  t0 := Try.underlying0
  a0 := Try.isAgg0
  z0 := Try.sizeOf0
  v0 := Try.zeroValue0
  t24 := Try.underlying36
  a24 := Try.isAgg36
  z24 := Try.sizeOf36
  v24 := Try.zeroValue36
  t26 := Try.underlying3
  a26 := Try.isAgg3
  z26 := Try.sizeOf3
  v26 := Try.zeroValue3
  t28 := Try.underlying78
  a28 := Try.isAgg78
  z28 := Try.sizeOf78
  v28 := Try.zeroValue78
  i26 := by kernel_rfl }
end Go.Proofs


namespace Go.Proofs.Yteeapfmgdlcgfaa.A
open Go.RowKit Go.Maps Go.Sort Go.Shelf Go.Proofs.YteeapfmgdlcgfaaW.PrintWords Go.Proofs.YteeapfmgdlcgfaaW.PrintLast
set_option linter.unusedVariables false
set_option linter.unusedSimpArgs false

/-- a row's header -/
structure Hd where
  g : Nat
  n : Nat
  c : Nat
def Hd.val (h : Hd) : Value := .slice (some ⟨h.g, 0, none⟩) h.n h.c
def Hd.dat (h : Hd) : DU := .agg [.lit (.int .i64 h.g), .lit (.int .i64 h.n), .lit (.int .i64 h.c)]
def rdH : Value → Option (DU × List MemPlace)
  | .slice none 0 0 => some (.lit (.bool false), [])
  | .slice (some ⟨g, 0, none⟩) n c => some (.agg [.lit (.int .i64 g), .lit (.int .i64 n), .lit (.int .i64 c)], [])
  | _ => none
theorem rdH_mk (h : Hd) : rdH h.val = some (h.dat, []) := rfl
def hv : Option Hd → Value
  | none => .slice none 0 0
  | some h => h.val
def hd : Option Hd → DU
  | none => .lit (.bool false)
  | some h => h.dat
theorem rdH_inv {v : Value} {o : Option Hd} {ps : List MemPlace} (h : rdH v = some (hd o, ps)) : v = hv o := by
  unfold rdH at h
  split at h
  · cases o with
    | none => rfl
    | some x => simp [hd, Hd.dat] at h
  · cases o with
    | none => simp [hd] at h
    | some x =>
      simp [hd, Hd.dat] at h
      obtain ⟨⟨h1, h2⟩, _⟩ := h
      have h2 := h2
      obtain ⟨h2, h3⟩ := h2
      have e1 := Int.ofNat.inj h1
      have e2 := Int.ofNat.inj h2
      have e3 := Int.ofNat.inj h3
      show Value.slice _ _ _ = Value.slice _ _ _
      rw [e1, e2, e3]
  · cases h
structure ReadsH (D : DU) (f : Int → Option Hd) : Prop where
  tidy : Tidy D
  has : ∀ k : Int, Maps.has D (.int .i64 k) = (f k).isSome
  at_ : ∀ k : Int, D.atKey (.int .i64 k) (.lit (.bool false)) = hd (f k)
theorem isKeyI (k : Int) : WideAt.IsKeyLit (.int .i64 k) := κI_ok.isKey k
theorem ReadsH.put {D : DU} {f : Int → Option Hd} (h : ReadsH D f) (k : Int) (v : Hd) : ReadsH (D.put (.int .i64 k) v.dat) (updK f k v) := by
  refine ⟨h.tidy.put (isKeyI k) _, fun j => ?_, fun j => ?_⟩
  · by_cases hj : j = k
    · subst hj
      rw [has_put_same h.tidy.isMap (isKeyI j), updK_same]; rfl
    · rw [has_put_other (by simpa using hj), h.has j, updK_other hj]
  · by_cases hj : j = k
    · subst hj
      rw [atKey_put_same h.tidy.isMap (isKeyI j), updK_same]; rfl
    · rw [atKey_put_other (by simpa using hj), h.at_ j, updK_other hj]
/-- block b is a map of N rows' headers -/
def MapR (w : World) (b : Nat) (f : Int → Option Hd) (N : Nat) : Prop :=
  ∃ D : DU, w.ownsMap Try.prog 3 rdH b N D ∧ ReadsH D f ∧ Maps.size D = N ∧ ∀ k, (f k).isSome = true → κI.wf k
theorem MapR.lt {w : World} {b N : Nat} {f : Int → Option Hd} (h : MapR w b f N) : b < w.heap.size := by
  obtain ⟨D, h1, _⟩ := h; exact h1.lt
theorem MapR.same {w w' : World} {b N : Nat} {f : Int → Option Hd} (h : MapR w b f N) (hb : w'.heap[b]? = w.heap[b]?) : MapR w' b f N := by
  obtain ⟨D, ⟨es, clock, h1, h2⟩, h3⟩ := h
  exact ⟨D, ⟨es, clock, hb.trans h1, h2⟩, h3⟩
theorem MapR.made (w : World) : MapR (w.alloc (.map #[] 0)) w.heap.size (fun _ => none) 0 := ⟨.map [], World.ownsMap_made _ _ _ _, ⟨tidy_empty, fun _ => rfl, fun _ => rfl⟩, rfl, fun _ h => (nomatch h)⟩
theorem MapR.noCell {w : World} {b N : Nat} {f : Int → Option Hd} (h : MapR w b f N) {a : Addr} {v : Value} (hc : w.cell? a = some v) : a.block ≠ b := by
  intro e
  obtain ⟨D, ⟨es, clock, h1, _⟩, _⟩ := h
  unfold World.cell? at hc
  rw [e, h1] at hc
  cases hc
theorem zero36 (w : World) : (zeroValue 36).run Try.prog w = .ok (.slice none 0 0) w := by kernel_rfl
theorem MapR.look {w : World} {b N : Nat} {f : Int → Option Hd} (h : MapR w b f N) {k : Int} (hk : κI.wf k) :
    (Instr.lookup 114 (.map (some b)) (.int .i64 k) false).run Try.prog w = .ok (hv (f k)) w := by
  obtain ⟨D, h1, h2, h3, h4⟩ := h
  obtain ⟨v, ps, hrun, hv'⟩ := h1.lookup (int_keyed Try.underlying3) Try.underlying114 (zero36 w) (zd := .lit (.bool false)) (zp := []) rfl (κI_ok.key hk)
  rw [show κI.lit k = Lit.int .i64 k from rfl, h2.at_ k] at hv'
  rw [rdH_inv hv'] at hrun
  exact hrun
theorem MapR.store {w : World} {b N : Nat} {f : Int → Option Hd} (h : MapR w b f N) {k : Int} (hk : κI.wf k) (v : Hd) (hN : N < maxLen) :
    ∃ w1, (Instr.mapUpdate 114 (.map (some b)) (.int .i64 k) v.val).run Try.prog w = .ok () w1 ∧ MapR w1 b (updK f k v) (if (f k).isSome = true then N else N + 1) ∧ w.grownBy w1 (some b) := by
  obtain ⟨D, h1, h2, h3, h4⟩ := h
  obtain ⟨w1, r1, r2, r3⟩ := h1.store (int_keyed Try.underlying3) Try.underlying114 hN (κI_ok.key hk) (rdH_mk v)
  have e : Maps.size (D.put (.int .i64 k) v.dat) = if (f k).isSome = true then N else N + 1 := by rw [size_put h2.tidy, h2.has k, h3]
  refine ⟨w1, r1, ⟨_, ?_, h2.put k v, e, fun j hj => ?_⟩, r3.grown⟩
  · rw [← e]; exact owns_tight r2
  · by_cases ej : j = k
    · subst ej; exact hk
    · rw [updK_other ej] at hj; exact h4 j hj

theorem intKeys_of {D : DU} {s : Int → Bool} (hR : ∀ k : Int, Maps.has D (.int .i64 k) = s k) {R : Value → Option (DU × List MemPlace)} {w : World} {b n : Nat} (hown : w.ownsMap Try.prog 3 R b n D) : (intKeys D).Nodup ∧ (∀ k, k ∈ intKeys D ↔ s k = true) ∧ (intKeys D).length = Maps.size D := by
  obtain ⟨es, hD, hpw, _⟩ := hown.entries (int_keyed Try.underlying3)
  obtain ⟨es', hD', hko⟩ := hown.keysOf
  obtain rfl : es = es' := by rw [hD] at hD'; simpa using hD'
  subst hD
  have hk : ∀ p ∈ es, ∃ x, p.1 = Lit.int .i64 x := fun p hp => by
    obtain ⟨v, hv⟩ := hko p hp
    obtain ⟨x, _, hx, _⟩ := Maps.keyOf_i64 Try.underlying3 hv
    exact ⟨x, hx⟩
  refine ⟨?_, fun k => ?_, by simp [intKeys, size]⟩
  · show (es.map fun p => Go.intOf p.1).Nodup
    refine List.pairwise_map.2 (hpw.imp_of_mem fun {p q} hp' hq' hne e => hne ?_)
    obtain ⟨a, ha⟩ := hk p hp'
    obtain ⟨b, hb⟩ := hk q hq'
    rw [ha, hb] at e ⊢
    exact congrArg _ e
  · rw [← hR k, has_eq, List.any_eq_true]
    show k ∈ (es.map fun p => Go.intOf p.1) ↔ _
    rw [List.mem_map]
    constructor
    · rintro ⟨p, hp', rfl⟩
      obtain ⟨a, ha⟩ := hk p hp'
      exact ⟨p, hp', by rw [ha]; simp [Lit.sameKey, Go.intOf]⟩
    · rintro ⟨p, hp', hs⟩
      obtain ⟨a, ha⟩ := hk p hp'
      rw [ha] at hs
      exact ⟨p, hp', by rw [ha]; simpa [Lit.sameKey, Go.intOf] using hs⟩
theorem sorts72 (m : Nat) : AnyZI.SortsIn Try.prog Try.sorted72_ren Fence.wide m :=
  ⟨fun blk off cap ss W hH hblk hsz => callsIn_wide.2 (AnyM.slices_Sort_int Try.sort40 blk off cap ss W hH hblk hsz),
   fun p cap W => callsIn_wide.2 (AnyM.slices_Sort_int_none Try.sort40 p cap W)⟩
theorem sorted_keys (fn : Nat) (tm : TypeId) {ρ : Ren} (L : SlLaysZI.n10 Try.prog ρ) (hfn : ρ.f 10 = fn) (h3 : ρ.t 26 = 3) (hen : ∀ args w, (callFunc fn args).run Try.prog w = .ok (.enter fn args) w)
    (b n : Nat) (s : Int → Bool) (w : World) {R : Value → Option (DU × List MemPlace)} {D : DU} (hown : w.ownsMap Try.prog 3 R b n D) (hR : ∀ k : Int, Maps.has D (.int .i64 k) = s k) (hn : n ≤ 1000000) :
    Calls Try.prog 72 #[.func (.func fn) #[] #[.pointer (some ⟨w.heap.size, 0, none⟩)]] (w.alloc (.cells #[.map (some b)] tm)) fun e w' => ∃ (v : Value) (ks : List Int), e = .returned v ∧ Rising ks ∧ (∀ k, k ∈ ks ↔ s k = true) ∧ ks.length = Maps.size D ∧
      w'.ownsRow (w.heap.size + 1) 3 1 v ks.length (ks.map (Value.int .i64)) ∧ Below (w.heap.size + 1) (w.alloc (.cells #[.map (some b)] tm)) w' := by
  subst hfn
  have hbl := hown.lt
  have hsz := hown.size_le
  obtain ⟨hnd, hmem, hlen0⟩ := intKeys_of hR hown
  have hown' : (w.alloc (.cells #[.map (some b)] tm)).ownsMap Try.prog (ρ.t 26) R b n D := by
    rw [h3]
    obtain ⟨es, clock, hb, Ft, hs, hD⟩ := hown
    exact ⟨es, clock, (Below.heap_alloc _ _ b hbl).trans hb, Ft, hs, hD⟩
  have hseq : SeqGives Fence.wide 2 Try.prog (ρ.f 10) #[.pointer (some ⟨w.heap.size, 0, none⟩)] Go.encZ (fun ss => ss.Perm (intKeys D)) (Maps.size D) (w.alloc (.cells #[.map (some b)] tm)) :=
    AnyZI.keys_gives (ρ := ρ) L Fence.wide _ trivial rfl (by omega) w.heap.size b n D _ (by simp) (by simp) hown'
  have cS := AnyZI.sorted_in Try.sorted72 Fence.wide 5 trivial trivial trivial trivial rfl (by omega) (sorts72 _) (enters_of Try.func40 (by kernel_rfl) rfl) (ρ.f 10) #[.pointer (some ⟨w.heap.size, 0, none⟩)] trivial hen _ _ (by unfold maxLen; omega) (by omega) _ hseq
  refine ((callsIn_wide (n := 5)).1 cS).mono ?_
  rintro e w' ⟨v, ss, rfl, hS, hrow, hnil, hb⟩
  have hlen : ss.length = (ss.mergeSort fun x y => decide (x ≤ y)).length := by simp
  refine ⟨v, _, rfl, merge_rising (hS.nodup_iff.2 hnd), fun k => ?_, ?_, ?_, by simpa using hb⟩
  · rw [List.mem_mergeSort, hS.mem_iff, hmem]
  · rw [← hlen, hS.length_eq, hlen0]
  · rw [← hlen]
    rw [World.size_alloc] at hrow
    exact hrow
end Go.Proofs.Yteeapfmgdlcgfaa.A

