/- Parts of the proof, in the order in which they rest on one another. -/
import Derived.Test.YtkfopphcgjdcaaaProg
import Derived.Below
import Derived.Deep.Draws
import Derived.Deep.AppendLies
import Derived.Maps.AppendAt
import Derived.OwnWalk
import Derived.Laws.BytesArg
import Derived.Laws.MakeOwn
import Derived.Laws.OwnMore
import Derived.Deep.OwnRows
import Derived.Tactics
import Derived.Lib.ConvBytes
import Derived.Laws.Slices
import Derived.WalkKit
import Derived.KernelRfl
import Derived.RowKit3
import Derived.Deep.LoopGhost
import Derived.Deep.QuietTactic
import Derived.BigQuiet
import Derived.WideLaws
import Derived.Deep.DeepCutAuto
import Derived.Deep.CutBlock
import Derived.Deep.RegionHeld3
import Derived.Laws.Rows
import Derived.Lib.AppendStr
import Derived.ArgAppend
import Derived.Laws.IdiomCopy
import Derived.OrdersHeld
import Derived.Laws.BitsLemmas
import Derived.RowKit
import Derived.Test.YtkfopphcgjdcaaaWWords
import Derived.Test.YtkfopphcgjdcaaaWLast
import Derived.Test.YtkfopphcgjdcaaaWTab
import Derived.Test.YtkfopphcgjdcaaaWFour
import Derived.Test.YtkfopphcgjdcaaaWQPut
import Derived.Test.YtkfopphcgjdcaaaWApart
import Derived.Test.YtkfopphcgjdcaaaWArr
import Derived.Test.YtkfopphcgjdcaaaWZeros
import Derived.Test.YtkfopphcgjdcaaaWFoot
import Derived.Test.YtkfopphcgjdcaaaWKept
import Derived.Test.YtkfopphcgjdcaaaWShare
import Derived.Test.YtkfopphcgjdcaaaWN
import Derived.Test.YtkfopphcgjdcaaaWFootNe
import Derived.Test.YtkfopphcgjdcaaaWAt
import Derived.Test.YtkfopphcgjdcaaaWEqStruct
import Derived.Test.YtkfopphcgjdcaaaWRepsOne
import Derived.Test.YtkfopphcgjdcaaaWInv
import Derived.Test.YtkfopphcgjdcaaaWInvWords
import Derived.Test.YtkfopphcgjdcaaaWGuard
import Derived.Test.YtkfopphcgjdcaaaWNEv
import Derived.Test.YtkfopphcgjdcaaaWMore
import Derived.Shelf.Abstract
import Derived.Lib.Walk
import Derived.Maps.Own
import Derived.Maps.OwnOps
import Derived.Maps.OwnSet
import Derived.Maps.Views
import Derived.RangeFuncRecord
import Derived.Lib.SliceRun
import Derived.Deep.Cut
import Derived.Outline
import Derived.Deep.RegionLaw
import Derived.BigRegion
import Derived.Shelf.SlIterI.Nil
import Derived.Shelf.SortM.Plain
import Derived.Shelf.SortM.SortNone
import Derived.Shelf.SlMaps.Clone
import Derived.Ground.GgzProg
import Derived.Ground.SlgmProg
import Derived.Ground.SlmcProg
import Derived.Shelf.SlGeneric
import Derived.WalkSpells
/- What the machine does at this function, and a plain Lean function that says the same: written by a program for this claim; Lean checks it. -/
namespace Go.Proofs.Ytkfopphcgjdcaaa.A
open Go.RowKit Go.Proofs.YtkfopphcgjdcaaaW.PrintWords Go.Proofs.YtkfopphcgjdcaaaW.PrintLast Go.Proofs.YtkfopphcgjdcaaaW.PrintMore
attribute [local go_sem] max2_int min2_int max_two min_two max_three min_three max_four min_four   -- for this text's walks alone
set_option linter.unusedVariables false
set_option linter.unusedSimpArgs false



def errW : Option Int → Value
  | none => .nilIface
  | some c => .iface 0 (.int .i64 c)
theorem errW_none : errW none = .nilIface := rfl
theorem errW_some (c : Int) : errW (some c) = .iface 0 (.int .i64 c) := rfl

theorem info3 : (Try.prog.info? 3).map (fun i => (i.zero, i.size, i.bytes)) = some (some (.int .i64 0), 1, 8) := by kernel_rfl
theorem info38 : (Try.prog.info? 38).map (fun i => (i.zero, i.size, i.bytes)) = some (some (.agg #[(.int .i64 0), (.int .i64 0)]), 2, 16) := by kernel_rfl
theorem info42 : (Try.prog.info? 42).map (fun i => (i.zero, i.size, i.bytes)) = some (some (.agg #[(.int .i64 0), (.int .i64 0)]), 2, 16) := by kernel_rfl
theorem info43 : (Try.prog.info? 43).map (fun i => (i.zero, i.size, i.bytes)) = some (some (.slice none 0 0), 1, 24) := by kernel_rfl
-- the values' own types
/-! #### struct type 38 -/
structure S38 where
  f0 : Int
  f1 : Int
def z38 : S38 := ⟨(0 : Int), (0 : Int)⟩
def k38 : Kd S38 := Kd.iso (Kd.pair (Kd.int .i64) (Kd.int .i64)) (fun x : S38 => (x.f0, x.f1))
theorem k38_open {w : World} {x : S38} {cs : List Value} (h : k38.K w x cs) : cs = [.int .i64 x.f0, .int .i64 x.f1] := by
  obtain ⟨_, _, rfl, rfl, rfl⟩ := h
  exact rfl
theorem k38_openM {w : World} {base : Nat} {ok : Nat → Prop} {x : S38} {cs : List Value} (h : k38.M w base ok x cs) : cs = [.int .i64 x.f0, .int .i64 x.f1] := by
  obtain ⟨_, _, rfl, rfl, rfl⟩ := h
  exact rfl
theorem k38_mk (w : World) (x : S38)  : k38.K w x [.int .i64 x.f0, .int .i64 x.f1] := ⟨[.int .i64 x.f0], [.int .i64 x.f1], rfl, rfl, rfl⟩
theorem k38_mkM (w : World) (base : Nat) (ok : Nat → Prop) (x : S38)  : k38.M w base ok x [.int .i64 x.f0, .int .i64 x.f1] := ⟨[.int .i64 x.f0], [.int .i64 x.f1], rfl, rfl, rfl⟩
theorem k38_mkF (W : World) (ok : Nat → Prop) (x : S38) : Kd.FK k38 W ok x [.int .i64 x.f0, .int .i64 x.f1] := fun W2 _ => k38_mk W2 x
def rd_T38 (xs : List S38) (i : Int) : S38 := xs.getD i.toNat z38
theorem at_T38 {w : World} {A : Option Addr} {n : Nat} {xs : List S38} (h : Kd.C k38 w A n xs) (i : Int) (h0 : 0 ≤ i) (h1 : i < n) : ∃ ad , A = some ad ∧ w.cell? (ad.add (i.toNat * 2)) = some (.int .i64 (rd_T38 xs i).f0) ∧ w.cell? ⟨(ad.add (i.toNat * 2)).block, (ad.add (i.toNat * 2)).off + 1, none⟩ = some (.int .i64 (rd_T38 xs i).f1) := by
  obtain ⟨ad, c, e, _, hK, hc0⟩ := Kd.C_get h z38 i h0 h1
  have hc : ∀ j u, c[j]? = some u → w.cell? (ad.add (i.toNat * 2 + j)) = some u := hc0
  obtain rfl := k38_open hK
  exact ⟨ad, e, hc 0 _ rfl, by rw [← add_field _ _ 1 (by omega)]; exact hc 1 _ rfl⟩

def rd_L2 (xs : List (List S38)) (i : Int) : (List S38) := xs.getD i.toNat ([] : List S38)
theorem at_L2 {w : World} {A : Option Addr} {n : Nat} {xs : List (List S38)} (h : Kd.C (Kd.slice 38 k38) w A n xs) (i : Int) (h0 : 0 ≤ i) (h1 : i < n) : ∃ ad A0 c0, A = some ad ∧ w.cell? (ad.add i.toNat) = some (.slice A0 (rd_L2 xs i).length c0) ∧ (rd_L2 xs i).length ≤ c0 ∧ k38.C w A0 (rd_L2 xs i).length (rd_L2 xs i) := by
  obtain ⟨ad, c, e, _, hK, hc0⟩ := Kd.C_get h ([] : List S38) i h0 h1
  have hc : ∀ j u, c[j]? = some u → w.cell? (ad.add (i.toNat * 1 + j)) = some u := hc0
  obtain ⟨A0, c0, rfl, l0, g0⟩ := hK
  exact ⟨ad, A0, c0, e, by have hq := hc 0 _ rfl; rwa [Nat.mul_one, Nat.add_zero] at hq, l0, g0⟩

def rd_L4 (xs : List (List Int)) (i : Int) : (List Int) := xs.getD i.toNat ([] : List Int)
theorem at_L4 {w : World} {A : Option Addr} {n : Nat} {xs : List (List Int)} (h : Kd.C (Kd.slice 3 (Kd.int .i64)) w A n xs) (i : Int) (h0 : 0 ≤ i) (h1 : i < n) : ∃ ad A0 c0, A = some ad ∧ w.cell? (ad.add i.toNat) = some (.slice A0 (rd_L4 xs i).length c0) ∧ (rd_L4 xs i).length ≤ c0 ∧ (Kd.int .i64).C w A0 (rd_L4 xs i).length (rd_L4 xs i) := by
  obtain ⟨ad, c, e, _, hK, hc0⟩ := Kd.C_get h ([] : List Int) i h0 h1
  have hc : ∀ j u, c[j]? = some u → w.cell? (ad.add (i.toNat * 1 + j)) = some u := hc0
  obtain ⟨A0, c0, rfl, l0, g0⟩ := hK
  exact ⟨ad, A0, c0, e, by have hq := hc 0 _ rfl; rwa [Nat.mul_one, Nat.add_zero] at hq, l0, g0⟩

def rd_L5 (xs : List (List (List Int))) (i : Int) : (List (List Int)) := xs.getD i.toNat ([] : List (List Int))
theorem at_L5 {w : World} {A : Option Addr} {n : Nat} {xs : List (List (List Int))} (h : Kd.C (Kd.slice 43 (Kd.slice 3 (Kd.int .i64))) w A n xs) (i : Int) (h0 : 0 ≤ i) (h1 : i < n) : ∃ ad A0 c0, A = some ad ∧ w.cell? (ad.add i.toNat) = some (.slice A0 (rd_L5 xs i).length c0) ∧ (rd_L5 xs i).length ≤ c0 ∧ (Kd.slice 3 (Kd.int .i64)).C w A0 (rd_L5 xs i).length (rd_L5 xs i) := by
  obtain ⟨ad, c, e, _, hK, hc0⟩ := Kd.C_get h ([] : List (List Int)) i h0 h1
  have hc : ∀ j u, c[j]? = some u → w.cell? (ad.add (i.toNat * 1 + j)) = some u := hc0
  obtain ⟨A0, c0, rfl, l0, g0⟩ := hK
  exact ⟨ad, A0, c0, e, by have hq := hc 0 _ rfl; rwa [Nat.mul_one, Nat.add_zero] at hq, l0, g0⟩

/-! #### struct type 42 -/
structure S42 where
  f0 : Int
  f1 : Int
def z42 : S42 := ⟨(0 : Int), (0 : Int)⟩
def k42 : Kd S42 := Kd.iso (Kd.pair (Kd.int .i64) (Kd.int .i64)) (fun x : S42 => (x.f0, x.f1))
theorem k42_open {w : World} {x : S42} {cs : List Value} (h : k42.K w x cs) : cs = [.int .i64 x.f0, .int .i64 x.f1] := by
  obtain ⟨_, _, rfl, rfl, rfl⟩ := h
  exact rfl
theorem k42_openM {w : World} {base : Nat} {ok : Nat → Prop} {x : S42} {cs : List Value} (h : k42.M w base ok x cs) : cs = [.int .i64 x.f0, .int .i64 x.f1] := by
  obtain ⟨_, _, rfl, rfl, rfl⟩ := h
  exact rfl
theorem k42_mk (w : World) (x : S42)  : k42.K w x [.int .i64 x.f0, .int .i64 x.f1] := ⟨[.int .i64 x.f0], [.int .i64 x.f1], rfl, rfl, rfl⟩
theorem k42_mkM (w : World) (base : Nat) (ok : Nat → Prop) (x : S42)  : k42.M w base ok x [.int .i64 x.f0, .int .i64 x.f1] := ⟨[.int .i64 x.f0], [.int .i64 x.f1], rfl, rfl, rfl⟩
theorem k42_mkF (W : World) (ok : Nat → Prop) (x : S42) : Kd.FK k42 W ok x [.int .i64 x.f0, .int .i64 x.f1] := fun W2 _ => k42_mk W2 x
def rd_T42 (xs : List S42) (i : Int) : S42 := xs.getD i.toNat z42
theorem at_T42 {w : World} {A : Option Addr} {n : Nat} {xs : List S42} (h : Kd.C k42 w A n xs) (i : Int) (h0 : 0 ≤ i) (h1 : i < n) : ∃ ad , A = some ad ∧ w.cell? (ad.add (i.toNat * 2)) = some (.int .i64 (rd_T42 xs i).f0) ∧ w.cell? ⟨(ad.add (i.toNat * 2)).block, (ad.add (i.toNat * 2)).off + 1, none⟩ = some (.int .i64 (rd_T42 xs i).f1) := by
  obtain ⟨ad, c, e, _, hK, hc0⟩ := Kd.C_get h z42 i h0 h1
  have hc : ∀ j u, c[j]? = some u → w.cell? (ad.add (i.toNat * 2 + j)) = some u := hc0
  obtain rfl := k42_open hK
  exact ⟨ad, e, hc 0 _ rfl, by rw [← add_field _ _ 1 (by omega)]; exact hc 1 _ rfl⟩

def rd_L7 (xs : List (List S42)) (i : Int) : (List S42) := xs.getD i.toNat ([] : List S42)
theorem at_L7 {w : World} {A : Option Addr} {n : Nat} {xs : List (List S42)} (h : Kd.C (Kd.slice 42 k42) w A n xs) (i : Int) (h0 : 0 ≤ i) (h1 : i < n) : ∃ ad A0 c0, A = some ad ∧ w.cell? (ad.add i.toNat) = some (.slice A0 (rd_L7 xs i).length c0) ∧ (rd_L7 xs i).length ≤ c0 ∧ k42.C w A0 (rd_L7 xs i).length (rd_L7 xs i) := by
  obtain ⟨ad, c, e, _, hK, hc0⟩ := Kd.C_get h ([] : List S42) i h0 h1
  have hc : ∀ j u, c[j]? = some u → w.cell? (ad.add (i.toNat * 1 + j)) = some u := hc0
  obtain ⟨A0, c0, rfl, l0, g0⟩ := hK
  exact ⟨ad, A0, c0, e, by have hq := hc 0 _ rfl; rwa [Nat.mul_one, Nat.add_zero] at hq, l0, g0⟩

end Go.Proofs.Ytkfopphcgjdcaaa.A

/- slices.IndexFunc and slices.ContainsFunc over []api.Copy, for any function value that writes nothing of what lay there: what they answer. -/
namespace Go.Proofs.Ytkfopphcgjdcaaa.A
open Go.RowKit Go.Proofs.YtkfopphcgjdcaaaW.PrintWords Go.Proofs.YtkfopphcgjdcaaaW.PrintLast Go.Shelf Go.Lib
set_option linter.unusedVariables false
set_option linter.unusedSimpArgs false

/-- what a function value answers at x, in every world that is w but for what is new -/
def Says (g : Nat) (lb : Array Value) (p : S38 → Bool) (xs : List S38) (w : World) : Prop :=
  ∀ x ∈ xs, ∀ W, Below w.heap.size w W → Calls Try.prog g (#[.agg #[.int .i64 x.f0, .int .i64 x.f1]] ++ lb) W fun e w' => e = .returned (.bool (p x)) ∧ Below W.heap.size W w'

def firstOf (p : S38 → Bool) (xs : List S38) : Int := match xs.findIdx? p with | some i => i | none => -1

theorem firstOf_hit (p : S38 → Bool) (xs : List S38) (k : Nat) (hk : k < xs.length) (h1 : ∀ j, j < k → p (xs.getD j z38) = false) (h2 : p (xs.getD k z38) = true) : firstOf p xs = k := by
  have : xs.findIdx? p = some k := by
    rw [List.findIdx?_eq_some_iff_getElem]
    refine ⟨hk, by simpa [List.getD_eq_getElem?_getD, hk] using h2, fun j hj => ?_⟩
    have := h1 j hj
    simpa [List.getD_eq_getElem?_getD, Nat.lt_trans hj hk] using this
  rw [firstOf, this]
theorem firstOf_miss (p : S38 → Bool) (xs : List S38) (h1 : ∀ j, j < xs.length → p (xs.getD j z38) = false) : firstOf p xs = -1 := by
  have : xs.findIdx? p = none := by
    rw [List.findIdx?_eq_none_iff]
    intro x hx
    obtain ⟨j, hj, rfl⟩ := List.getElem_of_mem hx
    have := h1 j hj
    simpa [List.getD_eq_getElem?_getD, hj] using this
  rw [firstOf, this]
theorem firstOf_any (p : S38 → Bool) (xs : List S38) : decide (0 ≤ firstOf p xs) = xs.any p := by
  unfold firstOf
  cases h : xs.findIdx? p with
  | none =>
    rw [List.findIdx?_eq_none_iff] at h
    simp only [show ¬ (0 : Int) ≤ -1 by omega, decide_false]
    symm
    rw [List.any_eq_false]
    intro x hx
    simp [h x hx]
  | some i =>
    simp only [show (0 : Int) ≤ (i : Int) by omega, decide_true]
    symm
    rw [List.findIdx?_eq_some_iff_getElem] at h
    obtain ⟨hi, hp, _⟩ := h
    rw [List.any_eq_true]
    exact ⟨_, List.getElem_mem hi, hp⟩

set_option maxHeartbeats 2000000 in
theorem indexFunc_calls (p : S38 → Bool) (g : Nat) (lb : Array Value) (eg : ∀ args w, (callFunc g args).run Try.prog w = .ok (.enter g args) w) (A : Option Addr) (c : Nat) (xs : List S38) (w : World)
    (hx : Kd.C k38 w A xs.length xs) (hp : Says g lb p xs w) :
    Calls Try.prog 45 #[.slice A xs.length c, .func (.func g) #[] lb] w fun e w' => e = .returned (.int .i64 (firstOf p xs)) ∧ Below w.heap.size w w' := by
  have hbig : xs.length ≤ 9223372036854775807 := Kd.C_max hx
  have hu38 := Try.underlying38
  go_enter Try.func45, Try.ntmps45
  go_wp2
  go_loopg [5, 8] xs.length (fun gg _ s8 wr => ∃ kk : Nat, kk ≤ xs.length ∧ xs.length - kk ≤ gg ∧ s8 = .int .i64 kk ∧ Aside0 (Below w.heap.size w wr) ∧ Aside0 (∀ j, j < kk → p (xs.getD j z38) = false))
  case atStart => exact ⟨0, Nat.zero_le _, by omega, rfl, ⟨Below.refl _ _⟩, ⟨fun j hj => absurd hj (Nat.not_lt_zero _)⟩⟩
  case round =>
    obtain ⟨kk, hkk, hg, rfl, HB, HA⟩ := hrel
    by_cases hlt : kk < xs.length
    · have hltz : (kk : Int) < (xs.length : Int) := by omega
      have hk0 : (0 : Int) ≤ (kk : Int) := by omega
      obtain ⟨ad, rfl, q0, q1⟩ := at_T38 (Kd.C_below hx HB.out) kk hk0 hltz
      have hmem : rd_T38 xs kk ∈ xs := by
        unfold rd_T38
        simp only [Int.toNat_natCast, List.getD_eq_getElem?_getD, List.getElem?_eq_getElem hlt, Option.getD_some]
        exact List.getElem_mem hlt
      have hcall := hp _ hmem
      have hB : Aside0 (rd_T38 xs kk = xs.getD kk z38) := ⟨by simp [rd_T38]⟩
      rw [Int.toNat_natCast] at q0 q1
      generalize rd_T38 xs kk = y at q0 q1 hcall hB
      clear hmem
      have hc1 := hcall wr HB.out
      generalize hq : p y = pb at hc1
      have hq' := Aside0.mk hq
      clear hq hcall
      cases pb with
      | true =>
        go_wp2_with fail
        refine hc1.mono ?_
        rintro e w' ⟨rfl, hb⟩
        go_wp2_with fail
        go_ret
        refine ⟨?_, below_then HB.out HB.out.size hb⟩
        rw [firstOf_hit p xs kk hlt HA.out (by rw [← hB.out]; exact hq'.out)]
        rfl
      | false =>
        go_wp2_with fail
        refine hc1.mono ?_
        rintro e w' ⟨rfl, hb⟩
        have hb' := Aside0.mk (below_then HB.out HB.out.size hb)
        clear hb HB q0 q1
        go_wp2_with fail
        go_roundg (xs.length - (kk + 1))
        case measure => omega
        case rel =>
          refine ⟨kk + 1, by omega, by omega, by go_num, hb', ⟨fun j hj => ?_⟩⟩
          by_cases e : j = kk
          · subst e
            rw [← hB.out]; exact hq'.out
          · exact HA.out j (by omega)
    · have hltz : ¬ (kk : Int) < (xs.length : Int) := by omega
      obtain rfl : kk = xs.length := by omega
      go_wp2
      go_ret
      refine ⟨?_, HB.out⟩
      rw [firstOf_miss p xs HA.out]
      rfl

set_option maxHeartbeats 1000000 in
theorem containsFunc_calls (p : S38 → Bool) (g : Nat) (lb : Array Value) (eg : ∀ args w, (callFunc g args).run Try.prog w = .ok (.enter g args) w) (A : Option Addr) (c : Nat) (xs : List S38) (w : World)
    (hx : Kd.C k38 w A xs.length xs) (hp : Says g lb p xs w) :
    Calls Try.prog 25 #[.slice A xs.length c, .func (.func g) #[] lb] w fun e w' => e = .returned (.bool (xs.any p)) ∧ Below w.heap.size w w' := by
  rw [← firstOf_any]
  go_enter Try.func25, Try.ntmps25
  go_wp2_with (go_at_call 45; refine (indexFunc_calls p g lb eg A c xs _ hx hp).mono ?_; rintro e w' ⟨rfl, hb⟩)
  go_ret
  exact ⟨rfl, hb⟩
#print axioms containsFunc_calls
end Go.Proofs.Ytkfopphcgjdcaaa.A

/- Maps from numbers to numbers that a call makes: what they hold, as a function. -/
namespace Go.Proofs.Ytkfopphcgjdcaaa.A
open Go.RowKit Go.Maps Go.Proofs.YtkfopphcgjdcaaaW.PrintWords Go.Proofs.YtkfopphcgjdcaaaW.PrintLast
set_option linter.unusedVariables false
set_option linter.unusedSimpArgs false

theorem law3 : Keyed Try.prog 3 := int_keyed Try.underlying3
theorem zero3 (w : World) : (zeroValue 3).run Try.prog w = .ok (.int .i64 0) w := by kernel_rfl
def Wf (n : Int) : Prop := (Lit.int .i64 n).wf = true
theorem key3 {n : Int} (h : Wf n) : keyOf Try.prog 3 (.int .i64 n) = some (.int .i64 n) := keyOf_int_mk Try.underlying3 h

abbrev DU := DataW Unit
/-- the datum reads as the function -/
structure Reads (D : DU) (f : Int → Option Int) : Prop where
  tidy : Tidy D
  has : ∀ k, Maps.has D (.int .i64 k) = (f k).isSome
  at_ : ∀ k, D.atKey (.int .i64 k) (.lit (.int .i64 0)) = .lit (.int .i64 ((f k).getD 0))
def upd (f : Int → Option Int) (k v : Int) : Int → Option Int := fun j => if j = k then some v else f j
theorem isKey (k : Int) : WideAt.IsKeyLit (.int .i64 k) := by simp [WideAt.IsKeyLit]
theorem Reads.empty : Reads (.map []) (fun _ => none) := ⟨tidy_empty, fun k => rfl, fun k => rfl⟩
theorem Reads.put {D : DU} {f : Int → Option Int} (h : Reads D f) (k v : Int) : Reads (D.put (.int .i64 k) (.lit (.int .i64 v))) (upd f k v) := by
  refine ⟨h.tidy.put (isKey k) _, fun j => ?_, fun j => ?_⟩
  · by_cases hj : j = k
    · subst hj
      rw [has_put_same h.tidy.isMap (isKey j)]
      simp [upd]
    · rw [has_put_other (by simpa using hj), h.has j]
      simp [upd, hj]
  · by_cases hj : j = k
    · subst hj
      rw [atKey_put_same h.tidy.isMap (isKey j)]
      simp [upd]
    · rw [atKey_put_other (by simpa using hj), h.at_ j]
      simp [upd, hj]
theorem Reads.size_put {D : DU} {f : Int → Option Int} (h : Reads D f) (k v : Int) : size (D.put (.int .i64 k) (.lit (.int .i64 v))) = if (f k).isSome then size D else size D + 1 := by
  rw [Maps.size_put h.tidy, h.has k]
theorem look_c {D : DU} {f : Int → Option Int} (h : Reads D f) {k c : Int} (hat : D.atKey (.int .i64 k) (.lit (.int .i64 0)) = .lit (.int .i64 c)) : c = (f k).getD 0 := by
  rw [h.at_ k] at hat
  injection hat with h1
  injection h1 with _ h2
  exact h2.symm

/-! froms -/
def fromF (l : List S38) : Int → Option Int := l.foldl (fun f x => upd f x.f0 x.f1) (fun _ => none)
theorem fromF_snoc (l : List S38) (x : S38) : fromF (l ++ [x]) = upd (fromF l) x.f0 x.f1 := by simp [fromF]
def twice : List S38 → Bool
  | [] => false
  | x :: r => r.any (fun y => decide (y.f0 = x.f0)) || twice r
theorem fromF_some (l : List S38) (k : Int) : (fromF l k).isSome = l.any (fun x => decide (x.f0 = k)) := by
  suffices h : ∀ f : Int → Option Int, (l.foldl (fun f x => upd f x.f0 x.f1) f k).isSome = ((f k).isSome || l.any (fun x => decide (x.f0 = k))) by
    have := h (fun _ => none); simpa [fromF] using this
  induction l with
  | nil => intro f; simp
  | cons x r ih =>
    intro f
    rw [List.foldl_cons, ih, List.any_cons]
    by_cases h : k = x.f0
    · subst h; simp [upd]
    · have h' : ¬ x.f0 = k := fun e => h e.symm
      simp [upd, h, h']
end Go.Proofs.Ytkfopphcgjdcaaa.A

/- moves.froms and moves.Right: what they answer. -/
namespace Go.Proofs.Ytkfopphcgjdcaaa.A
open Go.RowKit Go.Maps Go.Proofs.YtkfopphcgjdcaaaW.PrintWords Go.Proofs.YtkfopphcgjdcaaaW.PrintLast
set_option linter.unusedVariables false
set_option linter.unusedSimpArgs false

def WfL (l : List S38) : Prop := ∀ x ∈ l, Wf x.f0 ∧ Wf x.f1
/-- a To that was there before -/
def dupAt (l : List S38) (m : Nat) : Bool := (fromF (l.take m) (rd_T38 l m).f0).isSome
/-- none of the first m is there twice -/
def okN (l : List S38) (m : Nat) : Bool := (List.range m).all fun i => !dupAt l i
theorem okN_succ (l : List S38) (m : Nat) : okN l (m + 1) = (okN l m && !dupAt l m) := by simp [okN, List.range_succ]
theorem okN_mono (l : List S38) {m n : Nat} (h : m ≤ n) (hn : okN l n = true) : okN l m = true := by
  simp only [okN, List.all_eq_true, List.mem_range] at *
  exact fun i hi => hn i (by omega)

set_option maxRecDepth 100000 in
set_option maxHeartbeats 1000000 in
theorem froms_calls (A : Option Addr) (c : Nat) (l : List S38) (w : World) (h : Kd.C k38 w A l.length l) (hw : WfL l) (hl : l.length ≤ 1000000) :
    Calls Try.prog 33 #[.slice A l.length c] w fun e w' => Below w.heap.size w w' ∧
      (okN l l.length = false → e = .returned (.tuple #[.map none, .bool false])) ∧
      (okN l l.length = true → e = .returned (.tuple #[.map (some w.heap.size), .bool true]) ∧ ∃ D : DU, w'.ownsMap Try.prog 3 (plainElem Try.prog 3) w.heap.size l.length D ∧ Reads D (fromF l) ∧ size D = l.length) := by
  have hu38 := Try.underlying38
  have hmm := @run_makeMap Try.prog
  go_enter Try.func33, Try.ntmps33
  go_wp2_with fail
  go_loopw [12] (fun s wr => ∃ (m : Nat) (D : DU), m ≤ l.length ∧ s = .int .i64 m ∧ Aside0 (okN l m = true) ∧ Aside0 (wr.ownsMap Try.prog 3 (plainElem Try.prog 3) w.heap.size m D) ∧ Aside0 (Reads D (fromF (l.take m))) ∧ Aside0 (size D = m) ∧ Aside0 (Below w.heap.size w wr))
    (fun s _ => l.length - (intOf s).toNat)
  case atStart => exact ⟨0, .map [], Nat.zero_le _, rfl, ⟨rfl⟩, ⟨World.ownsMap_made _ _ _ _⟩, ⟨Reads.empty⟩, ⟨rfl⟩, ⟨(Below.refl _ _).alloc (Nat.le_refl _) _⟩⟩
  case round =>
    obtain ⟨m, D, hm, rfl, hok, hown, hR, hS, hB⟩ := hrel
    by_cases hlt : m < l.length
    · have hmn : (m : Int) < (l.length : Int) := by omega
      have hm0 : (0 : Int) ≤ (m : Int) := by omega
      obtain ⟨ad, rfl, q0, q1⟩ := at_T38 (Kd.C_below h hB.out) (m : Int) hm0 hmn
      rw [Int.toNat_natCast] at q0 q1
      have htk : l.take (m + 1) = l.take m ++ [rd_T38 l m] := by
        rw [List.take_succ_eq_append_getElem hlt]
        unfold rd_T38
        rw [Int.toNat_natCast, List.getD_eq_getElem?_getD, List.getElem?_eq_getElem hlt]
        rfl
      have hwx := hw (rd_T38 l m) (by unfold rd_T38; rw [Int.toNat_natCast, List.getD_eq_getElem?_getD, List.getElem?_eq_getElem hlt]; exact List.getElem_mem _)
      have hsucc := okN_succ l m
      have hdup : dupAt l m = (fromF (l.take m) (rd_T38 l m).f0).isSome := rfl
      have hhas : Maps.has D (.int .i64 (rd_T38 l m).f0) = dupAt l m := (hR.out.has _).trans hdup.symm
      have hput := Aside0.mk (hR.out.put (rd_T38 l m).f0 (rd_T38 l m).f1)
      have hsz := Aside0.mk (hR.out.size_put (rd_T38 l m).f0 (rd_T38 l m).f1)
      rw [← fromF_snoc, ← htk] at hput
      rw [← hdup] at hsz
      have hsucc' := Aside0.mk hsucc
      have hmono := Aside0.mk (fun hn => okN_mono l (show m + 1 ≤ l.length by omega) hn)
      clear hdup hsucc htk
      generalize dupAt l m = dp at hhas hsucc' hsz
      generalize rd_T38 l (m : Int) = x at *
      obtain ⟨hw0, hw1⟩ := hwx
      cases dp
      · go_wp2_with (first
          | (at_lookup; refine wpList_lookup_own_ok_int _ rfl _ _ 52 rfl 3 3 .i64 law3 Try.underlying52 Try.underlying3 (zero3 _) w.heap.size m D rfl (hown.out.alloc _) _ _ rfl (key3 hw0) ?_; intro c hat hwc)
          | (at_mapUpdate; refine wpList_mapUpdate_own _ rfl _ _ _ 52 rfl 3 3 law3 Try.underlying52 _ w.heap.size m D rfl (hown.out.alloc _) (by unfold maxLen; omega) _ _ _ rfl rfl (key3 hw0) _ [] (plainElem_int Try.underlying3 hw1) ?_; intro w1 hown1 hgrow1))
        go_roundw
        case rel => exact ⟨m + 1, _, by omega, by go_num, ⟨by rw [hsucc'.out, hok.out]; rfl⟩, ⟨hown1⟩, hput, ⟨by rw [hsz.out, hS.out]; simp⟩, ⟨(below_alloc hB.out _).grown hgrow1 (below_alloc hB.out _).size (fun j hj => by cases hj; exact Nat.le_refl _)⟩⟩
        case measure => simp [intOf]; omega
      · go_wp2_with (first
          | (at_lookup; refine wpList_lookup_own_ok_int _ rfl _ _ 52 rfl 3 3 .i64 law3 Try.underlying52 Try.underlying3 (zero3 _) w.heap.size m D rfl (hown.out.alloc _) _ _ rfl (key3 hw0) ?_; intro c hat hwc))
        go_ret2
        refine ⟨below_alloc hB.out _, fun _ => rfl, fun hn => ?_⟩
        have := hmono.out hn
        rw [hsucc'.out] at this
        simp at this
    · obtain rfl : m = l.length := by omega
      go_wp2_with fail
      go_ret2
      refine ⟨hB.out, fun hn => ?_, fun _ => ⟨rfl, D, hown.out, by have := hR.out; rwa [List.take_length] at this, hS.out⟩⟩
      rw [hok.out] at hn
      cases hn
#print axioms froms_calls

theorem right_calls (A : Option Addr) (c : Nat) (l : List S38) (w : World) (h : Kd.C k38 w A l.length l) (hw : WfL l) (hl : l.length ≤ 1000000) :
    Calls Try.prog 12 #[.slice A l.length c] w fun e w' => e = .returned (.bool (okN l l.length)) ∧ Below w.heap.size w w' := by
  have hf := froms_calls A c l w h hw hl
  generalize okN l l.length = ok at hf ⊢
  cases ok
  · go_enter Try.func12, Try.ntmps12
    go_wp2_with fail
    refine hf.mono ?_
    rintro e w' ⟨hB, h1, _⟩
    obtain rfl := h1 (by simp)
    clear h1
    go_wp2_with fail
    go_ret
    exact ⟨rfl, hB⟩
  · go_enter Try.func12, Try.ntmps12
    go_wp2_with fail
    refine hf.mono ?_
    rintro e w' ⟨hB, _, h1⟩
    obtain ⟨rfl, _⟩ := h1 (by simp)
    go_wp2_with fail
    go_ret
    exact ⟨rfl, hB⟩
#print axioms right_calls
end Go.Proofs.Ytkfopphcgjdcaaa.A

/- moves.free and the function values of moves.Order: what they answer. -/
namespace Go.Proofs.Ytkfopphcgjdcaaa.A
open Go.RowKit Go.Maps Go.Proofs.YtkfopphcgjdcaaaW.PrintWords Go.Proofs.YtkfopphcgjdcaaaW.PrintLast Go.Shelf
set_option linter.unusedVariables false
set_option linter.unusedSimpArgs false

set_option maxHeartbeats 1000000 in
theorem order1_calls (x : S38) (sp : Int) (p : Addr) (w : World) (hp : w.cell? p = some (.int .i64 sp)) :
    Calls Try.prog 26 #[.agg #[.int .i64 x.f0, .int .i64 x.f1], .pointer (some p)] w fun e w' => e = .returned (.bool (decide (x.f0 = sp) || decide (x.f1 = sp))) ∧ Below w.heap.size w w' := by
  have hu38 := Try.underlying38
  have hpa : ∀ o, (w.alloc o).cell? p = some (.int .i64 sp) := fun o => (World.cell?_alloc_lt _ _ _ (World.block_lt_of_cell? _ _ hp)).trans hp
  by_cases h0 : x.f0 = sp
  · go_enter Try.func26, Try.ntmps26
    go_wp2_with fail
    go_ret
    exact ⟨by simp [h0], below_alloc (Below.refl _ _) _⟩
  · by_cases h1 : x.f1 = sp
    · go_enter Try.func26, Try.ntmps26
      go_wp2_with fail
      go_ret
      exact ⟨by simp [h0, h1], below_alloc (Below.refl _ _) _⟩
    · go_enter Try.func26, Try.ntmps26
      go_wp2_with fail
      go_ret
      exact ⟨by simp [h0, h1], below_alloc (Below.refl _ _) _⟩

set_option maxHeartbeats 1000000 in
theorem order2_calls (x : S38) (w : World) :
    Calls Try.prog 29 #[.agg #[.int .i64 x.f0, .int .i64 x.f1]] w fun e w' => e = .returned (.bool (decide (x.f0 = x.f1))) ∧ Below w.heap.size w w' := by
  have hu38 := Try.underlying38
  go_enter Try.func29, Try.ntmps29
  go_wp2_with fail
  go_ret
  exact ⟨rfl, below_alloc (Below.refl _ _) _⟩

/-! free: how often a place is read -/
def cntF (l : List S38) : Int → Option Int := l.foldl (fun f x => upd f x.f1 ((f x.f1).getD 0 + 1)) (fun _ => none)
theorem cntF_snoc (l : List S38) (x : S38) : cntF (l ++ [x]) = upd (cntF l) x.f1 ((cntF l x.f1).getD 0 + 1) := by simp [cntF]
theorem cntF_count (l : List S38) (k : Int) : (cntF l k).getD 0 = ((l.filter fun x => decide (x.f1 = k)).length : Nat) := by
  suffices h : ∀ f : Int → Option Int, (l.foldl (fun f x => upd f x.f1 ((f x.f1).getD 0 + 1)) f k).getD 0 = (f k).getD 0 + ((l.filter fun x => decide (x.f1 = k)).length : Nat) by
    have := h (fun _ => none); simpa [cntF] using this
  induction l with
  | nil => intro f; simp
  | cons x r ih =>
    intro f
    rw [List.foldl_cons, ih, List.filter_cons]
    by_cases h : x.f1 = k
    · subst h; simp [upd]; omega
    · have h' : ¬ k = x.f1 := fun e => h e.symm
      simp [upd, h, h']
/-- a move whose To no one reads -/
def freeB (l : List S38) (x : S38) : Bool := !(l.any fun y => decide (y.f1 = x.f0))
theorem freeB_cnt (l : List S38) (x : S38) : decide ((cntF l x.f0).getD 0 = 0) = freeB l x := by
  rw [cntF_count, freeB]
  by_cases h : (l.any fun y => decide (y.f1 = x.f0)) = true
  · rw [h]
    simp only [Bool.not_true, decide_eq_false_iff_not]
    intro h0
    have h1 : (l.filter fun y => decide (y.f1 = x.f0)) = [] := List.length_eq_zero_iff.1 (by omega)
    rw [List.filter_eq_nil_iff] at h1
    rw [List.any_eq_true] at h
    obtain ⟨y, hy, hp⟩ := h
    exact h1 y hy hp
  · have h' : (l.any fun y => decide (y.f1 = x.f0)) = false := by simpa using h
    rw [h']
    have : (l.filter fun y => decide (y.f1 = x.f0)) = [] := by
      rw [List.filter_eq_nil_iff]
      rw [List.any_eq_false] at h'
      exact h'
    simp [this]

set_option maxHeartbeats 1000000 in
theorem free1_calls (x : S38) (hwx : Wf x.f0) (b n : Nat) (D : DU) (f : Int → Option Int) (p : Addr) (w : World) (hp : w.cell? p = some (.map (some b))) (hown : w.ownsMap Try.prog 3 (plainElem Try.prog 3) b n D) (hR : Reads D f) :
    Calls Try.prog 46 #[.agg #[.int .i64 x.f0, .int .i64 x.f1], .pointer (some p)] w fun e w' => e = .returned (.bool (decide ((f x.f0).getD 0 = 0))) ∧ Below w.heap.size w w' := by
  have hu38 := Try.underlying38
  have hpa : ∀ o, (w.alloc o).cell? p = some (.map (some b)) := fun o => (World.cell?_alloc_lt _ _ _ (World.block_lt_of_cell? _ _ hp)).trans hp
  go_enter Try.func46, Try.ntmps46
  go_wp2_with (at_lookup; refine wpList_lookup_own_int _ rfl _ _ 52 rfl 3 3 .i64 law3 Try.underlying52 Try.underlying3 (zero3 _) b n D rfl (hown.alloc _) _ _ rfl (key3 hwx) ?_; intro c hat hwc; obtain rfl := look_c hR hat)
  go_ret
  exact ⟨rfl, below_alloc (Below.refl _ _) _⟩
theorem cntF_range (l : List S38) (k : Int) : 0 ≤ (cntF l k).getD 0 ∧ (cntF l k).getD 0 ≤ l.length := by
  rw [cntF_count]
  have := List.length_filter_le (fun x : S38 => decide (x.f1 = k)) l
  omega
def freeOf (l : List S38) : Int := firstOf (freeB l) l

set_option maxRecDepth 100000 in
set_option maxHeartbeats 1000000 in
theorem free_calls (A : Option Addr) (c : Nat) (l : List S38) (w : World) (h : Kd.C k38 w A l.length l) (hw : WfL l) (hl : l.length ≤ 1000000) :
    Calls Try.prog 30 #[.slice A l.length c] w fun e w' => e = .returned (.int .i64 (freeOf l)) ∧ Below w.heap.size w w' := by
  have hu38 := Try.underlying38
  have hmm := @run_makeMap Try.prog
  go_enter Try.func30, Try.ntmps30
  go_wp2_with fail
  go_loopw [9] (fun s wr => ∃ (m : Nat) (D : DU), m ≤ l.length ∧ s = .int .i64 m ∧ Aside0 (wr.ownsMap Try.prog 3 (plainElem Try.prog 3) w.heap.size m D) ∧ Aside0 (Reads D (cntF (l.take m))) ∧ Aside0 (wr.heap[w.heap.size + 1]? = some (.cells #[.map (some w.heap.size)] 52 (0, 0))) ∧ Aside0 (Below w.heap.size w wr))
    (fun s _ => l.length - (intOf s).toNat)
  case atStart =>
    refine ⟨0, .map [], Nat.zero_le _, rfl, ⟨(World.ownsMap_made _ _ _ _).alloc _⟩, ⟨Reads.empty⟩, ⟨?_⟩, ⟨below_alloc (below_alloc (Below.refl _ _) _) _⟩⟩
    have := World.alloc_heap_new (w.alloc (.map #[] 0)) (.cells #[.map (some w.heap.size)] 52)
    rwa [World.size_alloc] at this
  case round =>
    obtain ⟨m, D, hm, rfl, hown, hR, hbx, hB⟩ := hrel
    by_cases hlt : m < l.length
    · have hmn : (m : Int) < (l.length : Int) := by omega
      have hm0 : (0 : Int) ≤ (m : Int) := by omega
      obtain ⟨ad, rfl, q0, q1⟩ := at_T38 (Kd.C_below h hB.out) (m : Int) hm0 hmn
      rw [Int.toNat_natCast] at q0 q1
      have htk : l.take (m + 1) = l.take m ++ [rd_T38 l m] := by
        rw [List.take_succ_eq_append_getElem hlt]
        unfold rd_T38
        rw [Int.toNat_natCast, List.getD_eq_getElem?_getD, List.getElem?_eq_getElem hlt]
        rfl
      have hwx := hw (rd_T38 l m) (by unfold rd_T38; rw [Int.toNat_natCast, List.getD_eq_getElem?_getD, List.getElem?_eq_getElem hlt]; exact List.getElem_mem _)
      have hput := Aside0.mk (hR.out.put (rd_T38 l m).f1 ((cntF (l.take m) (rd_T38 l m).f1).getD 0 + 1))
      have hcr := Aside0.mk (cntF_range (l.take m) (rd_T38 l m).f1)
      rw [← cntF_snoc, ← htk] at hput
      have hlk := Aside0.mk (fun c => look_c hR.out (k := (rd_T38 l m).f1) (c := c))
      have htl : Aside0 ((l.take m).length ≤ l.length) := ⟨by rw [List.length_take]; omega⟩
      clear htk
      have hk := blk_cell hbx.out 0
      replace hk : wr.cell? ⟨w.heap.size + 1, 0, none⟩ = some (.map (some w.heap.size)) := hk
      have hka : ∀ o, (wr.alloc o).cell? ⟨w.heap.size + 1, 0, none⟩ = some (.map (some w.heap.size)) := fun o => (World.cell?_alloc_lt _ _ _ (World.block_lt_of_cell? _ _ hk)).trans hk
      generalize rd_T38 l (m : Int) = x at *
      generalize (cntF (l.take m) x.f1).getD 0 = cn at *
      obtain ⟨hw0, hw1⟩ := hwx
      go_wp2_with (first
        | (at_lookup; refine wpList_lookup_own_int _ rfl _ _ 52 rfl 3 3 .i64 law3 Try.underlying52 Try.underlying3 (zero3 _) w.heap.size m D rfl (hown.out.alloc _) _ _ rfl (key3 hw1) ?_; intro c' hat hwc; obtain rfl := hlk.out c' hat; have hcr1 := hcr.out.1; have hcr2 := hcr.out.2; have htl1 := htl.out)
        | (at_mapUpdate; refine wpList_mapUpdate_own _ rfl _ _ _ 52 rfl 3 3 law3 Try.underlying52 _ w.heap.size m D rfl (hown.out.alloc _) (by unfold maxLen; omega) _ _ _ rfl rfl (key3 hw1) _ [] (plainElem_int Try.underlying3 (by first | exact wrap64_wf _ | exact WalkArith.wf_i64 (by omega))) ?_; intro w1 hown1 hgrow1))
      go_roundw
      case rel =>
        have hBa := below_alloc hB.out (.cells #[.int .i64 x.f0, .int .i64 x.f1] 38)
        exact ⟨m + 1, _, by omega, by go_num, ⟨hown1⟩, hput, ⟨blk_grown (blk_alloc hbx.out _) hgrow1 (by simp)⟩, ⟨hBa.grown hgrow1 hBa.size (fun j hj => by cases hj; exact Nat.le_refl _)⟩⟩
      case measure => simp [intOf]; omega
    · obtain rfl : m = l.length := by omega
      have hk := blk_cell hbx.out 0
      replace hk : wr.cell? ⟨w.heap.size + 1, 0, none⟩ = some (.map (some w.heap.size)) := hk
      have hRl := hR.out
      rw [List.take_length] at hRl
      have hsays : Says 46 #[.pointer (some ⟨w.heap.size + 1, 0, none⟩)] (freeB l) l wr := fun x hx W hW => by
        rw [← freeB_cnt l x]
        have hk' : W.cell? ⟨w.heap.size + 1, 0, none⟩ = some (.map (some w.heap.size)) := pw_cell_below hW hk
        have ho' : W.ownsMap Try.prog 3 (plainElem Try.prog 3) w.heap.size l.length D := by
          obtain ⟨es, clock, hb, r⟩ := hown.out
          exact ⟨es, clock, (hW.block _ (blk_lt hb)).trans hb, r⟩
        exact free1_calls x (hw x hx).1 w.heap.size l.length D (cntF l) _ W hk' ho' hRl
      have hif := indexFunc_calls (freeB l) 46 #[.pointer (some ⟨w.heap.size + 1, 0, none⟩)] (enters_of Try.func46 (by kernel_rfl) rfl) A c l wr (Kd.C_below h hB.out) hsays
      go_wp2_with fail
      refine hif.mono ?_
      rintro e w' ⟨rfl, hb⟩
      have hB2 := Aside0.mk (below_then hB.out hB.out.size hb)
      clear hb hB hown hbx hk hif hsays
      go_wp2_with fail
      go_ret
      exact ⟨rfl, hB2.out⟩
#print axioms free_calls
end Go.Proofs.Ytkfopphcgjdcaaa.A

/- slices.Clone, slices.DeleteFunc and slices.Delete over []api.Copy: what they answer. -/
namespace Go.Proofs.Ytkfopphcgjdcaaa.A
open Go.RowKit Go.Maps Go.Proofs.YtkfopphcgjdcaaaW.PrintWords Go.Proofs.YtkfopphcgjdcaaaW.PrintLast Go.Shelf
set_option linter.unusedVariables false
set_option linter.unusedSimpArgs false

theorem R_new_lit {α : Type} (d : Kd α) (W : World) (base e : Nat) {xs : List α} {inner : List Value} {ok okp : Nat → Prop}
    (hrep : Reps (d.M W base okp) d.sz xs inner) (hok : ∀ k, okp k → ok k) (hfresh : ok W.heap.size) (hbase : base ≤ W.heap.size) (hm : xs.length ≤ 9223372036854775807) :
    d.R e (W.alloc (.cells inner.toArray e)) base ok (.slice (some ⟨W.heap.size, 0, none⟩) xs.length xs.length) xs := by
  refine ⟨fun k hk => ?_, inner, ?_, ?_⟩
  · have : W.heap.size = k := by simpa [Value.ownBlock] using hk
    subst this
    exact hfresh
  · have h2 := World.ownsRow_lit (base := base) (e := e) (size := d.sz) W inner.toArray xs.length hbase (by simpa [maxLen] using hm) (by simpa using hrep.1)
    simpa using h2
  · refine hrep.imp_ (fun p c hp => d.M_mono (fun k hk => ⟨hok k hk.1, fun he => ?_⟩) (Kd.M_below (d.M_bound hp) (below_alloc (Below.refl _ _) _)))
    have : W.heap.size = k := by simpa [Value.ownBlock] using he.symm
    have := hk.2.2.1
    omega
theorem k38_KM (W : World) (base : Nat) (ok : Nat → Prop) (x : S38) (cs : List Value) (h : k38.K W x cs) : k38.M W base ok x cs := by
  obtain rfl := k38_open h
  exact k38_mkM W base ok x

set_option maxHeartbeats 1000000 in
theorem clone_calls (A : Option Addr) (c : Nat) (xs : List S38) (w : World) (hx : Kd.C k38 w A xs.length xs) (hc : xs.length ≤ c) (hl : xs.length ≤ 1000000) :
    Calls Try.prog 28 #[.slice A xs.length c] w fun e w' => ∃ v, e = .returned v ∧ Kd.R k38 38 w' w.heap.size (fun _ => True) v xs ∧ Below w.heap.size w w' := by
  have q22 : ∀ (w : World) (a : Option Addr) (n c n' c' : Nat), (binOp .eql 22 (.slice a n c) (.slice none n' c')).run Try.prog w = .ok (.bool a.isNone) w := fun w a n c n' c' => Lib.run_eql_slice_nil w _ _ a n c n' c' Try.underlying22
  have hu38 := Try.underlying38
  cases A with
  | none =>
    have h0 : xs = [] := by
      obtain ⟨h1, h2, h3⟩ := hx
      rcases Nat.eq_zero_or_pos xs.length with h | h
      · exact List.eq_nil_of_length_eq_zero h
      · obtain ⟨ad, e, _⟩ := h3 h; cases e
    subst h0
    go_enter Try.func28, Try.ntmps28
    go_wp2
    go_ret
    exact ⟨_, rfl, Kd.R_nil _ _ _ _ _, Below.refl _ _⟩
  | some ad =>
    have hr' := Aside0.mk (Kd.C_below hx (below_alloc (Below.refl _ _) (.cells #[] 38)))
    have ho := Aside0.mk (R_new_lit k38 w w.heap.size 38 (xs := []) (inner := []) (ok := fun _ => True) (okp := fun _ => True) (Reps.none _ _) (fun _ h => h) trivial (Nat.le_refl _) (by simp))
    clear hx
    go_enter Try.func28, Try.ntmps28
    go_wp2_with (at_builtin; refine Kd.R_append_rows k38 (w0 := w) w.heap.size rfl (.tmp 5) (.tmp 6) 22 38 (.agg #[(.int .i64 0), (.int .i64 0)]) 16 rfl Try.underlying22 info38 rfl (by decide) (by omega) _ [] xs (some ad) xs.length c (fun _ => True) (fun _ => False) rfl rfl ho.out hr'.out (k38_KM _ _ _) (fun _ hk => hk.elim) (fun _ _ => trivial) (below_alloc (Below.refl _ _) _) (by simp) (by simp; omega) ?_; intro v1 w1 hown hb hg hat)
    go_ret
    exact ⟨v1, rfl, by simpa using hown, hb⟩
#print axioms clone_calls
end Go.Proofs.Ytkfopphcgjdcaaa.A

/- clear(s) over []api.Copy: what it does. -/
namespace Go.Proofs.Ytkfopphcgjdcaaa.A
open Go.RowKit Go.Maps Go.Proofs.YtkfopphcgjdcaaaW.PrintWords Go.Proofs.YtkfopphcgjdcaaaW.PrintLast Go.Shelf
set_option linter.unusedVariables false
set_option linter.unusedSimpArgs false

theorem zeroCells2 (n : Nat) : (Builtin.zeroCells #[Value.int .i64 0, Value.int .i64 0] n).toList = List.replicate (n * 2) (.int .i64 0) := by
  apply List.ext_getElem
  · simp [Builtin.zeroCells]
  · intro i h1 h2
    simp only [Builtin.zeroCells, List.getElem_replicate]
    simp
    have : i % 2 = 0 ∨ i % 2 = 1 := by omega
    rcases this with h | h <;> simp [h]
theorem run_clear2 (w : World) (ty : TypeId) (hv : ∀ w, (zeroValue 38).run Try.prog w = .ok (.agg #[.int .i64 0, .int .i64 0]) w) (b o n c : Nat)
    (hc : ∀ j, j < n * 2 → (w.cell? ⟨b, o + j, none⟩).isSome = true) (hf : ∀ j, j < n * 2 → w.frozen? ⟨b, o + j, none⟩ = false) (hn : 0 < n) :
    (Builtin.clear_ #[22] ty #[.slice (some ⟨b, o, none⟩) n c]).run Try.prog w = .ok (.tuple #[]) (w.setCells b o (List.replicate (n * 2) (.int .i64 0))) := by
  have hst := run_storeCells_cells (P := Try.prog) b o (List.replicate (n * 2) (.int .i64 0)) 0 w (by simpa using hc) (by simpa using hf) (by intro v hv'; rw [List.eq_of_mem_replicate hv']; rfl)
  simp only [Nat.add_zero] at hst
  obtain ⟨m, rfl⟩ : ∃ m, n = m + 1 := ⟨n - 1, by omega⟩
  have hz := zeroCells2 (m + 1)
  simp [Builtin.clear_, run_underlying Try.underlying22, hv, Value.cells, hz, hst]
#print axioms run_clear2
end Go.Proofs.Ytkfopphcgjdcaaa.A

/- A row of api.Copy of the call's own, cell by cell: read, written in place, cut. -/
namespace Go.Proofs.Ytkfopphcgjdcaaa.A
open Go.RowKit Go.Maps Go.Proofs.YtkfopphcgjdcaaaW.PrintWords Go.Proofs.YtkfopphcgjdcaaaW.PrintLast Go.Shelf
set_option linter.unusedVariables false
set_option linter.unusedSimpArgs false

/-- block g is a row of cap moves that begins with xs -/
def Pre (W : World) (g cap : Nat) (xs : List S38) : Prop :=
  ∃ cur : Array Value, W.heap[g]? = some (.cells cur 38 (0, 0)) ∧ cur.size = cap * 2 ∧ cap ≤ maxLen ∧ xs.length ≤ cap ∧ ∀ j x, xs[j]? = some x → cur[j * 2]? = some (.int .i64 x.f0) ∧ cur[j * 2 + 1]? = some (.int .i64 x.f1)
theorem Pre.below {W W1 : World} {g cap : Nat} {xs : List S38} (h : Pre W g cap xs) (hb : Below W.heap.size W W1) : Pre W1 g cap xs := by
  obtain ⟨cur, h1, h2⟩ := h
  exact ⟨cur, (hb.block _ (blk_lt h1)).trans h1, h2⟩
theorem Pre.take {W : World} {g cap : Nat} {xs : List S38} (h : Pre W g cap xs) (m : Nat) : Pre W g cap (xs.take m) := by
  obtain ⟨cur, h1, h2, h3, h4, h5⟩ := h
  refine ⟨cur, h1, h2, h3, by rw [List.length_take]; omega, fun j x hj => ?_⟩
  rw [List.getElem?_take] at hj
  split at hj
  · exact h5 j x hj
  · cases hj
theorem Pre.cell {W : World} {g cap : Nat} {xs : List S38} (h : Pre W g cap xs) (j : Nat) (hj : j < xs.length) :
    W.cell? ⟨g, j * 2, none⟩ = some (.int .i64 (rd_T38 xs j).f0) ∧ W.cell? ⟨g, j * 2 + 1, none⟩ = some (.int .i64 (rd_T38 xs j).f1) ∧ W.frozen? ⟨g, j * 2, none⟩ = false ∧ W.frozen? ⟨g, j * 2 + 1, none⟩ = false := by
  obtain ⟨cur, h1, h2, h3, h4, h5⟩ := h
  have hx : rd_T38 xs (j : Int) = xs[j] := by unfold rd_T38; simp [hj]
  obtain ⟨a, b⟩ := h5 j xs[j] (List.getElem?_eq_getElem hj)
  rw [hx]
  exact ⟨(blk_cell h1 _).trans a, (blk_cell h1 _).trans b, blk_frozen h1 _, blk_frozen h1 _⟩
theorem Pre.set {W : World} {g cap : Nat} {xs : List S38} (h : Pre W g cap xs) (j : Nat) (hj : j < xs.length) (y : S38) :
    Pre ((W.setCell ⟨g, j * 2, none⟩ (.int .i64 y.f0)).setCell ⟨g, j * 2 + 1, none⟩ (.int .i64 y.f1)) g cap (xs.set j y) := by
  obtain ⟨cur, h1, h2, h3, h4, h5⟩ := h
  refine ⟨_, blk_set (blk_set h1 (j * 2) _) (j * 2 + 1) _, by simpa using h2, h3, by simpa using h4, fun i x hi => ?_⟩
  by_cases hij : i = j
  · subst hij
    rw [List.getElem?_set_self hj] at hi
    obtain rfl := Option.some.inj hi
    have a1 : i * 2 < cur.size := by omega
    have a2 : i * 2 + 1 < cur.size := by omega
    constructor
    · rw [Array.getElem?_setIfInBounds_ne (by omega), Array.getElem?_setIfInBounds_self_of_lt a1]
    · rw [Array.getElem?_setIfInBounds_self_of_lt (by simpa using a2)]
  · rw [List.getElem?_set_ne (by omega)] at hi
    obtain ⟨a, b⟩ := h5 i x hi
    constructor
    · rw [Array.getElem?_setIfInBounds_ne (by omega), Array.getElem?_setIfInBounds_ne (by omega)]; exact a
    · rw [Array.getElem?_setIfInBounds_ne (by omega), Array.getElem?_setIfInBounds_ne (by omega)]; exact b
/-- what is owned, opened -/
theorem pre_of_R {W : World} {base : Nat} {ok : Nat → Prop} {v : Value} {xs : List S38} (h : Kd.R k38 38 W base ok v xs) (hn : xs ≠ []) : ∃ g cap, v = .slice (some ⟨g, 0, none⟩) xs.length cap ∧ base ≤ g ∧ ok g ∧ Pre W g cap xs := by
  obtain ⟨h0, inner, ⟨hl, ho⟩, hr⟩ := h
  rcases ho with ⟨_, h1⟩ | ⟨g, cap, cur, rfl, hb, hh, h1, h2, h3, h4⟩
  · exact absurd (List.eq_nil_of_length_eq_zero h1) hn
  · refine ⟨g, cap, rfl, hb, h0 g rfl, cur, hh, h3, h2, h1, fun j x hj => ?_⟩
    have := hr.2 j x hj
    have hc := k38_openM this
    have hsz : k38.sz = 2 := rfl
    rw [hsz, ← h4] at hc
    have e : ∀ i, i < 2 → (cur.toList.take (xs.length * k38.sz))[j * 2 + i]? = [Value.int .i64 x.f0, .int .i64 x.f1][i]? := by
      intro i hi
      rw [← hc, List.getElem?_take_of_lt hi, List.getElem?_drop]
    have hjl : j < xs.length := (List.getElem?_eq_some_iff.1 hj).1
    have e0 := e 0 (by omega)
    have e1 := e 1 (by omega)
    rw [List.getElem?_take_of_lt (by rw [hsz]; omega)] at e0 e1
    exact ⟨by simpa using e0, by simpa using e1⟩
/-- .. and shut -/
theorem R_of_pre {W : World} {base : Nat} {ok : Nat → Prop} {g cap : Nat} {xs : List S38} (h : Pre W g cap xs) (hb : base ≤ g) (hok : ok g) : Kd.R k38 38 W base ok (.slice (some ⟨g, 0, none⟩) xs.length cap) xs := by
  obtain ⟨cur, h1, h2, h3, h4, h5⟩ := h
  have hsz : k38.sz = 2 := rfl
  have hlen : (cur.toList.take (xs.length * k38.sz)).length = xs.length * k38.sz := by
    have hq : cur.toList.length = cap * 2 := by rw [Array.length_toList]; exact h2
    rw [List.length_take, hsz, hq]; omega
  refine ⟨fun k hk => ?_, cur.toList.take (xs.length * k38.sz), ⟨hlen, .inr ⟨g, cap, cur, rfl, hb, h1, h4, h3, h2, rfl⟩⟩, ⟨hlen, fun j x hj => ?_⟩⟩
  · have : g = k := by simpa [Value.ownBlock] using hk
    subst this
    exact hok
  · obtain ⟨a, b⟩ := h5 j x hj
    have hjl : j < xs.length := (List.getElem?_eq_some_iff.1 hj).1
    have e : ((cur.toList.take (xs.length * k38.sz)).drop (j * k38.sz)).take k38.sz = [.int .i64 x.f0, .int .i64 x.f1] := by
      apply List.ext_getElem?
      intro i
      rw [hsz]
      rcases i with _ | _ | i
      · rw [List.getElem?_take_of_lt (by omega), List.getElem?_drop, List.getElem?_take_of_lt (by omega)]
        simpa using a
      · rw [List.getElem?_take_of_lt (by omega), List.getElem?_drop, List.getElem?_take_of_lt (by omega)]
        simpa using b
      · rw [List.getElem?_eq_none (by rw [List.length_take]; omega), List.getElem?_eq_none (by simp)]
    rw [e]
    exact k38_mkM _ _ _ x
#print axioms pre_of_R
#print axioms R_of_pre
end Go.Proofs.Ytkfopphcgjdcaaa.A

/- slices.DeleteFunc with the function value of moves.Order, over a row of the call's own. -/
namespace Go.Proofs.Ytkfopphcgjdcaaa.A
open Go.RowKit Go.Maps Go.Proofs.YtkfopphcgjdcaaaW.PrintWords Go.Proofs.YtkfopphcgjdcaaaW.PrintLast Go.Shelf
set_option linter.unusedVariables false
set_option linter.unusedSimpArgs false

def own_ (x : S38) : Bool := decide (x.f0 = x.f1)
theorem own_says (xs : List S38) (w : World) : Says 29 #[] own_ xs w := fun x _ W _ => order2_calls x W

/-- what lies in memory between two rounds: the first j looked at, the kept ones ahead -/
structure DI (w0 w : World) (base b cap : Nat) (xs ys : List S38) (W : World) : Prop where
  pre : Pre W b cap ys
  hB : Below base w0 W
  le : w.heap.size ≤ W.heap.size
theorem DI.alloc {w0 w : World} {base b cap : Nat} {xs ys : List S38} {W : World} (h : DI w0 w base b cap xs ys W) (hb : base ≤ W.heap.size) (o : Obj) : DI w0 w base b cap xs ys (W.alloc o) :=
  ⟨h.pre.below (below_alloc (Below.refl _ _) o), h.hB.alloc hb o, Nat.le_trans h.le (by simp)⟩

theorem keep_step {xs ys : List S38} {i j : Nat} (hj : j < xs.length) (hl : ys.length = xs.length) (hij : i ≤ j) (ht : ys.take i = (xs.take j).filter (fun x => !own_ x)) (hd : ys.drop j = xs.drop j) :
    rd_T38 ys j = rd_T38 xs j ∧
    (own_ (rd_T38 xs j) = true → ys.take i = (xs.take (j + 1)).filter (fun x => !own_ x) ∧ ys.drop (j + 1) = xs.drop (j + 1)) ∧
    (own_ (rd_T38 xs j) = false → (ys.set i (rd_T38 xs j)).take (i + 1) = (xs.take (j + 1)).filter (fun x => !own_ x) ∧ (ys.set i (rd_T38 xs j)).drop (j + 1) = xs.drop (j + 1)) := by
  have hx : rd_T38 xs (j : Int) = xs[j] := by unfold rd_T38; simp [hj]
  have hy : rd_T38 ys (j : Int) = ys[j]'(by omega) := by unfold rd_T38; simp [show j < ys.length by omega]
  have e0 : ys[j]'(by omega) = xs[j] := by
    have : (ys.drop j)[0]? = (xs.drop j)[0]? := by rw [hd]
    rw [List.getElem?_drop, List.getElem?_drop, List.getElem?_eq_getElem (by omega), List.getElem?_eq_getElem (by omega)] at this
    simpa using this
  have hd1 : ys.drop (j + 1) = xs.drop (j + 1) := by rw [← List.drop_drop, ← List.drop_drop, hd]
  have htk : xs.take (j + 1) = xs.take j ++ [xs[j]] := List.take_succ_eq_append_getElem hj
  rw [hx, hy]
  refine ⟨e0, fun h => ⟨?_, hd1⟩, fun h => ⟨?_, ?_⟩⟩
  · rw [htk, List.filter_append, ← ht]
    simp [h]
  · rw [htk, List.filter_append, ← ht]
    have hi : i < (ys.set i xs[j]).length := by simp; omega
    rw [List.take_succ_eq_append_getElem hi]
    simp [h, List.take_set_of_le]
  · rw [List.drop_set_of_lt (by omega), hd1]

theorem firstOf_spec (p : S38 → Bool) (xs : List S38) : (firstOf p xs = -1 ∧ xs.filter (fun x => !p x) = xs) ∨ ∃ k : Nat, k < xs.length ∧ firstOf p xs = k ∧ xs.take k = (xs.take (k + 1)).filter (fun x => !p x) := by
  unfold firstOf
  cases h : xs.findIdx? p with
  | none =>
    rw [List.findIdx?_eq_none_iff] at h
    exact .inl ⟨rfl, List.filter_eq_self.2 (fun x hx => by simp [h x hx])⟩
  | some k =>
    rw [List.findIdx?_eq_some_iff_getElem] at h
    obtain ⟨hk, hp, hb⟩ := h
    refine .inr ⟨k, hk, rfl, ?_⟩
    rw [List.take_succ_eq_append_getElem hk, List.filter_append]
    have h1 : (xs.take k).filter (fun x => !p x) = xs.take k := List.filter_eq_self.2 (fun x hx => by
      obtain ⟨j, hj, rfl⟩ := List.getElem_of_mem hx
      rw [List.length_take] at hj
      rw [List.getElem_take]
      have := hb j (by omega)
      simpa using this)
    rw [h1]
    simp [hp]
#print axioms firstOf_spec
end Go.Proofs.Ytkfopphcgjdcaaa.A

/- slices.DeleteFunc with the function value of moves.Order: the walk. -/
namespace Go.Proofs.Ytkfopphcgjdcaaa.A
open Go.RowKit Go.Maps Go.Proofs.YtkfopphcgjdcaaaW.PrintWords Go.Proofs.YtkfopphcgjdcaaaW.PrintLast Go.Shelf
set_option linter.unusedVariables false
set_option linter.unusedSimpArgs false

theorem zero38 (w : World) : (zeroValue 38).run Try.prog w = .ok (.agg #[.int .i64 0, .int .i64 0]) w := by kernel_rfl
theorem gb_trans {a b c : World} {row : Option Nat} (h : a.grownBy b row) (k : b.grownBy c row) : a.grownBy c row :=
  ⟨k.os.trans h.os, k.tape.trans h.tape, k.output.trans h.output, Nat.le_trans h.size k.size, fun i hi hn => (k.block i (Nat.lt_of_lt_of_le hi h.size) hn).trans (h.block i hi hn)⟩
theorem gb_refl (w : World) (row : Option Nat) : w.grownBy w row := ⟨rfl, rfl, rfl, Nat.le_refl _, fun _ _ _ => rfl⟩
theorem gb_below {a w w' : World} {row : Option Nat} (h : a.grownBy w row) (hb : Below w.heap.size w w') : a.grownBy w' row := gb_trans h (grown_of_below hb row)
theorem gb_drew {a w : World} {row : Option Nat} (h : a.grownBy w row) : a.grownBy w.drew row := gb_below h (below_drew (Below.refl _ _))
theorem gb_set {a w : World} {b : Nat} (h : a.grownBy w (some b)) (i : Nat) (v : Value) : a.grownBy (w.setCell ⟨b, i, none⟩ v) (some b) :=
  gb_trans h ⟨rfl, rfl, rfl, by simp, fun k _ hn => Below.heap_setCell w ⟨b, i, none⟩ v k (fun e => hn (by rw [e]))⟩
theorem gb_setCells {a : World} {b : Nat} : ∀ (l : List Value) (o : Nat) {w : World}, a.grownBy w (some b) → a.grownBy (w.setCells b o l) (some b)
  | [], _, _, h => h
  | v :: l, o, _, h => gb_setCells l (o + 1) (gb_set h o v)
theorem gb_Below {base : Nat} {w0 w w' : World} {b : Nat} (h : Below base w0 w) (hs : base ≤ w.heap.size) (hg : w.grownBy w' (some b)) (hb : base ≤ b) : Below base w0 w' :=
  h.grown hg hs (fun j hj => by cases hj; exact hb)
theorem Pre.clear {W : World} {g cap : Nat} {xs : List S38} (h : Pre W g cap xs) (i n c : Nat) (hi : i + n ≤ cap) (hn : 0 < n) :
    (Builtin.clear_ #[22] 0 #[.slice (some ⟨g, i * 2, none⟩) n c]).run Try.prog W = .ok (.tuple #[]) (W.setCells g (i * 2) (List.replicate (n * 2) (.int .i64 0))) ∧
    Pre (W.setCells g (i * 2) (List.replicate (n * 2) (.int .i64 0))) g cap (xs.take i) := by
  obtain ⟨cur, h1, h2, h3, h4, h5⟩ := h
  refine ⟨run_clear2 W 0 zero38 g (i * 2) n c (fun j hj => ?_) (fun j _ => blk_frozen h1 _) hn, ?_⟩
  · rw [blk_cell h1]
    have : i * 2 + j < cur.size := by omega
    simp [this]
  · have key : ∀ (m o : Nat) (cur' : Array Value) (W' : World), W'.heap[g]? = some (.cells cur' 38 (0, 0)) → cur'.size = cap * 2 →
        ∃ cur2, (W'.setCells g o (List.replicate m (.int .i64 0))).heap[g]? = some (.cells cur2 38 (0, 0)) ∧ cur2.size = cap * 2 ∧ ∀ k, k < o → cur2[k]? = cur'[k]? := by
      intro m
      induction m with
      | zero => intro o cur' W' hb hs; exact ⟨cur', hb, hs, fun k _ => rfl⟩
      | succ m ih =>
        intro o cur' W' hb hs
        obtain ⟨cur2, e1, e2, e3⟩ := ih (o + 1) _ _ (blk_set hb o (.int .i64 0)) (by simpa using hs)
        refine ⟨cur2, e1, e2, fun k hk => ?_⟩
        rw [e3 k (by omega), Array.getElem?_setIfInBounds_ne (by omega)]
    obtain ⟨cur2, e1, e2, e3⟩ := key (n * 2) (i * 2) cur W h1 h2
    refine ⟨cur2, e1, e2, h3, by rw [List.length_take]; omega, fun j x hj => ?_⟩
    rw [List.getElem?_take] at hj
    split at hj
    · obtain ⟨a, b⟩ := h5 j x hj
      rw [e3 _ (by omega), e3 _ (by omega)]
      exact ⟨a, b⟩
    · cases hj

set_option maxRecDepth 100000 in
set_option maxHeartbeats 1000000 in
theorem delFunc_calls (w : World) (b cap : Nat) (xs : List S38) (hpre : Pre w b cap xs) (hl : xs.length ≤ 1000000) :
    Calls Try.prog 27 #[.slice (some ⟨b, 0, none⟩) xs.length cap, .func (.func 29) #[] #[]] w fun e w' =>
      e = .returned (.slice (some ⟨b, 0, none⟩) (xs.filter fun x => !own_ x).length cap) ∧ Pre w' b cap (xs.filter fun x => !own_ x) ∧ w.grownBy w' (some b) := by
  have hu38 := Try.underlying38
  have hR := (Kd.R_reads' (R_of_pre (base := 0) (ok := fun _ => True) hpre (Nat.zero_le _) trivial)).2.2
  have hidx := indexFunc_calls own_ 29 #[] (enters_of Try.func29 (by kernel_rfl) rfl) (some ⟨b, 0, none⟩) cap xs w hR (own_says xs w)
  have hsp := firstOf_spec own_ xs
  generalize firstOf own_ xs = fo at hidx hsp
  rcases hsp with ⟨rfl, hkeep⟩ | ⟨k, hk, rfl, hkeep⟩
  · go_enter Try.func27, Try.ntmps27
    go_wp2_with fail
    refine hidx.mono ?_
    rintro e w' ⟨rfl, hb⟩
    go_wp2_with fail
    go_ret
    rw [hkeep]
    exact ⟨rfl, hpre.below hb, gb_below (gb_refl _ _) hb⟩
  · have hk1 : ¬ (k : Int) = -1 := by omega
    have hkl : (k : Int) < (xs.length : Int) := by omega
    go_enter Try.func27, Try.ntmps27
    go_wp2_with fail
    refine hidx.mono ?_
    rintro e w1 ⟨rfl, hb⟩
    have hp1 := Aside0.mk (hpre.below hb)
    have hb1 := Aside0.mk (gb_below (gb_refl w (some b)) hb)
    clear hb hR hidx hpre
    go_wp2_with fail
    clear hkl
    generalize ((k : Int) == -1) = bk
    go_loopw [5, 6] (fun s5 s6 wr => ∃ (i j : Nat) (ys : List S38), i < j ∧ j ≤ xs.length ∧ s5 = .int .i64 i ∧ s6 = .int .i64 j ∧ Aside0 (ys.length = xs.length) ∧ Aside0 (ys.take i = (xs.take j).filter (fun x => !own_ x)) ∧ Aside0 (ys.drop j = xs.drop j) ∧ Aside0 (Pre wr b cap ys) ∧ Aside0 (w.grownBy wr (some b)))
      (fun _ s6 _ => xs.length - (intOf s6).toNat)
    case atStart => exact ⟨k, k + 1, xs, by omega, by omega, rfl, by go_num, ⟨rfl⟩, ⟨hkeep⟩, ⟨rfl⟩, hp1, hb1⟩
    case round =>
      clear hp1 hb1
      obtain ⟨i, j, ys, hij, hjn, rfl, rfl, hyl, ht, hd, hp, hB⟩ := hrel
      by_cases hlt : j < xs.length
      · have hjl : (j : Int) < (xs.length : Int) := by omega
        have hj0 : (0 : Int) ≤ (j : Int) := by omega
        obtain ⟨c0, c1, f0, f1⟩ := hp.out.cell j (by have := hyl.out; omega)
        obtain ⟨he, hk1', hk2'⟩ := keep_step hlt hyl.out (Nat.le_of_lt hij) ht.out hd.out
        rw [he] at c0 c1
        have hcl := order2_calls (rd_T38 xs j)
        have q0 : wr.cell? ((⟨b, 0, none⟩ : Addr).add (j * 2)) = some (.int .i64 (rd_T38 xs j).f0) := by
          rw [show (⟨b, 0, none⟩ : Addr).add (j * 2) = ⟨b, j * 2, none⟩ by unfold Addr.add; by_cases h : j * 2 = 0 <;> simp [h]]
          exact c0
        generalize hox : own_ (rd_T38 xs j) = ob at hk1' hk2'
        unfold own_ at hox
        rw [hox] at hcl
        have hK1 := Aside0.mk hk1'
        have hK2 := Aside0.mk hk2'
        clear hk1' hk2' he hox
        generalize rd_T38 xs (j : Int) = x at *
        go_wp2_with fail
        refine (hcl _).mono ?_
        rintro e w2 ⟨rfl, hb2⟩
        have hba := below_alloc (Below.refl wr.heap.size wr) (.cells #[.int .i64 x.f0, .int .i64 x.f1] 38)
        have hb3 := below_then hba hba.size hb2
        have hbx := (hb2.block _ (by simp)).trans (World.alloc_heap_new wr (.cells #[.int .i64 x.f0, .int .i64 x.f1] 38))
        have hp2 := Aside0.mk (hp.out.below hb3)
        have hB2 := Aside0.mk (gb_below hB.out hb3)
        have x0 : w2.cell? ⟨wr.heap.size, 0, none⟩ = some (.int .i64 x.f0) := (blk_cell hbx 0).trans rfl
        have x1 : w2.cell? ⟨wr.heap.size, 1, none⟩ = some (.int .i64 x.f1) := (blk_cell hbx 1).trans rfl
        clear hba hb2 hb3 hbx c0 c1 f0 f1 q0 hp hB hcl
        cases ob
        · obtain ⟨d0, d1, g0, g1⟩ := hp2.out.cell i (by have := hyl.out; omega)
          have hp3 := Aside0.mk (hp2.out.set i (by have := hyl.out; omega) x)
          have hB3 := Aside0.mk (gb_set (gb_set hB2.out (i * 2) (.int .i64 x.f0)) (i * 2 + 1) (.int .i64 x.f1))
          clear hp2
          have hi0 : (0 : Int) ≤ (i : Int) := by omega
          have hi1 : (i : Int) < (xs.length : Int) := by omega
          go_wp2_with fail
          go_roundw
          case rel => exact ⟨i + 1, j + 1, ys.set i x, by omega, by omega, by go_num, by go_num, ⟨by simpa using hyl.out⟩, ⟨(hK2.out (by simp)).1⟩, ⟨(hK2.out (by simp)).2⟩, hp3, hB3⟩
          case measure => simp [intOf]; omega
        · go_wp2_with fail
          go_roundw
          case rel => exact ⟨i, j + 1, ys, by omega, by omega, rfl, by go_num, hyl, ⟨(hK1.out (by simp)).1⟩, ⟨(hK1.out (by simp)).2⟩, hp2, hB2⟩
          case measure => simp [intOf]; omega
      · obtain rfl : j = xs.length := by omega
        have hcap : xs.length ≤ cap := by
          obtain ⟨cur, _, _, _, h4, _⟩ := hp.out
          have := hyl.out; omega
        have hci : ¬ cap = i := by omega
        have hi0 : (0 : Int) ≤ (i : Int) := by omega
        have hi1 : (i : Int) ≤ (xs.length : Int) := by omega
        have hi2 : (i : Int) ≤ (cap : Int) := by omega
        obtain ⟨hclr, hpz⟩ := hp.out.clear i (xs.length - i) (cap - i) (by have := hyl.out; omega) (by omega)
        have hpz' := Aside0.mk hpz
        have hBz := Aside0.mk (gb_setCells (List.replicate ((xs.length - i) * 2) (.int .i64 0)) (i * 2) hB.out)
        have ht' := ht.out
        rw [List.take_length] at ht'
        have hlen := Aside0.mk (congrArg List.length ht')
        have ht'' := Aside0.mk ht'
        clear hpz ht ht' hd
        go_wp2_with fail
        go_ret
        have e1 := hlen.out
        rw [List.length_take, Nat.min_eq_left (by have := hyl.out; omega)] at e1
        rw [← e1]
        refine ⟨rfl, ?_, hBz.out⟩
        rw [← ht''.out]
        exact hpz'.out
#print axioms delFunc_calls
end Go.Proofs.Ytkfopphcgjdcaaa.A

/- slices.Delete of one element, over a row of api.Copy of the call's own. -/
namespace Go.Proofs.Ytkfopphcgjdcaaa.A
open Go.RowKit Go.Maps Go.Proofs.YtkfopphcgjdcaaaW.PrintWords Go.Proofs.YtkfopphcgjdcaaaW.PrintLast Go.Shelf
set_option linter.unusedVariables false
set_option linter.unusedSimpArgs false

theorem setCells_blk {g : Nat} {t : TypeId} : ∀ (l : List Value) (o : Nat) {cur : Array Value} {W : World}, W.heap[g]? = some (.cells cur t (0, 0)) → o + l.length ≤ cur.size →
    ∃ cur2, (W.setCells g o l).heap[g]? = some (.cells cur2 t (0, 0)) ∧ cur2.size = cur.size ∧ ∀ k, cur2[k]? = if o ≤ k ∧ k < o + l.length then l[k - o]? else cur[k]?
  | [], o, cur, W, h, _ => ⟨cur, h, rfl, fun k => by rw [if_neg (by simp only [List.length_nil]; omega)]⟩
  | v :: l, o, cur, W, h, hs => by
    simp only [List.length_cons] at hs
    obtain ⟨cur2, e1, e2, e3⟩ := setCells_blk l (o + 1) (blk_set h o v) (by simp; omega)
    refine ⟨cur2, e1, by simpa using e2, fun k => ?_⟩
    rw [e3 k]
    by_cases hk : k = o
    · subst hk
      rw [if_neg (by omega), if_pos (by simp), Nat.sub_self, Array.getElem?_setIfInBounds_self_of_lt (by omega)]
      rfl
    · by_cases hi : o + 1 ≤ k ∧ k < o + 1 + l.length
      · rw [if_pos hi, if_pos (by simp only [List.length_cons]; omega), show k - o = (k - (o + 1)) + 1 by omega]
        rfl
      · rw [if_neg hi, if_neg (by simp only [List.length_cons]; omega), Array.getElem?_setIfInBounds_ne (by omega)]

def cells38 (l : List S38) : List Value := l.flatMap fun x => [.int .i64 x.f0, .int .i64 x.f1]
theorem cells38_length (l : List S38) : (cells38 l).length = l.length * 2 := by
  induction l with
  | nil => rfl
  | cons x l ih => simp only [cells38, List.flatMap_cons, List.length_append, List.length_cons, List.length_nil] at ih ⊢; omega
theorem cells38_get : ∀ (l : List S38) (j : Nat) (x : S38), l[j]? = some x → (cells38 l)[j * 2]? = some (.int .i64 x.f0) ∧ (cells38 l)[j * 2 + 1]? = some (.int .i64 x.f1)
  | [], j, x, h => by simp at h
  | y :: l, 0, x, h => by
    simp at h; subst h; exact ⟨rfl, rfl⟩
  | y :: l, j + 1, x, h => by
    have := cells38_get l j x (by simpa using h)
    rw [show (j + 1) * 2 = j * 2 + 2 by omega]
    exact this
theorem cells38_one (l : List S38) : ∀ u ∈ cells38 l, u.oneCell' = true := by
  intro u hu
  obtain ⟨x, _, h⟩ := List.mem_flatMap.1 hu
  simp at h
  rcases h with rfl | rfl <;> rfl

theorem Pre.moved {W : World} {g cap : Nat} {xs : List S38} (h : Pre W g cap xs) (i : Nat) (hi : i < xs.length) :
    Pre (W.setCells g (i * 2) (cells38 (xs.drop (i + 1)))) g cap (xs.eraseIdx i) ∧
    (∀ j u, (cells38 (xs.drop (i + 1)))[j]? = some u → W.cell? ⟨g, (i + 1) * 2 + j, none⟩ = some u) ∧
    (∀ j, j < (cells38 (xs.drop (i + 1))).length → (W.cell? ⟨g, i * 2 + j, none⟩).isSome = true ∧ W.frozen? ⟨g, i * 2 + j, none⟩ = false) := by
  obtain ⟨cur, h1, h2, h3, h4, h5⟩ := h
  have hlen := cells38_length (xs.drop (i + 1))
  rw [List.length_drop] at hlen
  refine ⟨?_, fun j u hj => ?_, fun j hj => ⟨?_, blk_frozen h1 _⟩⟩
  · obtain ⟨cur2, e1, e2, e3⟩ := setCells_blk (cells38 (xs.drop (i + 1))) (i * 2) h1 (by omega)
    refine ⟨cur2, e1, e2.trans h2, h3, by rw [List.length_eraseIdx_of_lt hi]; omega, fun j x hj => ?_⟩
    rw [e3, e3]
    by_cases hji : j < i
    · rw [if_neg (by omega), if_neg (by omega)]
      rw [List.getElem?_eraseIdx_of_lt hji] at hj
      exact h5 j x hj
    · rw [List.getElem?_eraseIdx_of_ge (by omega)] at hj
      have hjl : j + 1 < xs.length := (List.getElem?_eq_some_iff.1 hj).1
      rw [if_pos (by omega), if_pos (by omega)]
      have := cells38_get (xs.drop (i + 1)) (j - i) x (by rw [List.getElem?_drop, show i + 1 + (j - i) = j + 1 by omega]; exact hj)
      rw [show j * 2 - i * 2 = (j - i) * 2 by omega, show j * 2 + 1 - i * 2 = (j - i) * 2 + 1 by omega]
      exact this
  · have hjl : j < (cells38 (xs.drop (i + 1))).length := (List.getElem?_eq_some_iff.1 hj).1
    have hx : (xs.drop (i + 1))[j / 2]? = some (xs[i + 1 + j / 2]'(by omega)) := by rw [List.getElem?_drop, List.getElem?_eq_getElem]
    obtain ⟨a, b⟩ := cells38_get _ _ _ hx
    obtain ⟨a', b'⟩ := h5 (i + 1 + j / 2) _ (List.getElem?_eq_getElem (by omega))
    rw [blk_cell h1]
    rcases Nat.mod_two_eq_zero_or_one j with hm | hm
    · rw [show j = j / 2 * 2 by omega, a] at hj
      rw [← hj, ← a', show (i + 1) * 2 + j = (i + 1 + j / 2) * 2 by omega]
    · rw [show j = j / 2 * 2 + 1 by omega, b] at hj
      rw [← hj, ← b', show (i + 1) * 2 + j = (i + 1 + j / 2) * 2 + 1 by omega]
  · rw [blk_cell h1]
    have : i * 2 + j < cur.size := by omega
    simp [this]

set_option maxRecDepth 100000 in
set_option maxHeartbeats 1000000 in
theorem delete_calls (w : World) (b cap : Nat) (xs : List S38) (hpre : Pre w b cap xs) (i : Nat) (hi : i < xs.length) (hl : xs.length ≤ 1000000) :
    Calls Try.prog 31 #[.slice (some ⟨b, 0, none⟩) xs.length cap, .int .i64 i, .int .i64 ((i : Int) + 1)] w fun e w' =>
      e = .returned (.slice (some ⟨b, 0, none⟩) (xs.length - 1) cap) ∧ Pre w' b cap (xs.eraseIdx i) ∧ w.grownBy w' (some b) := by
  have hcap : xs.length ≤ cap := by
    obtain ⟨cur, _, _, _, h4, _⟩ := hpre
    exact h4
  obtain ⟨i0, hi0, hz0, hz1, hz2⟩ := info_parts info38
  have hpre' : Pre w.drew b cap xs := hpre
  obtain ⟨p1, p2, p3⟩ := hpre'.moved i hi
  have hlen := cells38_length (xs.drop (i + 1))
  rw [List.length_drop] at hlen
  have hel := List.length_eraseIdx_of_lt hi
  generalize hL : xs.length = L at *
  obtain ⟨n, rfl⟩ : ∃ n, L = n + 1 := ⟨L - 1, by omega⟩
  obtain ⟨hclr, hpz⟩ := Pre.clear p1 n 1 (cap - n) (by omega) (by omega)
  rw [List.take_of_length_le (by omega)] at hpz
  have hpz' := Aside0.mk hpz
  have hBz := Aside0.mk (gb_setCells (List.replicate (1 * 2) (.int .i64 0)) (n * 2) (gb_setCells (cells38 (xs.drop (i + 1))) (i * 2) (gb_drew (gb_refl w (some b)))))
  clear hpz p1 hel hL
  generalize hnw : cells38 (xs.drop (i + 1)) = news at *
  have hone : Aside0 (∀ u ∈ news, u.oneCell' = true) := ⟨by rw [← hnw]; exact cells38_one _⟩
  clear hnw
  obtain ⟨ad, had, hcells⟩ : ∃ ad : Addr, ((if cap = i + 1 then some (⟨b, 0, none⟩ : Addr) else some ⟨b, (i + 1) * 2, none⟩) = some ad) ∧ ∀ j u, news[j]? = some u → w.drew.cell? (ad.add j) = some u := by
    by_cases h : cap = i + 1
    · refine ⟨_, if_pos h, fun j u hj => ?_⟩
      have hj' := (List.getElem?_eq_some_iff.1 hj).1
      omega
    · refine ⟨_, if_neg h, fun j u hj => ?_⟩
      have := p2 j u hj
      rw [Addr.add_lit]
      exact this
  have hC := Aside0.mk hcells
  have hS := Aside0.mk p3
  have hN := Aside0.mk (show news.length = (n - i) * 2 by omega)
  clear hcells p2 p3 hlen
  have a1 : (0 : Int) ≤ (i : Int) := by omega
  have a2 : (i : Int) ≤ (i : Int) + 1 := by omega
  have a3 : (i : Int) + 1 ≤ ((n + 1 : Nat) : Int) := by omega
  have a4 : ((n + 1 : Nat) : Int) ≤ (cap : Int) := by omega
  have a5 : ((i : Int) + 1).toNat = i + 1 := by omega
  have a6 : (0 : Int) ≤ (i : Int) + 1 := by omega
  have a7 : ¬ (i : Int) = (i : Int) + 1 := by omega
  have a8 : (i : Int) ≤ (cap : Int) := by omega
  have a9 : IntKind.i64.wrap ((i : Int) + 1) = (i : Int) + 1 := by rw [IntKind.wrap_i64]; omega
  have hic : i ≤ cap := by omega
  have hin : i ≤ n := by omega
  have b1 : i + (n - i) = n := by omega
  have b2 : ¬ cap = n := by omega
  have b3 : (0 : Int) ≤ (n : Int) := by omega
  have b4 : (n : Int) ≤ ((n + 1 : Nat) : Int) := by omega
  have b5 : n + 1 - n = 1 := by omega
  clear hpre hpre'
  go_enter Try.func31, Try.ntmps31
  go_wp2_with fail
  go_region_law (refine step_append_room rfl (.tmp 22) (.tmp 25) 22 rfl 38 i0 2 Try.underlying22 hi0 hz1 b 0 i cap (by simp [Act.eval, Act.put]) ad (n - i) (cap - (i + 1)) news (by simp [Act.eval, Act.put, had]) hN.out hC.out hone.out (by omega) (by simpa using hS.out) ?_)
  go_wp2_with fail
  go_ret
  exact ⟨rfl, hpz'.out, hBz.out⟩
#print axioms delete_calls
end Go.Proofs.Ytkfopphcgjdcaaa.A

/- Moves that are done one by one: the plain law. -/
namespace Go.Proofs.Ytkfopphcgjdcaaa.A
set_option linter.unusedVariables false
set_option linter.unusedSimpArgs false

/-! lists -/
theorem perm_of_sub {α : Type} [DecidableEq α] : ∀ {l m : List α}, l.Nodup → l ⊆ m → m.length ≤ l.length → m.Perm l
  | [], m, _, _, h => by
    have : m = [] := List.eq_nil_of_length_eq_zero (by simpa using h)
    subst this; exact List.Perm.refl _
  | a :: l, m, hn, hs, h => by
    have ha : a ∈ m := hs (by simp)
    have hn' := List.nodup_cons.1 hn
    have h1 := List.perm_cons_erase ha
    have h2 : l ⊆ m.erase a := fun x hx => by
      have hxa : x ≠ a := fun e => hn'.1 (e ▸ hx)
      rw [List.mem_erase_of_ne hxa]; exact hs (by simp [hx])
    have h3 : (m.erase a).length ≤ l.length := by rw [List.length_erase_of_mem ha]; simp at h; omega
    exact h1.trans ((perm_of_sub hn'.2 h2 h3).cons a)
theorem inj_of_nodup {α β : Type} (g : α → β) : ∀ {l : List α}, (l.map g).Nodup → ∀ {a b : α}, a ∈ l → b ∈ l → g a = g b → a = b
  | [], _, _, _, ha, _, _ => by cases ha
  | x :: l, hn, a, b, ha, hb, he => by
    rw [List.map_cons, List.nodup_cons] at hn
    rcases List.mem_cons.1 ha with rfl | ha' <;> rcases List.mem_cons.1 hb with rfl | hb'
    · rfl
    · exact absurd (List.mem_map.2 ⟨b, hb', he.symm⟩) hn.1
    · exact absurd (List.mem_map.2 ⟨a, ha', he⟩) hn.1
    · exact inj_of_nodup g hn.2 ha' hb' he
theorem least_of {P : Nat → Prop} (h : ∃ n, P n) : ∃ n, P n ∧ ∀ m, m < n → ¬ P m := by
  obtain ⟨n, hn⟩ := h
  induction n using Nat.strongRecOn with
  | ind n ih =>
    by_cases hx : ∃ m, m < n ∧ P m
    · obtain ⟨m, hm, hp⟩ := hx; exact ih m hm hp
    · exact ⟨n, hn, fun m hm hp => hx ⟨m, hm, hp⟩⟩
theorem countP_one {α : Type} (p q : α → Bool) (t0 : α) : ∀ {l : List α}, l.Nodup → t0 ∈ l → p t0 = true → q t0 = false → (∀ t ∈ l, t ≠ t0 → p t = q t) → l.countP p = l.countP q + 1
  | [], _, h, _, _, _ => by cases h
  | x :: l, hn, hm, hp, hq, he => by
    rw [List.nodup_cons] at hn
    by_cases hx : x = t0
    · subst hx
      rw [List.countP_cons_of_pos hp, List.countP_cons_of_neg (by simp [hq])]
      congr 1
      apply List.countP_congr
      intro t ht
      rw [he t (by simp [ht]) (fun e => hn.1 (e ▸ ht))]
    · have hm' : t0 ∈ l := (List.mem_cons.1 hm).resolve_left (fun e => hx e.symm)
      have ih := countP_one p q t0 hn.2 hm' hp hq (fun t ht => he t (by simp [ht]))
      rw [List.countP_cons, List.countP_cons, ih, he x (by simp) hx]
      omega

/-! going round -/
def itf (f : Int → Option Int) (t : Int) : Nat → Option Int
  | 0 => some t
  | k + 1 => (itf f t k).bind f
def Circ (f : Int → Option Int) (t : Int) : Prop := ∃ m, 2 ≤ m ∧ itf f t m = some t ∧ ∀ j, 0 < j → j < m → ∃ x, itf f t j = some x ∧ t < x

theorem itf_ne {f : Int → Option Int} {c t : Int} (h : ∀ x, f x ≠ some c) (ht : t ≠ c) : ∀ j, itf f t j ≠ some c
  | 0 => by simp [itf, ht]
  | j + 1 => by
    unfold itf
    intro e
    rw [Option.bind_eq_some_iff] at e
    obtain ⟨y, _, hy⟩ := e
    exact h y hy
theorem itf_none {f : Int → Option Int} {t : Int} (h : f t = none) : ∀ j, itf f t (j + 1) = none
  | 0 => by simp [itf, h]
  | j + 1 => by rw [itf, itf_none h j]; rfl
theorem circ_not_free {f : Int → Option Int} {c : Int} (h : ∀ x, f x ≠ some c) : ¬ Circ f c := by
  rintro ⟨m, hm, he, _⟩
  obtain ⟨k, rfl⟩ : ∃ k, m = k + 1 := ⟨m - 1, by omega⟩
  unfold itf at he
  rw [Option.bind_eq_some_iff] at he
  obtain ⟨y, _, hy⟩ := he
  exact h y hy
theorem circ_congr {f g : Int → Option Int} {t : Int} (h : ∀ j, itf f t j = itf g t j) : Circ f t ↔ Circ g t := by
  unfold Circ; simp only [h]
theorem circ_free {f f' : Int → Option Int} {c t : Int} (h : ∀ x, f x ≠ some c) (hf : ∀ x, x ≠ c → f' x = f x) (ht : t ≠ c) : Circ f' t ↔ Circ f t := by
  refine circ_congr fun j => ?_
  induction j with
  | zero => rfl
  | succ j ih =>
    rw [itf, itf, ih]
    cases hq : itf f t j with
    | none => rfl
    | some y => exact hf y (fun e => itf_ne h ht j (by rw [hq, e]))

/-! a map onto itself -/
def pw (F : Int → Int) (t : Int) : Nat → Int
  | 0 => t
  | k + 1 => F (pw F t k)
theorem pw_add (F : Int → Int) (t : Int) (a : Nat) : ∀ b, pw F t (a + b) = pw F (pw F t a) b
  | 0 => rfl
  | b + 1 => by rw [Nat.add_succ, pw, pw, pw_add F t a b]
theorem pw_mul {F : Int → Int} {t : Int} {m : Nat} (h : pw F t m = t) : ∀ k, pw F t (m * k) = t
  | 0 => rfl
  | k + 1 => by rw [Nat.mul_succ, pw_add, pw_mul h k, h]
theorem pw_mod {F : Int → Int} {t : Int} {m : Nat} (h : pw F t m = t) (j : Nat) : pw F t j = pw F t (j % m) := by
  have : j = m * (j / m) + j % m := (Nat.div_add_mod j m).symm
  conv => lhs; rw [this, pw_add, pw_mul h]
structure Onto (T : List Int) (F : Int → Int) : Prop where
  nodup : T.Nodup
  in_ : ∀ t ∈ T, F t ∈ T
  inj : ∀ s ∈ T, ∀ t ∈ T, F s = F t → s = t
theorem Onto.pw_in {T : List Int} {F : Int → Int} (h : Onto T F) {t : Int} (ht : t ∈ T) : ∀ j, pw F t j ∈ T
  | 0 => ht
  | j + 1 => h.in_ _ (h.pw_in ht j)
theorem Onto.pw_inj {T : List Int} {F : Int → Int} (h : Onto T F) {s t : Int} (hs : s ∈ T) (ht : t ∈ T) : ∀ j, pw F s j = pw F t j → s = t
  | 0, e => e
  | j + 1, e => h.pw_inj hs ht j (h.inj _ (h.pw_in hs j) _ (h.pw_in ht j) e)
theorem Onto.period {T : List Int} {F : Int → Int} (h : Onto T F) {t : Int} (ht : t ∈ T) : ∃ p, 1 ≤ p ∧ pw F t p = t := by
  have hnn : ¬ ((List.range (T.length + 1)).map (pw F t)).Nodup := fun hn => by
    have := List.Nodup.length_le_of_subset hn (l₂ := T) (fun x hx => by
      obtain ⟨j, _, rfl⟩ := List.mem_map.1 hx; exact h.pw_in ht j)
    simp at this
    omega
  have : ∃ a b, a < b ∧ pw F t a = pw F t b := by
    refine Classical.byContradiction fun hc => hnn ?_
    rw [List.Nodup, List.pairwise_map]
    refine List.Pairwise.imp (fun {a b} hab he => hc ⟨a, b, hab, he⟩) (List.pairwise_lt_range)
  obtain ⟨a, b, hab, he⟩ := this
  refine ⟨b - a, by omega, ?_⟩
  have hb : b = (b - a) + a := by omega
  rw [hb, pw_add] at he
  exact (h.pw_inj ht (h.pw_in ht _) a he).symm
theorem exists_min (g : Nat → Int) : ∀ p, 1 ≤ p → ∃ j, j < p ∧ ∀ i, i < p → g j ≤ g i
  | 0, h => by omega
  | 1, _ => ⟨0, by omega, fun i hi => by rw [show i = 0 by omega]; exact Int.le_refl _⟩
  | p + 2, _ => by
    obtain ⟨j, hj, hm⟩ := exists_min g (p + 1) (by omega)
    by_cases hc : g j ≤ g (p + 1)
    · refine ⟨j, by omega, fun i hi => ?_⟩
      by_cases e : i = p + 1
      · subst e; exact hc
      · exact hm i (by omega)
    · refine ⟨p + 1, by omega, fun i hi => ?_⟩
      by_cases e : i = p + 1
      · subst e; exact Int.le_refl _
      · have := hm i (by omega); omega
theorem itf_pw {T : List Int} {F : Int → Int} {f : Int → Option Int} (h : Onto T F) (hf : ∀ t ∈ T, f t = some (F t)) {t : Int} (ht : t ∈ T) : ∀ j, itf f t j = some (pw F t j)
  | 0 => rfl
  | j + 1 => by rw [itf, itf_pw h hf ht j, Option.bind_some, hf _ (h.pw_in ht j)]; rfl

/-- one circle is broken: one less -/
theorem break_one {T : List Int} {F : Int → Int} {f f' : Int → Option Int} {tq sp : Int} (h : Onto T F) (hf : ∀ t ∈ T, f t = some (F t)) (hto : tq ∈ T) (hne : F tq ≠ tq) (hsp : sp ∉ T)
    (hf1 : ∀ t ∈ T, F t = tq → f' t = some sp) (hf2 : ∀ t ∈ T, F t ≠ tq → f' t = f t) (hf3 : f' sp = none) :
    ∃ t0 ∈ T, Circ f t0 ∧ ¬ Circ f' t0 ∧ ∀ t ∈ T, t ≠ t0 → (Circ f t ↔ Circ f' t) := by
  obtain ⟨p, ⟨hp1, hp⟩, hpl⟩ := least_of (h.period hto)
  have hp2 : 2 ≤ p := by
    rcases Nat.lt_or_ge p 2 with hl | hg
    · obtain rfl : p = 1 := by omega
      exact absurd hp hne
    · exact hg
  have hdist : ∀ a b, a < b → b < p → pw F tq a ≠ pw F tq b := fun a b hab hb he => by
    have e : b = (b - a) + a := by omega
    rw [e, pw_add] at he
    exact hpl (b - a) (by omega) ⟨by omega, (h.pw_inj hto (h.pw_in hto _) a he).symm⟩
  obtain ⟨j0, hj0, hmin⟩ := exists_min (pw F tq) p hp1
  -- whatever is met from an element of the circle
  have hback : ∀ a k, ∃ i, i < p ∧ pw F (pw F tq a) k = pw F tq i := fun a k => ⟨(a + k) % p, Nat.mod_lt _ (by omega), by rw [← pw_add, pw_mod hp]⟩
  have hgo : ∀ a b, a < p → b < p → ∃ k, 1 ≤ k ∧ pw F (pw F tq a) k = pw F tq b := fun a b ha hb => ⟨p - a + b, by omega, by
    rw [← pw_add, show a + (p - a + b) = p + b by omega, pw_add, hp]⟩
  have hO : ∀ t ∈ T, (∃ a, a < p ∧ t = pw F tq a) ∨ ∀ j, pw F t j ≠ tq := fun t ht => by
    refine Classical.byContradiction fun hc => ?_
    have hc1 := fun e => hc (.inl e)
    have hc2 : ¬ ∀ j, pw F t j ≠ tq := fun e => hc (.inr e)
    obtain ⟨j, hj⟩ := Classical.not_forall.1 hc2
    have hj := Classical.not_not.1 hj
    refine hc1 ⟨(p * j - j) % p, Nat.mod_lt _ (by omega), ?_⟩
    rw [← pw_mod hp]
    apply h.pw_inj ht (h.pw_in hto _) j
    have : j ≤ p * j := Nat.le_mul_of_pos_left j (by omega)
    rw [hj, ← pw_add, show p * j - j + j = p * j by omega, pw_mul hp]
  have hno : ∀ a, a < p → ¬ Circ f' (pw F tq a) := by
    intro a ha ⟨m, hm, he, hj⟩
    have ht := h.pw_in hto a
    have hk : ∀ j, itf f' (pw F tq a) j = none ∨ itf f' (pw F tq a) j = some sp ∨ (itf f' (pw F tq a) j = some (pw F (pw F tq a) j) ∧ ∀ i, 0 < i → i ≤ j → pw F (pw F tq a) i ≠ tq) := by
      intro j
      induction j with
      | zero => exact .inr (.inr ⟨rfl, fun i h1 h2 => by omega⟩)
      | succ j ih =>
        rcases ih with e | e | ⟨e, hn⟩
        · left; rw [itf, e]; rfl
        · left; rw [itf, e]; exact hf3
        · by_cases hc : F (pw F (pw F tq a) j) = tq
          · right; left; rw [itf, e, Option.bind_some, hf1 _ (h.pw_in ht j) hc]
          · right; right
            refine ⟨by rw [itf, e, Option.bind_some, hf2 _ (h.pw_in ht j) hc, hf _ (h.pw_in ht j)]; rfl, fun i h1 h2 => ?_⟩
            by_cases ei : i = j + 1
            · subst ei; exact hc
            · exact hn i h1 (by omega)
    rcases hk m with e | e | ⟨e, hn⟩
    · rw [e] at he; cases he
    · rw [e] at he; injection he with he; exact hsp (he ▸ ht)
    · have hm' : pw F (pw F tq a) m = pw F tq a := by rw [e] at he; injection he
      obtain ⟨k, hk1, hk2⟩ := hgo a 0 ha (by omega)
      change pw F (pw F tq a) k = tq at hk2
      rw [pw_mod hm'] at hk2
      by_cases hz : k % m = 0
      · rw [hz] at hk2
        exact hn m (by omega) (Nat.le_refl _) (hm'.trans hk2)
      · exact hn (k % m) (by omega) (Nat.le_of_lt (Nat.mod_lt _ (by omega))) hk2
  refine ⟨pw F tq j0, h.pw_in hto _, ⟨p, hp2, ?_, fun j h1 h2 => ?_⟩, hno j0 hj0, fun t ht hne0 => ?_⟩
  · rw [itf_pw h hf (h.pw_in hto _), ← pw_add, Nat.add_comm, pw_add, hp]
  · refine ⟨_, itf_pw h hf (h.pw_in hto _) j, ?_⟩
    obtain ⟨i, hi, e⟩ := hback j0 j
    rw [e]
    have hle := hmin i hi
    have hneq : pw F tq j0 ≠ pw F tq i := fun e' => by
      have e2 : pw F (pw F tq j0) j = pw F tq j0 := e.trans e'.symm
      have e3 : pw F tq j = tq := by
        rw [← pw_add, Nat.add_comm, pw_add] at e2
        exact h.pw_inj (h.pw_in hto _) hto j0 e2
      exact hpl j h2 ⟨h1, e3⟩
    omega
  · rcases hO t ht with ⟨a, ha, rfl⟩ | hn
    · refine ⟨fun ⟨m, hm, he, hj⟩ => ?_, fun hc => absurd hc (hno a ha)⟩
      exfalso
      rw [itf_pw h hf ht] at he
      have he' : pw F (pw F tq a) m = pw F tq a := by injection he
      obtain ⟨k, hk1, hk2⟩ := hgo a j0 ha hj0
      rw [pw_mod he'] at hk2
      by_cases hz : k % m = 0
      · rw [hz] at hk2; exact hne0 hk2
      · obtain ⟨x, hx, hlt⟩ := hj (k % m) (by omega) (Nat.mod_lt _ (by omega))
        rw [itf_pw h hf ht, hk2] at hx
        injection hx with hx
        have := hmin a ha
        omega
    · refine circ_congr fun j => ?_
      have key : ∀ j, itf f' t j = some (pw F t j) := by
        intro j
        induction j with
        | zero => rfl
        | succ j ih => rw [itf, ih, Option.bind_some, hf2 _ (h.pw_in ht j) (hn (j + 1)), hf _ (h.pw_in ht j)]; rfl
      rw [key j, itf_pw h hf ht j]

/-! moves -/
def tos (l : List S38) : List Int := l.map (·.f0)
def lk (l : List S38) (t : Int) : Option Int := (l.find? fun c => decide (c.f0 = t)).map (·.f1)
theorem lk_mem {l : List S38} (hn : (tos l).Nodup) {c : S38} (hc : c ∈ l) : lk l c.f0 = some c.f1 := by
  unfold lk
  cases h : l.find? (fun d => decide (d.f0 = c.f0)) with
  | none =>
    have := List.find?_eq_none.1 h c hc
    simp at this
  | some d =>
    have hd := List.mem_of_find?_eq_some h
    have hp := List.find?_some h
    have : d = c := inj_of_nodup (fun c : S38 => c.f0) hn hd hc (by simpa using hp)
    rw [this]; rfl
theorem lk_some {l : List S38} {t x : Int} (h : lk l t = some x) : ∃ c ∈ l, c.f0 = t ∧ c.f1 = x := by
  unfold lk at h
  rw [Option.map_eq_some_iff] at h
  obtain ⟨c, hc, hx⟩ := h
  exact ⟨c, List.mem_of_find?_eq_some hc, by simpa using List.find?_some hc, hx⟩
theorem lk_none {l : List S38} {t : Int} (h : t ∉ tos l) : lk l t = none := by
  cases e : lk l t with
  | none => rfl
  | some x =>
    obtain ⟨c, hc, h1, _⟩ := lk_some e
    exact absurd (List.mem_map.2 ⟨c, hc, h1⟩) h

open Classical in
/-- how many circles -/
noncomputable def circs (l : List S38) : Nat := (tos l).countP fun t => decide (Circ (lk l) t)

structure Inv (sp : Int) (w : List S38) : Prop where
  nodup : (tos w).Nodup
  ne : ∀ c ∈ w, c.f0 ≠ sp ∧ c.f0 ≠ c.f1

theorem circs_free {A B : List S38} {c : S38} (hn : (tos (A ++ c :: B)).Nodup) (hc : ∀ y ∈ A ++ c :: B, y.f1 ≠ c.f0) : circs (A ++ c :: B) = circs (A ++ B) := by
  have hn' : (tos (A ++ B)).Nodup := by
    unfold tos at hn ⊢
    refine List.Nodup.sublist ?_ hn
    exact (List.Sublist.append_left (List.sublist_cons_self _ _) _).map _
  have hcn : c.f0 ∉ tos (A ++ B) := by
    intro hm
    have h1 : (tos (A ++ c :: B)).Perm (c.f0 :: tos (A ++ B)) := by
      unfold tos; simp only [List.map_append, List.map_cons]; exact List.perm_middle
    have := h1.nodup_iff.1 hn
    exact (List.nodup_cons.1 this).1 hm
  have hno : ∀ x, lk (A ++ c :: B) x ≠ some c.f0 := fun x e => by
    obtain ⟨y, hy, _, h2⟩ := lk_some e
    exact hc y hy h2
  have hsame : ∀ x, x ≠ c.f0 → lk (A ++ B) x = lk (A ++ c :: B) x := fun x hx => by
    unfold lk
    rw [List.find?_append, List.find?_append, List.find?_cons_of_neg (by simpa using fun e => hx e.symm)]
  unfold circs
  have h1 : (tos (A ++ c :: B)).Perm (c.f0 :: tos (A ++ B)) := by
    unfold tos; simp only [List.map_append, List.map_cons]; exact List.perm_middle
  rw [h1.countP_eq, List.countP_cons_of_neg (by simpa using circ_not_free hno)]
  apply List.countP_congr
  intro t ht
  have := circ_free hno hsame (t := t) (fun e => hcn (e ▸ ht))
  simp [this]

def spareTo (sp tq : Int) (c : S38) : S38 := if c.f1 = tq then ⟨c.f0, sp⟩ else c
theorem spareTo_f0 (sp tq : Int) (c : S38) : (spareTo sp tq c).f0 = c.f0 := by unfold spareTo; split <;> rfl
theorem tos_spare (sp tq : Int) (w : List S38) : tos (w.map (spareTo sp tq)) = tos w := by
  unfold tos; rw [List.map_map]; apply List.map_congr_left; intro c _; exact spareTo_f0 _ _ _
theorem Inv.spare {sp : Int} {w : List S38} (h : Inv sp w) (tq : Int) : Inv sp (w.map (spareTo sp tq)) := by
  refine ⟨by rw [tos_spare]; exact h.nodup, fun c hc => ?_⟩
  obtain ⟨d, hd, rfl⟩ := List.mem_map.1 hc
  obtain ⟨h1, h2⟩ := h.ne d hd
  unfold spareTo
  split
  · exact ⟨h1, h1⟩
  · exact ⟨h1, h2⟩
theorem lk_spare (sp tq : Int) (w : List S38) (t : Int) : lk (w.map (spareTo sp tq)) t = (lk w t).map (fun x => if x = tq then sp else x) := by
  unfold lk
  induction w with
  | nil => rfl
  | cons c w ih =>
    rw [List.map_cons, List.find?_cons, List.find?_cons, spareTo_f0]
    by_cases h : c.f0 = t
    · simp only [h, decide_true, Option.map_some]
      congr 1
      unfold spareTo; split <;> simp [*]
    · simp only [h, decide_false]; exact ih
theorem stuck_perm {w : List S38} (hn : (tos w).Nodup) (hst : ∀ c ∈ w, ∃ y ∈ w, y.f1 = c.f0) : (w.map (·.f1)).Perm (tos w) := by
  refine perm_of_sub hn (fun t ht => ?_) (by simp [tos])
  obtain ⟨c, hc, rfl⟩ := List.mem_map.1 ht
  obtain ⟨y, hy, he⟩ := hst c hc
  exact List.mem_map.2 ⟨y, hy, he⟩
theorem circs_stuck {sp : Int} {w : List S38} (hI : Inv sp w) (hst : ∀ c ∈ w, ∃ y ∈ w, y.f1 = c.f0) {c0 : S38} (hc0 : c0 ∈ w) : circs w = circs (w.map (spareTo sp c0.f0)) + 1 := by
  have hp := stuck_perm hI.nodup hst
  have hsp : sp ∉ tos w := fun h => by
    obtain ⟨c, hc, e⟩ := List.mem_map.1 h
    exact (hI.ne c hc).1 e
  have hon : Onto (tos w) (fun t => (lk w t).getD 0) := by
    refine ⟨hI.nodup, fun t ht => ?_, fun s hs t ht e => ?_⟩
    · obtain ⟨c, hc, rfl⟩ := List.mem_map.1 ht
      simp only [lk_mem hI.nodup hc, Option.getD_some]
      exact hp.mem_iff.1 (List.mem_map.2 ⟨c, hc, rfl⟩)
    · obtain ⟨c, hc, rfl⟩ := List.mem_map.1 hs
      obtain ⟨d, hd, rfl⟩ := List.mem_map.1 ht
      simp only [lk_mem hI.nodup hc, lk_mem hI.nodup hd, Option.getD_some] at e
      rw [inj_of_nodup (·.f1) (hp.nodup_iff.2 hI.nodup) hc hd e]
  have hf : ∀ t ∈ tos w, lk w t = some ((lk w t).getD 0) := fun t ht => by
    obtain ⟨c, hc, rfl⟩ := List.mem_map.1 ht
    simp [lk_mem hI.nodup hc]
  obtain ⟨t0, h0, h1, h2, h3⟩ := break_one (f' := lk (w.map (spareTo sp c0.f0))) (tq := c0.f0) (sp := sp) hon hf (List.mem_map.2 ⟨c0, hc0, rfl⟩) (by
      simp only [lk_mem hI.nodup hc0, Option.getD_some]
      exact fun e => (hI.ne c0 hc0).2 e.symm) hsp
    (fun t ht e => by rw [lk_spare, hf t ht]; simp only [Option.map_some]; rw [if_pos e])
    (fun t ht e => by rw [lk_spare, hf t ht]; simp only [Option.map_some]; rw [if_neg e])
    (by rw [lk_spare, lk_none hsp]; rfl)
  unfold circs
  rw [tos_spare]
  exact countP_one _ _ t0 hI.nodup h0 (by simpa using h1) (by simpa using h2) (fun t ht hne => by simp [h3 t ht hne])
def fIdx (l : List S38) : Option Nat := l.findIdx? (freeB l)
def ordN (sp : Int) : Nat → List S38 → List S38
  | 0, _ => []
  | n + 1, w => match w with
    | [] => []
    | c :: r => match fIdx (c :: r) with
      | some k => (c :: r).getD k z38 :: ordN sp n ((c :: r).eraseIdx k)
      | none => ⟨sp, c.f0⟩ :: ordN sp n ((c :: r).map (spareTo sp c.f0))
def meas (w : List S38) : Nat := 2 * w.length + (if (fIdx w).isSome then 0 else 1)

theorem fIdx_split {w : List S38} {k : Nat} (h : fIdx w = some k) : ∃ A c B, w = A ++ c :: B ∧ A.length = k ∧ (∀ y ∈ w, y.f1 ≠ c.f0) ∧ w.getD k z38 = c ∧ w.eraseIdx k = A ++ B := by
  unfold fIdx at h
  rw [List.findIdx?_eq_some_iff_getElem] at h
  obtain ⟨hk, hp, _⟩ := h
  have e : w = w.take k ++ w[k] :: w.drop (k + 1) := by
    rw [List.getElem_cons_drop, List.take_append_drop]
  have hl : (w.take k).length = k := by rw [List.length_take]; omega
  refine ⟨w.take k, w[k], w.drop (k + 1), e, hl, fun y hy he => ?_, by simp [List.getD_eq_getElem?_getD, hk], List.eraseIdx_eq_take_drop_succ _ _⟩
  unfold freeB at hp
  have : (w.any fun y => decide (y.f1 = w[k].f0)) = true := List.any_eq_true.2 ⟨y, hy, by simp [he]⟩
  rw [this] at hp; cases hp
theorem fIdx_stuck {w : List S38} (h : fIdx w = none) : ∀ c ∈ w, ∃ y ∈ w, y.f1 = c.f0 := by
  intro c hc
  unfold fIdx at h
  rw [List.findIdx?_eq_none_iff] at h
  have := h c hc
  unfold freeB at this
  simp only [Bool.not_eq_false', List.any_eq_true, decide_eq_true_eq] at this
  exact this
theorem Inv.erase {sp : Int} {A B : List S38} {c : S38} (h : Inv sp (A ++ c :: B)) : Inv sp (A ++ B) := by
  refine ⟨?_, fun d hd => h.ne d (by rcases List.mem_append.1 hd with h | h <;> simp [h])⟩
  refine List.Nodup.sublist ?_ h.nodup
  exact ((List.sublist_cons_self c B).append_left A).map _
theorem spare_frees {sp : Int} {c : S38} {r : List S38} (hI : Inv sp (c :: r)) : (fIdx ((c :: r).map (spareTo sp c.f0))).isSome = true := by
  rw [Option.isSome_iff_ne_none]
  intro h
  obtain ⟨y, hy, he⟩ := fIdx_stuck h (spareTo sp c.f0 c) (List.mem_map.2 ⟨c, by simp, rfl⟩)
  obtain ⟨d, hd, rfl⟩ := List.mem_map.1 hy
  rw [spareTo_f0] at he
  unfold spareTo at he
  split at he
  · exact (hI.ne c (by simp)).1 he.symm
  · exact absurd he (by assumption)
theorem meas_free {w : List S38} {k : Nat} (h : fIdx w = some k) : meas (w.eraseIdx k) + 1 ≤ meas w := by
  obtain ⟨A, c, B, rfl, rfl, _, _, h2⟩ := fIdx_split h
  rw [h2]
  unfold meas
  rw [h]
  simp only [Option.isSome_some, if_true, List.length_append, List.length_cons]
  split <;> omega
theorem meas_spare {sp : Int} {c : S38} {r : List S38} (hI : Inv sp (c :: r)) (h : fIdx (c :: r) = none) : meas ((c :: r).map (spareTo sp c.f0)) + 1 ≤ meas (c :: r) := by
  unfold meas
  rw [spare_frees hI, h]
  simp

/-- how often spare is a To; how many there are -/
theorem ordN_count {sp : Int} : ∀ (n : Nat) {w : List S38}, Inv sp w → meas w ≤ n → ((ordN sp n w).countP fun c => decide (c.f0 = sp)) = circs w ∧ (ordN sp n w).length = w.length + circs w
  | 0, w, hI, hm => by
    have h1 : w.length = 0 := by unfold meas at hm; omega
    have : w = [] := List.eq_nil_of_length_eq_zero h1
    subst this
    simp [ordN, circs, tos]
  | n + 1, w, hI, hm => by
    cases w with
    | nil => simp [ordN, circs, tos]
    | cons c r =>
      unfold ordN
      cases h : fIdx (c :: r) with
      | some k =>
        obtain ⟨A, d, B, e, hk, hno, hg, he⟩ := fIdx_split h
        have hd : d ∈ c :: r := by rw [e]; simp
        have hmm := meas_free h
        have hI2 := hI
        rw [e] at hI2 hno
        have hlen : (c :: r).length = (A ++ B).length + 1 := by rw [e]; simp; omega
        simp only [h, hg, he] at hmm ⊢
        obtain ⟨i1, i2⟩ := ordN_count n hI2.erase (by omega)
        have hc := circs_free hI2.nodup hno
        rw [List.countP_cons_of_neg (by simpa using (hI.ne d hd).1), i1, List.length_cons, i2, hlen, e, hc]
        exact ⟨rfl, by omega⟩
      | none =>
        have hst := fIdx_stuck h
        have hc := circs_stuck hI hst (c0 := c) (by simp)
        have hmm := meas_spare hI h
        obtain ⟨i1, i2⟩ := ordN_count n (hI.spare c.f0) (by omega)
        simp only [h]
        rw [List.countP_cons_of_pos (by simp), i1, List.length_cons, i2, hc, List.length_map]
        exact ⟨rfl, by omega⟩

/-! what is held -/
def oneF (h : Int → Option Int) (l : List S38) : Int → Option Int := l.foldl (fun f c => upd f c.f0 ((f c.f1).getD 0)) h
def onceF (h : Int → Option Int) (l : List S38) : Int → Option Int := l.foldl (fun f c => upd f c.f0 ((h c.f1).getD 0)) h

/-- what each that waits will hold: g; all others hold what h says -/
theorem ordN_holds {sp : Int} (g : Int → Int) : ∀ (n : Nat) {w : List S38} (h : Int → Option Int), Inv sp w → meas w ≤ n → (∀ c ∈ w, (h c.f1).getD 0 = g c.f0) →
    (∀ x, x ≠ sp → x ∈ tos w → oneF h (ordN sp n w) x = some (g x)) ∧ (∀ x, x ≠ sp → x ∉ tos w → oneF h (ordN sp n w) x = h x)
  | 0, w, h, hI, hm, hg => by
    have h1 : w.length = 0 := by unfold meas at hm; omega
    have : w = [] := List.eq_nil_of_length_eq_zero h1
    subst this
    exact ⟨fun x _ hx => (by cases hx), fun x _ _ => rfl⟩
  | n + 1, w, h, hI, hm, hg => by
    cases w with
    | nil => exact ⟨fun x _ hx => (by cases hx), fun x _ _ => rfl⟩
    | cons c r =>
      unfold ordN
      cases hf : fIdx (c :: r) with
      | some k =>
        obtain ⟨A, d, B, e, hk, hno, hgd, he⟩ := fIdx_split hf
        have hd : d ∈ c :: r := by rw [e]; simp
        have hmm := meas_free hf
        have hI2 := hI
        rw [e] at hI2 hno
        simp only [hf, hgd, he] at hmm ⊢
        have hdn : d.f0 ∉ tos (A ++ B) := by
          intro hm
          have h1 : (tos (A ++ d :: B)).Perm (d.f0 :: tos (A ++ B)) := by
            unfold tos; simp only [List.map_append, List.map_cons]; exact List.perm_middle
          exact (List.nodup_cons.1 (h1.nodup_iff.1 hI2.nodup)).1 hm
        have hmem : ∀ x, x ∈ tos (c :: r) ↔ x = d.f0 ∨ x ∈ tos (A ++ B) := fun x => by
          rw [e]
          have h1 : (tos (A ++ d :: B)).Perm (d.f0 :: tos (A ++ B)) := by
            unfold tos; simp only [List.map_append, List.map_cons]; exact List.perm_middle
          rw [h1.mem_iff, List.mem_cons]
        obtain ⟨i1, i2⟩ := ordN_holds g n (upd h d.f0 ((h d.f1).getD 0)) hI2.erase (by omega) (fun y hy => by
          have hy' : y ∈ A ++ d :: B := by rcases List.mem_append.1 hy with h | h <;> simp [h]
          unfold upd
          rw [if_neg (hno y hy')]
          exact hg y (by rw [e]; exact hy'))
        refine ⟨fun x hx hm => ?_, fun x hx hm => ?_⟩
        · show oneF (upd h d.f0 _) _ x = _
          rcases (hmem x).1 hm with rfl | hm'
          · rw [i2 _ hx hdn]
            unfold upd
            rw [if_pos rfl, hg d hd]
          · exact i1 x hx hm'
        · show oneF (upd h d.f0 _) _ x = _
          have h1 : x ≠ d.f0 := fun e' => hm ((hmem x).2 (.inl e'))
          rw [i2 x hx (fun h => hm ((hmem x).2 (.inr h)))]
          unfold upd
          rw [if_neg h1]
      | none =>
        have hst := fIdx_stuck hf
        have hmm := meas_spare hI hf
        have hp := stuck_perm hI.nodup hst
        have hsp : sp ∉ tos (c :: r) := fun h => by
          obtain ⟨d, hd, e⟩ := List.mem_map.1 h
          exact (hI.ne d hd).1 e
        obtain ⟨i1, i2⟩ := ordN_holds g n (upd h sp ((h c.f0).getD 0)) (hI.spare c.f0) (by omega) (fun y hy => by
          obtain ⟨d, hd, rfl⟩ := List.mem_map.1 hy
          rw [spareTo_f0]
          have h2 := hg d hd
          unfold spareTo upd
          split
          · rename_i e
            simp only [if_true, Option.getD_some]
            rw [← e]; exact h2
          · rw [if_neg (fun e => hsp (hp.mem_iff.1 (List.mem_map.2 ⟨d, hd, e⟩)))]
            exact h2)
        simp only [hf]
        rw [tos_spare] at i1 i2
        refine ⟨fun x hx hm => i1 x hx hm, fun x hx hm => ?_⟩
        show oneF (upd h sp _) _ x = _
        rw [i2 x hx hm]
        unfold upd
        rw [if_neg hx]
/-- spare is held just where there is a circle -/
theorem oneF_some (h : Int → Option Int) (l : List S38) (x : Int) : (oneF h l x).isSome = ((h x).isSome || decide (x ∈ tos l)) := by
  unfold oneF
  induction l generalizing h with
  | nil => simp [tos]
  | cons c l ih =>
    rw [List.foldl_cons, ih]
    unfold upd tos
    by_cases e : x = c.f0
    · simp [e]
    · simp [e]
theorem onceF_get {l : List S38} (hn : (tos l).Nodup) (h : Int → Option Int) (x : Int) : onceF h l x = match lk l x with | some y => some ((h y).getD 0) | none => h x := by
  unfold onceF
  suffices H : ∀ g : Int → Option Int, (l.foldl (fun f c => upd f c.f0 ((h c.f1).getD 0)) g) x = match lk l x with | some y => some ((h y).getD 0) | none => g x from H h
  induction l with
  | nil => intro g; rfl
  | cons c l ih =>
    intro g
    have hn' := List.nodup_cons.1 (show (c.f0 :: tos l).Nodup from hn)
    rw [List.foldl_cons, ih hn'.2]
    unfold lk
    rw [List.find?_cons]
    by_cases e : c.f0 = x
    · subst e
      have h0 := lk_none hn'.1
      unfold lk at h0
      rw [h0]
      simp [upd]
    · simp only [e, decide_false]
      cases (l.find? fun c => decide (c.f0 = x)).map (·.f1) with
      | some y => rfl
      | none =>
        have e' : ¬ x = c.f0 := fun h => e h.symm
        simp [upd, e']
/-- the Tos, and where they are read from -/
theorem ordN_from {sp : Int} : ∀ (n : Nat) {w : List S38}, Inv sp w → ∀ c ∈ ordN sp n w, c.f0 ≠ sp → ∃ d ∈ w, d.f0 = c.f0 ∧ (d.f1 = c.f1 ∨ c.f1 = sp)
  | 0, w, hI, c, hc, _ => by cases hc
  | n + 1, w, hI, c, hc, hsp => by
    cases w with
    | nil => cases hc
    | cons a r =>
      unfold ordN at hc
      cases hf : fIdx (a :: r) with
      | some k =>
        obtain ⟨A, d, B, e, hk, hno, hgd, he⟩ := fIdx_split hf
        simp only [hf, hgd, he] at hc
        have hI2 := hI
        rw [e] at hI2
        rcases List.mem_cons.1 hc with rfl | hc
        · exact ⟨c, by rw [e]; simp, rfl, .inl rfl⟩
        · obtain ⟨y, hy, h1⟩ := ordN_from n hI2.erase c hc hsp
          exact ⟨y, by rw [e]; rcases List.mem_append.1 hy with h | h <;> simp [h], h1⟩
      | none =>
        simp only [hf] at hc
        rcases List.mem_cons.1 hc with rfl | hc
        · exact absurd rfl hsp
        · obtain ⟨y, hy, h1, h2⟩ := ordN_from n (hI.spare a.f0) c hc hsp
          obtain ⟨d, hd, rfl⟩ := List.mem_map.1 hy
          refine ⟨d, hd, by rw [← h1, spareTo_f0], ?_⟩
          unfold spareTo at h2
          split at h2
          · rcases h2 with h2 | h2
            · exact .inr h2.symm
            · exact .inr h2
          · exact h2
/-- each To but spare once -/
theorem ordN_once {sp : Int} : ∀ (n : Nat) {w : List S38}, Inv sp w → ((ordN sp n w).filter fun c => !decide (c.f0 = sp)).Pairwise (fun a b => a.f0 ≠ b.f0)
  | 0, w, hI => List.Pairwise.nil
  | n + 1, w, hI => by
    cases w with
    | nil => exact List.Pairwise.nil
    | cons a r =>
      unfold ordN
      cases hf : fIdx (a :: r) with
      | some k =>
        obtain ⟨A, d, B, e, hk, hno, hgd, he⟩ := fIdx_split hf
        have hd : d ∈ a :: r := by rw [e]; simp
        have hI2 := hI
        rw [e] at hI2
        simp only [hf, hgd, he]
        rw [List.filter_cons, if_pos (by simpa using (hI.ne d hd).1)]
        refine List.Pairwise.cons (fun c hc h => ?_) (ordN_once n hI2.erase)
        obtain ⟨hc1, hc2⟩ := List.mem_filter.1 hc
        obtain ⟨y, hy, h1, _⟩ := ordN_from n hI2.erase c hc1 (by simpa using hc2)
        have h1' : (tos (A ++ d :: B)).Perm (d.f0 :: tos (A ++ B)) := by
          unfold tos; simp only [List.map_append, List.map_cons]; exact List.perm_middle
        exact (List.nodup_cons.1 (h1'.nodup_iff.1 hI2.nodup)).1 (List.mem_map.2 ⟨y, hy, h1.trans h.symm⟩)
      | none =>
        simp only [hf]
        rw [List.filter_cons, if_neg (by simp)]
        exact ordN_once n (hI.spare a.f0)
/-- fuel does not matter -/
theorem ordN_fuel {sp : Int} : ∀ (n m : Nat) {w : List S38}, Inv sp w → meas w ≤ n → meas w ≤ m → ordN sp n w = ordN sp m w
  | 0, m, w, hI, hn, hm => by
    have h1 : w.length = 0 := by unfold meas at hn; omega
    have : w = [] := List.eq_nil_of_length_eq_zero h1
    subst this
    cases m <;> rfl
  | n + 1, 0, w, hI, hn, hm => by
    have h1 : w.length = 0 := by unfold meas at hm; omega
    have : w = [] := List.eq_nil_of_length_eq_zero h1
    subst this
    rfl
  | n + 1, m + 1, w, hI, hn, hm => by
    cases w with
    | nil => rfl
    | cons a r =>
      unfold ordN
      cases hf : fIdx (a :: r) with
      | some k =>
        have hmm := meas_free hf
        obtain ⟨A, d, B, e, hk, hno, hgd, he⟩ := fIdx_split hf
        have hI2 := hI
        rw [e] at hI2
        simp only [hf, he] at hmm ⊢
        rw [ordN_fuel n m hI2.erase (by omega) (by omega)]
      | none =>
        have hmm := meas_spare hI hf
        simp only [hf]
        rw [ordN_fuel n m (hI.spare a.f0) (by omega) (by omega)]
end Go.Proofs.Ytkfopphcgjdcaaa.A

/- moves.Order: what it answers. -/
namespace Go.Proofs.Ytkfopphcgjdcaaa.A
open Go.RowKit Go.Maps Go.Proofs.YtkfopphcgjdcaaaW.PrintWords Go.Proofs.YtkfopphcgjdcaaaW.PrintLast Go.Shelf
set_option linter.unusedVariables false
set_option linter.unusedSimpArgs false

theorem Pre.grown {W W1 : World} {g cap : Nat} {xs : List S38} (h : Pre W g cap xs) {row : Option Nat} (hg : W.grownBy W1 row) (hne : some g ≠ row) : Pre W1 g cap xs := by
  obtain ⟨cur, h1, h2⟩ := h
  exact ⟨cur, blk_grown h1 hg hne, h2⟩
theorem Pre.lt {W : World} {g cap : Nat} {xs : List S38} (h : Pre W g cap xs) : g < W.heap.size := by
  obtain ⟨cur, h1, _⟩ := h
  exact blk_lt h1
theorem Pre.from_ {W : World} {g cap : Nat} {xs : List S38} (h : Pre W g cap xs) (j : Nat) (hj : j < xs.length) (v : Int) :
    Pre (W.setCell ⟨g, j * 2 + 1, none⟩ (.int .i64 v)) g cap (xs.set j ⟨xs[j].f0, v⟩) := by
  have hc := (h.cell j hj).1
  obtain ⟨cur, h1, h2, h3, h4, h5⟩ := h
  refine ⟨_, blk_set h1 (j * 2 + 1) _, by simpa using h2, h3, by simpa using h4, fun i x hi => ?_⟩
  by_cases hij : i = j
  · subst hij
    rw [List.getElem?_set_self hj] at hi
    obtain rfl := Option.some.inj hi
    have a2 : i * 2 + 1 < cur.size := by omega
    constructor
    · rw [Array.getElem?_setIfInBounds_ne (by omega)]
      exact (h5 i xs[i] (List.getElem?_eq_getElem hj)).1
    · rw [Array.getElem?_setIfInBounds_self_of_lt a2]
  · rw [List.getElem?_set_ne (by omega)] at hi
    obtain ⟨a, b⟩ := h5 i x hi
    constructor
    · rw [Array.getElem?_setIfInBounds_ne (by omega)]; exact a
    · rw [Array.getElem?_setIfInBounds_ne (by omega)]; exact b
theorem Pre.reads {W : World} {g cap : Nat} {xs : List S38} (h : Pre W g cap xs) : Kd.C k38 W (some ⟨g, 0, none⟩) xs.length xs :=
  (Kd.R_reads' (R_of_pre (base := 0) (ok := fun _ => True) h (Nat.zero_le _) trivial)).2.2
theorem Pre.le {W : World} {g cap : Nat} {xs : List S38} (h : Pre W g cap xs) : xs.length ≤ cap ∧ cap ≤ maxLen := by
  obtain ⟨cur, h1, h2, h3, h4, h5⟩ := h
  exact ⟨h4, h3⟩

/-- what Order answers, where the moves are right and spare is not among them -/
def waitsOf (l : List S38) : List S38 := l.filter fun x => !own_ x
def ordOf (sp : Int) (l : List S38) : List S38 := ordN sp (meas (waitsOf l)) (waitsOf l)
def usesSp (sp : Int) (x : S38) : Bool := decide (x.f0 = sp) || decide (x.f1 = sp)

theorem freeOf_some {w : List S38} {k : Nat} (h : fIdx w = some k) : freeOf w = k := by
  unfold freeOf firstOf fIdx at *; rw [h]
theorem freeOf_none {w : List S38} (h : fIdx w = none) : freeOf w = -1 := by
  unfold freeOf firstOf fIdx at *; rw [h]
theorem circs_le (w : List S38) : circs w ≤ w.length := by
  unfold circs
  have := List.countP_le_length (p := fun t => @decide (Circ (lk w) t) (Classical.propDecidable _)) (l := tos w)
  simpa [tos] using this
theorem okN_nodup_aux (l : List S38) (hn : (tos l).Nodup ∨ True) : True := trivial
theorem fromF_tos (l : List S38) (k : Int) : (fromF l k).isSome = decide (k ∈ tos l) := by
  rw [fromF_some]
  unfold tos
  rw [Bool.eq_iff_iff]
  simp
theorem okN_iff (l : List S38) : okN l l.length = true ↔ (tos l).Nodup := by
  suffices h : ∀ m, m ≤ l.length → (okN l m = true ↔ (tos (l.take m)).Nodup) by
    have := h l.length (Nat.le_refl _); rwa [List.take_length] at this
  intro m
  induction m with
  | zero => intro _; simp [okN, tos]
  | succ m ih =>
    intro hm
    have hx : rd_T38 l (m : Int) = l[m] := by unfold rd_T38; simp [show m < l.length by omega]
    rw [okN_succ, Bool.and_eq_true, ih (by omega), List.take_succ_eq_append_getElem (by omega)]
    unfold tos
    rw [List.map_append, List.nodup_append]
    simp only [List.map_cons, List.map_nil]
    unfold dupAt
    rw [hx]
    have := fromF_tos (l.take m) l[m].f0
    cases hc : fromF (l.take m) l[m].f0 with
    | none =>
      rw [hc] at this
      have h' : l[m].f0 ∉ tos (l.take m) := by simpa using this.symm
      unfold tos at h'
      simp only [Option.isSome_none, Bool.not_false, and_true]
      refine ⟨fun h => ⟨h, by simp, fun a ha b hb e => ?_⟩, fun h => h.1⟩
      simp at hb
      exact h' (by rw [← hb, ← e]; exact ha)
    | some y =>
      rw [hc] at this
      have h' : l[m].f0 ∈ tos (l.take m) := by simpa using this.symm
      unfold tos at h'
      refine ⟨fun h => by simp at h, fun h => ?_⟩
      exact absurd rfl (h.2.2 _ h' _ (by simp))
#print axioms okN_iff
theorem inv_of {l : List S38} {sp : Int} (hn : (tos l).Nodup) (hs : l.any (usesSp sp) = false) : Inv sp (waitsOf l) := by
  refine ⟨?_, fun c hc => ?_⟩
  · refine List.Nodup.sublist ?_ hn
    exact List.Sublist.map _ List.filter_sublist
  · obtain ⟨h1, h2⟩ := List.mem_filter.1 hc
    rw [List.any_eq_false] at hs
    have := hs c h1
    unfold usesSp at this
    unfold own_ at h2
    simp at this h2
    exact ⟨this.1, h2⟩
theorem wfl_spare {w : List S38} {sp t : Int} (h : WfL w) (hs : Wf sp) : WfL (w.map (spareTo sp t)) := by
  intro x hx
  obtain ⟨y, hy, rfl⟩ := List.mem_map.1 hx
  obtain ⟨a, b⟩ := h y hy
  unfold spareTo
  split
  · exact ⟨a, hs⟩
  · exact ⟨a, b⟩
theorem wfl_erase {w : List S38} (h : WfL w) (k : Nat) : WfL (w.eraseIdx k) := fun x hx => h x (List.mem_of_mem_eraseIdx hx)
theorem wfl_filter {w : List S38} (h : WfL w) (p : S38 → Bool) : WfL (w.filter p) := fun x hx => h x (List.mem_filter.1 hx).1
theorem ordN_free {sp : Int} {w : List S38} {k : Nat} (h : fIdx w = some k) (f : Nat) : ordN sp (f + 1) w = rd_T38 w k :: ordN sp f (w.eraseIdx k) := by
  cases w with
  | nil => simp [fIdx] at h
  | cons c r =>
    conv => lhs; unfold ordN
    simp only [h]
    rfl
theorem ordN_stuck {sp : Int} {w : List S38} (hne : w ≠ []) (h : fIdx w = none) (f : Nat) : ordN sp (f + 1) w = ⟨sp, (rd_T38 w 0).f0⟩ :: ordN sp f (w.map (spareTo sp (rd_T38 w 0).f0)) := by
  cases w with
  | nil => exact absurd rfl hne
  | cons c r =>
    conv => lhs; unfold ordN
    simp only [h]
    rfl
theorem fIdx_lt {w : List S38} {k : Nat} (h : fIdx w = some k) : k < w.length := by
  unfold fIdx at h
  rw [List.findIdx?_eq_some_iff_getElem] at h
  exact h.1
theorem meas_pos {w : List S38} (hne : w ≠ []) : 1 ≤ meas w := by
  unfold meas
  have : w.length ≠ 0 := fun h => hne (List.eq_nil_of_length_eq_zero h)
  omega
theorem meas_stuck {sp : Int} {w : List S38} (hne : w ≠ []) (hI : Inv sp w) (h : fIdx w = none) : meas (w.map (spareTo sp (rd_T38 w 0).f0)) + 1 ≤ meas w := by
  cases w with
  | nil => exact absurd rfl hne
  | cons c r => exact meas_spare hI h
theorem inv_erase {sp : Int} {w : List S38} {k : Nat} (hI : Inv sp w) (h : fIdx w = some k) : Inv sp (w.eraseIdx k) := by
  obtain ⟨A, c, B, e, _, _, _, h2⟩ := fIdx_split h
  rw [h2]
  rw [e] at hI
  exact hI.erase
/-- the first m turned -/
def mixed (sp t : Int) (w : List S38) (m : Nat) : List S38 := (w.take m).map (spareTo sp t) ++ w.drop m
theorem mixed_length (sp t : Int) (w : List S38) (m : Nat) : (mixed sp t w m).length = w.length := by
  unfold mixed; rw [List.length_append, List.length_map, List.length_take, List.length_drop]; omega
theorem mixed_rd (sp t : Int) (w : List S38) (m : Nat) (h : m < w.length) : rd_T38 (mixed sp t w m) (m : Int) = w[m] := by
  unfold rd_T38 mixed
  rw [Int.toNat_natCast, List.getD_eq_getElem?_getD, List.getElem?_append_right (by simp; omega)]
  simp [List.length_take, Nat.min_eq_left (Nat.le_of_lt h), h]
theorem mixed_get (sp t : Int) (w : List S38) (m : Nat) (h : m < w.length) (h' : m < (mixed sp t w m).length) : (mixed sp t w m)[m] = w[m] := by
  have := mixed_rd sp t w m h
  unfold rd_T38 at this
  simpa [h'] using this
theorem mixed_succ (sp t : Int) (w : List S38) (m : Nat) (h : m < w.length) : mixed sp t w (m + 1) = (mixed sp t w m).set m (spareTo sp t w[m]) := by
  unfold mixed
  rw [List.take_succ_eq_append_getElem h, List.map_append, List.append_assoc]
  have hl : ((w.take m).map (spareTo sp t)).length = m := by simp; omega
  rw [List.set_append_right _ _ (by omega), hl, Nat.sub_self]
  have : w.drop m = w[m] :: w.drop (m + 1) := List.drop_eq_getElem_cons h
  rw [this]
  rfl
theorem mixed_yes (sp t : Int) (w : List S38) (m : Nat) (h : m < w.length) (hx : w[m].f1 = t) : mixed sp t w (m + 1) = (mixed sp t w m).set m ⟨w[m].f0, sp⟩ := by
  rw [mixed_succ sp t w m h]; unfold spareTo; rw [if_pos hx]
theorem mixed_no (sp t : Int) (w : List S38) (m : Nat) (h : m < w.length) (hx : ¬ w[m].f1 = t) : mixed sp t w (m + 1) = mixed sp t w m := by
  rw [mixed_succ sp t w m h]
  unfold spareTo
  rw [if_neg hx, ← mixed_get sp t w m h (by rw [mixed_length]; exact h), List.set_getElem_self]
theorem mixed_zero (sp t : Int) (w : List S38) : mixed sp t w 0 = w := rfl
theorem mixed_all (sp t : Int) (w : List S38) : mixed sp t w w.length = w.map (spareTo sp t) := by unfold mixed; simp
end Go.Proofs.Ytkfopphcgjdcaaa.A

/- moves.Order: its walk. -/
namespace Go.Proofs.Ytkfopphcgjdcaaa.A
open Go.RowKit Go.Maps Go.Proofs.YtkfopphcgjdcaaaW.PrintWords Go.Proofs.YtkfopphcgjdcaaaW.PrintLast Go.Shelf
set_option linter.unusedVariables false
set_option linter.unusedSimpArgs false

set_option maxHeartbeats 1000000 in
theorem delFunc_nil (A : Option Addr) (c : Nat) (w : World) :
    Calls Try.prog 27 #[.slice A 0 c, .func (.func 29) #[] #[]] w fun e w' => e = .returned (.slice A 0 c) ∧ Below w.heap.size w w' := by
  have hC : Kd.C k38 w A ([] : List S38).length [] := ⟨rfl, by simp, fun h => absurd h (by simp)⟩
  have hidx := indexFunc_calls own_ 29 #[] (enters_of Try.func29 (by kernel_rfl) rfl) A c [] w hC (own_says [] w)
  go_enter Try.func27, Try.ntmps27
  go_wp2_with fail
  refine hidx.mono ?_
  rintro e w' ⟨rfl, hb⟩
  go_wp2_with fail
  go_ret
  exact ⟨rfl, hb⟩

/-- what lies in memory between two rounds of Order -/
structure OI (w : World) (g cap : Nat) (sp : Int) (ws out : List S38) (v : Value) (W : World) : Prop where
  pre : Pre W g cap ws
  out : Kd.R k38 38 W w.heap.size (fun k => k ≠ g) v out
  box : W.heap[w.heap.size]? = some (.cells #[.int .i64 sp] 3 (0, 0))
  hB : Below w.heap.size w W
  lt : w.heap.size < g
theorem OI.below {w : World} {g cap : Nat} {sp : Int} {ws out : List S38} {v : Value} {W W1 : World} (h : OI w g cap sp ws out v W) (hb : Below W.heap.size W W1) : OI w g cap sp ws out v W1 :=
  ⟨h.pre.below hb, Kd.R_below h.out hb, blk_below h.box hb, below_step h.hB hb, h.lt⟩
theorem OI.cell {w : World} {g cap : Nat} {sp : Int} {ws out : List S38} {v : Value} {W : World} (h : OI w g cap sp ws out v W) : W.cell? ⟨w.heap.size, 0, none⟩ = some (.int .i64 sp) := (blk_cell h.box 0).trans rfl
theorem OI.turn {w : World} {g cap : Nat} {sp : Int} {ws ws' out : List S38} {v : Value} {W W1 : World} (h : OI w g cap sp ws out v W) (hp : Pre W1 g cap ws') (hg : W.grownBy W1 (some g)) : OI w g cap sp ws' out v W1 :=
  ⟨hp, Kd.R_grown h.out hg (fun k hk e => hk (by injection e)), blk_grown h.box hg (fun e => by have := h.lt; injection e with e; omega), gb_Below h.hB h.hB.size hg (Nat.le_of_lt h.lt), h.lt⟩
theorem OI.append {w : World} {g cap : Nat} {sp : Int} {ws out out1 : List S38} {v v1 : Value} {W W1 : World} (h : OI w g cap sp ws out v W) (hv : Kd.R k38 38 W1 w.heap.size (fun k => k ≠ g) v1 out1) (hg : W.grownBy W1 v.ownBlock) (hb : Below w.heap.size w W1) : OI w g cap sp ws out1 v1 W1 :=
  ⟨h.pre.grown hg (Kd.R_away h.out (fun k hk => hk)), hv, blk_grown h.box hg (Kd.R_ne h.out h.box (by decide)), hb, h.lt⟩

def OrderPost (l : List S38) (sp : Int) (w : World) (e : Ending) (w' : World) : Prop := Below w.heap.size w w' ∧
      (okN l l.length = false → e = .returned (.tuple #[.slice none 0 0, .int .i64 4])) ∧
      (okN l l.length = true → l.any (usesSp sp) = true → e = .returned (.tuple #[.slice none 0 0, .int .i64 1])) ∧
      (okN l l.length = true → l.any (usesSp sp) = false → ∃ v, e = .returned (.tuple #[v, .int .i64 0]) ∧ Kd.R k38 38 w' w.heap.size (fun _ => True) v (ordOf sp l))
theorem op_twice {l : List S38} {sp : Int} {w w' : World} (h : okN l l.length = false) (hb : Below w.heap.size w w') : OrderPost l sp w (.returned (.tuple #[.slice none 0 0, .int .i64 4])) w' :=
  ⟨hb, fun _ => rfl, fun e => (by rw [h] at e; cases e), fun e => (by rw [h] at e; cases e)⟩
theorem op_arg {l : List S38} {sp : Int} {w w' : World} (h : okN l l.length = true) (h' : l.any (usesSp sp) = true) (hb : Below w.heap.size w w') : OrderPost l sp w (.returned (.tuple #[.slice none 0 0, .int .i64 1])) w' :=
  ⟨hb, fun e => (by rw [h] at e; cases e), fun _ _ => rfl, fun _ e => (by rw [h'] at e; cases e)⟩
theorem op_ok {l : List S38} {sp : Int} {w w' : World} (h : okN l l.length = true) (h' : l.any (usesSp sp) = false) (hb : Below w.heap.size w w') {v : Value} (hv : Kd.R k38 38 w' w.heap.size (fun _ => True) v (ordOf sp l)) : OrderPost l sp w (.returned (.tuple #[v, .int .i64 0])) w' :=
  ⟨hb, fun e => (by rw [h] at e; cases e), fun _ e => (by rw [h'] at e; cases e), fun _ _ => ⟨v, rfl, hv⟩⟩

set_option maxRecDepth 100000 in
set_option maxHeartbeats 2000000 in
theorem order_calls (A : Option Addr) (c : Nat) (l : List S38) (sp : Int) (w : World) (h : Kd.C k38 w A l.length l) (hc : l.length ≤ c) (hw : WfL l) (hs : Wf sp) (hl : l.length ≤ 1000000) :
    Calls Try.prog 9 #[.slice A l.length c, .int .i64 sp] w (OrderPost l sp w) := by
  have hu38 := Try.underlying38
  have hB0 := below_alloc (Below.refl w.heap.size w) (.cells #[.int .i64 sp] 3)
  have h0 := Kd.C_below h hB0
  have hbx0 := blk_new w (.cells #[.int .i64 sp] 3)
  have hright := right_calls A c l _ h0 hw hl
  cases hok : okN l l.length
  · rw [hok] at hright
    have hok' := Aside0.mk hok
    clear hok
    go_enter Try.func9, Try.ntmps9
    go_wp2_with fail
    refine hright.mono ?_
    rintro e w' ⟨rfl, hb⟩
    have hb' := Aside0.mk (below_step hB0 hb)
    clear hb hB0 hbx0 hright h0
    go_wp2_with fail
    go_ret2
    exact op_twice hok'.out hb'.out
  · rw [hok] at hright
    have hin := (okN_iff l).1 hok
    have hok' := Aside0.mk hok
    clear hok
    have hcon : ∀ W, Below (w.alloc (.cells #[.int .i64 sp] 3)).heap.size (w.alloc (.cells #[.int .i64 sp] 3)) W → Calls Try.prog 25 #[.slice A l.length c, .func (.func 26) #[] #[.pointer (some ⟨w.heap.size, 0, none⟩)]] W fun e w' => e = .returned (.bool (l.any (usesSp sp))) ∧ Below W.heap.size W w' := fun W hW =>
      containsFunc_calls (usesSp sp) 26 #[.pointer (some ⟨w.heap.size, 0, none⟩)] (enters_of Try.func26 (by kernel_rfl) rfl) A c l W (Kd.C_below h0 hW)
        (fun x _ W2 hW2 => order1_calls x sp ⟨w.heap.size, 0, none⟩ W2 ((blk_cell (blk_below (blk_below hbx0 hW) hW2) 0).trans rfl))
    cases hany : l.any (usesSp sp)
    · rw [hany] at hcon
      have hI := inv_of hin hany
      have hany' := Aside0.mk hany
      clear hany hin
      go_enter Try.func9, Try.ntmps9
      go_wp2_with fail
      refine hright.mono ?_
      rintro e w1 ⟨rfl, hb1⟩
      have hcon1 := hcon w1 hb1
      clear hcon hright
      go_wp2_with fail
      refine hcon1.mono ?_
      rintro e w2 ⟨rfl, hb2⟩
      have hb12 := below_step hb1 hb2
      have hx2 := blk_below hbx0 hb12
      have hB2 := below_step hB0 hb12
      have hcl := clone_calls A c l w2 (Kd.C_below h0 hb12) hc hl
      clear hcon1 hb1 hb2 hB0 hbx0 h0 hb12
      have hx2' := Aside0.mk hx2
      have hB2' := Aside0.mk hB2
      clear hx2 hB2
      go_wp2_with fail
      refine hcl.mono ?_
      rintro e w3 ⟨v3, rfl, hR3, hb3⟩
      have hB3 := below_step hB2'.out hb3
      have hx3 := blk_below hx2'.out hb3
      have hsz2 := blk_lt hx2'.out
      clear hcl hx2' hB2'
      by_cases hne : l = []
      · subst hne
        obtain ⟨A3, c3, rfl⟩ := Kd.R_slice hR3
        have hdf := delFunc_nil A3 c3 w3
        have hB3' := Aside0.mk hB3
        clear hR3 hb3 hx3 hsz2 hB3
        go_wp2_with fail
        refine hdf.mono ?_
        rintro e w4 ⟨rfl, hb4⟩
        have hB4 := Aside0.mk (below_step hB3'.out hb4)
        clear hdf hb4 hB3'
        go_wp2_with fail
        refine wp_loop_rounds 1 ?_
        rw [rounds_succ]
        go_wp2_with fail
        go_ret2
        exact op_ok hok'.out hany'.out hB4.out (Kd.R_nil _ _ _ _ _)
      · obtain ⟨g, cap, rfl, hg1, _, hpre3⟩ := pre_of_R hR3 hne
        have hdf := delFunc_calls w3 g cap l hpre3 hl
        have hB3' := Aside0.mk hB3
        have hx3' := Aside0.mk hx3
        clear hR3 hb3 hx3 hB3 hpre3
        go_wp2_with fail
        refine hdf.mono ?_
        rintro e w4 ⟨rfl, hp4, hg4⟩
        have hO4 : OI w g cap sp (waitsOf l) [] (.slice none 0 0) w4 := ⟨hp4, Kd.R_nil _ _ _ _ _, blk_grown hx3'.out hg4 (fun e => by injection e with e; omega), gb_Below hB3'.out hB3'.out.size hg4 (by omega), by omega⟩
        have hO4' := Aside0.mk hO4
        have hI' := Aside0.mk hI
        have hwl : Aside0 (WfL (waitsOf l)) := ⟨wfl_filter hw _⟩
        have hlw : Aside0 ((waitsOf l).length ≤ 1000000) := ⟨Nat.le_trans (List.length_filter_le _ _) hl⟩
        have hgl : Aside0 ((ordOf sp l).length ≤ 2000000) := ⟨by
          unfold ordOf
          rw [(ordN_count _ hI (Nat.le_refl _)).2]
          have := circs_le (waitsOf l)
          have := hlw.out
          omega⟩
        clear hdf hp4 hg4 hB3' hx3' hO4 hI
        change Aside0 (OI w g cap sp (waitsOf l) _ _ w4) at hO4'
        rw [show (List.filter (fun x => !own_ x) l) = waitsOf l from rfl]
        generalize hgo : ordOf sp l = goal at *
        have hgoal := Aside0.mk hgo
        have hgo' : Aside0 ([] ++ ordN sp (meas (waitsOf l)) (waitsOf l) = goal) := ⟨hgo⟩
        have hfu : Aside0 (meas (waitsOf l) ≤ meas (waitsOf l)) := ⟨Nat.le_refl _⟩
        generalize hm0 : meas (waitsOf l) = m0 at hgo' hfu
        have hm0' := Aside0.mk hm0
        clear hgo hm0
        go_wp2_with fail
        go_loopg [6, 7] m0 (fun gg s6 s7 wr => ∃ (f : Nat) (ws out : List S38), s6 = .slice (some ⟨g, 0, none⟩) ws.length cap ∧ f ≤ gg ∧ Aside0 (OI w g cap sp ws out s7 wr) ∧ Aside0 (Inv sp ws) ∧ Aside0 (WfL ws) ∧ Aside0 (ws.length ≤ 1000000) ∧ Aside0 (meas ws ≤ f) ∧ Aside0 (out ++ ordN sp f ws = goal))
        case atStart => exact ⟨m0, waitsOf l, [], rfl, Nat.le_refl _, hO4', hI', hwl, hlw, ⟨by rw [hm0'.out]; exact Nat.le_refl _⟩, hgo'⟩
        case round =>
          clear hO4' hI' hwl hlw hgo' hfu hm0'
          obtain ⟨f, ws, out, rfl, hfg, hO, hI, hW, hL, hM, hG⟩ := hrel
          by_cases hwn : ws = []
          · subst hwn
            have hlen : ¬ ((([] : List S38).length : Int) > 0) := by simp
            have hout : Aside0 (out = goal) := ⟨by
              have := hG.out
              cases f <;> simpa [ordN] using this⟩
            clear hG hI hW hL hM
            go_wp2_with fail
            go_ret2
            exact op_ok hok'.out hany'.out hO.out.hB (by rw [hgoal.out, ← hout.out]; exact Kd.R_mono hO.out.out (fun _ _ => trivial))
          · have hwl : 0 < ws.length := by
              rcases Nat.eq_zero_or_pos ws.length with h | h
              · exact absurd (List.eq_nil_of_length_eq_zero h) hwn
              · exact h
            have hlen : (ws.length : Int) > 0 := by omega
            have hLb := hL.out
            have hfree := free_calls (some ⟨g, 0, none⟩) cap ws wr hO.out.pre.reads hW.out hLb
            obtain ⟨f', rfl⟩ : ∃ f', f = f' + 1 := ⟨f - 1, by have := meas_pos hwn; have := hM.out; omega⟩
            cases hfi : fIdx ws with
            | some k =>
              rw [freeOf_some hfi] at hfree
              have hk := fIdx_lt hfi
              have hG2 := hG.out
              rw [ordN_free hfi, List.append_cons] at hG2
              have hI2 := Aside0.mk (inv_erase hI.out hfi)
              have hM2 : Aside0 (meas (ws.eraseIdx k) ≤ f') := ⟨by have := meas_free hfi; have := hM.out; omega⟩
              have hW2 := Aside0.mk (wfl_erase hW.out k)
              have hel := List.length_eraseIdx_of_lt hk
              have hL2 : Aside0 ((ws.eraseIdx k).length ≤ 1000000) := ⟨by omega⟩
              have hol : out.length + 1 ≤ 2000000 := by
                have := congrArg List.length hG2
                simp only [List.length_append, List.length_cons, List.length_nil] at this
                have := hgl.out
                omega
              have hG3 := Aside0.mk hG2
              have hel' := Aside0.mk hel
              have hwn' := Aside0.mk hwn
              clear hG hI hM hW hL hfi hG2 hel hwn
              go_wp2_with fail
              refine hfree.mono ?_
              rintro e w5 ⟨rfl, hb5⟩
              have hO5 := Aside0.mk (hO.out.below hb5)
              clear hO hb5 hfree
              have hk0 : (k : Int) ≥ 0 := by omega
              have hk1 : (k : Int) < (ws.length : Int) := by omega
              obtain ⟨c0, c1, f0, f1⟩ := hO5.out.pre.cell k hk
              have q0 : w5.cell? ((⟨g, 0, none⟩ : Addr).add (k * 2)) = some (.int .i64 (rd_T38 ws k).f0) := by
                rw [show (⟨g, 0, none⟩ : Addr).add (k * 2) = ⟨g, k * 2, none⟩ by unfold Addr.add; by_cases h : k * 2 = 0 <;> simp [h]]
                exact c0
              generalize hx : rd_T38 ws (k : Int) = x at *
              clear hx
              have hpr := hO5.out
              go_wp2_with (at_builtin; refine Kd.R_append k38 (w0 := w) w.heap.size rfl (.tmp 30) (.tmp 35) 22 38 (.agg #[(.int .i64 0), (.int .i64 0)]) 16 rfl Try.underlying22 info38 rfl (by decide) (by omega) _ out x [.int .i64 x.f0, .int .i64 x.f1] (fun k => k ≠ g) (fun _ => False) rfl rfl (k38_mkM _ _ _ x) (fun _ hk => hk.elim) (fun j hj => by have := hO5.out.pre.lt; omega) hO5.out.out hO5.out.hB hO5.out.hB.size (by omega) ?_; intro v6 w6 hown6 hb6 hg6 hat6; have hO6 := Aside0.mk (hO5.out.append hown6 hg6 hb6); clear hown6 hb6 hg6 hat6 hpr c0 c1 f0 f1 q0)
              refine (delete_calls w6 g cap ws hO6.out.pre k hk hLb).mono ?_
              rintro e w7 ⟨rfl, hp7, hg7⟩
              have hO7 := Aside0.mk (hO6.out.turn hp7 hg7)
              clear hp7 hg7 hO6 hO5
              have hlr : ws.length - 1 = (ws.eraseIdx k).length := hel'.out.symm
              rw [hlr]
              clear hlr
              generalize ws.eraseIdx k = ws' at *
              clear hk1 hk0 hlen
              go_wp2_with fail
              go_roundg f'
              case measure => omega
              case rel => exact ⟨f', ws', _, rfl, Nat.le_refl _, hO7, hI2, hW2, hL2, hM2, hG3⟩
            | none =>
              rw [freeOf_none hfi] at hfree
              have hG2 := hG.out
              rw [ordN_stuck hwn hfi, List.append_cons] at hG2
              have hI2 := Aside0.mk (hI.out.spare (rd_T38 ws 0).f0)
              have hM2 : Aside0 (meas (ws.map (spareTo sp (rd_T38 ws 0).f0)) ≤ f') := ⟨by have := meas_stuck hwn hI.out hfi; have := hM.out; omega⟩
              have hW2 := Aside0.mk (wfl_spare (t := (rd_T38 ws 0).f0) hW.out hs)
              have hL2 : Aside0 ((ws.map (spareTo sp (rd_T38 ws 0).f0)).length ≤ 1000000) := ⟨by rw [List.length_map]; exact hLb⟩
              have hol : out.length + 1 ≤ 2000000 := by
                have := congrArg List.length hG2
                simp only [List.length_append, List.length_cons, List.length_nil] at this
                have := hgl.out
                omega
              have hG3 := Aside0.mk hG2
              clear hG hI hM hW hL hfi hG2 hwn
              go_wp2_with fail
              refine hfree.mono ?_
              rintro e w5 ⟨rfl, hb5⟩
              have hO5 := Aside0.mk (hO.out.below hb5)
              clear hO hb5 hfree
              obtain ⟨c0, c1, f0, f1⟩ := hO5.out.pre.cell 0 hwl
              have cs := hO5.out.cell
              replace c0 : w5.cell? ⟨g, 0, none⟩ = some (.int .i64 (rd_T38 ws 0).f0) := c0
              clear c1 f0 f1
              have hwl0 : (0 : Int) < (ws.length : Int) := by omega
              generalize (rd_T38 ws 0).f0 = t at *
              go_wp2_with (at_builtin; refine Kd.R_append k38 (w0 := w) w.heap.size rfl (.tmp 46) (.tmp 50) 22 38 (.agg #[(.int .i64 0), (.int .i64 0)]) 16 rfl Try.underlying22 info38 rfl (by decide) (by omega) _ out ⟨sp, t⟩ [.int .i64 sp, .int .i64 t] (fun k => k ≠ g) (fun _ => False) rfl rfl (k38_mkM _ _ _ ⟨sp, t⟩) (fun _ hk => hk.elim) (fun j hj => by have := hO5.out.pre.lt; omega) hO5.out.out hO5.out.hB hO5.out.hB.size (by omega) ?_; intro v6 w6 hown6 hb6 hg6 hat6; have hO6 := Aside0.mk (hO5.out.append hown6 hg6 hb6); clear hown6 hb6 hg6 hat6 c0 cs)
              clear hO5 hwl0 hlen
              go_loopw [54] (fun s54 wi => ∃ m : Nat, m ≤ ws.length ∧ s54 = .int .i64 m ∧ Aside0 (OI w g cap sp (mixed sp t ws m) (out ++ [⟨sp, t⟩]) v6 wi))
                (fun s54 _ => ws.length - (intOf s54).toNat)
              case atStart => exact ⟨0, Nat.zero_le _, rfl, hO6⟩
              case round =>
                clear hO6
                obtain ⟨m, hm, rfl, hO⟩ := hrel
                by_cases hlt : m < ws.length
                · have hm1 : (m : Int) < (ws.length : Int) := by omega
                  have hm0 : (0 : Int) ≤ (m : Int) := by omega
                  obtain ⟨c0, c1, f0, f1⟩ := hO.out.pre.cell m (by rw [mixed_length]; exact hlt)
                  rw [mixed_rd sp t ws m hlt] at c0 c1
                  have cs := hO.out.cell
                  have q0 := c0
                  rw [show (⟨g, m * 2, none⟩ : Addr) = (⟨g, 0, none⟩ : Addr).add (m * 2) by unfold Addr.add; by_cases h : m * 2 = 0 <;> simp [h]] at q0
                  obtain ⟨x0, h0⟩ : ∃ x0, ws[m].f0 = x0 := ⟨_, rfl⟩
                  obtain ⟨x1, h1⟩ : ∃ x1, ws[m].f1 = x1 := ⟨_, rfl⟩
                  rw [h0] at c0 q0
                  rw [h1] at c1
                  have hBa := below_alloc (Below.refl wr.heap.size wr) (.cells #[.int .i64 x0, .int .i64 x1] 38)
                  by_cases hx : x1 = t
                  · have hO2 := Aside0.mk ((hO.out.below hBa).turn
                      (ws' := mixed sp t ws (m + 1)) (W1 := (wr.alloc (.cells #[.int .i64 x0, .int .i64 x1] 38)).setCell ⟨g, m * 2 + 1, none⟩ (.int .i64 sp))
                      (by
                        have := (hO.out.pre.below hBa).from_ m (by rw [mixed_length]; exact hlt) sp
                        rwa [mixed_get sp t ws m hlt, ← mixed_yes sp t ws m hlt (h1.trans hx)] at this)
                      (gb_set (gb_refl _ _) _ _))
                    have csa : ∀ o, (wr.alloc o).cell? ⟨w.heap.size, 0, none⟩ = some (.int .i64 sp) := fun o => (World.cell?_alloc_lt _ _ _ (World.block_lt_of_cell? _ _ cs)).trans cs
                    have c1a : ∀ o, (wr.alloc o).cell? ⟨g, m * 2 + 1, none⟩ = some (.int .i64 x1) := fun o => (World.cell?_alloc_lt _ _ _ (World.block_lt_of_cell? _ _ c1)).trans c1
                    have f1a : ∀ o, (wr.alloc o).frozen? ⟨g, m * 2 + 1, none⟩ = false := fun o => by
                      have := (below_alloc (Below.refl wr.heap.size wr) o).frozen (p := ⟨g, m * 2 + 1, none⟩) (World.block_lt_of_cell? _ _ c1)
                      rw [this]; exact f1
                    have hx' : ((x1 : Int) == t) = true := by simpa using hx
                    clear hO hx hBa h0 h1
                    go_wp2_with fail
                    go_roundw
                    case rel => exact ⟨m + 1, by omega, by go_num, hO2⟩
                    case measure => simp [intOf]; omega
                  · have hO2 := Aside0.mk (hO.out.below hBa)
                    rw [← mixed_no sp t ws m hlt (fun e => hx (h1.symm.trans e))] at hO2
                    have hx' : ((x1 : Int) == t) = false := by simpa using hx
                    clear hO hBa h0 h1
                    go_wp2_with fail
                    go_roundw
                    case rel => exact ⟨m + 1, by omega, by go_num, hO2⟩
                    case measure => simp [intOf]; omega
                · obtain rfl : m = ws.length := by omega
                  have hO2 := hO.out
                  rw [mixed_all] at hO2
                  have hO3 := Aside0.mk hO2
                  have hml := Aside0.mk (show (ws.map (spareTo sp t)).length = ws.length by simp)
                  clear hO hO2
                  go_wp2_with fail
                  rw [← hml.out]
                  go_roundg f'
                  case measure => omega
                  case rel => exact ⟨f', ws.map (spareTo sp t), _, rfl, Nat.le_refl _, hO3, hI2, hW2, hL2, hM2, hG3⟩
    · rw [hany] at hcon
      have hany' := Aside0.mk hany
      clear hany hin
      go_enter Try.func9, Try.ntmps9
      go_wp2_with fail
      refine hright.mono ?_
      rintro e w1 ⟨rfl, hb1⟩
      have hcon1 := hcon w1 hb1
      clear hcon hright
      go_wp2_with fail
      refine hcon1.mono ?_
      rintro e w2 ⟨rfl, hb2⟩
      have hb' := Aside0.mk (below_step (below_step hB0 hb1) hb2)
      clear hb1 hb2 hB0 hbx0 hcon1 h0
      go_wp2_with fail
      go_ret2
      exact op_arg hok'.out hany'.out hb'.out
#print axioms order_calls
end Go.Proofs.Ytkfopphcgjdcaaa.A

/-
  DERIVED: THE SHELF's CONTRACTS AT THIS DUMP, IN PLAIN WORDS (tools/lay-plain.mjs out of 'YtkfopphcgjdcaaaXLayShelf.lean', which tools/lay-shelf.mjs wrote): THE SAME DECLARATIONS UNDER THE SAME NAMES: 'import', 'namespace', 'open', 'def', 'theorem' AND NOTHING ELSE: no command of the shelf's: FOR A HAND-IN. Each laying: the table of numbers ('.._ren') and one theorem, a field a fact of the dump's own or the kernel's comparison; each contract: ONE APPLICATION.
-/
namespace Go.Proofs
open Go.Shelf
def Try.keys36_ren : Go.Shelf.Ren := ⟨fun | 7 => 36 | 10 => 49 | n => n, fun | 23 => 52 | 26 => 3 | 3 => 3 | 28 => 58 | 0 => 0 | 27 => 57 | 33 => 44 | 4 => 4 | n => n, fun | n => n⟩
theorem Try.keys36 : Go.Proofs.SlLaysZI.n7 Try.prog Try.keys36_ren := {
  mixed := by kernel_rfl
  f7 := ⟨Try.f36.name, by decide, Try.func36.trans (congrArg some (by kernel_rfl))⟩
  f10 := ⟨Try.f49.name, by decide, Try.func49.trans (congrArg some (by kernel_rfl))⟩
  t0 := Try.underlying0
  a0 := Try.isAgg0
  z0 := Try.sizeOf0
  v0 := Try.zeroValue0
  t4 := Try.underlying4
  a4 := Try.isAgg4
  z4 := Try.sizeOf4
  v4 := Try.zeroValue4
  t23 := Try.underlying52
  a23 := Try.isAgg52
  z23 := Try.sizeOf52
  v23 := Try.zeroValue52
  t26 := Try.underlying3
  a26 := Try.isAgg3
  z26 := Try.sizeOf3
  v26 := Try.zeroValue3
  t27 := Try.underlying57
  a27 := Try.isAgg57
  z27 := Try.sizeOf57
  v27 := Try.zeroValue57
  t28 := Try.underlying58
  a28 := Try.isAgg58
  z28 := Try.sizeOf58
  v28 := Try.zeroValue58
  t33 := Try.underlying44
  a33 := Try.isAgg44
  z33 := Try.sizeOf44
  v33 := Try.zeroValue44 }
def Try.sorted35_ren : Go.Shelf.Ren := ⟨fun | 6 => 35 | 8 => 47 | 9 => 48 | 11 => 52 | 13 => 54 | 12 => 53 | 23 => 64 | 24 => 65 | 14 => 55 | 15 => 56 | 16 => 57 | 17 => 58 | 18 => 59 | 19 => 60 | 20 => 61 | 21 => 62 | 22 => 63 | 25 => 66 | 26 => 67 | 27 => 68 | 28 => 69 | 29 => 70 | 30 => 71 | 31 => 72 | n => n, fun | 26 => 3 | 28 => 58 | 24 => 43 | 0 => 0 | 3 => 3 | 37 => 75 | 48 => 85 | 50 => 87 | 4 => 4 | 40 => 78 | 39 => 77 | 45 => 61 | 5 => 5 | 9 => 9 | 51 => 88 | 55 => 92 | 57 => 94 | 58 => 95 | 33 => 44 | n => n, fun | n => n⟩
theorem Try.sorted35 : Go.Proofs.SlLaysZI.n6 Try.prog Try.sorted35_ren := {
  mixed := by kernel_rfl
  f6 := ⟨Try.f35.name, by decide, Try.func35.trans (congrArg some (by kernel_rfl))⟩
  f8 := ⟨Try.f47.name, by decide, Try.func47.trans (congrArg some (by kernel_rfl))⟩
  f11 := ⟨Try.f52.name, by decide, Try.func52.trans (congrArg some (by kernel_rfl))⟩
  t0 := Try.underlying0
  a0 := Try.isAgg0
  z0 := Try.sizeOf0
  v0 := Try.zeroValue0
  t24 := Try.underlying43
  a24 := Try.isAgg43
  z24 := Try.sizeOf43
  v24 := Try.zeroValue43
  t26 := Try.underlying3
  a26 := Try.isAgg3
  z26 := Try.sizeOf3
  v26 := Try.zeroValue3
  t28 := Try.underlying58
  a28 := Try.isAgg58
  z28 := Try.sizeOf58
  v28 := Try.zeroValue58
  i26 := by kernel_rfl }
def Try.sort48_ren : Go.Shelf.Ren := ⟨fun | 5 => 48 | 8 => 54 | 7 => 53 | 19 => 64 | 20 => 65 | 10 => 55 | 11 => 56 | 12 => 57 | 13 => 58 | 14 => 59 | 15 => 60 | 16 => 61 | 17 => 62 | 18 => 63 | 30 => 66 | 31 => 67 | 32 => 68 | 33 => 69 | 34 => 70 | 35 => 71 | 40 => 72 | n => n, fun | 23 => 43 | 25 => 3 | 3 => 3 | 32 => 75 | 22 => 43 | 0 => 0 | 44 => 85 | 46 => 87 | 4 => 4 | 36 => 78 | 35 => 77 | 41 => 61 | 5 => 5 | 9 => 9 | 53 => 88 | 57 => 92 | 63 => 94 | 64 => 95 | n => n, fun | n => n⟩
theorem Try.sort48 : Go.Proofs.SlLaysM.n5 Try.prog Try.sort48_ren := {
  mixed := by kernel_rfl
  f5 := ⟨Try.f48.name, by decide, Try.func48.trans (congrArg some (by kernel_rfl))⟩
  f7 := ⟨Try.f53.name, by decide, Try.func53.trans (congrArg some (by kernel_rfl))⟩
  f8 := Try.func54.trans (congrArg some (by kernel_rfl))
  f10 := ⟨Try.f55.name, by decide, Try.func55.trans (congrArg some (by kernel_rfl))⟩
  f11 := ⟨Try.f56.name, by decide, Try.func56.trans (congrArg some (by kernel_rfl))⟩
  f12 := ⟨Try.f57.name, by decide, Try.func57.trans (congrArg some (by kernel_rfl))⟩
  f13 := ⟨Try.f58.name, by decide, Try.func58.trans (congrArg some (by kernel_rfl))⟩
  f14 := ⟨Try.f59.name, by decide, Try.func59.trans (congrArg some (by kernel_rfl))⟩
  f15 := ⟨Try.f60.name, by decide, Try.func60.trans (congrArg some (by kernel_rfl))⟩
  f16 := ⟨Try.f61.name, by decide, Try.func61.trans (congrArg some (by kernel_rfl))⟩
  f17 := ⟨Try.f62.name, by decide, Try.func62.trans (congrArg some (by kernel_rfl))⟩
  f18 := ⟨Try.f63.name, by decide, Try.func63.trans (congrArg some (by kernel_rfl))⟩
  f19 := Try.func64.trans (congrArg some (by kernel_rfl))
  f20 := Try.func65.trans (congrArg some (by kernel_rfl))
  f30 := ⟨Try.f66.name, by decide, Try.func66.trans (congrArg some (by kernel_rfl))⟩
  f31 := Try.func67.trans (congrArg some (by kernel_rfl))
  f32 := Try.func68.trans (congrArg some (by kernel_rfl))
  f33 := ⟨Try.f69.name, by decide, Try.func69.trans (congrArg some (by kernel_rfl))⟩
  f34 := ⟨Try.f70.name, by decide, Try.func70.trans (congrArg some (by kernel_rfl))⟩
  f35 := ⟨Try.f71.name, by decide, Try.func71.trans (congrArg some (by kernel_rfl))⟩
  f40 := ⟨Try.f72.name, by decide, Try.func72.trans (congrArg some (by kernel_rfl))⟩
  t0 := Try.underlying0
  a0 := Try.isAgg0
  z0 := Try.sizeOf0
  v0 := Try.zeroValue0
  t3 := Try.underlying3
  a3 := Try.isAgg3
  z3 := Try.sizeOf3
  v3 := Try.zeroValue3
  t4 := Try.underlying4
  a4 := Try.isAgg4
  z4 := Try.sizeOf4
  v4 := Try.zeroValue4
  t5 := Try.underlying5
  a5 := Try.isAgg5
  z5 := Try.sizeOf5
  v5 := Try.zeroValue5
  t9 := Try.underlying9
  a9 := Try.isAgg9
  z9 := Try.sizeOf9
  v9 := Try.zeroValue9
  t22 := Try.underlying43
  a22 := Try.isAgg43
  z22 := Try.sizeOf43
  v22 := Try.zeroValue43
  t23 := Try.underlying43
  a23 := Try.isAgg43
  z23 := Try.sizeOf43
  v23 := Try.zeroValue43
  t25 := Try.underlying3
  a25 := Try.isAgg3
  z25 := Try.sizeOf3
  v25 := Try.zeroValue3
  t32 := Try.underlying75
  a32 := Try.isAgg75
  z32 := Try.sizeOf75
  v32 := Try.zeroValue75
  t35 := Try.underlying77
  a35 := Try.isAgg77
  z35 := Try.sizeOf77
  v35 := Try.zeroValue77
  t36 := Try.underlying78
  a36 := Try.isAgg78
  z36 := Try.sizeOf78
  v36 := Try.zeroValue78
  t41 := Try.underlying61
  a41 := Try.isAgg61
  z41 := Try.sizeOf61
  v41 := Try.zeroValue61
  t44 := Try.underlying85
  a44 := Try.isAgg85
  z44 := Try.sizeOf85
  v44 := Try.zeroValue85
  t46 := Try.underlying87
  a46 := Try.isAgg87
  z46 := Try.sizeOf87
  v46 := Try.zeroValue87
  t53 := Try.underlying88
  a53 := Try.isAgg88
  z53 := Try.sizeOf88
  v53 := Try.zeroValue88
  t57 := Try.underlying92
  a57 := Try.isAgg92
  z57 := Try.sizeOf92
  v57 := Try.zeroValue92
  t63 := Try.underlying94
  a63 := Try.isAgg94
  z63 := Try.sizeOf94
  v63 := Try.zeroValue94
  t64 := Try.underlying95
  a64 := Try.isAgg95
  z64 := Try.sizeOf95
  v64 := Try.zeroValue95 }
def Try.clone40_ren : Go.Shelf.Ren := ⟨fun | 5 => 40 | 7 => 51 | n => n, fun | 23 => 52 | 25 => 3 | 3 => 3 | 4 => 4 | 20 => 20 | n => n, fun | n => n⟩
theorem Try.clone40 : Go.Proofs.SlLaysW.n5 Try.prog Try.clone40_ren := {
  mixed := by kernel_rfl
  f5 := ⟨Try.f40.name, by decide, Try.func40.trans (congrArg some (by kernel_rfl))⟩
  f7 := Try.func51.trans (congrArg some (by kernel_rfl))
  t4 := Try.underlying4
  a4 := Try.isAgg4
  z4 := Try.sizeOf4
  v4 := Try.zeroValue4
  t20 := Try.underlying20
  a20 := Try.isAgg20
  z20 := Try.sizeOf20
  v20 := Try.zeroValue20
  t23 := Try.underlying52
  a23 := Try.isAgg52
  z23 := Try.sizeOf52
  v23 := Try.zeroValue52 }
end Go.Proofs

/- moves.holds and moves.rows: what they answer. -/
namespace Go.Proofs.Ytkfopphcgjdcaaa.A
open Go.RowKit Go.Maps Go.Proofs.YtkfopphcgjdcaaaW.PrintWords Go.Proofs.YtkfopphcgjdcaaaW.PrintLast Go.Shelf
set_option linter.unusedVariables false
set_option linter.unusedSimpArgs false

/-- block b is a map of at most n entries that reads as f -/
def MapAt (w : World) (b n : Nat) (f : Int → Option Int) : Prop := ∃ D : DU, w.ownsMap Try.prog 3 (plainElem Try.prog 3) b n D ∧ Reads D f
theorem MapAt.lt {w : World} {b n : Nat} {f : Int → Option Int} (h : MapAt w b n f) : b < w.heap.size := by
  obtain ⟨D, h1, _⟩ := h
  exact h1.lt
theorem MapAt.below {w w1 : World} {b n : Nat} {f : Int → Option Int} (h : MapAt w b n f) (hb : Below w.heap.size w w1) : MapAt w1 b n f := by
  obtain ⟨D, ⟨es, clock, h1, h2⟩, h3⟩ := h
  exact ⟨D, ⟨es, clock, (hb.block _ (blk_lt h1)).trans h1, h2⟩, h3⟩
theorem MapAt.grown {w w1 : World} {b n : Nat} {f : Int → Option Int} (h : MapAt w b n f) {row : Option Nat} (hg : w.grownBy w1 row) (hne : some b ≠ row) : MapAt w1 b n f := by
  obtain ⟨D, ⟨es, clock, h1, h2⟩, h3⟩ := h
  exact ⟨D, ⟨es, clock, (hg.block _ (blk_lt h1) hne).trans h1, h2⟩, h3⟩
def WfF (f : Int → Option Int) : Prop := ∀ k v, f k = some v → Wf k ∧ Wf v
theorem WfF.upd {f : Int → Option Int} (h : WfF f) {k v : Int} (hk : Wf k) (hv : Wf v) : WfF (upd f k v) := by
  intro j x hj
  unfold A.upd at hj
  split at hj
  · rename_i e
    injection hj with hj
    subst e; subst hj
    exact ⟨hk, hv⟩
  · exact h j x hj
theorem wf0 : Wf 0 := by unfold Wf; decide
theorem WfF.get {f : Int → Option Int} (h : WfF f) (k : Int) : Wf ((f k).getD 0) := by
  cases e : f k with
  | none => exact wf0
  | some v => exact (h k v e).2

/-! keys, sorted -/
def Rising (ks : List Int) : Prop := ks.Pairwise (· < ·)
theorem rising_eq {a b : List Int} (ha : Rising a) (hb : Rising b) (h : ∀ k, k ∈ a ↔ k ∈ b) : a = b := by
  have hna : a.Nodup := ha.imp (fun h e => by omega)
  have hnb : b.Nodup := hb.imp (fun h e => by omega)
  have hp : a.Perm b := by
    refine perm_of_sub hnb (fun x hx => (h x).2 hx) ?_ |>.trans (List.Perm.refl _)
    exact List.Nodup.length_le_of_subset hna (fun x hx => (h x).1 hx)
  exact List.Perm.eq_of_pairwise (le := (· < ·)) (fun x y _ _ h1 h2 => by omega) ha hb hp
theorem merge_rising {ss : List Int} (h : ss.Nodup) : Rising (ss.mergeSort fun x y => decide (x ≤ y)) := by
  have h1 : (ss.mergeSort fun x y => decide (x ≤ y)).Pairwise (fun x y => decide (x ≤ y) = true) := List.pairwise_mergeSort (by intro a b c; simp; omega) (by intro a b; simp; omega) ss
  have h2 : (ss.mergeSort fun x y => decide (x ≤ y)).Nodup := (List.mergeSort_perm ss _).nodup_iff.2 h
  exact (h1.and h2).imp (fun {a b} ⟨h3, h4⟩ => by have := of_decide_eq_true h3; omega)
theorem intKeys_nodup {D : DU} {f : Int → Option Int} (hR : Reads D f) {w : World} {b n : Nat} (hown : w.ownsMap Try.prog 3 (plainElem Try.prog 3) b n D) : (intKeys D).Nodup ∧ ∀ k, k ∈ intKeys D ↔ (f k).isSome = true := by
  obtain ⟨es, hD, hpw, _⟩ := hown.entries law3
  obtain ⟨es', hD', hko⟩ := hown.keysOf
  obtain rfl : es = es' := by rw [hD] at hD'; simpa using hD'
  subst hD
  have hk : ∀ p ∈ es, ∃ x, p.1 = Lit.int .i64 x := fun p hp => by
    obtain ⟨v, hv⟩ := hko p hp
    obtain ⟨x, _, hx, _⟩ := Maps.keyOf_i64 Try.underlying3 hv
    exact ⟨x, hx⟩
  refine ⟨?_, fun k => ?_⟩
  · show (es.map fun p => Go.intOf p.1).Nodup
    refine List.pairwise_map.2 (hpw.imp_of_mem fun {p q} hp' hq' hne e => hne ?_)
    obtain ⟨a, ha⟩ := hk p hp'
    obtain ⟨b, hb⟩ := hk q hq'
    rw [ha, hb] at e ⊢
    exact congrArg _ e
  · rw [← hR.has k, has_eq, List.any_eq_true]
    show k ∈ (es.map fun p => Go.intOf p.1) ↔ _
    rw [List.mem_map]
    constructor
    · rintro ⟨p, hp', rfl⟩
      obtain ⟨a, ha⟩ := hk p hp'
      exact ⟨p, hp', by rw [ha]; simp [Lit.sameKey, Go.intOf]⟩
    · rintro ⟨p, hp', hs⟩
      obtain ⟨a, ha⟩ := hk p hp'
      rw [ha] at hs
      exact ⟨p, hp', by rw [ha]; simpa [Lit.sameKey, Go.intOf] using hs⟩
theorem size_le {D : DU} {w : World} {b n : Nat} (hown : w.ownsMap Try.prog 3 (plainElem Try.prog 3) b n D) : size D ≤ n := hown.size_le

/-! slices.Sorted(maps.Keys(m)) -/
theorem sorts35 (m : Nat) : AnyZI.SortsIn Try.prog Try.sorted35_ren Fence.wide m :=
  ⟨fun blk off cap ss W hH hblk hsz => callsIn_wide.2 (AnyM.slices_Sort_int Try.sort48 blk off cap ss W hH hblk hsz),
   fun p cap W => callsIn_wide.2 (AnyM.slices_Sort_int_none Try.sort48 p cap W)⟩
theorem keys_calls (mb : Option Nat) (W : World) : Calls Try.prog 36 #[.map mb] W fun e w' => e = .returned (.func (.func 49) #[] #[.pointer (some ⟨W.heap.size, 0, none⟩)]) ∧ w' = W.alloc (.cells #[.map mb] 52) :=
  (callsIn_wide (n := 5)).1 (AnyZI.keys_in Try.keys36 Fence.wide 5 trivial rfl mb W)
theorem sorted_calls (b n : Nat) (f : Int → Option Int) (w : World) (h : MapAt w b n f) (hn : n ≤ 1000000) :
    Calls Try.prog 35 #[.func (.func 49) #[] #[.pointer (some ⟨w.heap.size, 0, none⟩)]] (w.alloc (.cells #[.map (some b)] 52)) fun e w' => ∃ (v : Value) (ks : List Int), e = .returned v ∧ Rising ks ∧ (∀ k, k ∈ ks ↔ (f k).isSome = true) ∧ ks.length ≤ n ∧
      Kd.R (Kd.int .i64) 3 w' w.heap.size (fun _ => True) v ks ∧ Below w.heap.size w w' := by
  obtain ⟨D, hown, hR⟩ := h
  have hbl := hown.lt
  have hsz := size_le hown
  obtain ⟨hnd, hmem⟩ := intKeys_nodup hR hown
  have hseq : SeqGives Fence.wide 2 Try.prog 49 #[.pointer (some ⟨w.heap.size, 0, none⟩)] Go.encZ (fun ss => ss.Perm (intKeys D)) (Maps.size D) (w.alloc (.cells #[.map (some b)] 52)) :=
    AnyZI.keys_gives (ρ := Try.keys36_ren) { Try.keys36 with } Fence.wide _ trivial rfl (by omega) w.heap.size b n D _ (by simp) (by simp) (by
      obtain ⟨es, clock, hb, Ft, hs, hD⟩ := hown
      exact ⟨es, clock, (Below.heap_alloc _ _ b hbl).trans hb, Ft, hs, hD⟩)
  have cS := AnyZI.sorted_in Try.sorted35 Fence.wide 5 trivial trivial trivial trivial rfl (by omega) (sorts35 _) (enters_of Try.func48 (by kernel_rfl) rfl) 49 #[.pointer (some ⟨w.heap.size, 0, none⟩)] trivial (enters_of Try.func49 (by kernel_rfl) rfl) _ _ (by unfold maxLen; omega) (by omega) _ hseq
  refine ((callsIn_wide (n := 5)).1 cS).mono ?_
  rintro e w' ⟨v, ss, rfl, hS, hrow, hnil, hb⟩
  have hlen : ss.length = (ss.mergeSort fun x y => decide (x ≤ y)).length := by simp
  refine ⟨v, _, rfl, merge_rising (hS.nodup_iff.2 hnd), fun k => ?_, ?_, ?_, ((Below.refl _ w).alloc (Nat.le_refl _) _).trans (hb.mono (by simp))⟩
  · rw [List.mem_mergeSort, hS.mem_iff, hmem]
  · rw [← hlen, hS.length_eq]
    have : (intKeys D).length = size D := by
      obtain ⟨es, rfl, _⟩ := hown.keysOf
      simp [intKeys, size]
    omega
  · refine Kd.R_of_own ?_ (fun _ _ => trivial)
    rw [← hlen]
    exact ownsRow_base_a hrow (by simp)
#print axioms sorted_calls
end Go.Proofs.Ytkfopphcgjdcaaa.A

/- moves.holds, moves.rows, moves.AtOnce, moves.OneByOne: what they answer. -/
namespace Go.Proofs.Ytkfopphcgjdcaaa.A
open Go.RowKit Go.Maps Go.Proofs.YtkfopphcgjdcaaaW.PrintWords Go.Proofs.YtkfopphcgjdcaaaW.PrintLast Go.Shelf
set_option linter.unusedVariables false
set_option linter.unusedSimpArgs false

def WfH (l : List S42) : Prop := ∀ x ∈ l, Wf x.f0 ∧ Wf x.f1
def holdF (l : List S42) : Int → Option Int := l.foldl (fun f x => if (f x.f0).isSome then f else upd f x.f0 x.f1) (fun _ => none)
theorem holdF_snoc (l : List S42) (x : S42) : holdF (l ++ [x]) = if (holdF l x.f0).isSome then holdF l else upd (holdF l) x.f0 x.f1 := by
  unfold holdF; rw [List.foldl_append]; rfl
theorem holdF_wf {l : List S42} (h : WfH l) : WfF (holdF l) := by
  suffices H : ∀ f : Int → Option Int, WfF f → WfF (l.foldl (fun f x => if (f x.f0).isSome then f else upd f x.f0 x.f1) f) from H _ (fun k v e => by cases e)
  induction l with
  | nil => intro f hf; exact hf
  | cons x l ih =>
    intro f hf
    rw [List.foldl_cons]
    refine ih (fun y hy => h y (by simp [hy])) _ ?_
    obtain ⟨a, b⟩ := h x (by simp)
    split
    · exact hf
    · exact hf.upd a b

theorem MapAt.more {w : World} {b n n' : Nat} {f : Int → Option Int} (h : MapAt w b n f) (hn : n ≤ n') : MapAt w b n' f := by
  obtain ⟨D, ⟨es, clock, h1, h2, h3, h4⟩, h5⟩ := h
  exact ⟨D, ⟨es, clock, h1, h2, Nat.le_trans h3 hn, h4⟩, h5⟩
theorem look_k {D : DU} {f : Int → Option Int} (h : Reads D f) (k c : Int) (hat : D.atKey (.int .i64 k) (.lit (.int .i64 0)) = .lit (.int .i64 c)) : c = (f k).getD 0 := look_c h hat

set_option maxRecDepth 100000 in
set_option maxHeartbeats 1000000 in
theorem holds_calls (A : Option Addr) (c : Nat) (l : List S42) (w : World) (h : Kd.C k42 w A l.length l) (hw : WfH l) (hl : l.length ≤ 1000000) :
    Calls Try.prog 39 #[.slice A l.length c] w fun e w' => e = .returned (.map (some w.heap.size)) ∧ MapAt w' w.heap.size l.length (holdF l) ∧ Below w.heap.size w w' := by
  have hu42 := Try.underlying42
  have hmm := @run_makeMap Try.prog
  go_enter Try.func39, Try.ntmps39
  go_wp2_with fail
  go_loopw [11] (fun s wr => ∃ (m : Nat), m ≤ l.length ∧ s = .int .i64 m ∧ Aside0 (MapAt wr w.heap.size m (holdF (l.take m))) ∧ Aside0 (Below w.heap.size w wr))
    (fun s _ => l.length - (intOf s).toNat)
  case atStart => exact ⟨0, Nat.zero_le _, rfl, ⟨_, World.ownsMap_made _ _ _ _, Reads.empty⟩, ⟨below_alloc (Below.refl _ _) _⟩⟩
  case round =>
    obtain ⟨m, hm, rfl, hM, hB⟩ := hrel
    by_cases hlt : m < l.length
    · have hmn : (m : Int) < (l.length : Int) := by omega
      have hm0 : (0 : Int) ≤ (m : Int) := by omega
      obtain ⟨ad, rfl, q0, q1⟩ := at_T42 (Kd.C_below h hB.out) (m : Int) hm0 hmn
      rw [Int.toNat_natCast] at q0 q1
      have htk : l.take (m + 1) = l.take m ++ [rd_T42 l m] := by
        rw [List.take_succ_eq_append_getElem hlt]
        unfold rd_T42
        rw [Int.toNat_natCast, List.getD_eq_getElem?_getD, List.getElem?_eq_getElem hlt]
        rfl
      have hwx := hw (rd_T42 l m) (by unfold rd_T42; rw [Int.toNat_natCast, List.getD_eq_getElem?_getD, List.getElem?_eq_getElem hlt]; exact List.getElem_mem _)
      have hsn := holdF_snoc (l.take m) (rd_T42 l m)
      rw [← htk] at hsn
      generalize rd_T42 l (m : Int) = x at *
      obtain ⟨hw0, hw1⟩ := hwx
      obtain ⟨D, hown, hR⟩ := hM.out
      have hhas := hR.has x.f0
      have hown' := Aside0.mk hown
      have hR' := Aside0.mk hR
      clear htk hM hown hR
      generalize holdF (l.take m) = f at *
      cases hf : (f x.f0).isSome
      · rw [hf] at hhas
        rw [hf, if_neg (by simp)] at hsn
        have hsn' := Aside0.mk hsn
        clear hsn hf
        go_wp2_with (first
          | (at_lookup; refine wpList_lookup_own_ok_int _ rfl _ _ 52 rfl 3 3 .i64 law3 Try.underlying52 Try.underlying3 (zero3 _) w.heap.size m D rfl (hown'.out.alloc _) _ _ rfl (key3 hw0) ?_; intro c hat hwc)
          | (at_mapUpdate; refine wpList_mapUpdate_own _ rfl _ _ _ 52 rfl 3 3 law3 Try.underlying52 _ w.heap.size m D rfl (hown'.out.alloc _) (by unfold maxLen; omega) _ _ _ rfl rfl (key3 hw0) _ [] (plainElem_int Try.underlying3 hw1) ?_; intro w1 hown1 hgrow1))
        go_roundw
        case rel => exact ⟨m + 1, by omega, by go_num, ⟨_, hown1, by rw [hsn'.out]; exact hR'.out.put _ _⟩, ⟨(below_alloc hB.out _).grown hgrow1 (below_alloc hB.out _).size (fun j hj => by cases hj; exact Nat.le_refl _)⟩⟩
        case measure => simp [intOf]; omega
      · rw [hf] at hhas
        rw [hf, if_pos rfl] at hsn
        have hsn' := Aside0.mk hsn
        clear hsn hf
        go_wp2_with (first
          | (at_lookup; refine wpList_lookup_own_ok_int _ rfl _ _ 52 rfl 3 3 .i64 law3 Try.underlying52 Try.underlying3 (zero3 _) w.heap.size m D rfl (hown'.out.alloc _) _ _ rfl (key3 hw0) ?_; intro c hat hwc))
        go_roundw
        case rel => exact ⟨m + 1, by omega, by go_num, ⟨by rw [hsn'.out]; exact MapAt.more ⟨D, hown'.out.alloc _, hR'.out⟩ (by omega)⟩, ⟨below_alloc hB.out _⟩⟩
        case measure => simp [intOf]; omega
    · obtain rfl : m = l.length := by omega
      go_wp2_with fail
      go_ret
      exact ⟨rfl, by have := hM.out; rwa [List.take_length] at this, hB.out⟩
#print axioms holds_calls

/-- what rows answers -/
structure RowsOf (f : Int → Option Int) (out : List S42) : Prop where
  rise : out.Pairwise fun a b => a.f0 < b.f0
  mem : ∀ x : S42, x ∈ out ↔ f x.f0 = some x.f1
def rowF (f : Int → Option Int) (ks : List Int) : List S42 := ks.map fun k => ⟨k, (f k).getD 0⟩
theorem rowF_snoc (f : Int → Option Int) (ks : List Int) (k : Int) : rowF f (ks ++ [k]) = rowF f ks ++ [⟨k, (f k).getD 0⟩] := by simp [rowF]
theorem rowsOf_rowF {f : Int → Option Int} {ks : List Int} (h : Rising ks) (hm : ∀ k, k ∈ ks ↔ (f k).isSome = true) : RowsOf f (rowF f ks) := by
  refine ⟨?_, fun x => ?_⟩
  · unfold rowF; rw [List.pairwise_map]; exact h
  · unfold rowF
    rw [List.mem_map]
    constructor
    · rintro ⟨k, hk, rfl⟩
      obtain ⟨v, hv⟩ := Option.isSome_iff_exists.1 ((hm k).1 hk)
      simp [hv]
    · intro hx
      exact ⟨x.f0, (hm _).2 (by rw [hx]; rfl), by rw [hx]; rfl⟩

set_option maxRecDepth 100000 in
set_option maxHeartbeats 1000000 in
theorem rows_calls (b n : Nat) (f : Int → Option Int) (w : World) (h : MapAt w b n f) (hf : WfF f) (hn : n ≤ 1000000) :
    Calls Try.prog 41 #[.map (some b)] w fun e w' => ∃ v out, e = .returned v ∧ Kd.R k42 42 w' w.heap.size (fun _ => True) v out ∧ RowsOf f out ∧ out.length ≤ n ∧ Below w.heap.size w w' := by
  have hu42 := Try.underlying42
  go_enter Try.func41, Try.ntmps41
  go_wp2_with fail
  refine (keys_calls _ _).mono ?_
  rintro e w' ⟨rfl, rfl⟩
  go_wp2_with fail
  refine (sorted_calls b n f w h hn).mono ?_
  rintro e w1 ⟨v1, ks, rfl, hris, hmem, hlen, hR1, hB1⟩
  have hro := Aside0.mk (rowsOf_rowF hris hmem)
  have hin : Aside0 (∀ k ∈ ks, Wf k) := ⟨fun k hk => by
    obtain ⟨v, hv⟩ := Option.isSome_iff_exists.1 ((hmem k).1 hk)
    exact (hf k v hv).1⟩
  obtain ⟨A1, c1, rfl, hc1, hC1⟩ := Kd.R_reads hR1
  have hM1 := h.below hB1
  have hC1' := Aside0.mk hR1
  have hM1' := Aside0.mk hM1
  have hB1' := Aside0.mk hB1
  clear hris hmem hR1 hC1 hM1 hB1
  go_wp2_with fail
  go_loopw [3, 10] (fun s3 s10 wr => ∃ (m : Nat), m ≤ ks.length ∧ s10 = .int .i64 m ∧ Aside0 (Kd.R k42 42 wr w.heap.size (fun _ => True) s3 (rowF f (ks.take m))) ∧ Aside0 (MapAt wr b n f) ∧ Aside0 (Kd.R (Kd.int .i64) 3 wr w.heap.size (fun _ => True) (.slice A1 ks.length c1) ks) ∧ Aside0 (Below w.heap.size w wr))
    (fun _ s10 _ => ks.length - (intOf s10).toNat)
  case atStart => exact ⟨0, Nat.zero_le _, rfl, ⟨Kd.R_nil _ _ _ _ _⟩, hM1', hC1', hB1'⟩
  case round =>
    clear hM1' hC1' hB1'
    obtain ⟨m, hm, rfl, hv, hM, hC, hB⟩ := hrel
    by_cases hlt : m < ks.length
    · have hmn : (m : Int) < (ks.length : Int) := by omega
      have hm0 : (0 : Int) ≤ (m : Int) := by omega
      obtain ⟨ad, rfl, q0⟩ := Kd.at_int (Kd.R_reads' hC.out).2.2 (m : Int) hm0 hmn
      rw [Int.toNat_natCast] at q0
      have htk : ks.take (m + 1) = ks.take m ++ [rd ks m] := by
        rw [List.take_succ_eq_append_getElem hlt]
        simp [rd, hlt]
      have hwx := hin.out (rd ks m) (by simp [rd, hlt])
      have hsn := rowF_snoc f (ks.take m) (rd ks m)
      rw [← htk] at hsn
      generalize rd ks (m : Int) = x at *
      have hsn' := Aside0.mk hsn
      have hlm : (rowF f (ks.take m)).length ≤ ks.length := by unfold rowF; rw [List.length_map, List.length_take]; omega
      obtain ⟨D, hown, hR⟩ := hM.out
      have hR' := Aside0.mk hR
      have hown' := Aside0.mk hown
      have hwv := hf.get x
      clear htk hsn hown hR
      go_wp2_with (first
        | (at_lookup; refine wpList_lookup_own_int _ rfl _ _ 52 rfl 3 3 .i64 law3 Try.underlying52 Try.underlying3 (zero3 _) b n D rfl hown'.out _ _ rfl (key3 hwx) ?_; intro c hat hwc; obtain rfl := look_k hR'.out x c hat)
        | (at_builtin; refine Kd.R_append k42 (w0 := w) w.heap.size rfl (.tmp 14) (.tmp 20) 33 42 (.agg #[(.int .i64 0), (.int .i64 0)]) 16 rfl Try.underlying33 info42 rfl (by decide) (by omega) _ (rowF f (ks.take m)) ⟨x, (f x).getD 0⟩ [.int .i64 x, .int .i64 ((f x).getD 0)] (fun _ => True) (fun _ => False) rfl rfl (k42_mkM _ _ _ ⟨x, (f x).getD 0⟩) (fun _ hk => hk.elim) (fun _ _ => trivial) hv.out hB.out hB.out.size (by omega) ?_; intro v6 w6 hown6 hb6 hg6 hat6; have hv6 := Aside0.mk hown6; have hb6' := Aside0.mk hb6; have hg6' := Aside0.mk hg6; clear hown6 hb6 hg6 hat6))
      go_roundw
      case rel => exact ⟨m + 1, by omega, by go_num, ⟨by rw [hsn'.out]; exact hv6.out⟩, ⟨hM.out.grown hg6'.out (fun e => by have h1 := Kd.R_base hv.out _ e.symm; have h2 := h.lt; omega)⟩, ⟨Kd.R_over hC.out hv.out (by decide) hg6'.out⟩, hb6'⟩
      case measure => simp [intOf]; omega
    · obtain rfl : m = ks.length := by omega
      have hv' := hv.out
      rw [List.take_length] at hv'
      have hv2 := Aside0.mk hv'
      clear hv hv' hC hM
      go_wp2_with fail
      go_ret
      exact ⟨_, _, rfl, hv2.out, hro.out, by unfold rowF; rw [List.length_map]; exact hlen, hB.out⟩
#print axioms rows_calls

theorem mapClone_calls (b n : Nat) (f : Int → Option Int) (w : World) (h : MapAt w b n f) :
    Calls Try.prog 40 #[.map (some b)] w fun e w' => e = .returned (.map (some w.heap.size)) ∧ MapAt w' w.heap.size n f ∧ MapAt w' b n f ∧ Below w.heap.size w w' := by
  obtain ⟨D, hown, hR⟩ := h
  refine (AnyW.maps_Clone_owns Try.clone40 3 (plainElem Try.prog 3) b n D w hown).mono ?_
  rintro e w' ⟨rfl, h1, h2, h3⟩
  exact ⟨rfl, ⟨D, h1, hR⟩, ⟨D, h2, hR⟩, h3⟩

theorem oneF_snoc (h : Int → Option Int) (l : List S38) (x : S38) : oneF h (l ++ [x]) = upd (oneF h l) x.f0 ((oneF h l x.f1).getD 0) := by
  unfold oneF; rw [List.foldl_append]; rfl
theorem onceF_snoc (h : Int → Option Int) (l : List S38) (x : S38) : onceF h (l ++ [x]) = upd (onceF h l) x.f0 ((h x.f1).getD 0) := by
  unfold onceF; rw [List.foldl_append]; rfl
theorem oneF_wf {h : Int → Option Int} {l : List S38} (hf : WfF h) (hl : WfL l) : WfF (oneF h l) := by
  unfold oneF
  induction l generalizing h with
  | nil => exact hf
  | cons x l ih =>
    rw [List.foldl_cons]
    exact ih (hf.upd (hl x (by simp)).1 (hf.get _)) (fun y hy => hl y (by simp [hy]))
theorem onceF_wf {h : Int → Option Int} {l : List S38} (hf : WfF h) (hl : WfL l) : WfF (onceF h l) := by
  unfold onceF
  suffices H : ∀ g : Int → Option Int, WfF g → WfF (l.foldl (fun f c => upd f c.f0 ((h c.f1).getD 0)) g) from H h hf
  induction l with
  | nil => intro g hg; exact hg
  | cons x l ih =>
    intro g hg
    rw [List.foldl_cons]
    exact ih (fun y hy => hl y (by simp [hy])) _ (hg.upd (hl x (by simp)).1 (hf.get _))
theorem wfl_take {l : List S38} (h : WfL l) (m : Nat) : WfL (l.take m) := fun x hx => h x (List.mem_of_mem_take hx)

def HeldPost (f : Int → Option Int) (n : Nat) (w : World) (e : Ending) (w' : World) : Prop := ∃ v out, e = .returned v ∧ Kd.R k42 42 w' w.heap.size (fun _ => True) v out ∧ RowsOf f out ∧ out.length ≤ n ∧ Below w.heap.size w w'

set_option maxRecDepth 100000 in
set_option maxHeartbeats 1000000 in
theorem one_calls (A A2 : Option Addr) (c c2 : Nat) (l : List S38) (held : List S42) (w : World) (h : Kd.C k38 w A l.length l) (h2 : Kd.C k42 w A2 held.length held) (hw : WfL l) (hw2 : WfH held) (hl : l.length ≤ 400000) (hl2 : held.length ≤ 400000) :
    Calls Try.prog 20 #[.slice A l.length c, .slice A2 held.length c2] w (HeldPost (oneF (holdF held) l) (held.length + l.length) w) := by
  have hu38 := Try.underlying38
  have hf0 := holdF_wf hw2
  go_enter Try.func20, Try.ntmps20
  go_wp2_with fail
  refine (holds_calls A2 c2 held w h2 hw2 (by omega)).mono ?_
  rintro e w1 ⟨rfl, hM1, hB1⟩
  have hM1' := Aside0.mk hM1
  have hB1' := Aside0.mk hB1
  clear hM1 hB1 h2
  go_wp2_with fail
  go_loopw [12] (fun s wr => ∃ (m : Nat), m ≤ l.length ∧ s = .int .i64 m ∧ Aside0 (MapAt wr w.heap.size (held.length + m) (oneF (holdF held) (l.take m))) ∧ Aside0 (Below w.heap.size w wr))
    (fun s _ => l.length - (intOf s).toNat)
  case atStart => exact ⟨0, Nat.zero_le _, rfl, hM1', hB1'⟩
  case round =>
    clear hM1' hB1'
    obtain ⟨m, hm, rfl, hM, hB⟩ := hrel
    by_cases hlt : m < l.length
    · have hmn : (m : Int) < (l.length : Int) := by omega
      have hm0 : (0 : Int) ≤ (m : Int) := by omega
      obtain ⟨ad, rfl, q0, q1⟩ := at_T38 (Kd.C_below h hB.out) (m : Int) hm0 hmn
      rw [Int.toNat_natCast] at q0 q1
      have htk : l.take (m + 1) = l.take m ++ [rd_T38 l m] := by
        rw [List.take_succ_eq_append_getElem hlt]
        unfold rd_T38
        rw [Int.toNat_natCast, List.getD_eq_getElem?_getD, List.getElem?_eq_getElem hlt]
        rfl
      have hwx := hw (rd_T38 l m) (by unfold rd_T38; rw [Int.toNat_natCast, List.getD_eq_getElem?_getD, List.getElem?_eq_getElem hlt]; exact List.getElem_mem _)
      have hsn := oneF_snoc (holdF held) (l.take m) (rd_T38 l m)
      rw [← htk] at hsn
      have hwf := oneF_wf hf0 (wfl_take hw m)
      generalize rd_T38 l (m : Int) = x at *
      obtain ⟨hw0, hw1⟩ := hwx
      obtain ⟨D, hown, hR⟩ := hM.out
      have hown' := Aside0.mk hown
      have hR' := Aside0.mk hR
      have hsn' := Aside0.mk hsn
      clear htk hM hown hR hsn
      generalize oneF (holdF held) (l.take m) = f at *
      have hwv := hwf.get x.f1
      go_wp2_with (first
        | (at_lookup; refine wpList_lookup_own_int _ rfl _ _ 52 rfl 3 3 .i64 law3 Try.underlying52 Try.underlying3 (zero3 _) w.heap.size (held.length + m) D rfl (hown'.out.alloc _) _ _ rfl (key3 hw1) ?_; intro c hat hwc; obtain rfl := look_k hR'.out x.f1 c hat)
        | (at_mapUpdate; refine wpList_mapUpdate_own _ rfl _ _ _ 52 rfl 3 3 law3 Try.underlying52 _ w.heap.size (held.length + m) D rfl (hown'.out.alloc _) (by unfold maxLen; omega) _ _ _ rfl rfl (key3 hw0) _ [] (plainElem_int Try.underlying3 hwv) ?_; intro w1 hown1 hgrow1))
      go_roundw
      case rel => exact ⟨m + 1, by omega, by go_num, ⟨_, hown1, by rw [hsn'.out]; exact hR'.out.put _ _⟩, ⟨(below_alloc hB.out _).grown hgrow1 (below_alloc hB.out _).size (fun j hj => by cases hj; exact Nat.le_refl _)⟩⟩
      case measure => simp [intOf]; omega
    · obtain rfl : m = l.length := by omega
      have hM2 := hM.out
      rw [List.take_length] at hM2
      have hro := rows_calls _ _ _ wr hM2 (oneF_wf hf0 hw) (by omega)
      clear hM hM2
      go_wp2_with fail
      refine hro.mono ?_
      rintro e w9 ⟨v, out, rfl, h3, h4, h5, h6⟩
      have hB9 := Aside0.mk (below_step hB.out h6)
      have h3' := Aside0.mk (Kd.R_lower h3 hB.out.size)
      have h4' := Aside0.mk h4
      have h5' := Aside0.mk h5
      clear hro h3 h4 h5 h6 hB
      go_wp2_with fail
      go_ret
      exact ⟨_, _, rfl, h3'.out, h4'.out, h5'.out, hB9.out⟩
#print axioms one_calls
end Go.Proofs.Ytkfopphcgjdcaaa.A

/- moves.AtOnce: what it answers. -/
namespace Go.Proofs.Ytkfopphcgjdcaaa.A
open Go.RowKit Go.Maps Go.Proofs.YtkfopphcgjdcaaaW.PrintWords Go.Proofs.YtkfopphcgjdcaaaW.PrintLast Go.Shelf
set_option linter.unusedVariables false
set_option linter.unusedSimpArgs false

set_option maxRecDepth 100000 in
set_option maxHeartbeats 1000000 in
theorem once_calls (A A2 : Option Addr) (c c2 : Nat) (l : List S38) (held : List S42) (w : World) (h : Kd.C k38 w A l.length l) (h2 : Kd.C k42 w A2 held.length held) (hw : WfL l) (hw2 : WfH held) (hl : l.length ≤ 400000) (hl2 : held.length ≤ 400000) :
    Calls Try.prog 18 #[.slice A l.length c, .slice A2 held.length c2] w fun e w' => (okN l l.length = false → e = .returned (.slice none 0 0) ∧ Below w.heap.size w w') ∧ (okN l l.length = true → HeldPost (onceF (holdF held) l) (held.length + l.length) w e w') := by
  have hu38 := Try.underlying38
  have hf0 := holdF_wf hw2
  have hr := right_calls A c l w h hw (by omega)
  cases hok : okN l l.length
  · rw [hok] at hr
    clear hok
    go_enter Try.func18, Try.ntmps18
    go_wp2_with fail
    refine hr.mono ?_
    rintro e w1 ⟨rfl, hB1⟩
    have hB1' := Aside0.mk hB1
    clear hB1 hr
    go_wp2_with fail
    go_ret
    exact ⟨fun _ => ⟨rfl, hB1'.out⟩, fun e => (by cases e)⟩
  rw [hok] at hr
  clear hok
  go_enter Try.func18, Try.ntmps18
  go_wp2_with fail
  refine hr.mono ?_
  rintro e w1 ⟨rfl, hB1⟩
  have hh := holds_calls A2 c2 held w1 (Kd.C_below h2 hB1) hw2 (by omega)
  have hz1 := Aside0.mk hB1.size
  have hB1' := Aside0.mk hB1
  clear hB1 hr h2
  go_wp2_with fail
  refine hh.mono ?_
  rintro e w2 ⟨rfl, hM2, hB2⟩
  have hcl := mapClone_calls _ _ _ w2 hM2
  have hB2' := Aside0.mk (below_step hB1'.out hB2)
  have hlt := Aside0.mk hM2.lt
  clear hh hB2 hB1' hM2
  go_wp2_with fail
  refine hcl.mono ?_
  rintro e w3 ⟨rfl, hN3, hM3, hB3⟩
  have hN3' := Aside0.mk hN3
  have hM3' := Aside0.mk hM3
  have hB3' := Aside0.mk (below_step hB2'.out hB3)
  have hz2 := Aside0.mk hB2'.out.size
  clear hcl hN3 hM3 hB3 hB2'
  have hne : Aside0 (w1.heap.size ≠ w2.heap.size) := ⟨by have := hlt.out; omega⟩
  generalize w1.heap.size = b1 at *
  generalize w2.heap.size = b2 at *
  go_wp2_with fail
  go_loopw [18] (fun s wr => ∃ (m : Nat), m ≤ l.length ∧ s = .int .i64 m ∧ Aside0 (MapAt wr b2 (held.length + m) (onceF (holdF held) (l.take m))) ∧ Aside0 (MapAt wr b1 held.length (holdF held)) ∧ Aside0 (Below w.heap.size w wr))
    (fun s _ => l.length - (intOf s).toNat)
  case atStart => exact ⟨0, Nat.zero_le _, rfl, hN3', hM3', hB3'⟩
  case round =>
    clear hN3' hM3' hB3'
    obtain ⟨m, hm, rfl, hM, hM1, hB⟩ := hrel
    by_cases hlt : m < l.length
    · have hmn : (m : Int) < (l.length : Int) := by omega
      have hm0 : (0 : Int) ≤ (m : Int) := by omega
      obtain ⟨ad, rfl, q0, q1⟩ := at_T38 (Kd.C_below h hB.out) (m : Int) hm0 hmn
      rw [Int.toNat_natCast] at q0 q1
      have htk : l.take (m + 1) = l.take m ++ [rd_T38 l m] := by
        rw [List.take_succ_eq_append_getElem hlt]
        unfold rd_T38
        rw [Int.toNat_natCast, List.getD_eq_getElem?_getD, List.getElem?_eq_getElem hlt]
        rfl
      have hwx := hw (rd_T38 l m) (by unfold rd_T38; rw [Int.toNat_natCast, List.getD_eq_getElem?_getD, List.getElem?_eq_getElem hlt]; exact List.getElem_mem _)
      have hsn := onceF_snoc (holdF held) (l.take m) (rd_T38 l m)
      rw [← htk] at hsn
      have hwv := hf0.get (rd_T38 l m).f1
      generalize rd_T38 l (m : Int) = x at *
      obtain ⟨hw0, hw1⟩ := hwx
      obtain ⟨D, hown, hR⟩ := hM.out
      obtain ⟨D1, hown1, hR1⟩ := hM1.out
      have hown' := Aside0.mk hown
      have hR' := Aside0.mk hR
      have ho1 := Aside0.mk hown1
      have hR1' := Aside0.mk hR1
      have hsn' := Aside0.mk hsn
      clear htk hM hown hR hsn hown1 hR1
      generalize onceF (holdF held) (l.take m) = f at *
      go_wp2_with (first
        | (at_lookup; refine wpList_lookup_own_int _ rfl _ _ 52 rfl 3 3 .i64 law3 Try.underlying52 Try.underlying3 (zero3 _) b1 held.length D1 rfl (ho1.out.alloc _) _ _ rfl (key3 hw1) ?_; intro c hat hwc; obtain rfl := look_k hR1'.out x.f1 c hat)
        | (at_mapUpdate; refine wpList_mapUpdate_own _ rfl _ _ _ 52 rfl 3 3 law3 Try.underlying52 _ b2 (held.length + m) D rfl (hown'.out.alloc _) (by unfold maxLen; omega) _ _ _ rfl rfl (key3 hw0) _ [] (plainElem_int Try.underlying3 hwv) ?_; intro w1 hown1 hgrow1))
      go_roundw
      case rel => exact ⟨m + 1, by omega, by go_num, ⟨_, hown1, by rw [hsn'.out]; exact hR'.out.put _ _⟩, ⟨(hM1.out.below (below_alloc (Below.refl _ _) _)).grown hgrow1 (fun e => hne.out (by injection e))⟩, ⟨(below_alloc hB.out _).grown hgrow1 (below_alloc hB.out _).size (fun j hj => by cases hj; have := hz2.out; omega)⟩⟩
      case measure => simp [intOf]; omega
    · obtain rfl : m = l.length := by omega
      have hM2 := hM.out
      rw [List.take_length] at hM2
      have hro := rows_calls _ _ _ wr hM2 (onceF_wf hf0 hw) (by omega)
      clear hM hM2 hM1
      go_wp2_with fail
      refine hro.mono ?_
      rintro e w9 ⟨v, out, rfl, h3, h4, h5, h6⟩
      have hB9 := Aside0.mk (below_step hB.out h6)
      have h3' := Aside0.mk (Kd.R_lower h3 hB.out.size)
      have h4' := Aside0.mk h4
      have h5' := Aside0.mk h5
      clear hro h3 h4 h5 h6 hB
      go_wp2_with fail
      go_ret
      exact ⟨fun e => (by cases e), fun _ => ⟨_, _, rfl, h3'.out, h4'.out, h5'.out, hB9.out⟩⟩
#print axioms once_calls
end Go.Proofs.Ytkfopphcgjdcaaa.A

/- What the machine does at this function, and a plain Lean function that says the same: written by a program for this claim; Lean checks it. -/
namespace Go.Proofs.Ytkfopphcgjdcaaa.A
open Go.RowKit Go.Proofs.YtkfopphcgjdcaaaW.PrintWords Go.Proofs.YtkfopphcgjdcaaaW.PrintLast Go.Proofs.YtkfopphcgjdcaaaW.PrintMore
attribute [local go_sem] max2_int min2_int max_two min_two max_three min_three max_four min_four   -- for this text's walks alone
set_option linter.unusedVariables false
set_option linter.unusedSimpArgs false

/-! ### slices_Reverse_int_int: function 50 -/
def slices_Reverse_int_int.l0 : Nat → List Int → Int → Int → Option (List Int)
  | 0, _, _, _ => none
  | k + 1, x0, x2, x3 => if x2 < x3 then (if 0 ≤ x3 then (if x3 < (x0.length : Int) then (if 0 ≤ x2 then (if x2 < (x0.length : Int) then (slices_Reverse_int_int.l0 k ((x0.set (x2 : Int).toNat (rd x0 x3)).set (x3 : Int).toNat (rd x0 x2)) (wrap64 (x2 + 1)) (wrap64 (x3 - 1))) else (none)) else (none)) else (none)) else (none)) else (some x0)
def slices_Reverse_int_int.f (k : Nat) (l0 : List Int) : Option (List Int) := slices_Reverse_int_int.l0 k l0 0 (wrap64 ((l0.length : Int) - 1))
theorem slices_Reverse_int_int.mono_l : ∀ k, (∀ y0 y1 y2, LeO (slices_Reverse_int_int.l0 k y0 y1 y2) (slices_Reverse_int_int.l0 (k + 1) y0 y1 y2))
  | 0 => fun _ _ _ r h => by simp [slices_Reverse_int_int.l0] at h
  | k + 1 => by
    have ih0 := slices_Reverse_int_int.mono_l k
    · intro y0 y1 y2
      unfold slices_Reverse_int_int.l0
      repeat' first
      | (with_reducible exact ih0 _ _ _)
      | (with_reducible exact LeO.refl _)
      | (with_reducible exact LeO.none _)
      | (with_reducible refine LeO.ite ?_ ?_)
      | (with_reducible refine LeO.bind ?_ (fun _ => ?_))
      | exact ih0 _ _ _
      | exact LeO.none _
      | refine LeO.ite ?_ ?_
      | refine LeO.bind ?_ (fun _ => ?_)
theorem slices_Reverse_int_int.mono : ∀ a0 k, LeO (slices_Reverse_int_int.f k a0) (slices_Reverse_int_int.f (k + 1) a0) := by
  intro a0 k
  have ih0 := slices_Reverse_int_int.mono_l k
  unfold slices_Reverse_int_int.f
  repeat' first
      | (with_reducible exact ih0 _ _ _)
      | (with_reducible exact LeO.refl _)
      | (with_reducible exact LeO.none _)
      | (with_reducible refine LeO.ite ?_ ?_)
      | (with_reducible refine LeO.bind ?_ (fun _ => ?_))
      | exact ih0 _ _ _
      | exact LeO.none _
      | refine LeO.ite ?_ ?_
      | refine LeO.bind ?_ (fun _ => ?_)
def slices_Reverse_int_int.T3 : Bool × List (List Nat × List Nat) := (true, [([], []), ([], []), ([], []), ([], []), ([], []), ([], []), ([4, 5], [4, 5]), ([6], [6]), ([], []), ([], []), ([8, 9], [8, 9]), ([10], [10]), ([0, 1, 0, 1, 4, 5, 6, 7, 11], [0, 1]), ([12, 7, 0, 1, 4, 5, 6, 7, 11], [7, 12]), ([2, 3, 0, 1, 2, 3, 4, 5, 6, 7, 8, 9, 10, 11, 12, 13], [2, 3]), ([14, 11, 13, 0, 1, 2, 3, 4, 5, 6, 7, 8, 9, 10, 11, 12, 13], [11, 14])])
def slices_Reverse_int_int.B3 : List Nat := [0, 0, 0, 0, 0, 0, 48, 112, 0, 0, 768, 1792, 4083, 8179, 16383, 32767]
theorem slices_Reverse_int_int.tab3 : rtab .any (opsOf Try.f50 3) = slices_Reverse_int_int.T3 := by kernel_rfl
theorem slices_Reverse_int_int.bits3 : waitsOk slices_Reverse_int_int.T3.2 slices_Reverse_int_int.B3 = true := by kernel_rfl
set_option maxHeartbeats 8000000 in
set_option maxRecDepth 100000 in
theorem slices_Reverse_int_int.calls (k : Nat) (P0_ : Nat → Prop) (u9000_ : Value) (l0 : List Int) (r : List Int) (w0 w : World) (hB : Below w0.heap.size w0 w) (ho0 : Kd.R (Kd.int .i64) 3 w w0.heap.size P0_ u9000_ l0) (h : slices_Reverse_int_int.f k l0 = some r) :
    Calls Try.prog 50 #[u9000_] w fun e w' => e = .returned (.tuple #[]) ∧ Kd.R (Kd.int .i64) 3 w' w0.heap.size (fun k_ => (P0_ k_ ∨ w.heap.size ≤ k_)) u9000_ r ∧ Below w0.heap.size w0 w' ∧ Kept w w' (fun k_ => P0_ k_) := by
  have HO0 := Aside0.mk (show Kd.R (Kd.int .i64) 3 w w0.heap.size (fun k_ => (P0_ k_ ∨ w.heap.size ≤ k_)) u9000_ l0 from Kd.R_mono ho0 (fun k_ hk => (.inl hk)))
  have HK := Aside0.mk (Kept.refl w (fun k_ => P0_ k_))
  have HW0 := Aside0.mk hB.size
  have HB := Aside0.mk hB
  clear hB
  have H : (slices_Reverse_int_int.l0 k l0 0 (wrap64 ((l0.length : Int) - 1))) = some r := h
  clear h
  have H' := Aside0.mk H
  clear H
  obtain ⟨Ao2, co2, eo2⟩ := Kd.R_slice HO0.out
  subst eo2
  go_enter Try.func50, Try.ntmps50
  go_wp2
  go_loopg [2, 3] k (fun kq v2 v3 w' => ∃ (x0_1 : List Int) (x2_1 : Int) (x3_1 : Int), v2 = .int .i64 x2_1 ∧ v3 = .int .i64 x3_1 ∧ Aside0 (slices_Reverse_int_int.l0 kq x0_1 x2_1 x3_1 = some r) ∧ Aside0 (kq ≤ k) ∧ Aside0 (Kd.R (Kd.int .i64) 3 w' w0.heap.size (fun k_ => (P0_ k_ ∨ w.heap.size ≤ k_)) (.slice Ao2 l0.length co2) x0_1) ∧ Aside0 (Kept w w' (fun k_ => P0_ k_)) ∧ Aside0 (Below w0.heap.size w0 w'))
  case atStart => exact ⟨(l0), (0), (wrap64 ((l0.length : Int) - 1)), (by first | rfl | (simp; done) | (simp [*]; done)), (by first | rfl | (simp; done) | (simp [*]; done)), H', ⟨Nat.le_refl _⟩, ⟨by (with_reducible repeat (first | apply Kd.R_alloc | apply Kd.R_drewN | apply Kd.R_drew)); exact HO0.out⟩, ⟨by repeat (first | (with_reducible first | exact HK.out | apply Kept.alloc | apply Kept.drewN | apply Kept.drew) | exact HK.out)⟩, ⟨by repeat (first | (with_reducible first | exact HB.out | apply below_alloc | apply pw_below_drewN | apply below_drew1) | exact HB.out)⟩⟩
  case round =>
    clear H'
    try clear p2
    obtain ⟨x0_1, x2_1, x3_1, rfl, rfl, HA, HK1, HO_0, HK, HB⟩ := hrel
    have hl0_1 := (Kd.R_reads' HO_0.out).1
    rw [hl0_1] at HO_0
    (try simp only [hl0_1])
    cases gk with
    | zero => exact absurd HA.out (by simp [slices_Reverse_int_int.l0])
    | succ k1 =>
      have H := HA.out
      clear HA
      simp only [slices_Reverse_int_int.l0] at H
      by_cases c3 : x2_1 < x3_1
      · rw [if_pos c3] at H
        have c3b0 : decide (x2_1 < x3_1) = true := decide_eq_true c3
        clear c3
        by_cases c4 : 0 ≤ x3_1
        · rw [if_pos c4] at H
          have c4b0 : decide (0 ≤ x3_1) = true := decide_eq_true c4
          clear c4
          by_cases c5 : x3_1 < (x0_1.length : Int)
          · rw [if_pos c5] at H
            have c5b0 : decide (x3_1 < (x0_1.length : Int)) = true := decide_eq_true c5
            clear c5
            by_cases c6 : 0 ≤ x2_1
            · rw [if_pos c6] at H
              have c6b0 : decide (0 ≤ x2_1) = true := decide_eq_true c6
              clear c6
              by_cases c7 : x2_1 < (x0_1.length : Int)
              · rw [if_pos c7] at H
                have c7b0 : decide (x2_1 < (x0_1.length : Int)) = true := decide_eq_true c7
                clear c7
                obtain ⟨y230, hy230⟩ : ∃ y_ : List Int, y_ = (x0_1.set (x2_1 : Int).toNat (rd x0_1 x3_1)) := ⟨_, rfl⟩
                replace H : (slices_Reverse_int_int.l0 k1 (y230.set (x3_1 : Int).toNat (rd x0_1 x2_1)) (wrap64 (x2_1 + 1)) (wrap64 (x3_1 - 1))) = some r := by first | (rw [hy230]; with_reducible exact H) | (have H2_ := (Option.bind_some _ _).symm.trans H; rw [hy230]; with_reducible exact H2_) | (have H2_ := (Option.bind_some _ _).symm.trans H; with_reducible exact H2_) | with_reducible exact H | (rw [hy230]; exact H) | exact H
                have Ny230 := Aside0.mk hy230
                clear hy230
                obtain ⟨y231, hy231⟩ : ∃ y_ : List Int, y_ = (y230.set (x3_1 : Int).toNat (rd x0_1 x2_1)) := ⟨_, rfl⟩
                replace H : (slices_Reverse_int_int.l0 k1 y231 (wrap64 (x2_1 + 1)) (wrap64 (x3_1 - 1))) = some r := by first | (rw [hy231]; with_reducible exact H) | (have H2_ := (Option.bind_some _ _).symm.trans H; rw [hy231]; with_reducible exact H2_) | (have H2_ := (Option.bind_some _ _).symm.trans H; with_reducible exact H2_) | with_reducible exact H | (rw [hy231]; exact H) | exact H
                have Ny231 := Aside0.mk hy231
                clear hy231
                have H' := Aside0.mk H
                clear H
                try go_wp2
                have n0_ := Aside0.mk (Kd.R_drew HO_0.out)
                have n1_ := Aside0.mk (Kept.drew HK.out)
                have n2_ := Aside0.mk (below_drew1 HB.out)
                clear HO_0
                clear HK
                clear HB
                have HO_0 := n0_
                have HK := n1_
                have HB := n2_
                clear n0_ n1_ n2_
                have p228 : 0 ≤ (x3_1 : Int) := of_decide_eq_true (by first | (with_reducible assumption) | assumption)
                have q228 : x3_1 < (x0_1.length : Int) := of_decide_eq_true (by first | (with_reducible assumption) | assumption)
                obtain ⟨ad228, e228, hx228_0⟩ := Kd.at_int (Kd.R_reads' HO_0.out).2.2 x3_1 p228 q228
                cases e228
                replace p228 := eq_true p228
                replace q228 := eq_true q228
                have p229 : 0 ≤ (x2_1 : Int) := of_decide_eq_true (by first | (with_reducible assumption) | assumption)
                have q229 : x2_1 < (x0_1.length : Int) := of_decide_eq_true (by first | (with_reducible assumption) | assumption)
                obtain ⟨ad229, e229, hx229_0⟩ := Kd.at_int (Kd.R_reads' HO_0.out).2.2 x2_1 p229 q229
                obtain rfl : ad228 = ad229 := (by injection e229)
                replace p229 := eq_true p229
                replace q229 := eq_true q229
                have p8 : 0 ≤ (x2_1 : Int) := of_decide_eq_true (by first | (with_reducible assumption) | assumption)
                have q8 : (x2_1 : Int) < ((x0_1.length : Int) : Int) := of_decide_eq_true (by first | (with_reducible assumption) | assumption)
                obtain ⟨go8, co8, eo8, gb8, gl8, cl8, HG8⟩ := Kd.R_form HO_0.out (by omega)
                (first | cases eo8 | (injection eo8 with ea_ en_ ec_; (first | subst ea_ | (injection ea_ with ea_; subst ea_)); subst ec_; clear en_))
                have GB8 := Aside0.mk gb8
                have GG8 := Aside0.mk HG8
                clear gb8 gl8 HG8
                have HMgo8 := Aside0.mk (show (P0_ go8 ∨ w.heap.size ≤ go8) from (HO_0.out.1 _ rfl))
                (first | simp only [add_plain] at hx228_0 | skip)
                (first | simp only [add_plain] at hx229_0 | skip)
                obtain ⟨hx8_0, hf8_0⟩ := Kd.R_celln 0 HO_0.out (x2_1 : Int) p8 q8
                replace p8 := eq_true p8
                replace q8 := eq_true q8
                have HP11 := Kd.R_putn HO_0.out (x2_1 : Int) (rd x0_1 x3_1)
                rw [← Ny230.out] at HP11
                have HQ11 := Aside0.mk HP11
                clear HP11
                have p9 : 0 ≤ (x3_1 : Int) := of_decide_eq_true (by first | (with_reducible assumption) | assumption)
                have q9 : (x3_1 : Int) < ((x0_1.length : Int) : Int) := of_decide_eq_true (by first | (with_reducible assumption) | assumption)
                obtain ⟨hx9_0, hf9_0⟩ := Kd.R_celln 0 HQ11.out (x3_1 : Int) p9 q9
                replace p9 := eq_true p9
                replace q9 := eq_true q9
                have HP12 := Kd.R_putn HQ11.out (x3_1 : Int) (rd x0_1 x2_1)
                rw [← Ny231.out] at HP12
                have HQ12 := Aside0.mk HP12
                clear HP12
                refine start_ (n := 16) (S := fun w' => w'.cell? ⟨go8, (x3_1).toNat, none⟩ = some (.int .i64 (rd x0_1 x3_1)) ∧ w'.cell? ⟨go8, (x2_1).toNat, none⟩ = some (.int .i64 (rd x0_1 x2_1))) (ds := [13, 15]) #[false, false, false, false, false, false, false, false, false, false, false, false, false, false, false, false] (by kernel_rfl) rfl rfl ⟨hx228_0, hx229_0⟩ (fun hHeld => ?_); refine with_tabW slices_Reverse_int_int.tab3 slices_Reverse_int_int.bits3 (fun HT_ HW_ => ?_)
                generalize wr.drew = w10 at HO_0 HK HB GG8 HQ11 HQ12 hf8_0 hf9_0 hx228_0 hx229_0 hx8_0 hx9_0 hHeld ⊢
                refine pure_ (i := 0) (N := some 14) (v := ?_) (a' := ?_) #[true, false, false, false, false, false, false, false, false, false, false, false, false, false, false, false] rfl rfl (any_of HT_.out (by kernel_rfl)) (fun _ _ _ h => h) (Or.inl ⟨by rfl, ?_⟩) ?_ ?_
                rotate_left
                · intro w'
                  go_simp
                  with_reducible rfl
                rotate_left
                · simp only [Act.put, List.setIfInBounds_toArray, List.set_cons_zero, List.set_cons_succ, i64_w, i32_w]
                  rfl
                refine pure_ (i := 1) (N := some 15) (v := ?_) (a' := ?_) #[true, true, false, false, false, false, false, false, false, false, false, false, false, false, false, false] rfl rfl (any_of HT_.out (by kernel_rfl)) (fun _ _ _ h => h) (Or.inl ⟨by rfl, ?_⟩) ?_ ?_
                rotate_left
                · intro w'
                  go_simp
                  with_reducible rfl
                rotate_left
                · simp only [Act.put, List.setIfInBounds_toArray, List.set_cons_zero, List.set_cons_succ, i64_w, i32_w]
                  rfl
                refine pure_ (i := 2) (N := some 16) (v := ?_) (a' := ?_) #[true, true, true, false, false, false, false, false, false, false, false, false, false, false, false, false] rfl rfl (any_of HT_.out (by kernel_rfl)) (fun _ _ _ h => h) (Or.inl ⟨by rfl, ?_⟩) ?_ ?_
                rotate_left
                · intro w'
                  go_simp
                  with_reducible rfl
                rotate_left
                · simp only [Act.put, List.setIfInBounds_toArray, List.set_cons_zero, List.set_cons_succ, i64_w, i32_w]
                  rfl
                refine pure_ (i := 3) (N := some 17) (v := ?_) (a' := ?_) #[true, true, true, true, false, false, false, false, false, false, false, false, false, false, false, false] rfl rfl (any_of HT_.out (by kernel_rfl)) (fun _ _ _ h => h) (Or.inl ⟨by rfl, ?_⟩) ?_ ?_
                rotate_left
                · intro w'
                  go_simp
                  with_reducible rfl
                rotate_left
                · simp only [Act.put, List.setIfInBounds_toArray, List.set_cons_zero, List.set_cons_succ, i64_w, i32_w]
                  rfl
                refine pure_ (i := 4) (N := some 18) (v := ?_) (a' := ?_) #[true, true, true, true, true, false, false, false, false, false, false, false, false, false, false, false] rfl rfl (any_of HT_.out (by kernel_rfl)) (fun _ _ _ h => h) (Or.inl ⟨by rfl, ?_⟩) ?_ ?_
                rotate_left
                · intro w'
                  go_simp
                  with_reducible rfl
                rotate_left
                · simp only [Act.put, List.setIfInBounds_toArray, List.set_cons_zero, List.set_cons_succ, i64_w, i32_w]
                  rfl
                refine pure_ (i := 5) (N := some 19) (v := ?_) (a' := ?_) #[true, true, true, true, true, true, false, false, false, false, false, false, false, false, false, false] rfl rfl (any_of HT_.out (by kernel_rfl)) (fun _ _ _ h => h) (Or.inl ⟨by rfl, ?_⟩) ?_ ?_
                rotate_left
                · intro w'
                  go_simp
                  with_reducible rfl
                rotate_left
                · simp only [Act.put, List.setIfInBounds_toArray, List.set_cons_zero, List.set_cons_succ, i64_w, i32_w]
                  rfl
                refine pure_ (i := 6) (N := some 20) (v := ?_) (a' := ?_) #[true, true, true, true, true, true, true, false, false, false, false, false, false, false, false, false] rfl rfl (any_of HT_.out (by kernel_rfl)) (fun _ _ _ h => h) (Or.inl ⟨by rfl, ?_⟩) ?_ ?_
                rotate_left
                · intro w'
                  go_simp
                  with_reducible rfl
                rotate_left
                · simp only [Act.put, List.setIfInBounds_toArray, List.set_cons_zero, List.set_cons_succ, i64_w, i32_w]
                  rfl
                refine pure_ (i := 8) (N := some 22) (v := ?_) (a' := ?_) #[true, true, true, true, true, true, true, false, true, false, false, false, false, false, false, false] rfl rfl (any_of HT_.out (by kernel_rfl)) (fun _ _ _ h => h) (Or.inl ⟨by rfl, ?_⟩) ?_ ?_
                rotate_left
                · intro w'
                  go_simp
                  with_reducible rfl
                rotate_left
                · simp only [Act.put, List.setIfInBounds_toArray, List.set_cons_zero, List.set_cons_succ, i64_w, i32_w]
                  rfl
                refine pure_ (i := 9) (N := some 23) (v := ?_) (a' := ?_) #[true, true, true, true, true, true, true, false, true, true, false, false, false, false, false, false] rfl rfl (any_of HT_.out (by kernel_rfl)) (fun _ _ _ h => h) (Or.inl ⟨by rfl, ?_⟩) ?_ ?_
                rotate_left
                · intro w'
                  go_simp
                  with_reducible rfl
                rotate_left
                · simp only [Act.put, List.setIfInBounds_toArray, List.set_cons_zero, List.set_cons_succ, i64_w, i32_w]
                  rfl
                refine pure_ (i := 10) (N := some 24) (v := ?_) (a' := ?_) #[true, true, true, true, true, true, true, false, true, true, true, false, false, false, false, false] rfl rfl (any_of HT_.out (by kernel_rfl)) (fun _ _ _ h => h) (Or.inl ⟨by rfl, ?_⟩) ?_ ?_
                rotate_left
                · intro w'
                  go_simp
                  with_reducible rfl
                rotate_left
                · simp only [Act.put, List.setIfInBounds_toArray, List.set_cons_zero, List.set_cons_succ, i64_w, i32_w]
                  rfl
                refine take_ (i := 7) (N := some 21) (v := ?_) (a' := ?_) #[true, true, true, true, true, true, true, true, true, true, true, false, false, false, false, false] rfl rfl (take_ofW HT_.out HW_.out (by kernel_rfl)) (fun _ _ _ h => h) (Or.inl ⟨by rfl, ?_⟩) hHeld ?_ ?_
                rotate_left
                · rintro w' ⟨s0, s1⟩
                  go_simp
                  with_reducible rfl
                rotate_left
                · simp only [Act.put, List.setIfInBounds_toArray, List.set_cons_zero, List.set_cons_succ, i64_w, i32_w]
                  rfl
                refine take_ (i := 11) (N := some 25) (v := ?_) (a' := ?_) #[true, true, true, true, true, true, true, true, true, true, true, true, false, false, false, false] rfl rfl (take_ofW HT_.out HW_.out (by kernel_rfl)) (fun _ _ _ h => h) (Or.inl ⟨by rfl, ?_⟩) hHeld ?_ ?_
                rotate_left
                · rintro w' ⟨s0, s1⟩
                  go_simp
                  with_reducible rfl
                rotate_left
                · simp only [Act.put, List.setIfInBounds_toArray, List.set_cons_zero, List.set_cons_succ, i64_w, i32_w]
                  rfl
                refine pure_ (i := 12) (N := some 26) (v := ?_) (a' := ?_) #[true, true, true, true, true, true, true, true, true, true, true, true, true, false, false, false] rfl rfl (any_of HT_.out (by kernel_rfl)) (fun _ _ _ h => h) (Or.inl ⟨by rfl, ?_⟩) ?_ ?_
                rotate_left
                · intro w'
                  go_simp
                  with_reducible rfl
                rotate_left
                · simp only [Act.put, List.setIfInBounds_toArray, List.set_cons_zero, List.set_cons_succ, i64_w, i32_w]
                  rfl
                refine last_ (i := 13) (N := none) #[true, true, true, true, true, true, true, true, true, true, true, true, true, true, false, false] rfl rfl (one_of HT_.out (by kernel_rfl)) (by decide) (fun K hK => ?_)
                refine skip_ (w1 := ?_) (by rfl) rfl ?_ ?_
                rotate_left
                · go_simp
                  rfl
                refine hK.out _ _ ?_
                clear hK K
                refine pure_ (i := 14) (N := some 27) (v := ?_) (a' := ?_) #[true, true, true, true, true, true, true, true, true, true, true, true, true, true, true, false] rfl rfl (any_of HT_.out (by kernel_rfl)) (fun _ _ _ h => h) (Or.inl ⟨by rfl, ?_⟩) ?_ ?_
                rotate_left
                · intro w'
                  go_simp
                  with_reducible rfl
                rotate_left
                · simp only [Act.put, List.setIfInBounds_toArray, List.set_cons_zero, List.set_cons_succ, i64_w, i32_w]
                  rfl
                refine last_ (i := 15) (N := none) #[true, true, true, true, true, true, true, true, true, true, true, true, true, true, true, true] rfl rfl (one_of HT_.out (by kernel_rfl)) (by decide) (fun K hK => ?_)
                refine skip_ (w1 := ?_) (by rfl) rfl ?_ ?_
                rotate_left
                · go_simp
                  rfl
                refine hK.out _ _ ?_
                clear hK K
                refine done_ (done_of HT_.out (by kernel_rfl)) ?_
                try go_wp2
                (try simp only [← hl0_1])
                go_roundg k1
                case measure => have := HK1.out; omega
                case rel => exact ⟨(y231), (wrap64 (x2_1 + 1)), (wrap64 (x3_1 - 1)), (by first | rfl | (simp; done) | (simp [*]; done)), (by first | rfl | (simp; done) | (simp [*]; done)), H', ⟨by have := HK1.out; omega⟩, ⟨by (try simp only [hl0_1]); (with_reducible repeat (first | apply Kd.R_alloc | apply Kd.R_drewN | apply Kd.R_drew)); exact HQ12.out⟩, ⟨by repeat (first | (with_reducible first | exact HK.out | apply Kept.alloc | apply Kept.drewN | apply Kept.drew | refine Kept.setCell ?_ HMgo8.out _ | refine Kept.setCell ?_ HMgo8.out _) | exact HK.out)⟩, ⟨by repeat (first | (with_reducible first | exact HB.out | apply below_alloc | apply pw_below_drewN | apply below_drew1 | refine below_set ?_ GB8.out | refine below_set ?_ GB8.out) | exact HB.out)⟩⟩
              · rw [if_neg c7] at H
                exact absurd H (by simp)
            · rw [if_neg c6] at H
              exact absurd H (by simp)
          · rw [if_neg c5] at H
            exact absurd H (by simp)
        · rw [if_neg c4] at H
          exact absurd H (by simp)
      · rw [if_neg c3] at H
        have c3b0 : decide (x2_1 < x3_1) = false := decide_eq_false c3
        clear c3
        obtain rfl := Option.some.inj H
        go_wp2
        first | go_end0 | ((try simp only [Exit.inBlock, Exit.then]); refine bodyPost_ret (results_none rfl _ _ _) rfl ?_)
        exact ⟨by first | rfl | (simp [errW_none, errW_some] <;> rfl) | (simp [*, errW_none, errW_some] <;> rfl), (by first | exact (by (with_reducible repeat (first | apply Kd.R_alloc | apply Kd.R_drewN | apply Kd.R_drew)); exact HO_0.out) | (simp only [hl0_1]; exact (by (with_reducible repeat (first | apply Kd.R_alloc | apply Kd.R_drewN | apply Kd.R_drew)); exact HO_0.out))), by repeat (first | (with_reducible first | exact HB.out | apply below_alloc | apply pw_below_drewN | apply below_drew1) | exact HB.out), by repeat (first | (with_reducible first | exact HK.out | apply Kept.alloc | apply Kept.drewN | apply Kept.drew) | exact HK.out)⟩

end Go.Proofs.Ytkfopphcgjdcaaa.A

/- moves.circle: what it answers. -/
namespace Go.Proofs.Ytkfopphcgjdcaaa.A
open Go.RowKit Go.Maps Go.Proofs.YtkfopphcgjdcaaaW.PrintWords Go.Proofs.YtkfopphcgjdcaaaW.PrintLast Go.Shelf
set_option linter.unusedVariables false
set_option linter.unusedSimpArgs false

/-! slices.Reverse -/
theorem rev_l0 : ∀ (d k : Nat) (A M B : List Int), M.length ≤ d → d < k → (A ++ M ++ B).length ≤ 1000000 →
    slices_Reverse_int_int.l0 k (A ++ M ++ B) A.length (((A ++ M).length : Int) - 1) = some (A ++ M.reverse ++ B)
  | d, 0, A, M, B, h, hk, hl => by omega
  | d, k + 1, A, M, B, h, hk, hl => by
    simp only [List.length_append] at hl
    unfold slices_Reverse_int_int.l0
    by_cases hc : 2 ≤ M.length
    · obtain ⟨x, M1, rfl⟩ : ∃ x M1, M = x :: M1 := by cases M with | nil => simp at hc | cons x M1 => exact ⟨x, M1, rfl⟩
      obtain ⟨M2, y, rfl⟩ : ∃ M2 y, M1 = M2 ++ [y] := ⟨M1.dropLast, M1.getLast (by intro e; subst e; simp at hc), (List.dropLast_concat_getLast _).symm⟩
      simp only [List.length_cons, List.length_append, List.length_nil] at hl h hk hc ⊢
      rw [if_pos (by omega), if_pos (by omega), if_pos (by omega), if_pos (by omega), if_pos (by omega)]
      have e1 : rd (A ++ x :: (M2 ++ [y]) ++ B) (((A.length + (M2.length + (0 + 1) + 1) : Nat) : Int) - 1) = y := by
        unfold rd
        rw [show ((((A.length + (M2.length + (0 + 1) + 1) : Nat) : Int) - 1)).toNat = (A ++ x :: M2).length by simp; omega, show A ++ x :: (M2 ++ [y]) ++ B = (A ++ x :: M2) ++ (y :: B) by simp, List.getD_eq_getElem?_getD, List.getElem?_append_right (Nat.le_refl _)]
        simp
      have e2 : rd (A ++ x :: (M2 ++ [y]) ++ B) ((A.length : Nat) : Int) = x := by
        unfold rd
        rw [Int.toNat_natCast, show A ++ x :: (M2 ++ [y]) ++ B = A ++ (x :: (M2 ++ y :: B)) by simp, List.getD_eq_getElem?_getD, List.getElem?_append_right (Nat.le_refl _)]
        simp
      rw [e1, e2]
      have e3 : ((A ++ x :: (M2 ++ [y]) ++ B).set ((A.length : Nat) : Int).toNat y).set (((A.length + (M2.length + (0 + 1) + 1) : Nat) : Int) - 1).toNat x = (A ++ [y]) ++ M2 ++ (x :: B) := by
        rw [Int.toNat_natCast, show ((((A.length + (M2.length + (0 + 1) + 1) : Nat) : Int) - 1)).toNat = A.length + (M2.length + 1) by omega, show A ++ x :: (M2 ++ [y]) ++ B = A ++ (x :: (M2 ++ y :: B)) by simp]
        rw [List.set_append_right _ _ (Nat.le_refl _), List.set_append_right _ _ (by omega)]
        simp [List.set_append_right, List.set_cons_succ]
      rw [e3, show wrap64 ((A.length : Int) + 1) = ((A ++ [y]).length : Int) by simp; unfold wrap64; omega, show wrap64 (((A.length + (M2.length + (0 + 1) + 1) : Nat) : Int) - 1 - 1) = (((A ++ [y]) ++ M2).length : Int) - 1 by simp; unfold wrap64; omega]
      rw [rev_l0 (d - 1) k (A ++ [y]) M2 (x :: B) (by omega) (by omega) (by simp; omega)]
      simp
    · rw [if_neg (by simp; omega)]
      match M, hc with
      | [], _ => simp
      | [x], _ => simp
      | x :: y :: M, hc => simp at hc
theorem rev_f (l : List Int) (hl : l.length ≤ 1000000) : slices_Reverse_int_int.f (l.length + 1) l = some l.reverse := by
  unfold slices_Reverse_int_int.f
  have := rev_l0 l.length (l.length + 1) [] l [] (Nat.le_refl _) (by omega) (by simpa using hl)
  simp only [List.nil_append, List.append_nil, List.length_nil] at this
  rw [show wrap64 ((l.length : Int) - 1) = (l.length : Int) - 1 by unfold wrap64; omega]
  exact this
theorem reverse_calls (v : Value) (l : List Int) (w0 w : World) (hB : Below w0.heap.size w0 w) (h : Kd.R (Kd.int .i64) 3 w w0.heap.size (fun _ => True) v l) (hl : l.length ≤ 1000000) :
    Calls Try.prog 50 #[v] w fun e w' => e = .returned (.tuple #[]) ∧ Kd.R (Kd.int .i64) 3 w' w0.heap.size (fun _ => True) v l.reverse ∧ Below w0.heap.size w0 w' :=
  (slices_Reverse_int_int.calls (l.length + 1) (fun _ => True) v l l.reverse w0 w hB h (rev_f l hl)).mono fun e w' ⟨h1, h2, h3, _⟩ => ⟨h1, Kd.R_mono h2 (fun _ _ => trivial), h3⟩

/-! circle -/
def circGo (f : Int → Option Int) (n : Nat) (first : Int) : Nat → Option Int → List Int → Option (List Int)
  | 0, _, _ => none
  | k + 1, cur, back => match cur with
    | none => none
    | some a => if a = first then (if back = [] then none else some (first :: back.reverse)) else if a < first then none else if n < back.length then none else circGo f n first k (f a) (back ++ [a])
def circOf (f : Int → Option Int) (n : Nat) (first : Int) : Option (List Int) := circGo f n first (n + 3) (f first) []

theorem reps_one {W : World} {base : Nat} {ok : Nat → Prop} (x : Int) : Reps ((Kd.int .i64).M W base ok) (Kd.int .i64).sz [x] [.int .i64 x] := by
  refine ⟨rfl, fun j p hj => ?_⟩
  cases j with
  | zero => simp at hj; subst hj; rfl
  | succ j => simp at hj
def CircPost (r : Option (List Int)) (w : World) (e : Ending) (w' : World) : Prop := Below w.heap.size w w' ∧
  (r = none → e = .returned (.slice none 0 0)) ∧ ∀ l, r = some l → l ≠ [] ∧ ∃ g c, e = .returned (.slice (some g) l.length c) ∧ Kd.R (Kd.int .i64) 3 w' w.heap.size (fun _ => True) (.slice (some g) l.length c) l
theorem cp_none {r : Option (List Int)} {w w' : World} (h : r = none) (hb : Below w.heap.size w w') : CircPost r w (.returned (.slice none 0 0)) w' :=
  ⟨hb, fun _ => rfl, fun l e => (by rw [h] at e; cases e)⟩
theorem cp_some {r : Option (List Int)} {w w' : World} {v : Value} {l : List Int} (h : r = some l) (hne : l ≠ []) (hb : Below w.heap.size w w') (hv : Kd.R (Kd.int .i64) 3 w' w.heap.size (fun _ => True) v l) : CircPost r w (.returned v) w' := by
  refine ⟨hb, fun e => (by rw [h] at e; cases e), fun l' e => ?_⟩
  rw [h] at e
  obtain rfl := Option.some.inj e
  obtain ⟨g, cap, rfl, _⟩ := Kd.R_form hv (by cases l with | nil => exact absurd rfl hne | cons a l => simp)
  exact ⟨hne, _, _, rfl, hv⟩
theorem own_grown {D : DU} {w w1 : World} {b n : Nat} (h : w.ownsMap Try.prog 3 (plainElem Try.prog 3) b n D) {row : Option Nat} (hg : w.grownBy w1 row) (hne : some b ≠ row) : w1.ownsMap Try.prog 3 (plainElem Try.prog 3) b n D := by
  obtain ⟨es, clock, h1, h2⟩ := h
  exact ⟨es, clock, (hg.block _ (blk_lt h1) hne).trans h1, h2⟩
theorem look_ok {D : DU} {f : Int → Option Int} (h : Reads D f) (k c : Int) (hat : D.atKey (.int .i64 k) (.lit (.int .i64 0)) = .lit (.int .i64 c)) : c = (f k).getD 0 := look_c h hat

set_option maxRecDepth 100000 in
set_option maxHeartbeats 2000000 in
theorem circle_calls (b n : Nat) (D : DU) (f : Int → Option Int) (first : Int) (w : World) (hown : w.ownsMap Try.prog 3 (plainElem Try.prog 3) b n D) (hR : Reads D f) (hS : size D = n) (hf : WfF f) (hfi : Wf first) (hn : n ≤ 400000) :
    Calls Try.prog 37 #[.map (some b), .int .i64 first] w (CircPost (circOf f n first) w) := by
  have hMb : MapAt w b n f := ⟨D, hown, hR⟩
  have hlt := hown.lt
  have hh1 := hR.has first
  have hR' := Aside0.mk hR
  have hown' := Aside0.mk hown
  generalize hgo : circOf f n first = goal
  have hgo' : Aside0 (circGo f n first (n + 3) (f first) [] = goal) := ⟨hgo⟩
  have hcw : Aside0 (∀ a, f first = some a → Wf a) := ⟨fun a e => (hf first a e).2⟩
  have hf' := Aside0.mk hf
  clear hgo hf hR hown
  go_enter Try.func37, Try.ntmps37
  generalize hc0 : f first = c0 at hh1 hgo' hcw
  have hc0' := Aside0.mk hc0
  clear hc0
  go_wp2_with (at_lookup; refine wpList_lookup_own_ok_int _ rfl _ _ 52 rfl 3 3 .i64 law3 Try.underlying52 Try.underlying3 (zero3 _) b n D rfl hown'.out _ _ rfl (key3 hfi) ?_; intro c hat hwc; obtain rfl := look_ok hR'.out first c hat; rw [hc0'.out])
  go_loopg [5, 6, 7] (n + 3) (fun gg s5 s6 s7 wr => ∃ (k : Nat) (cur : Option Int) (back : List Int), s6 = .int .i64 (cur.getD 0) ∧ s7 = .bool cur.isSome ∧ k + back.length = n + 3 ∧ back.length ≤ n + 1 ∧ k ≤ gg ∧
      Aside0 (Kd.R (Kd.int .i64) 3 wr w.heap.size (fun _ => True) s5 back) ∧ Aside0 (wr.ownsMap Try.prog 3 (plainElem Try.prog 3) b n D) ∧ Aside0 (Below w.heap.size w wr) ∧ Aside0 (circGo f n first k cur back = goal) ∧ Aside0 (∀ a, cur = some a → Wf a))
  case atStart => exact ⟨n + 3, c0, [], rfl, rfl, rfl, by simp, Nat.le_refl _, ⟨Kd.R_nil _ _ _ _ _⟩, hown', ⟨Below.refl _ _⟩, hgo', hcw⟩
  case round =>
    clear hown' hgo' hcw hc0'
    obtain ⟨k, cur, back, rfl, rfl, hk, hbl, hkg, hv, ho, hB, hG, hW⟩ := hrel
    obtain ⟨k', rfl⟩ : ∃ k', k = k' + 1 := ⟨k - 1, by omega⟩
    have hG' := hG.out
    unfold circGo at hG'
    cases cur with
    | none =>
      have hg := Aside0.mk (show goal = none from hG'.symm)
      clear hG hG' hW hv ho
      go_wp2_with fail
      go_ret
      exact cp_none hg.out hB.out
    | some a =>
      simp only at hG'
      have hwa := hW.out a rfl
      clear hW hG
      by_cases ha : a = first
      · rw [if_pos ha] at hG'
        by_cases hbk : back = []
        · subst hbk
          rw [if_pos rfl] at hG'
          have hg := Aside0.mk hG'.symm
          obtain ⟨A5, c5, rfl⟩ := Kd.R_slice hv.out
          have ha' : ((a : Int) != first) = false := by simpa using ha
          clear hG' hv ho ha
          go_wp2_with fail
          go_ret
          exact cp_none hg.out hB.out
        · rw [if_neg hbk] at hG'
          have hg := Aside0.mk hG'.symm
          obtain ⟨A5, c5, rfl⟩ := Kd.R_slice hv.out
          have hrv := reverse_calls _ back w wr hB.out hv.out (by omega)
          have hbl0 : ((back.length : Int) == 0) = false := by
            have : back.length ≠ 0 := fun e => hbk (List.eq_nil_of_length_eq_zero e)
            simp; omega
          have hbl1 : (back.length == 0) = false := by
            have : back.length ≠ 0 := fun e => hbk (List.eq_nil_of_length_eq_zero e)
            simpa using this
          have ha' : ((a : Int) != first) = false := by simpa using ha
          clear hG' ho ha hbk hv
          go_wp2_with fail
          refine hrv.mono ?_
          rintro e w2 ⟨rfl, hr2, hB2⟩
          have hlr : back.reverse.length = back.length := by simp
          have HR : Aside0 ((Kd.int .i64).C (w2.alloc (.cells #[.int .i64 first] 3)) A5 back.length back.reverse) := ⟨by
            have := Kd.C_below (Kd.R_reads' hr2).2.2 (below_alloc (Below.refl _ _) (.cells #[.int .i64 first] 3))
            rwa [hlr] at this⟩
          have HO : Aside0 (Kd.R (Kd.int .i64) 3 (w2.alloc (.cells #[.int .i64 first] 3)) w.heap.size (fun _ => True) (.slice (some ⟨w2.heap.size, 0, none⟩) 1 1) [first]) :=
            ⟨R_new_lit (Kd.int .i64) w2 w.heap.size 3 (xs := [first]) (inner := [.int .i64 first]) (ok := fun _ => True) (okp := fun _ => True) (reps_one first) (fun _ h => h) trivial hB2.size (by simp)⟩
          have hBa := Aside0.mk (below_alloc hB2 (.cells #[.int .i64 first] 3))
          clear hrv hr2 hB2 hB hlr
          go_wp2_with (at_builtin; refine Kd.R_append_row (Value.int .i64) (0 : Int) (w0 := w) w.heap.size rfl (.tmp 50) (.tmp 51) 43 3 (.int .i64 0) 8 rfl Try.underlying43 info3 rfl (by decide) _ [first] back.reverse A5 back.length c5 (fun _ => True) rfl rfl (fun _ _ => trivial) HO.out HR.out hBa.out hBa.out.size (by simp; omega) ?_; intro v1 w1 hown1 hb1 hg1 hat1)
          go_ret
          exact cp_some hg.out (by simp) hb1 hown1
      · rw [if_neg ha] at hG'
        have ha' : ((a : Int) != first) = true := by simpa using ha
        by_cases hlt2 : a < first
        · rw [if_pos hlt2] at hG'
          have hg := Aside0.mk hG'.symm
          clear hG' hv ho ha
          go_wp2_with fail
          go_ret
          exact cp_none hg.out hB.out
        · rw [if_neg hlt2] at hG'
          obtain ⟨A5, c5, rfl⟩ := Kd.R_slice hv.out
          by_cases hbn : n < back.length
          · rw [if_pos hbn] at hG'
            have hg := Aside0.mk hG'.symm
            have hbn' : (back.length : Int) > (n : Int) := by omega
            clear hG' hv ha
            have hle := ho.out.len Try.underlying52 3
            rw [hS] at hle
            go_wp2_with fail
            go_ret
            exact cp_none hg.out hB.out
          · rw [if_neg hbn] at hG'
            have hg := Aside0.mk hG'
            have hbn' : ¬ (back.length : Int) > (n : Int) := by omega
            have hh2 := hR'.out.has a
            obtain ⟨ca, hca⟩ : ∃ ca, f a = ca := ⟨_, rfl⟩
            rw [hca] at hh2
            have hg2 : Aside0 (circGo f n first k' ca (back ++ [a]) = goal) := ⟨by rw [← hca]; exact hg.out⟩
            have hW2 : Aside0 (∀ x, ca = some x → Wf x) := ⟨fun x e => (hf'.out a x (hca.trans e)).2⟩
            have hca' := Aside0.mk hca
            have hla := fun c h => look_ok hR'.out a c h
            rw [hca] at hla
            have hla' := Aside0.mk hla
            clear hG' ha hg hca hla
            have hle := ho.out.len Try.underlying52 3
            rw [hS] at hle
            go_wp2_with (first
              | (at_builtin; refine Kd.R_append (Kd.int .i64) (w0 := w) w.heap.size rfl (.tmp 36) (.tmp 38) 43 3 (.int .i64 0) 8 rfl Try.underlying43 info3 rfl (by decide) (by omega) _ back a [.int .i64 a] (fun _ => True) (fun _ => False) rfl rfl rfl (fun _ hk => hk.elim) (fun _ _ => trivial) hv.out hB.out hB.out.size (by omega) ?_; intro v6 w6 hown6 hb6 hg6 hat6; have hv6 := Aside0.mk hown6; have hb6' := Aside0.mk hb6; have ho6 := Aside0.mk (own_grown ho.out hg6 (fun e => by have h1 := Kd.R_base hv.out _ e.symm; omega)); clear hown6 hb6 hg6 hat6)
              | (at_lookup; refine wpList_lookup_own_ok_int _ rfl _ _ 52 rfl 3 3 .i64 law3 Try.underlying52 Try.underlying3 (zero3 _) b n D rfl ho6.out _ _ rfl (key3 hwa) ?_; intro c hat hwc; obtain rfl := hla'.out c hat))
            go_roundg k'
            case measure => omega
            case rel => exact ⟨k', ca, back ++ [a], rfl, rfl, by simp; omega, by simp; omega, Nat.le_refl _, hv6, ho6, hb6', hg2, hW2⟩
#print axioms circle_calls
end Go.Proofs.Ytkfopphcgjdcaaa.A

/- moves.Cycles: what it answers. -/
namespace Go.Proofs.Ytkfopphcgjdcaaa.A
open Go.RowKit Go.Maps Go.Proofs.YtkfopphcgjdcaaaW.PrintWords Go.Proofs.YtkfopphcgjdcaaaW.PrintLast Go.Shelf
set_option linter.unusedVariables false
set_option linter.unusedSimpArgs false

theorem fromF_wf {l : List S38} (h : WfL l) : WfF (fromF l) := by
  suffices H : ∀ f : Int → Option Int, WfF f → WfF (l.foldl (fun f x => upd f x.f0 x.f1) f) from H _ (fun k v e => by cases e)
  induction l with
  | nil => intro f hf; exact hf
  | cons x l ih =>
    intro f hf
    rw [List.foldl_cons]
    obtain ⟨a, b⟩ := h x (by simp)
    exact ih (fun y hy => h y (by simp [hy])) _ (hf.upd a b)
def cycOf (l : List S38) (ks : List Int) : List (List Int) := ks.filterMap (circOf (fromF l) l.length)
theorem cycOf_snoc (l : List S38) (ks : List Int) (k : Int) : cycOf l (ks ++ [k]) = cycOf l ks ++ (circOf (fromF l) l.length k).toList := by
  unfold cycOf
  rw [List.filterMap_append]
  cases h : circOf (fromF l) l.length k <;> simp [h]
theorem cycOf_len (l : List S38) (ks : List Int) : (cycOf l ks).length ≤ ks.length := List.length_filterMap_le _ _

def CycPost (l : List S38) (w : World) (e : Ending) (w' : World) : Prop := Below w.heap.size w w' ∧ ∃ v out, e = .returned v ∧ Kd.S (Kd.slice 3 (Kd.int .i64)) 43 w' w.heap.size (fun _ => True) v out ∧
  (okN l l.length = false → out = []) ∧ (okN l l.length = true → ∃ ks, Rising ks ∧ (∀ k, k ∈ ks ↔ (fromF l k).isSome = true) ∧ out = cycOf l ks)

set_option maxRecDepth 100000 in
set_option maxHeartbeats 2000000 in
theorem cycles_calls (A : Option Addr) (c : Nat) (l : List S38) (w : World) (h : Kd.C k38 w A l.length l) (hw : WfL l) (hl : l.length ≤ 400000) :
    Calls Try.prog 15 #[.slice A l.length c] w (CycPost l w) := by
  have hf := froms_calls A c l w h hw (by omega)
  have q43 : ∀ (w : World) (a : Option Addr) (n c n' c' : Nat), (binOp .neq 43 (.slice a n c) (.slice none n' c')).run Try.prog w = .ok (.bool (!a.isNone)) w := fun w a n c n' c' => Go.run_neq_slice_nil_any w _ _ a n c n' c' Try.underlying43
  clear h
  cases hok : okN l l.length
  · rw [hok] at hf
    have hok' := Aside0.mk hok
    clear hok
    go_enter Try.func15, Try.ntmps15
    go_wp2_with fail
    refine hf.mono ?_
    rintro e w1 ⟨hB1, h1, _⟩
    obtain rfl := h1 trivial
    have hB1' := Aside0.mk hB1
    clear hB1 h1 hf
    go_wp2_with fail
    go_ret
    exact ⟨hB1'.out, _, [], rfl, Kd.S_nil _ _ _ _ _, fun _ => rfl, fun e => by rw [hok'.out] at e; cases e⟩
  rw [hok] at hf
  have hok' := Aside0.mk hok
  clear hok
  go_enter Try.func15, Try.ntmps15
  go_wp2_with fail
  refine hf.mono ?_
  rintro e w1 ⟨hB1, _, h1⟩
  obtain ⟨rfl, D, hown, hR, hS⟩ := h1 trivial
  have hM1 : MapAt w1 w.heap.size l.length (fromF l) := ⟨D, hown, hR⟩
  have hso := sorted_calls _ _ _ w1 hM1 (by omega)
  have hown' := Aside0.mk hown
  have hR' := Aside0.mk hR
  have hS' := Aside0.mk hS
  have hB1' := Aside0.mk hB1
  have hff := Aside0.mk (fromF_wf hw)
  clear hown hR hS hB1 hM1 hf h1
  go_wp2_with fail
  refine (keys_calls _ _).mono ?_
  rintro e w' ⟨rfl, rfl⟩
  go_wp2_with fail
  refine hso.mono ?_
  rintro e w2 ⟨v2, ks, rfl, hris, hmem, hlen, hR2, hB2⟩
  have hris' := Aside0.mk hris
  have hmem' := Aside0.mk hmem
  have hlen' := Aside0.mk hlen
  have hks : ks.length ≤ 400000 := by omega
  obtain ⟨A2, c2, rfl⟩ := Kd.R_slice hR2
  have ho2 := Aside0.mk (own_grown hown'.out (grown_of_below hB2 none) (by simp))
  have hR2' := Aside0.mk (Kd.R_lower hR2 hB1'.out.size)
  have hB2' := Aside0.mk (below_step hB1'.out hB2)
  have hwk : Aside0 (∀ k ∈ ks, Wf k) := ⟨fun k hk => by
    obtain ⟨v, hv⟩ := Option.isSome_iff_exists.1 ((hmem k).1 hk)
    exact (hff.out k v hv).1⟩
  clear hso hris hmem hlen hR2 hB2 hown' hB1'
  go_wp2_with fail
  go_loopw [5, 20] (fun s5 s20 wr => ∃ (m : Nat), m ≤ ks.length ∧ s20 = .int .i64 m ∧ Aside0 (Kd.S (Kd.slice 3 (Kd.int .i64)) 43 wr w.heap.size (fun _ => True) s5 (cycOf l (ks.take m))) ∧ Aside0 (wr.ownsMap Try.prog 3 (plainElem Try.prog 3) w.heap.size l.length D) ∧ Aside0 (Kd.R (Kd.int .i64) 3 wr w.heap.size (fun _ => True) (.slice A2 ks.length c2) ks) ∧ Aside0 (Below w.heap.size w wr))
    (fun _ s20 _ => ks.length - (intOf s20).toNat)
  case atStart => exact ⟨0, Nat.zero_le _, rfl, ⟨Kd.S_nil _ _ _ _ _⟩, ho2, hR2', hB2'⟩
  case round =>
    clear ho2 hR2' hB2'
    obtain ⟨m, hm, rfl, hv, ho, hC, hB⟩ := hrel
    by_cases hlt : m < ks.length
    · have hmn : (m : Int) < (ks.length : Int) := by omega
      have hm0 : (0 : Int) ≤ (m : Int) := by omega
      obtain ⟨ad, rfl, q0⟩ := Kd.at_int (Kd.R_reads' hC.out).2.2 (m : Int) hm0 hmn
      rw [Int.toNat_natCast] at q0
      have htk : ks.take (m + 1) = ks.take m ++ [rd ks m] := by
        rw [List.take_succ_eq_append_getElem hlt]
        simp [rd, hlt]
      have hwx := hwk.out (rd ks m) (by simp [rd, hlt])
      have hsn := cycOf_snoc l (ks.take m) (rd ks m)
      rw [← htk] at hsn
      have hlm : (cycOf l (ks.take m)).length ≤ 400000 := by
        have := cycOf_len l (ks.take m)
        have := hlen'.out
        rw [List.length_take] at *; omega
      have hci := circle_calls w.heap.size l.length D (fromF l) (rd ks m) wr ho.out hR'.out hS'.out hff.out hwx hl
      generalize rd ks (m : Int) = x at *
      generalize circOf (fromF l) l.length x = r at *
      cases r with
      | none =>
        have hsn' := Aside0.mk hsn
        clear hsn htk
        go_wp2_with fail
        refine hci.mono ?_
        rintro e w3 ⟨hB3, h3, _⟩
        obtain rfl := h3 rfl
        have hv3 := Aside0.mk (Kd.S_below hv.out hB3)
        have hC3 := Aside0.mk (Kd.R_below hC.out hB3)
        have ho3 := Aside0.mk (own_grown ho.out (grown_of_below hB3 none) (by simp))
        have hB3' := Aside0.mk (below_step hB.out hB3)
        clear hci hB3 h3 hv hC ho hB q0
        go_wp2_with fail
        go_roundw
        case rel => exact ⟨m + 1, by omega, by go_num, ⟨by rw [hsn'.out]; simpa using hv3.out⟩, ho3, hC3, hB3'⟩
        case measure => simp [intOf]; omega
      | some cl =>
        have hsn' := Aside0.mk hsn
        clear hsn htk
        go_wp2_with fail
        refine hci.mono ?_
        rintro e w3 ⟨hB3, _, h3⟩
        obtain ⟨hne, g, cg, rfl, hcl⟩ := h3 cl rfl
        have hv3 := Aside0.mk (Kd.S_mono (Kd.S_below (Kd.S_bound hv.out) hB3) (ok' := fun k => True ∧ ¬ wr.heap.size ≤ k) (fun k hk => ⟨trivial, by have := hk.2.2.1; omega⟩))
        have hC3 := Aside0.mk (Kd.R_below hC.out hB3)
        have ho3 := Aside0.mk (own_grown ho.out (grown_of_below hB3 none) (by simp))
        have hB3' := Aside0.mk (below_step hB.out hB3)
        have hcM := Aside0.mk (Kd.M_row (Kd.R_lower (Kd.R_mono (Kd.R_bound hcl) (ok' := fun k => wr.heap.size ≤ k) (fun k hk => hk.2.1)) hB.out.size))
        have hvl := Aside0.mk (Kd.S_lt hv.out)
        clear hci hB3 h3 hv hC ho hB q0 hcl hne
        go_wp2_with (at_builtin; refine Kd.S_append (Kd.slice 3 (Kd.int .i64)) (w0 := w) w.heap.size rfl (.tmp 29) (.tmp 31) 30 43 (.slice none 0 0) 24 rfl Try.underlying30 info43 rfl (by decide) (by omega) _ (cycOf l (ks.take m)) cl [.slice (some g) cl.length cg] (fun _ => True) (fun k => wr.heap.size ≤ k) rfl rfl hcM.out (fun k hk => ⟨trivial, fun e => by have := hvl.out k e.symm; omega⟩) (fun _ _ => trivial) hv3.out hB3'.out hB3'.out.size (by omega) ?_; intro v6 w6 hown6 hb6 hg6 hat6; have hv6 := Aside0.mk hown6; have hb6' := Aside0.mk hb6; have hC6 := Aside0.mk (Kd.R_over hC3.out (Kd.S_R hv3.out) (by decide) hg6); have ho6 := Aside0.mk (own_grown ho3.out hg6 (fun e => by have h1 := Kd.S_typed hv3.out _ e.symm; obtain ⟨cells, h1⟩ := h1; obtain ⟨es, clock, h2, _⟩ := ho3.out; rw [h2] at h1; cases h1)); clear hown6 hb6 hg6 hat6)
        go_roundw
        case rel => exact ⟨m + 1, by omega, by go_num, ⟨by rw [hsn'.out]; exact hv6.out⟩, ho6, hC6, hb6'⟩
        case measure => simp [intOf]; omega
    · obtain rfl : m = ks.length := by omega
      have hv' := hv.out
      rw [List.take_length] at hv'
      have hv2 := Aside0.mk hv'
      clear hv hv' hC ho
      go_wp2_with fail
      go_ret
      exact ⟨hB.out, _, _, rfl, hv2.out, fun e => (by rw [hok'.out] at e; cases e), fun _ => ⟨ks, hris'.out, hmem'.out, rfl⟩⟩
#print axioms cycles_calls
end Go.Proofs.Ytkfopphcgjdcaaa.A

/- The functions that a program does not print, in the form that printed texts take them. -/
namespace Go.Proofs.Ytkfopphcgjdcaaa.A
open Go.RowKit Go.Maps Go.Proofs.YtkfopphcgjdcaaaW.PrintWords Go.Proofs.YtkfopphcgjdcaaaW.PrintLast Go.Shelf
set_option linter.unusedVariables false
set_option linter.unusedSimpArgs false

/-! keys, sorted -/
def insK (k : Int) : List Int → List Int
  | [] => [k]
  | a :: l => if k < a then k :: a :: l else if k = a then a :: l else a :: insK k l
theorem insK_mem (k j : Int) : ∀ l, j ∈ insK k l ↔ j = k ∨ j ∈ l
  | [] => by simp [insK]
  | a :: l => by
    unfold insK
    split
    · simp
    · split
      · rename_i h; subst h; simp
      · simp [insK_mem k j l]
        constructor
        · rintro (h | h | h) <;> simp [h]
        · rintro (h | h | h) <;> simp [h]
theorem insK_rising (k : Int) : ∀ l, Rising l → Rising (insK k l)
  | [], _ => List.Pairwise.cons (by simp) List.Pairwise.nil
  | a :: l, h => by
    have h' := List.pairwise_cons.1 h
    unfold insK
    split
    · rename_i hk
      refine List.Pairwise.cons (fun b hb => ?_) h
      rcases List.mem_cons.1 hb with rfl | hb
      · exact hk
      · have := h'.1 b hb; omega
    · split
      · exact h
      · refine List.Pairwise.cons (fun b hb => ?_) (insK_rising k l h'.2)
        rcases (insK_mem k b l).1 hb with rfl | hb
        · omega
        · exact h'.1 b hb
def skeys (l : List Int) : List Int := l.foldr insK []
theorem skeys_rising : ∀ l, Rising (skeys l)
  | [] => List.Pairwise.nil
  | k :: l => insK_rising k _ (skeys_rising l)
theorem skeys_mem (j : Int) : ∀ l, j ∈ skeys l ↔ j ∈ l
  | [] => Iff.rfl
  | k :: l => by
    show j ∈ insK k (skeys l) ↔ _
    rw [insK_mem, skeys_mem j l, List.mem_cons]
theorem rowsOf_eq {f : Int → Option Int} {out : List S42} (h : RowsOf f out) {ks : List Int} (hr : Rising ks) (hm : ∀ k, k ∈ ks ↔ (f k).isSome = true) : out = rowF f ks := by
  have h1 : out.map (fun x => x.f0) = ks := by
    refine rising_eq (by unfold Rising; rw [List.pairwise_map]; exact h.rise) hr fun k => ?_
    rw [hm, List.mem_map, Option.isSome_iff_exists]
    constructor
    · rintro ⟨x, hx, rfl⟩; exact ⟨_, (h.mem x).1 hx⟩
    · rintro ⟨v, hv⟩; exact ⟨⟨k, v⟩, (h.mem ⟨k, v⟩).2 hv, rfl⟩
  have h2 : out = out.map (fun x => (⟨x.f0, (f x.f0).getD 0⟩ : S42)) := by
    conv => lhs; rw [← List.map_id out]
    apply List.map_congr_left
    intro x hx
    have := (h.mem x).1 hx
    rw [this]; rfl
  rw [h2, ← h1]; unfold rowF; rw [List.map_map]; rfl
theorem holdF_some (l : List S42) (k : Int) : (holdF l k).isSome = true ↔ k ∈ l.map (fun x => x.f0) := by
  suffices H : ∀ f : Int → Option Int, (l.foldl (fun f x => if (f x.f0).isSome then f else upd f x.f0 x.f1) f k).isSome = true ↔ (f k).isSome = true ∨ k ∈ l.map (fun x => x.f0) by
    have := H (fun _ => none); simpa [holdF] using this
  induction l with
  | nil => intro f; simp
  | cons x l ih =>
    intro f
    rw [List.foldl_cons, ih, List.map_cons, List.mem_cons]
    by_cases hx : (f x.f0).isSome = true
    · rw [if_pos hx]
      constructor
      · rintro (h | h); exact .inl h; exact .inr (.inr h)
      · rintro (h | h | h)
        · exact .inl h
        · subst h; exact .inl hx
        · exact .inr h
    · rw [if_neg hx]
      unfold upd
      by_cases e : k = x.f0
      · subst e; simp
      · simp [e]
theorem onceF_some (h : Int → Option Int) (l : List S38) (x : Int) : (onceF h l x).isSome = ((h x).isSome || decide (x ∈ tos l)) := by
  unfold onceF
  suffices H : ∀ g : Int → Option Int, ((l.foldl (fun f c => upd f c.f0 ((h c.f1).getD 0)) g) x).isSome = ((g x).isSome || decide (x ∈ tos l)) from H h
  induction l with
  | nil => intro g; simp [tos]
  | cons c l ih =>
    intro g
    rw [List.foldl_cons, ih]
    unfold upd tos
    by_cases e : x = c.f0
    · simp [e]
    · simp [e]
def heldKeys (l0 : List S38) (l1 : List S42) : List Int := skeys (l1.map (fun x => x.f0) ++ tos l0)
theorem one_keys (l0 : List S38) (l1 : List S42) (k : Int) : k ∈ heldKeys l0 l1 ↔ (oneF (holdF l1) l0 k).isSome = true := by
  unfold heldKeys
  rw [skeys_mem, List.mem_append, oneF_some, Bool.or_eq_true, holdF_some, decide_eq_true_eq]
theorem once_keys (l0 : List S38) (l1 : List S42) (k : Int) : k ∈ heldKeys l0 l1 ↔ (onceF (holdF l1) l0 k).isSome = true := by
  unfold heldKeys
  rw [skeys_mem, List.mem_append, onceF_some, Bool.or_eq_true, holdF_some, decide_eq_true_eq]
def oneRows (l0 : List S38) (l1 : List S42) : List S42 := rowF (oneF (holdF l1) l0) (heldKeys l0 l1)
def onceRows (l0 : List S38) (l1 : List S42) : List S42 := rowF (onceF (holdF l1) l0) (heldKeys l0 l1)

instance (n : Int) : Decidable (Wf n) := by unfold Wf; exact inferInstance
instance (l : List S38) : Decidable (WfL l) := by unfold WfL; exact inferInstance
instance (l : List S42) : Decidable (WfH l) := by unfold WfH; exact inferInstance

def moves_Right.f (l0 : List S38) : Option Bool := if l0.length ≤ 400000 ∧ WfL l0 then some (okN l0 l0.length) else none
theorem moves_Right.calls (A0 : Option Addr) (c0 : Nat) (l0 : List S38) (r : Bool) (w : World) (hr0 : Kd.C k38 w A0 l0.length l0) (hc0 : l0.length ≤ c0) (h : moves_Right.f l0 = some r) :
    Calls Try.prog 12 #[.slice A0 l0.length c0] w fun e w' => e = .returned (.bool r) ∧ Below w.heap.size w w' := by
  unfold moves_Right.f at h
  split at h
  · rename_i hh
    obtain rfl := Option.some.inj h
    exact right_calls A0 c0 l0 w hr0 hh.2 (by omega)
  · cases h
def orderRes (l0 : List S38) (a1 : Int) : List S38 × Int := if okN l0 l0.length = false then ([], 4) else if l0.any (usesSp a1) = true then ([], 1) else (ordOf a1 l0, 0)
def moves_Order.f (l0 : List S38) (a1 : Int) : Option (List S38 × Int) := if l0.length ≤ 400000 ∧ WfL l0 ∧ Wf a1 then some (orderRes l0 a1) else none
theorem moves_Order.calls (A0 : Option Addr) (c0 : Nat) (l0 : List S38) (a1 : Int) (r1 : List S38) (r2 : Int) (w : World) (hr0 : Kd.C k38 w A0 l0.length l0) (hc0 : l0.length ≤ c0) (h : moves_Order.f l0 a1 = some (r1, r2)) :
    Calls Try.prog 9 #[.slice A0 l0.length c0, .int .i64 a1] w fun e w' => ∃ v0_ : Value, e = .returned (.tuple #[v0_, .int .i64 r2]) ∧ Kd.R k38 38 w' w.heap.size (fun _ => True) v0_ r1 ∧ Below w.heap.size w w' := by
  unfold moves_Order.f at h
  split at h
  · rename_i hh
    obtain ⟨h1, h2, h3⟩ := hh
    have h' := Option.some.inj h
    refine (order_calls A0 c0 l0 a1 w hr0 hc0 h2 h3 (by omega)).mono ?_
    rintro e w' ⟨hB, p1, p2, p3⟩
    unfold orderRes at h'
    cases hok : okN l0 l0.length
    · rw [if_pos hok] at h'
      injection h' with e1 e2
      subst e1 e2
      exact ⟨_, p1 hok, Kd.R_nil _ _ _ _ _, hB⟩
    · rw [if_neg (by rw [hok]; simp)] at h'
      cases hany : l0.any (usesSp a1)
      · rw [if_neg (by rw [hany]; simp)] at h'
        injection h' with e1 e2
        subst e1 e2
        obtain ⟨v, he, hv⟩ := p3 hok hany
        exact ⟨v, he, hv, hB⟩
      · rw [if_pos hany] at h'
        injection h' with e1 e2
        subst e1 e2
        exact ⟨_, p2 hok hany, Kd.R_nil _ _ _ _ _, hB⟩
  · cases h
def cycRes (l0 : List S38) : List (List Int) := if okN l0 l0.length = true then cycOf l0 (skeys (tos l0)) else []
def moves_Cycles.f (l0 : List S38) : Option (List (List Int)) := if l0.length ≤ 400000 ∧ WfL l0 then some (cycRes l0) else none
theorem moves_Cycles.calls (A0 : Option Addr) (c0 : Nat) (l0 : List S38) (r : List (List Int)) (w : World) (hr0 : Kd.C k38 w A0 l0.length l0) (hc0 : l0.length ≤ c0) (h : moves_Cycles.f l0 = some r) :
    Calls Try.prog 15 #[.slice A0 l0.length c0] w fun e w' => ∃ v0_ : Value, e = .returned (v0_) ∧ Kd.S (Kd.slice 3 (Kd.int .i64)) 43 w' w.heap.size (fun _ => True) v0_ r ∧ Below w.heap.size w w' := by
  unfold moves_Cycles.f at h
  split at h
  · rename_i hh
    obtain rfl := Option.some.inj h
    refine (cycles_calls A0 c0 l0 w hr0 hh.2 (by omega)).mono ?_
    rintro e w' ⟨hB, v, out, he, hv, p1, p2⟩
    unfold cycRes
    cases hok : okN l0 l0.length
    · rw [if_neg (by simp), ← p1 hok]
      exact ⟨v, he, hv, hB⟩
    · rw [if_pos rfl]
      obtain ⟨ks, hr, hm, rfl⟩ := p2 hok
      have : ks = skeys (tos l0) := rising_eq hr (skeys_rising _) fun k => by rw [hm, skeys_mem, fromF_tos, decide_eq_true_eq]
      rw [← this]
      exact ⟨v, he, hv, hB⟩
  · cases h
def moves_AtOnce.f (l0 : List S38) (l1 : List S42) : Option (List S42) := if l0.length ≤ 400000 ∧ l1.length ≤ 400000 ∧ WfL l0 ∧ WfH l1 then some (if okN l0 l0.length = true then onceRows l0 l1 else []) else none
theorem moves_AtOnce.calls (A0 : Option Addr) (c0 : Nat) (l0 : List S38) (A1 : Option Addr) (c1 : Nat) (l1 : List S42) (r : List S42) (w : World) (hr0 : Kd.C k38 w A0 l0.length l0) (hc0 : l0.length ≤ c0) (hr1 : Kd.C k42 w A1 l1.length l1) (hc1 : l1.length ≤ c1) (h : moves_AtOnce.f l0 l1 = some r) :
    Calls Try.prog 18 #[.slice A0 l0.length c0, .slice A1 l1.length c1] w fun e w' => ∃ v0_ : Value, e = .returned (v0_) ∧ Kd.R k42 42 w' w.heap.size (fun _ => True) v0_ r ∧ Below w.heap.size w w' := by
  unfold moves_AtOnce.f at h
  split at h
  · rename_i hh
    obtain ⟨h1, h2, h3, h4⟩ := hh
    obtain rfl := Option.some.inj h
    refine (once_calls A0 A1 c0 c1 l0 l1 w hr0 hr1 h3 h4 h1 h2).mono ?_
    rintro e w' ⟨p1, p2⟩
    cases hok : okN l0 l0.length
    · obtain ⟨rfl, hB⟩ := p1 hok
      rw [if_neg (by simp)]
      exact ⟨_, rfl, Kd.R_nil _ _ _ _ _, hB⟩
    · obtain ⟨v, out, he, hv, hro, _, hB⟩ := p2 hok
      rw [if_pos rfl]
      have := rowsOf_eq hro (skeys_rising _) (once_keys l0 l1)
      unfold onceRows heldKeys
      rw [← this]
      exact ⟨v, he, hv, hB⟩
  · cases h
def moves_OneByOne.f (l0 : List S38) (l1 : List S42) : Option (List S42) := if l0.length ≤ 400000 ∧ l1.length ≤ 400000 ∧ WfL l0 ∧ WfH l1 then some (oneRows l0 l1) else none
theorem moves_OneByOne.calls (A0 : Option Addr) (c0 : Nat) (l0 : List S38) (A1 : Option Addr) (c1 : Nat) (l1 : List S42) (r : List S42) (w : World) (hr0 : Kd.C k38 w A0 l0.length l0) (hc0 : l0.length ≤ c0) (hr1 : Kd.C k42 w A1 l1.length l1) (hc1 : l1.length ≤ c1) (h : moves_OneByOne.f l0 l1 = some r) :
    Calls Try.prog 20 #[.slice A0 l0.length c0, .slice A1 l1.length c1] w fun e w' => ∃ v0_ : Value, e = .returned (v0_) ∧ Kd.R k42 42 w' w.heap.size (fun _ => True) v0_ r ∧ Below w.heap.size w w' := by
  unfold moves_OneByOne.f at h
  split at h
  · rename_i hh
    obtain ⟨h1, h2, h3, h4⟩ := hh
    obtain rfl := Option.some.inj h
    refine (one_calls A0 A1 c0 c1 l0 l1 w hr0 hr1 h3 h4 h1 h2).mono ?_
    rintro e w' ⟨v, out, he, hv, hro, _, hB⟩
    have := rowsOf_eq hro (skeys_rising _) (one_keys l0 l1)
    unfold oneRows heldKeys
    rw [← this]
    exact ⟨v, he, hv, hB⟩
  · cases h
end Go.Proofs.Ytkfopphcgjdcaaa.A

/- The plain laws of moves: what is held, circles, how many there are. -/
namespace Go.Proofs.Ytkfopphcgjdcaaa.A
open Go.RowKit Go.Maps Go.Proofs.YtkfopphcgjdcaaaW.PrintWords Go.Proofs.YtkfopphcgjdcaaaW.PrintLast Go.Shelf
set_option linter.unusedVariables false
set_option linter.unusedSimpArgs false

/-! with enough rounds -/
def Evt {α : Type} (g : Nat → Option α) (r : α) : Prop := ∃ K, ∀ k, K ≤ k → g k = some r
theorem Evt.const {α : Type} {x : Option α} {r : α} (h : x = some r) : Evt (fun _ => x) r := ⟨0, fun _ _ => h⟩
theorem Evt.step {α : Type} {f g : Nat → Option α} {r : α} (h : Evt g r) (e : ∀ k, f (k + 1) = g k) : Evt f r := by
  obtain ⟨K, h⟩ := h
  refine ⟨K + 1, fun k hk => ?_⟩
  obtain ⟨j, rfl⟩ : ∃ j, k = j + 1 := ⟨k - 1, by omega⟩
  rw [e]; exact h j (by omega)
theorem Evt.congr {α : Type} {f g : Nat → Option α} {r : α} (h : Evt g r) (e : ∀ k, f k = g k) : Evt f r := by
  obtain ⟨K, h⟩ := h
  exact ⟨K, fun k hk => (e k).trans (h k hk)⟩
theorem Evt.bind {α β : Type} {g : Nat → Option α} {h : Nat → α → Option β} {x : α} {r : β} (h1 : Evt g x) (h2 : Evt (fun k => h k x) r) : Evt (fun k => (g k).bind (h k)) r := by
  obtain ⟨K1, h1⟩ := h1
  obtain ⟨K2, h2⟩ := h2
  refine ⟨K1 + K2, fun k hk => ?_⟩
  show (g k).bind (h k) = _
  rw [h1 k (by omega)]
  exact h2 k (by omega)
theorem Evt.get {α : Type} {g : Nat → Option α} {r : α} (h : Evt g r) : ∃ k, g k = some r := by
  obtain ⟨K, h⟩ := h
  exact ⟨K, h K (Nat.le_refl _)⟩

theorem w64 {n : Int} (h1 : -1000000000000 ≤ n) (h2 : n ≤ 1000000000000) : wrap64 n = n := by unfold wrap64; omega

/-! lookup -/
theorem fromF_lk {l : List S38} (hn : (tos l).Nodup) (k : Int) : fromF l k = lk l k := by
  suffices H : ∀ f : Int → Option Int, l.foldl (fun f x => upd f x.f0 x.f1) f k = match lk l k with | some y => some y | none => f k by
    have := H (fun _ => none)
    unfold fromF; rw [this]; cases lk l k <;> rfl
  induction l with
  | nil => intro f; rfl
  | cons c l ih =>
    intro f
    have hn' := List.nodup_cons.1 (show (c.f0 :: tos l).Nodup from hn)
    rw [List.foldl_cons, ih hn'.2]
    unfold lk
    rw [List.find?_cons]
    by_cases e : c.f0 = k
    · subst e
      have h0 := lk_none hn'.1
      unfold lk at h0
      rw [h0]
      simp [upd]
    · simp only [e, decide_false]
      cases (l.find? fun c => decide (c.f0 = k)).map (·.f1) with
      | some y => rfl
      | none =>
        have e' : ¬ k = c.f0 := fun h => e h.symm
        simp [upd, e']
theorem fromF_eq {l : List S38} (hn : (tos l).Nodup) : fromF l = lk l := funext (fromF_lk hn)

/-! going round: circle says what Circ says -/
theorem itf_add (f : Int → Option Int) (t : Int) (a : Nat) : ∀ b, itf f t (a + b) = (itf f t a).bind fun x => itf f x b
  | 0 => by cases itf f t a <;> rfl
  | b + 1 => by
    rw [Nat.add_succ, itf, itf_add f t a b]
    cases itf f t a <;> rfl
def seqOf (f : Int → Option Int) (t : Int) (j : Nat) : List Int := (List.range j).map fun i => (itf f t (i + 1)).getD 0
theorem seqOf_succ (f : Int → Option Int) (t : Int) (j : Nat) : seqOf f t (j + 1) = seqOf f t j ++ [(itf f t (j + 1)).getD 0] := by simp [seqOf, List.range_succ]
theorem seqOf_length (f : Int → Option Int) (t : Int) (j : Nat) : (seqOf f t j).length = j := by simp [seqOf]

theorem circGo_some {f : Int → Option Int} {t : Int} {m n : Nat} (hm : 2 ≤ m) (hr : itf f t m = some t) (hb : ∀ j, 0 < j → j < m → ∃ x, itf f t j = some x ∧ t < x) (hn : m ≤ n + 2) :
    ∀ (d j fuel : Nat), m = j + 1 + d → d < fuel → circGo f n t fuel (itf f t (j + 1)) (seqOf f t j) = some (t :: (seqOf f t (m - 1)).reverse)
  | 0, j, 0, hj, hf => by omega
  | 0, j, fuel + 1, hj, hf => by
    obtain rfl : m = j + 1 := by omega
    rw [hr]
    unfold circGo
    simp only [if_true]
    have : seqOf f t j ≠ [] := fun e => by have := seqOf_length f t j; rw [e] at this; simp at this; omega
    rw [if_neg this]
    rfl
  | d + 1, j, 0, hj, hf => by omega
  | d + 1, j, fuel + 1, hj, hf => by
    obtain ⟨x, hx, hlt⟩ := hb (j + 1) (by omega) (by omega)
    have ih := circGo_some hm hr hb hn d (j + 1) fuel (by omega) (by omega)
    rw [hx]
    unfold circGo
    simp only
    rw [if_neg (by omega), if_neg (by omega), if_neg (by rw [seqOf_length]; omega)]
    rw [seqOf_succ, hx, show itf f t (j + 1 + 1) = f x by rw [itf, hx]; rfl] at ih
    exact ih
theorem circGo_back {f : Int → Option Int} {t : Int} {n : Nat} : ∀ (fuel j : Nat) (r : List Int), (∀ i, 0 < i → i ≤ j → ∃ x, itf f t i = some x ∧ t < x) →
    circGo f n t fuel (itf f t (j + 1)) (seqOf f t j) = some r → ∃ m, 2 ≤ m ∧ itf f t m = some t ∧ (∀ i, 0 < i → i < m → ∃ x, itf f t i = some x ∧ t < x) ∧ r = t :: (seqOf f t (m - 1)).reverse
  | 0, j, r, hb, h => by simp [circGo] at h
  | fuel + 1, j, r, hb, h => by
    cases hc : itf f t (j + 1) with
    | none => rw [hc] at h; simp [circGo] at h
    | some x =>
      rw [hc] at h
      unfold circGo at h
      simp only at h
      by_cases hx : x = t
      · rw [if_pos hx] at h
        by_cases he : seqOf f t j = []
        · rw [if_pos he] at h; cases h
        · rw [if_neg he] at h
          have h' := Option.some.inj h
          have hj : 1 ≤ j := by
            rcases Nat.eq_zero_or_pos j with e | e
            · subst e; exact absurd rfl he
            · exact e
          exact ⟨j + 1, by omega, by rw [hc, hx], fun i h1 h2 => hb i h1 (by omega), h'.symm⟩
      · rw [if_neg hx] at h
        by_cases hlt : x < t
        · rw [if_pos hlt] at h; cases h
        · rw [if_neg hlt] at h
          split at h
          · cases h
          · have e1 : f x = itf f t (j + 1 + 1) := by rw [itf, hc]; rfl
            have e2 : seqOf f t j ++ [x] = seqOf f t (j + 1) := by rw [seqOf_succ, hc]; rfl
            rw [e1, e2] at h
            exact circGo_back fuel (j + 1) r (fun i h1 h2 => by
              by_cases e : i = j + 1
              · subst e; exact ⟨x, hc, by omega⟩
              · exact hb i h1 (by omega)) h
/-- a circle is no longer than there are Tos -/
theorem circ_short {l : List S38} {t : Int} {m : Nat} (hm : 2 ≤ m) (hr : itf (lk l) t m = some t) (hb : ∀ j, 0 < j → j < m → ∃ x, itf (lk l) t j = some x ∧ t < x) : m ≤ l.length := by
  have hx : ∀ i, i < m → ∃ x, itf (lk l) t i = some x ∧ x ∈ tos l := fun i hi => by
    have h0 : ∃ x, itf (lk l) t i = some x := by
      rcases Nat.eq_zero_or_pos i with e | e
      · subst e; exact ⟨t, rfl⟩
      · obtain ⟨x, h, _⟩ := hb i e hi; exact ⟨x, h⟩
    obtain ⟨x, h0⟩ := h0
    refine ⟨x, h0, ?_⟩
    have h1 : ∃ y, itf (lk l) t (i + 1) = some y := by
      by_cases e : i + 1 = m
      · rw [e]; exact ⟨t, hr⟩
      · obtain ⟨y, h, _⟩ := hb (i + 1) (by omega) (by omega); exact ⟨y, h⟩
    obtain ⟨y, h1⟩ := h1
    rw [itf, h0, Option.bind_some] at h1
    obtain ⟨c, hc, e, _⟩ := lk_some h1
    exact List.mem_map.2 ⟨c, hc, e⟩
  have hdist : ∀ a b, a < b → b < m → itf (lk l) t a ≠ itf (lk l) t b := fun a b hab hbm he => by
    have e1 : itf (lk l) t (a + (m - b)) = itf (lk l) t (b + (m - b)) := by rw [itf_add, itf_add, he]
    rw [show b + (m - b) = m by omega, hr] at e1
    obtain ⟨x, h1, h2⟩ := hb (a + (m - b)) (by omega) (by omega)
    rw [h1] at e1
    injection e1 with e1
    omega
  have hl : (tos l).length = l.length := by simp [tos]
  rw [← hl]
  have hnd : ((List.range m).map fun i => (itf (lk l) t i).getD 0).Nodup := by
    rw [List.Nodup, List.pairwise_map]
    refine List.Pairwise.imp_of_mem (fun {a b} ha hb' hab e => ?_) List.pairwise_lt_range
    rw [List.mem_range] at ha hb'
    obtain ⟨x, h1, _⟩ := hx a ha
    obtain ⟨y, h2, _⟩ := hx b hb'
    rw [h1, h2] at e
    exact hdist a b hab hb' (by rw [h1, h2]; exact congrArg some e)
  have := List.Nodup.length_le_of_subset hnd (l₂ := tos l) (fun y hy => by
    obtain ⟨i, hi, rfl⟩ := List.mem_map.1 hy
    obtain ⟨x, h1, h2⟩ := hx i (List.mem_range.1 hi)
    rw [h1]; exact h2)
  simpa using this
theorem circOf_circ {l : List S38} {t : Int} (hc : Circ (lk l) t) : ∃ m, 2 ≤ m ∧ m ≤ l.length ∧ itf (lk l) t m = some t ∧ circOf (lk l) l.length t = some (t :: (seqOf (lk l) t (m - 1)).reverse) := by
  obtain ⟨m, hm, hr, hb⟩ := hc
  have hs := circ_short hm hr hb
  refine ⟨m, hm, hs, hr, ?_⟩
  have := circGo_some hm hr hb (n := l.length) (by omega) (m - 1) 0 (l.length + 3) (by omega) (by omega)
  exact this
theorem circOf_iff {l : List S38} {t : Int} : (circOf (lk l) l.length t).isSome = true ↔ Circ (lk l) t := by
  constructor
  · intro h
    obtain ⟨r, hr⟩ := Option.isSome_iff_exists.1 h
    obtain ⟨m, h1, h2, h3, _⟩ := circGo_back (l.length + 3) 0 r (fun i h1 h2 => by omega) hr
    exact ⟨m, h1, h2, h3⟩
  · intro h
    obtain ⟨m, _, _, _, he⟩ := circOf_circ h
    rw [he]; rfl
theorem filterMap_len {α β : Type} (f : α → Option β) : ∀ l : List α, (l.filterMap f).length = l.countP fun x => (f x).isSome
  | [] => rfl
  | a :: l => by
    cases h : f a with
    | none => rw [List.filterMap_cons_none h, List.countP_cons_of_neg (by simp [h]), filterMap_len f l]
    | some b => rw [List.filterMap_cons_some h, List.countP_cons_of_pos (by simp [h]), List.length_cons, filterMap_len f l]
theorem skeys_perm {l : List Int} (hn : l.Nodup) : (skeys l).Perm l := by
  refine perm_of_sub hn (fun x hx => (skeys_mem x l).2 hx) ?_
  exact List.Nodup.length_le_of_subset ((skeys_rising l).imp (fun h e => by omega)) (fun x hx => (skeys_mem x l).1 hx)
theorem cyc_len {l : List S38} (hn : (tos l).Nodup) : (cycOf l (skeys (tos l))).length = circs l := by
  unfold cycOf circs
  rw [filterMap_len, (skeys_perm hn).countP_eq]
  apply List.countP_congr
  intro t _
  rw [fromF_eq hn]
  exact circOf_iff.trans (by simp)
/-- moves to themselves are in no circle -/
theorem circs_waits {l : List S38} (hn : (tos l).Nodup) : circs l = circs (waitsOf l) := by
  have hsub : ∀ c ∈ waitsOf l, c ∈ l := fun c hc => (List.mem_filter.1 hc).1
  have hnW : (tos (waitsOf l)).Nodup := List.Nodup.sublist (List.Sublist.map _ List.filter_sublist) hn
  have h1 : ∀ x y, lk (waitsOf l) x = some y → lk l x = some y := fun x y h => by
    obtain ⟨c, hc, rfl, rfl⟩ := lk_some h
    exact lk_mem hn (hsub c hc)
  have h2 : ∀ x y, lk l x = some y → y ≠ x → lk (waitsOf l) x = some y := fun x y h hne => by
    obtain ⟨c, hc, rfl, rfl⟩ := lk_some h
    refine lk_mem hnW (List.mem_filter.2 ⟨hc, ?_⟩)
    unfold own_
    simpa using fun e => hne e.symm
  have hown : ∀ t, lk l t = some t → ¬ Circ (lk l) t := fun t h ⟨m, hm, hr, hb⟩ => by
    obtain ⟨x, hx, hlt⟩ := hb 1 (by omega) (by omega)
    rw [show itf (lk l) t 1 = lk l t from rfl, h] at hx
    injection hx with hx
    omega
  have hiff : ∀ t, Circ (lk l) t ↔ Circ (lk (waitsOf l)) t := fun t => by
    constructor
    · rintro ⟨m, hm, hr, hb⟩
      have hno : ∀ j x, j < m → itf (lk l) t j = some x → lk l x ≠ some x := fun j x hj hx he => by
        have hst : ∀ i, itf (lk l) t (j + i) = some x := by
          intro i
          induction i with
          | zero => exact hx
          | succ i ih => rw [Nat.add_succ, itf, ih]; exact he
        have hxm := hst (m - j)
        rw [show j + (m - j) = m by omega, hr] at hxm
        injection hxm with hxm
        subst hxm
        exact hown t he ⟨m, hm, hr, hb⟩
      have hk : ∀ j, j ≤ m → itf (lk (waitsOf l)) t j = itf (lk l) t j := by
        intro j
        induction j with
        | zero => intro _; rfl
        | succ j ih =>
          intro hj
          rw [itf, itf, ih (by omega)]
          have hs : ∃ x, itf (lk l) t j = some x := by
            rcases Nat.eq_zero_or_pos j with e | e
            · subst e; exact ⟨t, rfl⟩
            · obtain ⟨x, h, _⟩ := hb j e (by omega); exact ⟨x, h⟩
          obtain ⟨x, hx⟩ := hs
          have hs2 : ∃ y, itf (lk l) t (j + 1) = some y := by
            by_cases e : j + 1 = m
            · rw [e]; exact ⟨t, hr⟩
            · obtain ⟨y, h, _⟩ := hb (j + 1) (by omega) (by omega); exact ⟨y, h⟩
          obtain ⟨y, hy⟩ := hs2
          rw [itf, hx, Option.bind_some] at hy
          rw [hx, Option.bind_some, Option.bind_some, hy]
          exact h2 x y hy (fun e => hno j x (by omega) hx (by rw [hy, e]))
      exact ⟨m, hm, by rw [hk m (Nat.le_refl _)]; exact hr, fun j h3 h4 => by rw [hk j (by omega)]; exact hb j h3 h4⟩
    · rintro ⟨m, hm, hr, hb⟩
      have hk : ∀ j x, itf (lk (waitsOf l)) t j = some x → itf (lk l) t j = some x := by
        intro j
        induction j with
        | zero => intro x h; exact h
        | succ j ih =>
          intro x h
          rw [itf, Option.bind_eq_some_iff] at h
          obtain ⟨y, hy, hx⟩ := h
          rw [itf, ih y hy]
          exact h1 y x hx
      exact ⟨m, hm, hk m t hr, fun j h3 h4 => by obtain ⟨x, hx, hlt⟩ := hb j h3 h4; exact ⟨x, hk j x hx, hlt⟩⟩
  unfold circs
  -- those that are left out count for nothing
  have hsplit : ∀ l' : List S38, (∀ c ∈ l', c ∈ l) → (tos l').countP (fun t => @decide (Circ (lk l) t) (Classical.propDecidable _)) = (tos (l'.filter fun x => !own_ x)).countP (fun t => @decide (Circ (lk l) t) (Classical.propDecidable _)) := by
    intro l'
    induction l' with
    | nil => intro _; rfl
    | cons c l' ih =>
      intro hs
      have ih' := ih (fun d hd => hs d (by simp [hd]))
      unfold tos at ih' ⊢
      rw [List.filter_cons]
      by_cases ho : own_ c = true
      · rw [if_neg (by simp [ho]), List.map_cons, List.countP_cons_of_neg, ih']
        have : c.f0 = c.f1 := by unfold own_ at ho; simpa using ho
        have hl := lk_mem hn (hs c (by simp))
        rw [← this] at hl
        simpa using hown c.f0 hl
      · rw [if_pos (by simp [ho]), List.map_cons, List.map_cons, List.countP_cons, List.countP_cons, ih']
  rw [hsplit l (fun c hc => hc)]
  apply List.countP_congr
  intro t _
  simp [hiff t]
#print axioms circs_waits
#print axioms cyc_len
end Go.Proofs.Ytkfopphcgjdcaaa.A

/- '==' of arrays of two numbers. -/
namespace Go.Proofs.Ytkfopphcgjdcaaa.A
open Go.RowKit Go.Proofs.YtkfopphcgjdcaaaW.PrintWords Go.Proofs.YtkfopphcgjdcaaaW.PrintLast Go.Proofs.YtkfopphcgjdcaaaW.PrintMore
set_option linter.unusedVariables false
set_option linter.unusedSimpArgs false

theorem eqA42 (d : Nat) (w : World) (x0 y0 : Int) (x1 y1 : Int) :
    (Op.equalIn (d + 2) 42 (.agg #[.int .i64 x0, .int .i64 x1]) (.agg #[.int .i64 y0, .int .i64 y1])).run Try.prog w = .ok (x0 == y0 && (x1 == y1)) w := by
  have hs : (sizeOf 3).run Try.prog w = .ok 1 w := by kernel_rfl
  have hp : Try.prog.stoodInHeld 42 = false := by kernel_rfl
  have h0 : (Op.equalIn (d + 1) 3 (.int .i64 x0) (.int .i64 y0)).run Try.prog w = .ok (x0 == y0) w := by go_simp
  have h1 : (Op.equalIn (d + 1) 3 (.int .i64 x1) (.int .i64 y1)).run Try.prog w = .ok (x1 == y1) w := by go_simp
  have a0 : (part 3 #[.int .i64 x0, .int .i64 x1] (0 * 1)).run Try.prog w = .ok (.int .i64 x0) w := by go_simp
  have a1 : (part 3 #[.int .i64 x0, .int .i64 x1] (1 * 1)).run Try.prog w = .ok (.int .i64 x1) w := by go_simp
  have b0 : (part 3 #[.int .i64 y0, .int .i64 y1] (0 * 1)).run Try.prog w = .ok (.int .i64 y0) w := by go_simp
  have b1 : (part 3 #[.int .i64 y0, .int .i64 y1] (1 * 1)).run Try.prog w = .ok (.int .i64 y1) w := by go_simp
  generalize hq : (fun t x y => Op.equalIn (d + 1) t x y) = q
  have hq' : ∀ t x y, Op.equalIn (d + 1) t x y = q t x y := fun t x y => by rw [← hq]
  rw [hq'] at h0 h1
  rw [Op.equalIn]
  simp only [hq']
  simp only [Sem.run_bind, run_underlying Try.underlying42, Result.andThen_ok, run_program, hp, Bool.false_eq_true, if_false, hs]
  simp only [Std.Legacy.Range.forIn_eq_forIn_range', Std.Legacy.Range.size, Nat.sub_zero, Nat.reduceAdd, Nat.reduceSub, Nat.div_one, List.range'_succ, List.range'_zero, List.forIn_cons, List.forIn_nil, Sem.run_bind, a0, a1, b0, b1, h0, h1, Result.andThen_ok]
  simp only [Nat.one_mul, Nat.mul_one, Nat.zero_mul] at a0 a1 b0 b1
  generalize hA : (x0 == y0) = A at *
  generalize hB : (x1 == y1) = B at *
  cases A <;> cases B <;> simp [a1, b1, h1]
end Go.Proofs.Ytkfopphcgjdcaaa.A

/- What the machine does at this function, and a plain Lean function that says the same: written by a program for this claim; Lean checks it. -/
namespace Go.Proofs.Ytkfopphcgjdcaaa.A
open Go.RowKit Go.Proofs.YtkfopphcgjdcaaaW.PrintWords Go.Proofs.YtkfopphcgjdcaaaW.PrintLast Go.Proofs.YtkfopphcgjdcaaaW.PrintMore
attribute [local go_sem] max2_int min2_int max_two min_two max_three min_three max_four min_four   -- for this text's walks alone
set_option linter.unusedVariables false
set_option linter.unusedSimpArgs false

attribute [local go_sem high] eqA42
/-! ### swageref05_Pairs: function 17 -/
def swageref05_Pairs.l0 : Nat → List (S42) → List (S42) → Int → Option (Bool)
  | 0, _, _, _ => none
  | k + 1, x0, x1, x5 => if x5 < (x0.length : Int) then (if 0 ≤ x5 then (if x5 < (x1.length : Int) then (if (!(((rd_T42 x0 x5).f0) == ((rd_T42 x1 x5).f0)) || (!(((rd_T42 x0 x5).f1) == ((rd_T42 x1 x5).f1)))) = true then (some false) else (swageref05_Pairs.l0 k x0 x1 (wrap64 (x5 + 1)))) else (none)) else (none)) else (some true)
def swageref05_Pairs.f (k : Nat) (l0 : List (S42)) (l1 : List (S42)) : Option (Bool) := if (l0.length : Int) = (l1.length : Int) then (swageref05_Pairs.l0 k l0 l1 0) else (some false)
theorem swageref05_Pairs.mono_l : ∀ k, (∀ y0 y1 y2, LeO (swageref05_Pairs.l0 k y0 y1 y2) (swageref05_Pairs.l0 (k + 1) y0 y1 y2))
  | 0 => fun _ _ _ r h => by simp [swageref05_Pairs.l0] at h
  | k + 1 => by
    have ih0 := swageref05_Pairs.mono_l k
    · intro y0 y1 y2
      unfold swageref05_Pairs.l0
      repeat' first
      | (with_reducible exact ih0 _ _ _)
      | (with_reducible exact LeO.refl _)
      | (with_reducible exact LeO.none _)
      | (with_reducible refine LeO.ite ?_ ?_)
      | (with_reducible refine LeO.bind ?_ (fun _ => ?_))
      | exact ih0 _ _ _
      | exact LeO.none _
      | refine LeO.ite ?_ ?_
      | refine LeO.bind ?_ (fun _ => ?_)
theorem swageref05_Pairs.mono : ∀ a0 a1 k, LeO (swageref05_Pairs.f k a0 a1) (swageref05_Pairs.f (k + 1) a0 a1) := by
  intro a0 a1 k
  have ih0 := swageref05_Pairs.mono_l k
  unfold swageref05_Pairs.f
  repeat' first
      | (with_reducible exact ih0 _ _ _)
      | (with_reducible exact LeO.refl _)
      | (with_reducible exact LeO.none _)
      | (with_reducible refine LeO.ite ?_ ?_)
      | (with_reducible refine LeO.bind ?_ (fun _ => ?_))
      | exact ih0 _ _ _
      | exact LeO.none _
      | refine LeO.ite ?_ ?_
      | refine LeO.bind ?_ (fun _ => ?_)
set_option maxHeartbeats 8000000 in
set_option maxRecDepth 100000 in
theorem swageref05_Pairs.calls (k : Nat) (A0 : Option Addr) (c0 : Nat) (l0 : List (S42)) (A1 : Option Addr) (c1 : Nat) (l1 : List (S42)) (r : Bool) (w : World) (hr0 : Kd.C k42 w A0 l0.length l0) (hc0 : l0.length ≤ c0) (hr1 : Kd.C k42 w A1 l1.length l1) (hc1 : l1.length ≤ c1) (h : swageref05_Pairs.f k l0 l1 = some r) :
    Calls Try.prog 17 #[.slice A0 l0.length c0, .slice A1 l1.length c1] w fun e w' => e = .returned (.bool r) ∧ Drawn0 w w' := by
  have hu42 := Try.underlying42
  have HR0 := Aside0.mk hr0
  have HC0 := Aside0.mk hc0
  clear hr0 hc0
  have HR1 := Aside0.mk hr1
  have HC1 := Aside0.mk hc1
  clear hr1 hc1
  have H : (if (l0.length : Int) = (l1.length : Int) then (swageref05_Pairs.l0 k l0 l1 0) else (some false)) = some r := h
  clear h
  by_cases c3 : (l0.length : Int) = (l1.length : Int)
  · rw [if_pos c3] at H
    have c3b0 : ((l0.length : Int) == (l1.length : Int)) = true := beq_iff_eq.mpr c3
    have c3b1 : ((l0.length : Int) != (l1.length : Int)) = false := bne_eq_false_iff_eq.mpr c3
    have c3b2 : (l0.length == l1.length) = true := by first | simpa using c3 | (simp at c3 ⊢; omega)
    clear c3
    have H' := Aside0.mk H
    clear H
    go_enter Try.func17, Try.ntmps17
    go_wp2
    repeat (go_quiet (fail); try go_wp2)
    go_loopg [5] k (fun kq v5 w' => ∃ (x5_1 : Int), v5 = .int .i64 x5_1 ∧ Aside0 (swageref05_Pairs.l0 kq l0 l1 x5_1 = some r) ∧ Aside0 (kq ≤ k) ∧ Drawn0 w w')
    case atStart => exact ⟨(0), (by first | rfl | (simp; done) | (simp [*]; done)), H', ⟨Nat.le_refl _⟩, by repeat (first | exact Drawn0.refl _ | apply Drawn0.step)⟩
    case round =>
      clear H'
      try clear c1
      try clear p2
      try clear c3
      try clear c3b0
      try clear c3b1
      try clear c3b2
      obtain ⟨x5_1, rfl, HA, HK1, ⟨m1, rfl⟩⟩ := hrel
      cases gk with
      | zero => exact absurd HA.out (by simp [swageref05_Pairs.l0])
      | succ k1 =>
        have H := HA.out
        clear HA
        simp only [swageref05_Pairs.l0] at H
        by_cases c4 : x5_1 < (l0.length : Int)
        · rw [if_pos c4] at H
          have c4b0 : decide (x5_1 < (l0.length : Int)) = true := decide_eq_true c4
          clear c4
          by_cases c5 : 0 ≤ x5_1
          · rw [if_pos c5] at H
            have c5b0 : decide (0 ≤ x5_1) = true := decide_eq_true c5
            clear c5
            by_cases c6 : x5_1 < (l1.length : Int)
            · rw [if_pos c6] at H
              have c6b0 : decide (x5_1 < (l1.length : Int)) = true := decide_eq_true c6
              clear c6
              by_cases c7 : (!(((rd_T42 l0 x5_1).f0) == ((rd_T42 l1 x5_1).f0)) || (!(((rd_T42 l0 x5_1).f1) == ((rd_T42 l1 x5_1).f1)))) = true
              · rw [if_pos c7] at H
                have c7b0 : (!(((rd_T42 l0 x5_1).f0) == ((rd_T42 l1 x5_1).f0)) || (!(((rd_T42 l0 x5_1).f1) == ((rd_T42 l1 x5_1).f1)))) = true := c7
                clear c7
                obtain rfl := Option.some.inj H
                have p232 : 0 ≤ (x5_1 : Int) := of_decide_eq_true (by first | (with_reducible assumption) | assumption)
                have q232 : x5_1 < (l0.length : Int) := of_decide_eq_true (by first | (with_reducible assumption) | assumption)
                obtain ⟨ad232, e232, hx232_0, hx232_1⟩ := at_T42 HR0.out x5_1 p232 q232
                cases e232
                replace p232 := eq_true p232
                replace q232 := eq_true q232
                have p233 : 0 ≤ (x5_1 : Int) := of_decide_eq_true (by first | (with_reducible assumption) | assumption)
                have q233 : x5_1 < (l1.length : Int) := of_decide_eq_true (by first | (with_reducible assumption) | assumption)
                obtain ⟨ad233, e233, hx233_0, hx233_1⟩ := at_T42 HR1.out x5_1 p233 q233
                cases e233
                replace p233 := eq_true p233
                replace q233 := eq_true q233
                go_wp2
                repeat (go_quiet (fail); try go_wp2)
                go_ret
                exact ⟨by first | rfl | (simp; done) | (simp [*]; done), by repeat (first | exact Drawn0.refl _ | apply Drawn0.step)⟩
              · rw [if_neg c7] at H
                have c7b0 : (!(((rd_T42 l0 x5_1).f0) == ((rd_T42 l1 x5_1).f0)) || (!(((rd_T42 l0 x5_1).f1) == ((rd_T42 l1 x5_1).f1)))) = false := by simpa using c7
                clear c7
                have H' := Aside0.mk H
                clear H
                have p232 : 0 ≤ (x5_1 : Int) := of_decide_eq_true (by first | (with_reducible assumption) | assumption)
                have q232 : x5_1 < (l0.length : Int) := of_decide_eq_true (by first | (with_reducible assumption) | assumption)
                obtain ⟨ad232, e232, hx232_0, hx232_1⟩ := at_T42 HR0.out x5_1 p232 q232
                cases e232
                replace p232 := eq_true p232
                replace q232 := eq_true q232
                have p233 : 0 ≤ (x5_1 : Int) := of_decide_eq_true (by first | (with_reducible assumption) | assumption)
                have q233 : x5_1 < (l1.length : Int) := of_decide_eq_true (by first | (with_reducible assumption) | assumption)
                obtain ⟨ad233, e233, hx233_0, hx233_1⟩ := at_T42 HR1.out x5_1 p233 q233
                cases e233
                replace p233 := eq_true p233
                replace q233 := eq_true q233
                go_wp2
                repeat (go_quiet (fail); try go_wp2)
                go_roundg k1
                case measure => have := HK1.out; omega
                case rel => exact ⟨(wrap64 (x5_1 + 1)), (by first | rfl | (simp; done) | (simp [*]; done)), H', ⟨by have := HK1.out; omega⟩, by repeat (first | exact Drawn0.refl _ | apply Drawn0.step)⟩
            · rw [if_neg c6] at H
              exact absurd H (by simp)
          · rw [if_neg c5] at H
            exact absurd H (by simp)
        · rw [if_neg c4] at H
          have c4b0 : decide (x5_1 < (l0.length : Int)) = false := decide_eq_false c4
          clear c4
          obtain rfl := Option.some.inj H
          go_wp2
          repeat (go_quiet (fail); try go_wp2)
          go_ret
          exact ⟨by first | rfl | (simp; done) | (simp [*]; done), by repeat (first | exact Drawn0.refl _ | apply Drawn0.step)⟩
  · rw [if_neg c3] at H
    have c3b0 : ((l0.length : Int) == (l1.length : Int)) = false := beq_eq_false_iff_ne.mpr c3
    have c3b1 : ((l0.length : Int) != (l1.length : Int)) = true := bne_iff_ne.mpr c3
    have c3b2 : (l0.length == l1.length) = false := by first | simpa using c3 | (simp at c3 ⊢; omega)
    obtain rfl := Option.some.inj H
    go_enter Try.func17, Try.ntmps17
    go_wp2
    repeat (go_quiet (fail); try go_wp2)
    go_ret
    exact ⟨by first | rfl | (simp; done) | (simp [*]; done), by repeat (first | exact Drawn0.refl _ | apply Drawn0.step)⟩

end Go.Proofs.Ytkfopphcgjdcaaa.A

/- What is held, and small facts on the printed functions. -/
namespace Go.Proofs.Ytkfopphcgjdcaaa.A
open Go.RowKit Go.Maps Go.Proofs.YtkfopphcgjdcaaaW.PrintWords Go.Proofs.YtkfopphcgjdcaaaW.PrintLast Go.Shelf
set_option linter.unusedVariables false
set_option linter.unusedSimpArgs false

/-! what is held -/
theorem holdF_find (l : List S42) (k : Int) : holdF l k = (l.find? fun x => decide (x.f0 = k)).map (·.f1) := by
  suffices H : ∀ f : Int → Option Int, l.foldl (fun f x => if (f x.f0).isSome then f else upd f x.f0 x.f1) f k = match f k with | some v => some v | none => (l.find? fun x => decide (x.f0 = k)).map (·.f1) from H _
  induction l with
  | nil => intro f; cases h : f k <;> simp [h]
  | cons x l ih =>
    intro f
    rw [List.foldl_cons, ih, List.find?_cons]
    by_cases e : x.f0 = k
    · subst e
      cases h : f x.f0 with
      | some v => simp [h]
      | none => simp [upd]
    · have e' : ¬ k = x.f0 := fun h => e h.symm
      simp only [e, decide_false]
      by_cases hs : (f x.f0).isSome = true
      · rw [if_pos hs]
      · rw [if_neg hs]; simp [upd, e']
theorem holdF_of {l : List S42} {f : Int → Option Int} {sp : Int} (h : ∀ x : S42, x ∈ l ↔ f x.f0 = some x.f1 ∧ x.f0 ≠ sp) (k : Int) : holdF l k = if k = sp then none else f k := by
  rw [holdF_find]
  cases hf : l.find? (fun x => decide (x.f0 = k)) with
  | some x =>
    have hm := (h x).1 (List.mem_of_find?_eq_some hf)
    have hp : x.f0 = k := by simpa using List.find?_some hf
    subst hp
    rw [if_neg hm.2, hm.1]; rfl
  | none =>
    by_cases e : k = sp
    · rw [if_pos e]; rfl
    · rw [if_neg e]
      cases hv : f k with
      | none => rfl
      | some v =>
        have := List.find?_eq_none.1 hf ⟨k, v⟩ ((h ⟨k, v⟩).2 ⟨hv, e⟩)
        simp at this
theorem rowF_mem {f : Int → Option Int} {ks : List Int} (hm : ∀ k, k ∈ ks ↔ (f k).isSome = true) (x : S42) : x ∈ rowF f ks ↔ f x.f0 = some x.f1 := by
  unfold rowF
  rw [List.mem_map]
  constructor
  · rintro ⟨k, hk, rfl⟩
    obtain ⟨v, hv⟩ := Option.isSome_iff_exists.1 ((hm k).1 hk)
    simp [hv]
  · intro hx
    exact ⟨x.f0, (hm _).2 (by rw [hx]; rfl), by rw [hx]; rfl⟩
theorem touch {own : List S38} (ho : ∀ c ∈ own, c.f0 = c.f1) (g : Int → Option Int) (k : Int) : oneF g own k = if k ∈ tos own then some ((g k).getD 0) else g k := by
  unfold oneF
  induction own generalizing g with
  | nil => simp [tos]
  | cons c own ih =>
    rw [List.foldl_cons, ih (fun d hd => ho d (by simp [hd]))]
    have hc := ho c (by simp)
    unfold tos upd
    simp only [List.map_cons, List.mem_cons, ← hc]
    by_cases h1 : k = c.f0
    · subst h1; simp
    · simp [h1]
def ownOf (l : List S38) : List S38 := l.filter own_
theorem ord_length {l : List S38} {sp : Int} (hn : (tos l).Nodup) (hs : l.any (usesSp sp) = false) : (ordOf sp l).length + (ownOf l).length = l.length + (cycOf l (skeys (tos l))).length := by
  have hI := inv_of hn hs
  unfold ordOf
  rw [(ordN_count _ hI (Nat.le_refl _)).2, cyc_len hn, circs_waits hn]
  have : l.length = (waitsOf l).length + (ownOf l).length := by
    unfold waitsOf ownOf
    induction l with
    | nil => rfl
    | cons c l ih =>
      have hn' := List.nodup_cons.1 (show (c.f0 :: tos l).Nodup from hn)
      have hs' : l.any (usesSp sp) = false := by
        rw [List.any_cons, Bool.or_eq_false_iff] at hs; exact hs.2
      have := ih hn'.2 hs' (inv_of hn'.2 hs')
      rw [List.filter_cons, List.filter_cons]
      cases own_ c <;> simp <;> omega
  omega

theorem rd42_lt {l : List S42} {i : Nat} (h : i < l.length) : rd_T42 l (i : Int) = l[i] := by unfold rd_T42; simp [h]
theorem rd38_lt {l : List S38} {i : Nat} (h : i < l.length) : rd_T38 l (i : Int) = l[i] := by unfold rd_T38; simp [h]
theorem pairs_l0 (a : List S42) (hl : a.length ≤ 1000000) : ∀ (d i : Nat), i + d = a.length → Evt (fun k => swageref05_Pairs.l0 k a a i) true
  | 0, i, hi => by
    refine Evt.step (Evt.const rfl) fun k => ?_
    unfold swageref05_Pairs.l0
    rw [if_neg (by omega)]
  | d + 1, i, hi => by
    have hlt : i < a.length := by omega
    have ih := pairs_l0 a hl d (i + 1) (by omega)
    refine Evt.step ih fun k => ?_
    conv => lhs; unfold swageref05_Pairs.l0
    simp only [w64 (show (-1000000000000 : Int) ≤ (i : Int) + 1 by omega) (by omega)]
    have h0 : (i : Int) < (a.length : Int) := by omega
    have h1 : (0 : Int) ≤ (i : Int) := by omega
    simp only [h0, h1, if_true, ne_eq, not_true, decide_false, if_false, Bool.false_eq_true]
    simp
theorem pairs_ev (a : List S42) (hl : a.length ≤ 1000000) : Evt (fun k => swageref05_Pairs.f k a a) true := by
  have := pairs_l0 a hl a.length 0 (by omega)
  refine this.congr fun k => ?_
  unfold swageref05_Pairs.f
  rw [if_pos rfl]
  rfl
theorem rowF_wf {f : Int → Option Int} {ks : List Int} (hf : WfF f) (hm : ∀ k, k ∈ ks ↔ (f k).isSome = true) : WfH (rowF f ks) := fun x hx => hf _ _ ((rowF_mem hm x).1 hx)
theorem rising_len {ks l : List Int} (h : Rising ks) (hm : ∀ k ∈ ks, k ∈ l) : ks.length ≤ l.length := List.Nodup.length_le_of_subset (h.imp (fun h e => by omega)) hm
theorem held_len (l : List S38) (h : List S42) : (heldKeys l h).length ≤ h.length + l.length := by
  have := rising_len (skeys_rising (h.map (fun x => x.f0) ++ tos l)) (fun k hk => (skeys_mem k _).1 hk)
  unfold heldKeys
  simpa [tos] using this
theorem ordN_wf {sp : Int} (hs : Wf sp) : ∀ (n : Nat) {w : List S38}, WfL w → WfL (ordN sp n w)
  | 0, w, h => fun x hx => by cases hx
  | n + 1, w, h => by
    cases w with
    | nil => exact fun x hx => by cases hx
    | cons c r =>
      unfold ordN
      cases hf : fIdx (c :: r) with
      | some k =>
        simp only [hf]
        intro x hx
        rcases List.mem_cons.1 hx with rfl | hx
        · refine h _ ?_
          have hk := fIdx_lt hf
          rw [List.getD_eq_getElem?_getD, List.getElem?_eq_getElem hk]
          exact List.getElem_mem _
        · exact ordN_wf hs n (wfl_erase h k) x hx
      | none =>
        simp only [hf]
        intro x hx
        rcases List.mem_cons.1 hx with rfl | hx
        · exact ⟨hs, (h c (by simp)).1⟩
        · exact ordN_wf hs n (wfl_spare h hs) x hx

theorem cyc_small (l : List S38) : (cycRes l).length ≤ l.length := by
  unfold cycRes
  split
  · refine Nat.le_trans (cycOf_len _ _) ?_
    have := rising_len (skeys_rising (tos l)) (fun k hk => (skeys_mem k _).1 hk)
    simpa [tos] using this
  · simp
theorem ownOf_le (l : List S38) (i : Nat) : (ownOf (l.take i)).length ≤ i := by
  have h1 : (ownOf (l.take i)).length ≤ (l.take i).length := List.length_filter_le _ _
  rw [List.length_take] at h1; omega

theorem ores_twice {l : List S38} {sp : Int} (h : okN l l.length = false) : orderRes l sp = ([], 4) := by unfold orderRes; rw [if_pos h]
theorem ores_arg {l : List S38} {sp : Int} (h : okN l l.length = true) (h2 : l.any (usesSp sp) = true) : orderRes l sp = ([], 1) := by unfold orderRes; rw [if_neg (fun e => by rw [h] at e; cases e), if_pos h2]
theorem ores_ok {l : List S38} {sp : Int} (h : okN l l.length = true) (h2 : l.any (usesSp sp) = false) : orderRes l sp = (ordOf sp l, 0) := by unfold orderRes; rw [if_neg (fun e => by rw [h] at e; cases e), if_neg (fun e => by rw [h2] at e; cases e)]
end Go.Proofs.Ytkfopphcgjdcaaa.A

/- What the machine does at this function, and a plain Lean function that says the same: written by a program for this claim; Lean checks it. -/
namespace Go.Proofs.Ytkfopphcgjdcaaa.A
open Go.RowKit Go.Proofs.YtkfopphcgjdcaaaW.PrintWords Go.Proofs.YtkfopphcgjdcaaaW.PrintLast Go.Proofs.YtkfopphcgjdcaaaW.PrintMore
attribute [local go_sem] max2_int min2_int max_two min_two max_three min_three max_four min_four   -- for this text's walks alone
set_option linter.unusedVariables false
set_option linter.unusedSimpArgs false

/-! ### swageref18_Right: function 13 -/
mutual
def swageref18_Right.l0 : Nat → List (S38) → Int → Option (Bool)
  | 0, _, _ => none
  | k + 1, x0, x3 => if x3 < (x0.length : Int) then (swageref18_Right.l1 k x0 x3 0) else (some true)
def swageref18_Right.l1 : Nat → List (S38) → Int → Int → Option (Bool)
  | 0, _, _, _ => none
  | k + 1, x0, x3, x4 => if x4 < x3 then (if 0 ≤ x4 then (if x4 < (x0.length : Int) then (if 0 ≤ x3 then (if x3 < (x0.length : Int) then (if ((rd_T38 x0 x4).f0) = ((rd_T38 x0 x3).f0) then (some false) else (swageref18_Right.l1 k x0 x3 (wrap64 (x4 + 1)))) else (none)) else (none)) else (none)) else (none)) else (swageref18_Right.l0 k x0 (wrap64 (x3 + 1)))
end
def swageref18_Right.f (k : Nat) (l0 : List (S38)) : Option (Bool) := swageref18_Right.l0 k l0 0
theorem swageref18_Right.mono_l : ∀ k, (∀ y0 y1, LeO (swageref18_Right.l0 k y0 y1) (swageref18_Right.l0 (k + 1) y0 y1)) ∧ (∀ y0 y1 y2, LeO (swageref18_Right.l1 k y0 y1 y2) (swageref18_Right.l1 (k + 1) y0 y1 y2))
  | 0 => ⟨fun _ _ r h => by simp [swageref18_Right.l0] at h, fun _ _ _ r h => by simp [swageref18_Right.l1] at h⟩
  | k + 1 => by
    obtain ⟨ih0, ih1⟩ := swageref18_Right.mono_l k
    refine ⟨?_, ?_⟩
    · intro y0 y1
      unfold swageref18_Right.l0
      repeat' first
      | (with_reducible exact ih0 _ _)
      | (with_reducible exact ih1 _ _ _)
      | (with_reducible exact LeO.refl _)
      | (with_reducible exact LeO.none _)
      | (with_reducible refine LeO.ite ?_ ?_)
      | (with_reducible refine LeO.bind ?_ (fun _ => ?_))
      | exact ih0 _ _
      | exact ih1 _ _ _
      | exact LeO.none _
      | refine LeO.ite ?_ ?_
      | refine LeO.bind ?_ (fun _ => ?_)
    · intro y0 y1 y2
      unfold swageref18_Right.l1
      repeat' first
      | (with_reducible exact ih0 _ _)
      | (with_reducible exact ih1 _ _ _)
      | (with_reducible exact LeO.refl _)
      | (with_reducible exact LeO.none _)
      | (with_reducible refine LeO.ite ?_ ?_)
      | (with_reducible refine LeO.bind ?_ (fun _ => ?_))
      | exact ih0 _ _
      | exact ih1 _ _ _
      | exact LeO.none _
      | refine LeO.ite ?_ ?_
      | refine LeO.bind ?_ (fun _ => ?_)
theorem swageref18_Right.mono : ∀ a0 k, LeO (swageref18_Right.f k a0) (swageref18_Right.f (k + 1) a0) := by
  intro a0 k
  obtain ⟨ih0, ih1⟩ := swageref18_Right.mono_l k
  unfold swageref18_Right.f
  repeat' first
      | (with_reducible exact ih0 _ _)
      | (with_reducible exact ih1 _ _ _)
      | (with_reducible exact LeO.refl _)
      | (with_reducible exact LeO.none _)
      | (with_reducible refine LeO.ite ?_ ?_)
      | (with_reducible refine LeO.bind ?_ (fun _ => ?_))
      | exact ih0 _ _
      | exact ih1 _ _ _
      | exact LeO.none _
      | refine LeO.ite ?_ ?_
      | refine LeO.bind ?_ (fun _ => ?_)
set_option maxHeartbeats 8000000 in
set_option maxRecDepth 100000 in
theorem swageref18_Right.calls (k : Nat) (A0 : Option Addr) (c0 : Nat) (l0 : List (S38)) (r : Bool) (w : World) (hr0 : Kd.C k38 w A0 l0.length l0) (hc0 : l0.length ≤ c0) (h : swageref18_Right.f k l0 = some r) :
    Calls Try.prog 13 #[.slice A0 l0.length c0] w fun e w' => e = .returned (.bool r) ∧ Drawn0 w w' := by
  have HR0 := Aside0.mk hr0
  have HC0 := Aside0.mk hc0
  clear hr0 hc0
  have H : (swageref18_Right.l0 k l0 0) = some r := h
  clear h
  have H' := Aside0.mk H
  clear H
  go_enter Try.func13, Try.ntmps13
  go_wp2
  repeat (go_quiet (fail); try go_wp2)
  go_loopg [3] k (fun kq v3 w' => ∃ (x3_1 : Int), v3 = .int .i64 x3_1 ∧ Aside0 (swageref18_Right.l0 kq l0 x3_1 = some r) ∧ Aside0 (kq ≤ k) ∧ Drawn0 w w')
  case atStart => exact ⟨(0), (by first | rfl | (simp; done) | (simp [*]; done)), H', ⟨Nat.le_refl _⟩, by repeat (first | exact Drawn0.refl _ | apply Drawn0.step)⟩
  case round =>
    clear H'
    try clear c1
    obtain ⟨x3_1, rfl, HA, HK1, ⟨m1, rfl⟩⟩ := hrel
    cases gk with
    | zero => exact absurd HA.out (by simp [swageref18_Right.l0])
    | succ k1 =>
      have H := HA.out
      clear HA
      simp only [swageref18_Right.l0] at H
      by_cases c2 : x3_1 < (l0.length : Int)
      · rw [if_pos c2] at H
        have c2b0 : decide (x3_1 < (l0.length : Int)) = true := decide_eq_true c2
        clear c2
        have H' := Aside0.mk H
        clear H
        go_wp2
        repeat (go_quiet (fail); try go_wp2)
        go_loopg [4] k1 (fun kq v4 w' => ∃ (x4_2 : Int), v4 = .int .i64 x4_2 ∧ Aside0 (swageref18_Right.l1 kq l0 x3_1 x4_2 = some r) ∧ Aside0 (kq ≤ k1) ∧ Drawn0 w w')
        case atStart => exact ⟨(0), (by first | rfl | (simp; done) | (simp [*]; done)), H', ⟨Nat.le_refl _⟩, by repeat (first | exact Drawn0.refl _ | apply Drawn0.step)⟩
        case round =>
          clear H'
          try clear c1
          try clear c2
          try clear c2b0
          try clear p2
          obtain ⟨x4_2, rfl, HA, HK2, ⟨m2, rfl⟩⟩ := hrel
          cases gk with
          | zero => exact absurd HA.out (by simp [swageref18_Right.l1])
          | succ k2 =>
            have H := HA.out
            clear HA
            simp only [swageref18_Right.l1] at H
            by_cases c3 : x4_2 < x3_1
            · rw [if_pos c3] at H
              have c3b0 : decide (x4_2 < x3_1) = true := decide_eq_true c3
              clear c3
              by_cases c4 : 0 ≤ x4_2
              · rw [if_pos c4] at H
                have c4b0 : decide (0 ≤ x4_2) = true := decide_eq_true c4
                clear c4
                by_cases c5 : x4_2 < (l0.length : Int)
                · rw [if_pos c5] at H
                  have c5b0 : decide (x4_2 < (l0.length : Int)) = true := decide_eq_true c5
                  clear c5
                  by_cases c6 : 0 ≤ x3_1
                  · rw [if_pos c6] at H
                    have c6b0 : decide (0 ≤ x3_1) = true := decide_eq_true c6
                    clear c6
                    by_cases c7 : x3_1 < (l0.length : Int)
                    · rw [if_pos c7] at H
                      have c7b0 : decide (x3_1 < (l0.length : Int)) = true := decide_eq_true c7
                      clear c7
                      by_cases c8 : ((rd_T38 l0 x4_2).f0) = ((rd_T38 l0 x3_1).f0)
                      · rw [if_pos c8] at H
                        have c8b0 : (((rd_T38 l0 x4_2).f0) == ((rd_T38 l0 x3_1).f0)) = true := beq_iff_eq.mpr c8
                        have c8b1 : (((rd_T38 l0 x4_2).f0) != ((rd_T38 l0 x3_1).f0)) = false := bne_eq_false_iff_eq.mpr c8
                        clear c8
                        obtain rfl := Option.some.inj H
                        have p237 : 0 ≤ (x4_2 : Int) := of_decide_eq_true (by first | (with_reducible assumption) | assumption)
                        have q237 : x4_2 < (l0.length : Int) := of_decide_eq_true (by first | (with_reducible assumption) | assumption)
                        obtain ⟨ad237, e237, hx237_0, hx237_1⟩ := at_T38 HR0.out x4_2 p237 q237
                        cases e237
                        replace p237 := eq_true p237
                        replace q237 := eq_true q237
                        have p238 : 0 ≤ (x3_1 : Int) := of_decide_eq_true (by first | (with_reducible assumption) | assumption)
                        have q238 : x3_1 < (l0.length : Int) := of_decide_eq_true (by first | (with_reducible assumption) | assumption)
                        obtain ⟨ad238, e238, hx238_0, hx238_1⟩ := at_T38 HR0.out x3_1 p238 q238
                        obtain rfl : ad237 = ad238 := (by injection e238)
                        replace p238 := eq_true p238
                        replace q238 := eq_true q238
                        go_wp2
                        repeat (go_quiet (fail); try go_wp2)
                        go_ret
                        exact ⟨by first | rfl | (simp; done) | (simp [*]; done), by repeat (first | exact Drawn0.refl _ | apply Drawn0.step)⟩
                      · rw [if_neg c8] at H
                        have c8b0 : (((rd_T38 l0 x4_2).f0) == ((rd_T38 l0 x3_1).f0)) = false := beq_eq_false_iff_ne.mpr c8
                        have c8b1 : (((rd_T38 l0 x4_2).f0) != ((rd_T38 l0 x3_1).f0)) = true := bne_iff_ne.mpr c8
                        have H' := Aside0.mk H
                        clear H
                        have p237 : 0 ≤ (x4_2 : Int) := of_decide_eq_true (by first | (with_reducible assumption) | assumption)
                        have q237 : x4_2 < (l0.length : Int) := of_decide_eq_true (by first | (with_reducible assumption) | assumption)
                        obtain ⟨ad237, e237, hx237_0, hx237_1⟩ := at_T38 HR0.out x4_2 p237 q237
                        cases e237
                        replace p237 := eq_true p237
                        replace q237 := eq_true q237
                        have p238 : 0 ≤ (x3_1 : Int) := of_decide_eq_true (by first | (with_reducible assumption) | assumption)
                        have q238 : x3_1 < (l0.length : Int) := of_decide_eq_true (by first | (with_reducible assumption) | assumption)
                        obtain ⟨ad238, e238, hx238_0, hx238_1⟩ := at_T38 HR0.out x3_1 p238 q238
                        obtain rfl : ad237 = ad238 := (by injection e238)
                        replace p238 := eq_true p238
                        replace q238 := eq_true q238
                        go_wp2
                        repeat (go_quiet (fail); try go_wp2)
                        go_roundg k2
                        case measure => have := HK1.out; have := HK2.out; omega
                        case rel => exact ⟨(wrap64 (x4_2 + 1)), (by first | rfl | (simp; done) | (simp [*]; done)), H', ⟨by have := HK1.out; have := HK2.out; omega⟩, by repeat (first | exact Drawn0.refl _ | apply Drawn0.step)⟩
                    · rw [if_neg c7] at H
                      exact absurd H (by simp)
                  · rw [if_neg c6] at H
                    exact absurd H (by simp)
                · rw [if_neg c5] at H
                  exact absurd H (by simp)
              · rw [if_neg c4] at H
                exact absurd H (by simp)
            · rw [if_neg c3] at H
              have c3b0 : decide (x4_2 < x3_1) = false := decide_eq_false c3
              clear c3
              have H' := Aside0.mk H
              clear H
              go_wp2
              repeat (go_quiet (fail); try go_wp2)
              go_roundg k2
              case measure => have := HK1.out; have := HK2.out; omega
              case rel => exact ⟨(wrap64 (x3_1 + 1)), (by first | rfl | (simp; done) | (simp [*]; done)), H', ⟨by have := HK1.out; have := HK2.out; omega⟩, by repeat (first | exact Drawn0.refl _ | apply Drawn0.step)⟩
      · rw [if_neg c2] at H
        have c2b0 : decide (x3_1 < (l0.length : Int)) = false := decide_eq_false c2
        clear c2
        obtain rfl := Option.some.inj H
        go_wp2
        repeat (go_quiet (fail); try go_wp2)
        go_ret
        exact ⟨by first | rfl | (simp; done) | (simp [*]; done), by repeat (first | exact Drawn0.refl _ | apply Drawn0.step)⟩

end Go.Proofs.Ytkfopphcgjdcaaa.A
