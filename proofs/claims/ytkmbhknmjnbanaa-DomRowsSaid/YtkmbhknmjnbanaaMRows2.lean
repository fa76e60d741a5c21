/- Parts of the proof, in the order in which they rest on one another. -/
import Derived.Test.YtkmbhknmjnbanaaMRows1
import Derived.Below
import Derived.Deep.Draws
import Derived.Deep.AppendLies
import Derived.Maps.AppendAt
import Derived.OwnWalk
import Derived.Laws.BytesArg
import Derived.Laws.MakeOwn
import Derived.Laws.OwnMore
import Derived.Deep.OwnRows
import Derived.Tactics
import Derived.Lib.ConvBytes
import Derived.Laws.Slices
import Derived.WalkKit
import Derived.KernelRfl
import Derived.RowKit3
import Derived.Deep.LoopGhost
import Derived.Deep.QuietTactic
import Derived.BigQuiet
import Derived.WideLaws
import Derived.Deep.DeepCutAuto
import Derived.Deep.CutBlock
import Derived.Deep.RegionHeld3
import Derived.Laws.Rows
import Derived.Lib.AppendStr
import Derived.ArgAppend
import Derived.Laws.IdiomCopy
import Derived.RowKit
import Derived.OrdersHeld
import Derived.Laws.BitsLemmas
import Derived.Laws.StructEq
import Derived.Test.YtkmbhknmjnbanaaProg
import Derived.Shelf.Abstract
import Derived.Lib.Walk
import Derived.RangeFuncWrites
import Derived.RangeFuncNested
import Derived.RangeFuncBound
import Derived.RangeFuncCalls
import Derived.RangeFuncLeaves
import Derived.Shelf.RegionOpen
import Derived.OwnWalkIn
import Derived.TacticsInMore
import Derived.LoopNIn
import Derived.LoopIn
import Derived.Laws.EntriesVeiled
import Derived.RangeFuncBox
import Derived.Laws.CopyOwn
import Derived.Deep.RegionLaw
import Derived.BigRegion
import Derived.WalkSpells
namespace Go.Proofs.Ytkmbhknmjnbanaa.A
open Go.RowKit Go.Proofs.YtkmbhknmjnbanaaW.PrintWords Go.Proofs.YtkmbhknmjnbanaaW.PrintLast Go.Proofs.YtkmbhknmjnbanaaW.PrintMore
attribute [local go_sem] max2_int min2_int max_two min_two max_three min_three max_four min_four   -- for this text's walks alone
set_option linter.unusedVariables false
set_option linter.unusedSimpArgs false



def errW : Option Int → Value
  | none => .nilIface
  | some c => .iface 0 (.int .i64 c)
theorem errW_none : errW none = .nilIface := rfl
theorem errW_some (c : Int) : errW (some c) = .iface 0 (.int .i64 c) := rfl

theorem info3 : (Try.prog.info? 3).map (fun i => (i.zero, i.size, i.bytes)) = some (some (.int .i64 0), 1, 8) := by kernel_rfl
theorem info4 : (Try.prog.info? 4).map (fun i => (i.zero, i.size, i.bytes)) = some (some (.bool false), 1, 1) := by kernel_rfl
theorem info27 : (Try.prog.info? 27).map (fun i => (i.zero, i.size, i.bytes)) = some (some (.slice none 0 0), 1, 24) := by kernel_rfl
def rd_L1 (xs : List (List Int)) (i : Int) : (List Int) := xs.getD i.toNat ([] : List Int)
theorem at_L1 {w : World} {A : Option Addr} {n : Nat} {xs : List (List Int)} (h : Kd.C (Kd.slice 3 (Kd.int .i64)) w A n xs) (i : Int) (h0 : 0 ≤ i) (h1 : i < n) : ∃ ad A0 c0, A = some ad ∧ w.cell? (ad.add i.toNat) = some (.slice A0 (rd_L1 xs i).length c0) ∧ (rd_L1 xs i).length ≤ c0 ∧ (Kd.int .i64).C w A0 (rd_L1 xs i).length (rd_L1 xs i) := by
  obtain ⟨ad, c, e, _, hK, hc0⟩ := Kd.C_get h ([] : List Int) i h0 h1
  have hc : ∀ j u, c[j]? = some u → w.cell? (ad.add (i.toNat * 1 + j)) = some u := hc0
  obtain ⟨A0, c0, rfl, l0, g0⟩ := hK
  exact ⟨ad, A0, c0, e, by have hq := hc 0 _ rfl; rwa [Nat.mul_one, Nat.add_zero] at hq, l0, g0⟩

structure S37 where
  f0 : Int
  f1 : Int
end Go.Proofs.Ytkmbhknmjnbanaa.A


namespace Go.Proofs.Ytkmbhknmjnbanaa.A
open Go.RowKit Go.Proofs.YtkmbhknmjnbanaaW.PrintWords Go.Proofs.YtkmbhknmjnbanaaW.PrintLast Go.Shelf Go.Lib
set_option linter.unusedVariables false
set_option linter.unusedSimpArgs false

def firstOf {α : Type} (p : α → Bool) (xs : List α) : Int := match xs.findIdx? p with | some i => i | none => -1
theorem firstOf_hit {α : Type} (d : α) (p : α → Bool) (xs : List α) (k : Nat) (hk : k < xs.length) (h1 : ∀ j, j < k → p (xs.getD j d) = false) (h2 : p (xs.getD k d) = true) : firstOf p xs = k := by
  have : xs.findIdx? p = some k := by
    rw [List.findIdx?_eq_some_iff_getElem]
    refine ⟨hk, by simpa [List.getD_eq_getElem?_getD, hk] using h2, fun j hj => ?_⟩
    have := h1 j hj
    simpa [List.getD_eq_getElem?_getD, Nat.lt_trans hj hk] using this
  rw [firstOf, this]
theorem firstOf_miss {α : Type} (d : α) (p : α → Bool) (xs : List α) (h1 : ∀ j, j < xs.length → p (xs.getD j d) = false) : firstOf p xs = -1 := by
  have : xs.findIdx? p = none := by
    rw [List.findIdx?_eq_none_iff]
    intro x hx
    obtain ⟨j, hj, rfl⟩ := List.getElem_of_mem hx
    have := h1 j hj
    simpa [List.getD_eq_getElem?_getD, hj] using this
  rw [firstOf, this]
theorem firstOf_any {α : Type} (p : α → Bool) (xs : List α) : decide (0 ≤ firstOf p xs) = xs.any p := by
  unfold firstOf
  cases h : xs.findIdx? p with
  | none =>
    rw [List.findIdx?_eq_none_iff] at h
    simp only [show ¬ (0 : Int) ≤ -1 by omega, decide_false]
    symm
    rw [List.any_eq_false]
    intro x hx
    simp [h x hx]
  | some i =>
    simp only [show (0 : Int) ≤ (i : Int) by omega, decide_true]
    symm
    rw [List.findIdx?_eq_some_iff_getElem] at h
    obtain ⟨hi, hp, _⟩ := h
    rw [List.any_eq_true]
    exact ⟨_, List.getElem_mem hi, hp⟩

/-- what a function value answers at x, in every world that is w but for what is new -/
def SaysI (g : Nat) (lb : Array Value) (p : Int → Bool) (xs : List Int) (w : World) : Prop :=
  ∀ x ∈ xs, ∀ W, Below w.heap.size w W → Calls Try.prog g (#[.int .i64 x] ++ lb) W fun e w' => e = .returned (.bool (p x)) ∧ Below W.heap.size W w'
def SaysL (g : Nat) (lb : Array Value) (p : List Int → Bool) (xs : List (List Int)) (w : World) : Prop :=
  ∀ x ∈ xs, ∀ W, Below w.heap.size w W → ∀ A c, x.length ≤ c → Kd.C (Kd.int .i64) W A x.length x → Calls Try.prog g (#[.slice A x.length c] ++ lb) W fun e w' => e = .returned (.bool (p x)) ∧ Below W.heap.size W w'

set_option maxHeartbeats 2000000 in
theorem indexI_calls (p : Int → Bool) (g : Nat) (lb : Array Value) (eg : ∀ args w, (callFunc g args).run Try.prog w = .ok (.enter g args) w) (A : Option Addr) (c : Nat) (xs : List (Int)) (w : World)
    (hx : Kd.C (Kd.int .i64) w A xs.length xs) (hp : SaysI g lb p xs w) :
    Calls Try.prog 69 #[.slice A xs.length c, .func (.func g) #[] lb] w fun e w' => e = .returned (.int .i64 (firstOf p xs)) ∧ Below w.heap.size w w' := by
  have hbig : xs.length ≤ 9223372036854775807 := Kd.C_max hx
  go_enter Try.func69, Try.ntmps69
  go_wp2
  go_loopg [5, 8] xs.length (fun gg _ s8 wr => ∃ kk : Nat, kk ≤ xs.length ∧ xs.length - kk ≤ gg ∧ s8 = .int .i64 kk ∧ Aside0 (Below w.heap.size w wr) ∧ Aside0 (∀ j, j < kk → p (xs.getD j 0) = false))
  case atStart => exact ⟨0, Nat.zero_le _, by omega, rfl, ⟨Below.refl _ _⟩, ⟨fun j hj => absurd hj (Nat.not_lt_zero _)⟩⟩
  case round =>
    obtain ⟨kk, hkk, hg, rfl, HB, HA⟩ := hrel
    by_cases hlt : kk < xs.length
    · have hltz : (kk : Int) < (xs.length : Int) := by omega
      have hk0 : (0 : Int) ≤ (kk : Int) := by omega
      obtain ⟨ad, rfl, q0⟩ := Kd.at_int (Kd.C_below hx HB.out) kk hk0 hltz
      have hmem : rd xs kk ∈ xs := by
        unfold rd
        simp only [Int.toNat_natCast, List.getD_eq_getElem?_getD, List.getElem?_eq_getElem hlt, Option.getD_some]
        exact List.getElem_mem hlt
      have hcall := hp _ hmem
      have hB : Aside0 (rd xs kk = xs.getD kk 0) := ⟨by simp [rd]⟩
      rw [Int.toNat_natCast] at q0
      generalize rd xs kk = y at q0 hcall hB
      clear hmem
      have hc1 := hcall wr HB.out
      generalize hq : p y = pb at hc1
      have hq' := Aside0.mk hq
      clear hq hcall
      cases pb with
      | true =>
        go_wp2_with fail
        refine hc1.mono ?_
        rintro e w' ⟨rfl, hb⟩
        go_wp2_with fail
        go_ret
        refine ⟨?_, below_then HB.out HB.out.size hb⟩
        rw [firstOf_hit 0 p xs kk hlt HA.out (by rw [← hB.out]; exact hq'.out)]
        rfl
      | false =>
        go_wp2_with fail
        refine hc1.mono ?_
        rintro e w' ⟨rfl, hb⟩
        have hb' := Aside0.mk (below_then HB.out HB.out.size hb)
        clear hb HB q0
        go_wp2_with fail
        go_roundg (xs.length - (kk + 1))
        case measure => omega
        case rel =>
          refine ⟨kk + 1, by omega, by omega, by go_num, hb', ⟨fun j hj => ?_⟩⟩
          by_cases e : j = kk
          · subst e
            rw [← hB.out]; exact hq'.out
          · exact HA.out j (by omega)
    · have hltz : ¬ (kk : Int) < (xs.length : Int) := by omega
      obtain rfl : kk = xs.length := by omega
      go_wp2
      go_ret
      refine ⟨?_, HB.out⟩
      rw [firstOf_miss 0 p xs HA.out]
      rfl

set_option maxHeartbeats 1000000 in
theorem containsI_calls (p : Int → Bool) (g : Nat) (lb : Array Value) (eg : ∀ args w, (callFunc g args).run Try.prog w = .ok (.enter g args) w) (A : Option Addr) (c : Nat) (xs : List (Int)) (w : World)
    (hx : Kd.C (Kd.int .i64) w A xs.length xs) (hp : SaysI g lb p xs w) :
    Calls Try.prog 46 #[.slice A xs.length c, .func (.func g) #[] lb] w fun e w' => e = .returned (.bool (xs.any p)) ∧ Below w.heap.size w w' := by
  rw [← firstOf_any]
  go_enter Try.func46, Try.ntmps46
  go_wp2_with (go_at_call 69; refine (indexI_calls p g lb eg A c xs _ hx hp).mono ?_; rintro e w' ⟨rfl, hb⟩)
  go_ret
  exact ⟨rfl, hb⟩

set_option maxHeartbeats 2000000 in
theorem indexL_calls (p : List Int → Bool) (g : Nat) (lb : Array Value) (eg : ∀ args w, (callFunc g args).run Try.prog w = .ok (.enter g args) w) (A : Option Addr) (c : Nat) (xs : List (List Int)) (w : World)
    (hx : Kd.C (Kd.slice 3 (Kd.int .i64)) w A xs.length xs) (hp : SaysL g lb p xs w) :
    Calls Try.prog 70 #[.slice A xs.length c, .func (.func g) #[] lb] w fun e w' => e = .returned (.int .i64 (firstOf p xs)) ∧ Below w.heap.size w w' := by
  have hbig : xs.length ≤ 9223372036854775807 := Kd.C_max hx
  go_enter Try.func70, Try.ntmps70
  go_wp2
  go_loopg [5, 8] xs.length (fun gg _ s8 wr => ∃ kk : Nat, kk ≤ xs.length ∧ xs.length - kk ≤ gg ∧ s8 = .int .i64 kk ∧ Aside0 (Below w.heap.size w wr) ∧ Aside0 (∀ j, j < kk → p (xs.getD j []) = false))
  case atStart => exact ⟨0, Nat.zero_le _, by omega, rfl, ⟨Below.refl _ _⟩, ⟨fun j hj => absurd hj (Nat.not_lt_zero _)⟩⟩
  case round =>
    obtain ⟨kk, hkk, hg, rfl, HB, HA⟩ := hrel
    by_cases hlt : kk < xs.length
    · have hltz : (kk : Int) < (xs.length : Int) := by omega
      have hk0 : (0 : Int) ≤ (kk : Int) := by omega
      obtain ⟨ad, B0, d0, rfl, q0, q1, q2⟩ := at_L1 (Kd.C_below hx HB.out) kk hk0 hltz
      have hmem : rd_L1 xs kk ∈ xs := by
        unfold rd_L1
        simp only [Int.toNat_natCast, List.getD_eq_getElem?_getD, List.getElem?_eq_getElem hlt, Option.getD_some]
        exact List.getElem_mem hlt
      have hcall := hp _ hmem
      have hB : Aside0 (rd_L1 xs kk = xs.getD kk []) := ⟨by simp [rd_L1]⟩
      rw [Int.toNat_natCast] at q0
      generalize rd_L1 xs kk = y at q0 q1 q2 hcall hB
      clear hmem
      have hc1 := hcall wr HB.out B0 d0 q1 q2
      generalize hq : p y = pb at hc1
      have hq' := Aside0.mk hq
      clear hq hcall
      cases pb with
      | true =>
        go_wp2_with fail
        refine hc1.mono ?_
        rintro e w' ⟨rfl, hb⟩
        go_wp2_with fail
        go_ret
        refine ⟨?_, below_then HB.out HB.out.size hb⟩
        rw [firstOf_hit [] p xs kk hlt HA.out (by rw [← hB.out]; exact hq'.out)]
        rfl
      | false =>
        go_wp2_with fail
        refine hc1.mono ?_
        rintro e w' ⟨rfl, hb⟩
        have hb' := Aside0.mk (below_then HB.out HB.out.size hb)
        clear hb HB q0
        go_wp2_with fail
        go_roundg (xs.length - (kk + 1))
        case measure => omega
        case rel =>
          refine ⟨kk + 1, by omega, by omega, by go_num, hb', ⟨fun j hj => ?_⟩⟩
          by_cases e : j = kk
          · subst e
            rw [← hB.out]; exact hq'.out
          · exact HA.out j (by omega)
    · have hltz : ¬ (kk : Int) < (xs.length : Int) := by omega
      obtain rfl : kk = xs.length := by omega
      go_wp2
      go_ret
      refine ⟨?_, HB.out⟩
      rw [firstOf_miss [] p xs HA.out]
      rfl

set_option maxHeartbeats 1000000 in
theorem containsL_calls (p : List Int → Bool) (g : Nat) (lb : Array Value) (eg : ∀ args w, (callFunc g args).run Try.prog w = .ok (.enter g args) w) (A : Option Addr) (c : Nat) (xs : List (List Int)) (w : World)
    (hx : Kd.C (Kd.slice 3 (Kd.int .i64)) w A xs.length xs) (hp : SaysL g lb p xs w) :
    Calls Try.prog 48 #[.slice A xs.length c, .func (.func g) #[] lb] w fun e w' => e = .returned (.bool (xs.any p)) ∧ Below w.heap.size w w' := by
  rw [← firstOf_any]
  go_enter Try.func48, Try.ntmps48
  go_wp2_with (go_at_call 70; refine (indexL_calls p g lb eg A c xs _ hx hp).mono ?_; rintro e w' ⟨rfl, hb⟩)
  go_ret
  exact ⟨rfl, hb⟩

def badN (n x : Int) : Bool := decide (x < 0) || decide (n ≤ x)
def badL (n : Int) (l : List Int) : Bool := decide (8 < l.length) || l.any (badN n)
def rightB (g : List (List Int)) : Bool := decide (1 ≤ g.length) && decide (g.length ≤ 4096) && !(g.any (badL g.length))

set_option maxHeartbeats 1000000 in
theorem right11_calls (x : Int) (A : Option Addr) (n c : Nat) (p : Addr) (w : World) (hp : w.cell? p = some (.slice A n c)) :
    Calls Try.prog 47 #[.int .i64 x, .pointer (some p)] w fun e w' => e = .returned (.bool (badN n x)) ∧ Below w.heap.size w w' := by
  by_cases h0 : x < 0
  · go_enter Try.func47, Try.ntmps47
    go_wp2_with fail
    go_ret
    exact ⟨by simp [badN, h0], Below.refl _ _⟩
  · by_cases h1 : x ≥ (n : Int)
    · go_enter Try.func47, Try.ntmps47
      go_wp2_with fail
      go_ret
      exact ⟨by simp [badN, h0, h1], Below.refl _ _⟩
    · go_enter Try.func47, Try.ntmps47
      go_wp2_with fail
      go_ret
      exact ⟨by simp [badN, h0, h1], Below.refl _ _⟩

set_option maxHeartbeats 1000000 in
theorem right1_calls (A : Option Addr) (n c : Nat) (p : Addr) (B : Option Addr) (d : Nat) (l : List Int) (w : World) (hp : w.cell? p = some (.slice A n c)) (hl : Kd.C (Kd.int .i64) w B l.length l) :
    Calls Try.prog 45 #[.slice B l.length d, .pointer (some p)] w fun e w' => e = .returned (.bool (badL n l)) ∧ Below w.heap.size w w' := by
  have hbig : l.length ≤ 9223372036854775807 := Kd.C_max hl
  have hcn := containsI_calls (badN n) 47 #[.pointer (some p)] (by intro args w; exact enters_of Try.func47 (by kernel_rfl) rfl args w) B d l w hl
    (fun x _ W hW => right11_calls x A n c p W ((hW.cell (World.block_lt_of_cell? _ _ hp)).trans hp))
  by_cases h0 : (l.length : Int) > 8
  · go_enter Try.func45, Try.ntmps45
    go_wp2_with fail
    go_ret
    exact ⟨by simp [badL]; omega, Below.refl _ _⟩
  · go_enter Try.func45, Try.ntmps45
    go_wp2_with fail
    refine hcn.mono ?_
    rintro e w' ⟨rfl, hb⟩
    go_wp2_with fail
    go_ret
    refine ⟨?_, hb⟩
    have : decide (8 < l.length) = false := by simp; omega
    simp [badL, this]

set_option maxHeartbeats 1000000 in
theorem right_calls (A : Option Addr) (c : Nat) (g : List (List Int)) (w : World) (h : Kd.C (Kd.slice 3 (Kd.int .i64)) w A g.length g) :
    Calls Try.prog 19 #[.slice A g.length c] w fun e w' => e = .returned (.bool (rightB g)) ∧ Below w.heap.size w w' := by
  have hbig : g.length ≤ 9223372036854775807 := Kd.C_max h
  by_cases h0 : (g.length : Int) ≥ 1
  · by_cases h1 : (g.length : Int) ≤ 4096
    · obtain ⟨W, hW⟩ : ∃ W, w.alloc (.cells #[.slice A g.length c] 22) = W := ⟨_, rfl⟩
      have hB : Below w.heap.size w W := by rw [← hW]; exact below_alloc (Below.refl _ _) _
      have hc0 : W.cell? ⟨w.heap.size, 0, none⟩ = some (.slice A g.length c) := by rw [← hW]; simp [go_sem]
      have hcn := containsL_calls (badL g.length) 45 #[.pointer (some ⟨w.heap.size, 0, none⟩)] (by intro args w; exact enters_of Try.func45 (by kernel_rfl) rfl args w) A c g W (Kd.C_below h hB)
        (fun x _ V hV B d _ hx => right1_calls A g.length c _ B d x V ((hV.cell (World.block_lt_of_cell? _ _ hc0)).trans hc0) hx)
      subst hW
      go_enter Try.func19, Try.ntmps19
      go_wp2_with fail
      refine hcn.mono ?_
      rintro e w' ⟨rfl, hb⟩
      go_wp2_with fail
      go_ret
      refine ⟨?_, below_then hB hB.size hb⟩
      have e1 : decide (1 ≤ g.length) = true := decide_eq_true (by omega)
      have e2 : decide (g.length ≤ 4096) = true := decide_eq_true (by omega)
      simp [rightB, e1, e2]
    · go_enter Try.func19, Try.ntmps19
      go_wp2_with fail
      go_ret
      refine ⟨?_, below_alloc (Below.refl _ _) _⟩
      have e2 : decide (g.length ≤ 4096) = false := decide_eq_false (by omega)
      simp [rightB, e2]
  · go_enter Try.func19, Try.ntmps19
    go_wp2_with fail
    go_ret
    refine ⟨?_, below_alloc (Below.refl _ _) _⟩
    have e2 : decide (1 ≤ g.length) = false := decide_eq_false (by omega)
    simp [rightB, e2]
end Go.Proofs.Ytkmbhknmjnbanaa.A


namespace Go.Proofs.Ytkmbhknmjnbanaa.A
open Go.RowKit

/-- whatever lay, but for the blocks of X, lies as it lay -/
structure KeepsBut (X : Nat → Prop) (W W' : World) : Prop where
  os : W'.os = W.os
  tape : W'.tape = W.tape
  output : W'.output = W.output
  size : W.heap.size ≤ W'.heap.size
  block : ∀ k, k < W.heap.size → ¬ X k → W'.heap[k]? = W.heap[k]?
theorem KeepsBut.refl (X : Nat → Prop) (W : World) : KeepsBut X W W := ⟨rfl, rfl, rfl, Nat.le_refl _, fun _ _ _ => rfl⟩
theorem KeepsBut.trans {X : Nat → Prop} {A B C : World} (h : KeepsBut X A B) (k : KeepsBut X B C) : KeepsBut X A C :=
  ⟨k.os.trans h.os, k.tape.trans h.tape, k.output.trans h.output, Nat.le_trans h.size k.size, fun i hi hx => (k.block i (Nat.lt_of_lt_of_le hi h.size) hx).trans (h.block i hi hx)⟩
theorem KeepsBut.mono {X Y : Nat → Prop} {A B : World} (h : KeepsBut X A B) (hxy : ∀ k, X k → Y k) : KeepsBut Y A B := ⟨h.os, h.tape, h.output, h.size, fun k hk hn => h.block k hk (fun hx => hn (hxy k hx))⟩
theorem KeepsBut.alloc (X : Nat → Prop) (W : World) (o : Obj) : KeepsBut X W (W.alloc o) := ⟨rfl, rfl, rfl, by simp, fun k hk _ => Below.heap_alloc W o k hk⟩
theorem KeepsBut.putObj {X : Nat → Prop} (W : World) {l : Nat} (o : Obj) (hx : X l) : KeepsBut X W (W.putObj l o) := ⟨rfl, rfl, rfl, by simp, fun k hk hn => World.putObj_heap_other (fun e => hn (e ▸ hx))⟩
theorem KeepsBut.below {X : Nat → Prop} {W W' : World} {n : Nat} (h : KeepsBut X W W') (hn : n ≤ W.heap.size) (hx : ∀ k, k < n → ¬ X k) : Below n W W' := ⟨h.os, h.tape, h.output, h.size, fun k hk => h.block k (by omega) (hx k hk)⟩
theorem KeepsBut.cell {X : Nat → Prop} {W W' : World} (h : KeepsBut X W W') {p : Addr} {v : Value} (hc : W.cell? p = some v) (hx : ¬ X p.block) : W'.cell? p = some v := by
  have hb := h.block p.block (World.block_lt_of_cell? _ _ hc) hx
  unfold World.cell? at hc ⊢
  rw [hb]; exact hc
theorem KeepsBut.setCell {X : Nat → Prop} (W : World) (a : Addr) (v : Value) (hx : X a.block) : KeepsBut X W (W.setCell a v) :=
  ⟨rfl, rfl, rfl, by show W.heap.size ≤ (W.heap.modify _ _).size; rw [Array.size_modify]; exact Nat.le_refl _, fun k _ hn => Below.heap_setCell W a v k (fun e => hn (e ▸ hx))⟩

/-- J does not mind what happens in X, nor what is new -/
def AbX {β : Type} (X : Nat → Prop) (J : β → World → Prop) : Prop := ∀ s W W', J s W → KeepsBut X W W' → J s W'
/-- X, and the loop's own two blocks -/
def XX (X : Nat → Nat → Prop) (B : Nat) (k : Nat) : Prop := X (B + 2) k ∨ (B ≤ k ∧ k ≤ B + 1)
theorem AbX.alloc {β : Type} {X : Nat → Prop} {I : β → World → Prop} (h : AbX X I) {s : β} {W : World} (o : Obj) (hs : I s W) : I s (W.alloc o) := h s W _ hs (KeepsBut.alloc X W o)
theorem AbX.putObj {β : Type} {X : Nat → Nat → Prop} {B : Nat} {I : β → World → Prop} (h : AbX (XX X B) I) {s : β} {W : World} {l : Nat} (o : Obj) (hs : I s W) (hl : B ≤ l ∧ l ≤ B + 1) : I s (W.putObj l o) := h s W _ hs (KeepsBut.putObj W o (.inr hl))

def SeqX {α : Type} (F : Fence) (n : Nat) (P : Program) (g : Nat) (lb : Array Value) (encs : α → Array Value) (X : Nat → Nat → Prop) (Kp : Nat → World → World → Prop) (S Sp : List α → Prop) (N k0 : Nat) (w : World) : Prop :=
  ∀ (l : Nat) (J Jx : List α → World → Prop) (W : World), Below w.heap.size w W → AbX (X W.heap.size) J → AbX (X W.heap.size) Jx →
    (∀ pre x W1, J pre W1 → W.heap.size + k0 ≤ W1.heap.size → pre.length < N → YieldAt F (n - 1) P l (encs x) W1 fun e W' =>
      (e = .returned (.bool true) ∧ J (pre ++ [x]) W' ∧ Kp W.heap.size W1 W') ∨ (e = .returned (.bool false) ∧ Jx (pre ++ [x]) W')) →
    J [] W →
    CallsIn F n P g (#[.func (.yield l) #[] #[]] ++ lb) W fun e W' => (∃ v, e = .returned v) ∧ ((∃ xs, S xs ∧ J xs W') ∨ (∃ pre, Sp pre ∧ Jx pre W'))

variable {F : Fence} {n : Nat} {P : Program}

/-- a range over a function whose iterator keeps cells of its own -/
theorem wpIn_rangeFunc_X {α : Type} {g : Operand} {ps : Array Tmp} {assign body : Code} {Q : Exit → Act → World → Prop} {a : Act} {w : World}
    (hro : F.round = none) (h1 : 1 ≤ n) {gf : Nat} {lb : Array Value} (hg : a.eval g = .func (.func gf) #[] lb) (hFg : F.fn gf) (eg : ∀ args w, (callFunc gf args).run P w = .ok (.enter gf args) w)
    {encs : α → Array Value} {X : Nat → Nat → Prop} {Kp : Nat → World → World → Prop} {S Sp : List α → Prop} {N k0 : Nat} {w0 : World} (hseq : SeqX F (n - 1) P gf lb encs X Kp S Sp N k0 w0)
    (hXd : ∀ k, X (w.heap.size + 2) k → k ≠ w.heap.size ∧ k ≠ w.heap.size + 1) (hKt : ∀ {A B C : World}, Kp (w.heap.size + 2) A B → Kp (w.heap.size + 2) B C → Kp (w.heap.size + 2) A C) (hKb : ∀ (W : World) (l : Nat) (o o' : Obj), w.heap.size ≤ l → l ≤ w.heap.size + 1 → W.heap[l]? = some o → o.isCells = false → o.isWalk = false → Kp (w.heap.size + 2) W (W.putObj l o')) (hb0 : Below w0.heap.size w0 w) (hps : ∀ x, (encs x).size = ps.size)
    (I : List α → World → Prop) (Ix : Code → List α → World → Prop) (hI : AbX (XX X w.heap.size) I) (hIx : ∀ c, AbX (XX X w.heap.size) (Ix c)) (h0 : I [] w) (a₁ : α → Act)
    (hassign : ∀ (l : Nat) (x : α) (W : World) (K : Act → World → Prop), K (a₁ x) W →
      assign.wpIn (F.inRound l) (n - 1 - 1) P (Exit.then K (fun _ _ _ => False)) { tmps := (ps.zip (encs x)).foldl (fun t (p, v) => t.setIfInBounds p v) a.tmps, defers := [] } W)
    (hbody : ∀ (l : Nat) (pre : List α) (x : α) (W : World), I pre W → w.heap.size + 2 + k0 ≤ W.heap.size → pre.length < N → body.wpIn (F.inRound l) (n - 1 - 1) P (ownPostG w.heap.size (Kp (w.heap.size + 2)) I Ix (pre ++ [x]) W) (a₁ x) W)
    (hdone : ∀ (D : Nat) (xs : List α) (W : World), w.heap.size ≤ D → S xs → I xs W → W.heap[D]? = some (.deferred (some [])) → Q .normal { a with defers := { target := .collected D, args := #[] } :: a.defers } W)
    (hstop : ∀ (D : Nat) (c : Code) (pre : List α) (W : World), w.heap.size ≤ D → Sp pre → Ix c pre W → W.heap[D]? = some (.deferred (some [])) → c.wpIn F n P Q { a with defers := { target := .collected D, args := #[] } :: a.defers } W) :
    (Code.rangeFunc g ps assign body).wpIn F n P Q a w := by
  refine wpIn_rangeFunc ?_
  intro fn hfn
  rw [hro]
  obtain ⟨rec, hrec⟩ : ∃ rec : LoopState → Option Code → Loop, rec = fun st pe => { state := st, pending := pe, fn, tmps := a.tmps, params := ps, assign, body, defers := w.heap.size } := ⟨_, rfl⟩
  obtain ⟨W1, hW1⟩ : ∃ W1, (w.alloc (.deferred (some []))).alloc (.loop (rec .ready none)) = W1 := ⟨_, rfl⟩
  have hL1 : W1.heap[w.heap.size + 1]? = some (.loop (rec .ready none)) := by
    rw [← hW1]; have := World.alloc_heap_new (w.alloc (.deferred (some []))) (.loop (rec .ready none)); rwa [World.size_alloc] at this
  have hK1 : W1.heap[w.heap.size]? = some (.deferred (some [])) := by
    rw [← hW1]; exact (Below.heap_alloc _ _ _ (by simp)).trans (World.alloc_heap_new w _)
  have hI1 : I [] W1 := by rw [← hW1]; exact hI.alloc _ (hI.alloc _ h0)
  have hb1 : Below w0.heap.size w0 W1 := by
    rw [← hW1]; exact hb0.trans ((((Below.refl _ w).alloc (Nat.le_refl _) _).alloc (by simp) _).mono hb0.size)
  have hsz : W1.heap.size = w.heap.size + 2 := by rw [← hW1]; simp
  refine ⟨w.heap.size + 1, [{ target := .collected w.heap.size, args := #[] }], W1, { target := .fn (.func gf) lb, args := #[.func (.yield (w.heap.size + 1)) #[] #[]] }, W1, gf,
    #[.func (.yield (w.heap.size + 1)) #[] #[]] ++ lb, W1, ?_, ?_, ?_, ?_, fun _ => h1, ?_⟩
  · rw [← hW1, hrec]; exact run_enterLoop_outer _ _ _ _ _
  · simp only [resolve, hg]
    simp [go_sem]
  · intro f' hf'; simp [Target.leads] at hf'; subst hf'; exact hFg
  · simp [invoke, go_sem, eg]
  · -- THE ITERATOR's CONTRACT, AT THE CALLER's INVARIANT WITH THE TWO FACTS OF BOOK-KEEPING BESIDE IT
    refine (hseq (w.heap.size + 1)
      (fun pre W => I pre W ∧ W.heap[w.heap.size + 1]? = some (.loop (rec .ready none)) ∧ W.heap[w.heap.size]? = some (.deferred (some [])))
      (fun pre W => ∃ c, Ix c pre W ∧ W.heap[w.heap.size + 1]? = some (.loop (rec .done (some c))) ∧ W.heap[w.heap.size]? = some (.deferred (some [])))
      W1 hb1
      (fun s A B hs hk => by
        rw [hsz] at hk
        have l1 := (Array.getElem?_eq_some_iff.1 hs.2.1).1
        exact ⟨hI s A B hs.1 (hk.mono fun k h => .inl h), (hk.block _ l1 (fun h => (hXd _ h).2 rfl)).trans hs.2.1, (hk.block _ (by omega) (fun h => (hXd _ h).1 rfl)).trans hs.2.2⟩)
      (fun s A B hs hk => by
        rw [hsz] at hk
        obtain ⟨c, hc, hl, hd⟩ := hs
        have l1 := (Array.getElem?_eq_some_iff.1 hl).1
        exact ⟨c, hIx c s A B hc (hk.mono fun k h => .inl h), (hk.block _ l1 (fun h => (hXd _ h).2 rfl)).trans hl, (hk.block _ (by omega) (fun h => (hXd _ h).1 rfl)).trans hd⟩)
      ?_ ⟨hI1, hL1, hK1⟩).mono ?_
    · -- ONE ROUND
      rw [hsz]
      rintro pre x W ⟨hi, hl, hk⟩ hsz0 hlen
      have hlt : w.heap.size + 1 < W.heap.size := (Array.getElem?_eq_some_iff.1 hl).1
      have hy := run_yield (P := P) (args := encs x) hl (by rw [hrec]; exact hps x)
      rw [hrec] at hy
      refine ⟨fn, _, assign, body, hy, roundIn_of_wpIn hfn (hassign _ x W _ ⟨_, run_beginRound hl (by rw [hrec]), ?_⟩)⟩
      have hl2 : (W.putObj (w.heap.size + 1) (.loop { rec .ready none with state := .busy })).heap[w.heap.size + 1]? = some (.loop { rec .ready none with state := .busy }) := World.putObj_heap_same hlt
      have hk2 : (W.putObj (w.heap.size + 1) (.loop { rec .ready none with state := .busy })).heap[w.heap.size]? = some (.deferred (some [])) := (World.putObj_heap_other (by omega)).trans hk
      have hw2 : Kp (w.heap.size + 2) W (W.putObj (w.heap.size + 1) (.loop { rec .ready none with state := .busy })) := hKb _ _ _ _ (by omega) (by omega) hl rfl rfl
      refine wpIn_mono (hbody _ pre x _ (hI.putObj _ hi (by omega)) (by simp; omega) hlen) ?_
      have fin : ∀ (jump : Option Code) (W3 : World), KeepsFrom w.heap.size (W.putObj (w.heap.size + 1) (.loop { rec .ready none with state := .busy })) W3 →
          (Instr.endRound (w.heap.size + 1) jump).run P W3 = .ok (.bool jump.isNone) (W3.putObj (w.heap.size + 1) (.loop (rec (if jump.isNone then .ready else .done) jump))) ∧
          W3.heap[w.heap.size + 1]? = some (.loop { rec .ready none with state := .busy }) ∧
          (W3.putObj (w.heap.size + 1) (.loop (rec (if jump.isNone then .ready else .done) jump))).heap[w.heap.size + 1]? = some (.loop (rec (if jump.isNone then .ready else .done) jump)) ∧
          (W3.putObj (w.heap.size + 1) (.loop (rec (if jump.isNone then .ready else .done) jump))).heap[w.heap.size]? = some (.deferred (some [])) := fun jump W3 hk3 => by
        have hl3 := hk3.same _ _ (by omega) hl2 rfl
        have := run_endRound (P := P) jump hl3
        rw [hrec] at this ⊢
        exact ⟨this, by rw [hrec] at hl3; exact hl3, World.putObj_heap_same (Array.getElem?_eq_some_iff.1 hl3).1, (World.putObj_heap_other (by omega)).trans (hk3.same _ _ (Nat.le_refl _) hk2 rfl)⟩
      rintro e a3 W3 hp
      cases e with
      | normal =>
        obtain ⟨hk3, hkp3, hi3⟩ := hp
        obtain ⟨hr, hl3, hl4, hk4⟩ := fin none W3 hk3
        exact ⟨_, _, hr, .inl ⟨rfl, ⟨hI.putObj _ hi3 (by omega), hl4, hk4⟩, hKt (hKt hw2 hkp3) (hKb _ _ _ _ (by omega) (by omega) hl3 rfl rfl)⟩⟩
      | ret =>
        obtain ⟨hk3, hi3⟩ := hp
        obtain ⟨hr, hl3, hl4, hk4⟩ := fin (some .ret) W3 hk3
        exact ⟨_, _, hr, .inr ⟨rfl, .ret, (hIx _).putObj _ hi3 (by omega), hl4, hk4⟩⟩
      | exit id =>
        obtain ⟨hk3, hi3⟩ := hp
        obtain ⟨hr, hl3, hl4, hk4⟩ := fin (some (.exit id)) W3 hk3
        exact ⟨_, _, hr, .inr ⟨rfl, .exit id, (hIx _).putObj _ hi3 (by omega), hl4, hk4⟩⟩
      | goto t =>
        obtain ⟨hk3, hi3⟩ := hp
        obtain ⟨hr, hl3, hl4, hk4⟩ := fin (some (.goto t)) W3 hk3
        exact ⟨_, _, hr, .inr ⟨rfl, .goto t, (hIx _).putObj _ hi3 (by omega), hl4, hk4⟩⟩
      | panic ch => exact hp.elim
      | outgrown => exact hp.elim
    · -- BEHIND THE ITERATOR
      rintro e W2 ⟨⟨v, rfl⟩, (⟨xs, hS, hi, hl, hk⟩ | ⟨pre, hSp, c, hi, hl, hk⟩)⟩
      · exact ⟨none, _, by have := run_endLoop (P := P) hl (by rw [hrec]; simp); rw [hrec] at this; exact this, hdone _ xs _ (Nat.le_refl _) hS (hI.putObj _ hi (by omega)) ((World.putObj_heap_other (by omega)).trans hk)⟩
      · exact ⟨some c, _, by have := run_endLoop (P := P) hl (by rw [hrec]; simp); rw [hrec] at this; exact this, hstop _ c pre _ (Nat.le_refl _) hSp ((hIx c).putObj _ hi (by omega)) ((World.putObj_heap_other (by omega)).trans hk)⟩

end Go.Proofs.Ytkmbhknmjnbanaa.A


namespace Go.Proofs.Ytkmbhknmjnbanaa.A
open Go.RowKit Go.Proofs.YtkmbhknmjnbanaaW.PrintWords Go.Proofs.YtkmbhknmjnbanaaW.PrintLast Go.Shelf Go.Lib
attribute [local go_sem] Oper.semAt_some
set_option linter.unusedVariables false
set_option linter.unusedSimpArgs false

def rowOf (g : List (List Int)) (a : Nat) : List Int := g.getD a []
/-- marks and what was left, behind a walk from a -/
def visit (g : List (List Int)) : Nat → List Bool → Nat → List Bool × List Int
  | 0, met, _ => (met, [])
  | n + 1, met, a =>
    let s := (rowOf g a).foldl (fun (s : List Bool × List Int) t => if s.1.getD t.toNat true then s else let r := visit g n s.1 t.toNat; (r.1, s.2 ++ r.2)) (met.set a true, [])
    (s.1, s.2 ++ [(a : Int)])
def vstep (g : List (List Int)) (n : Nat) (s : List Bool × List Int) (t : Int) : List Bool × List Int := if s.1.getD t.toNat true then s else ((visit g n s.1 t.toNat).1, s.2 ++ (visit g n s.1 t.toNat).2)
def vrow (g : List (List Int)) (n : Nat) (met : List Bool) (l : List Int) : List Bool × List Int := l.foldl (vstep g n) (met, [])
theorem visit_succ (g : List (List Int)) (n : Nat) (met : List Bool) (a : Nat) : visit g (n + 1) met a = ((vrow g n (met.set a true) (rowOf g a)).1, (vrow g n (met.set a true) (rowOf g a)).2 ++ [(a : Int)]) := rfl
theorem vrow_snoc (g : List (List Int)) (n : Nat) (met : List Bool) (l : List Int) (x : Int) : vrow g n met (l ++ [x]) = vstep g n (vrow g n met l) x := by simp [vrow]

def unmet (m : List Bool) : Nat := m.count false
theorem unmet_set {m : List Bool} {a : Nat} (ha : a < m.length) (h : m.getD a true = false) : unmet (m.set a true) + 1 = unmet m := by
  unfold unmet
  have h' : m[a] = false := by simpa [List.getD_eq_getElem?_getD, ha] using h
  rw [List.count_set (by exact ha), h']
  have : 0 < m.count false := List.count_pos_iff.2 (h' ▸ List.getElem_mem ha)
  simp
  omega
theorem unmet_pos {m : List Bool} {a : Nat} (ha : a < m.length) (h : m.getD a true = false) : 0 < unmet m := by have := unmet_set ha h; omega

/-- what a walk does to the marks -/
theorem visit_len (g : List (List Int)) : ∀ (n : Nat) (met : List Bool) (a : Nat), (visit g n met a).1.length = met.length
  | 0, met, a => rfl
  | n + 1, met, a => by
    rw [visit_succ]
    have : ∀ (l : List Int) (s : List Bool × List Int), (l.foldl (vstep g n) s).1.length = s.1.length := by
      intro l
      induction l with
      | nil => intro s; rfl
      | cons x l ih =>
        intro s
        rw [List.foldl_cons, ih]
        unfold vstep
        split
        · rfl
        · exact visit_len g n _ _
    show (vrow g n (met.set a true) (rowOf g a)).1.length = _
    rw [vrow, this]; simp
theorem vrow_len (g : List (List Int)) (n : Nat) (met : List Bool) (l : List Int) : (vrow g n met l).1.length = met.length := by
  unfold vrow
  suffices H : ∀ (l : List Int) (s : List Bool × List Int), (l.foldl (vstep g n) s).1.length = s.1.length from H l _
  intro l
  induction l with
  | nil => intro s; rfl
  | cons x l ih =>
    intro s
    rw [List.foldl_cons, ih]
    unfold vstep
    split
    · rfl
    · exact visit_len g n _ _
/-- each that is left has been marked -/
theorem visit_count (g : List (List Int)) (hg : ∀ l ∈ g, ∀ x ∈ l, 0 ≤ x ∧ x < g.length) : ∀ (n : Nat) (met : List Bool) (a : Nat), met.length = g.length → a < g.length → met.getD a true = false → unmet met ≤ n →
    (visit g n met a).2.length + unmet (visit g n met a).1 = unmet met
  | 0, met, a, hl, ha, hm, hn => by have := unmet_pos (hl ▸ ha) hm; omega
  | n + 1, met, a, hl, ha, hm, hn => by
    rw [visit_succ]
    have hs := unmet_set (hl ▸ ha) hm
    have : ∀ (l : List Int), (∀ x ∈ l, 0 ≤ x ∧ x < g.length) → ∀ (s : List Bool × List Int), s.1.length = g.length → unmet s.1 ≤ n → (l.foldl (vstep g n) s).2.length + unmet (l.foldl (vstep g n) s).1 = s.2.length + unmet s.1 := by
      intro l
      induction l with
      | nil => intro _ s _ _; rfl
      | cons x l ih =>
        intro hx s hsl hsn
        rw [List.foldl_cons]
        have hx0 := hx x (by simp)
        unfold vstep
        split
        · exact ih (fun y hy => hx y (by simp [hy])) s hsl hsn
        · rename_i hf
          have hc := visit_count g hg n s.1 x.toNat hsl (by omega) (by simpa using hf) hsn
          have := ih (fun y hy => hx y (by simp [hy])) ((visit g n s.1 x.toNat).1, s.2 ++ (visit g n s.1 x.toNat).2) (by show (visit g n s.1 x.toNat).1.length = _; rw [visit_len, hsl]) (by show unmet (visit g n s.1 x.toNat).1 ≤ n; omega)
          unfold vstep at this
          rw [this]
          simp only [List.length_append]
          omega
    have hrow : ∀ x ∈ rowOf g a, 0 ≤ x ∧ x < g.length := by
      intro x hx
      unfold rowOf at hx
      rw [List.getD_eq_getElem?_getD, List.getElem?_eq_getElem ha] at hx
      exact hg _ (List.getElem_mem ha) x hx
    have h3 := this (rowOf g a) hrow (met.set a true, []) (by simp [hl]) (by show unmet (met.set a true) ≤ n; omega)
    show ((vrow g n (met.set a true) (rowOf g a)).2 ++ [(a : Int)]).length + unmet (vrow g n (met.set a true) (rowOf g a)).1 = _
    unfold vrow
    simp only [List.length_append, List.length_cons, List.length_nil] at h3 ⊢
    omega
theorem vrow_count (g : List (List Int)) (hg : ∀ l ∈ g, ∀ x ∈ l, 0 ≤ x ∧ x < g.length) (n : Nat) (met : List Bool) (hl : met.length = g.length) (hn : unmet met ≤ n) (l : List Int) (hx : ∀ x ∈ l, 0 ≤ x ∧ x < g.length) :
    (vrow g n met l).2.length + unmet (vrow g n met l).1 = unmet met := by
  unfold vrow
  suffices H : ∀ (l : List Int), (∀ x ∈ l, 0 ≤ x ∧ x < g.length) → ∀ (s : List Bool × List Int), s.1.length = g.length → unmet s.1 ≤ n → (l.foldl (vstep g n) s).2.length + unmet (l.foldl (vstep g n) s).1 = s.2.length + unmet s.1 by
    have := H l hx (met, []) hl hn; simpa using this
  intro l
  induction l with
  | nil => intro _ s _ _; rfl
  | cons x l ih =>
    intro hx s hsl hsn
    rw [List.foldl_cons]
    have hx0 := hx x (by simp)
    unfold vstep
    split
    · exact ih (fun y hy => hx y (by simp [hy])) s hsl hsn
    · rename_i hf
      have hc := visit_count g hg n s.1 x.toNat hsl (by omega) (by simpa using hf) hsn
      have := ih (fun y hy => hx y (by simp [hy])) ((visit g n s.1 x.toNat).1, s.2 ++ (visit g n s.1 x.toNat).2) (by show (visit g n s.1 x.toNat).1.length = _; rw [visit_len, hsl]) (by show unmet (visit g n s.1 x.toNat).1 ≤ n; omega)
      unfold vstep at this
      rw [this]
      simp only [List.length_append]
      omega
end Go.Proofs.Ytkmbhknmjnbanaa.A


namespace Go.Proofs.Ytkmbhknmjnbanaa.A
open Go.RowKit Go.Proofs.YtkmbhknmjnbanaaW.PrintWords Go.Proofs.YtkmbhknmjnbanaaW.PrintLast Go.Shelf Go.Lib
attribute [local go_sem] Oper.semAt_some
set_option linter.unusedVariables false
set_option linter.unusedSimpArgs false

theorem room_none {F : Fence} (hd : F.depth = none) (k : Nat) : F.room k := fun d h => by rw [hd] at h; cases h
theorem roundIn_any {F : Fence} (hd : F.depth = none) {m m' : Nat} {P : Program} {l : Nat} {f : FuncId} {tmps : Array Value} {assign body : Code} {w : World} {R : Ending → World → Prop}
    (h : RoundIn F m P l f tmps assign body w R) : RoundIn F m' P l f tmps assign body w R := ⟨h.1, fun c cs _ => h.2 c cs (room_none hd _)⟩
theorem yieldAt_any {F : Fence} (hd : F.depth = none) {m : Nat} (m' : Nat) {P : Program} {l : Nat} {args : Array Value} {W : World} {R : Ending → World → Prop} (h : YieldAt F m P l args W R) : YieldAt F m' P l args W R := by
  obtain ⟨fn, tmps, assign, body, hy, hR⟩ := h
  exact ⟨fn, tmps, assign, body, hy, roundIn_any hd hR⟩

/-- what a round may touch -/
def KX (n₀ Bg : Nat) (B : Nat) (k : Nat) : Prop := ¬ (k < n₀ ∨ k = Bg ∨ (B ≤ k ∧ k < B + 4))
/-- what the walk touches -/
def XW (B : Nat) (k : Nat) : Prop := B ≤ k ∧ k < B + 4
def visV (B Bg : Nat) : Value := .func (.func 72) #[] #[.pointer (some ⟨B + 2, 0, none⟩), .pointer (some ⟨Bg, 0, none⟩), .pointer (some ⟨B + 3, 0, none⟩), .pointer (some ⟨B, 0, none⟩)]

structure St (g : List (List Int)) (A : Option Addr) (c : Nat) (w0 : World) (l B Bg : Nat) (met : List Bool) (W : World) : Prop where
  hB : Below w0.heap.size w0 W
  cg : W.cell? ⟨Bg, 0, none⟩ = some (.slice A g.length c)
  cy : W.cell? ⟨B, 0, none⟩ = some (.func (.yield l) #[] #[])
  cm : W.cell? ⟨B + 2, 0, none⟩ = some (.slice (some ⟨B + 1, 0, none⟩) g.length g.length)
  cv : W.cell? ⟨B + 3, 0, none⟩ = some (visV B Bg)
  mm : ∀ j, j < g.length → W.cell? ⟨B + 1, j, none⟩ = some (.bool (met.getD j true))
  fr : ∀ j, W.frozen? ⟨B + 1, j, none⟩ = false

theorem KeepsBut.frozen {X : Nat → Prop} {W W' : World} (h : KeepsBut X W W') {p : Addr} {v : Value} (hc : W.cell? p = some v) (hx : ¬ X p.block) (hf : W.frozen? p = false) : W'.frozen? p = false := by
  have hb := h.block p.block (World.block_lt_of_cell? _ _ hc) hx
  unfold World.frozen? at hf ⊢
  rw [hb]; exact hf
theorem St.keep {g : List (List Int)} {A : Option Addr} {c : Nat} {w0 : World} {l B Bg : Nat} {met : List Bool} {W W' : World} (h : St g A c w0 l B Bg met W) (k : KeepsBut (KX w0.heap.size Bg B) W W') (hg : 0 < g.length) : St g A c w0 l B Bg met W' :=
  ⟨h.hB.trans (k.below h.hB.size (fun j hj hx => hx (.inl hj))), k.cell h.cg (fun hx => hx (.inr (.inl rfl))), k.cell h.cy (fun hx => hx (.inr (.inr ⟨by show B ≤ B; omega, by show B < B + 4; omega⟩))),
    k.cell h.cm (fun hx => hx (.inr (.inr ⟨by show B ≤ B + 2; omega, by show B + 2 < B + 4; omega⟩))), k.cell h.cv (fun hx => hx (.inr (.inr ⟨by show B ≤ B + 3; omega, by show B + 3 < B + 4; omega⟩))),
    fun j hj => k.cell (h.mm j hj) (fun hx => hx (.inr (.inr ⟨by show B ≤ B + 1; omega, by show B + 1 < B + 4; omega⟩))),
    fun j => by
      have hb := k.block (B + 1) (World.block_lt_of_cell? _ _ (h.mm 0 hg)) (fun hx => hx (.inr (.inr ⟨by omega, by omega⟩)))
      have := h.fr j
      unfold World.frozen? at this ⊢
      rw [show (⟨B + 1, j, none⟩ : Addr).block = B + 1 from rfl] at this ⊢
      rw [hb]; exact this⟩
theorem St.mark {g : List (List Int)} {A : Option Addr} {c : Nat} {w0 : World} {l B Bg : Nat} {met : List Bool} {W : World} (h : St g A c w0 l B Bg met W) (a : Nat) (ha : a < g.length) (hl : met.length = g.length) (hBg : Bg < B) (hn : w0.heap.size ≤ B) :
    St g A c w0 l B Bg (met.set a true) (W.setCell ⟨B + 1, a, none⟩ (.bool true)) :=
  ⟨h.hB.trans ((Below.refl _ _).setCell (by show _ ≤ B + 1; omega) _),
    (World.cell?_setCell_far _ _ _ _ (by show B + 1 ≠ Bg; omega)).trans h.cg, (World.cell?_setCell_far _ _ _ _ (by show B + 1 ≠ B; omega)).trans h.cy,
    (World.cell?_setCell_far _ _ _ _ (by show B + 1 ≠ B + 2; omega)).trans h.cm, (World.cell?_setCell_far _ _ _ _ (by show B + 1 ≠ B + 3; omega)).trans h.cv,
    fun j hj => by
      by_cases e : j = a
      · subst e
        rw [World.cell?_setCell_same' _ _ _ (by rw [h.mm j hj]; rfl)]
        simp [List.getD_eq_getElem?_getD, List.getElem?_set, hl, hj]
      · rw [World.cell?_setCell_other _ _ _ _ (by intro h; cases h; exact e rfl), h.mm j hj]
        have e' : ¬ a = j := fun h => e h.symm
        simp [List.getD_eq_getElem?_getD, List.getElem?_set, e'],
    fun j => by rw [World.frozen?_setCell]; exact h.fr j⟩
end Go.Proofs.Ytkmbhknmjnbanaa.A


namespace Go.Proofs.Ytkmbhknmjnbanaa.A
open Go.RowKit Go.Proofs.YtkmbhknmjnbanaaW.PrintWords Go.Proofs.YtkmbhknmjnbanaaW.PrintLast Go.Shelf Go.Lib
attribute [local go_sem] Oper.semAt_some
set_option linter.unusedVariables false
set_option linter.unusedSimpArgs false

set_option maxRecDepth 100000 in
set_option maxHeartbeats 4000000 in
theorem visit_in (F : Fence) (hd : F.depth = none) (h72 : F.fn 72) (hro : F.round = none) (l B Bg N : Nat) (A : Option Addr) (c : Nat) (g : List (List Int)) (w0 : World)
    (hC0 : Kd.C (Kd.slice 3 (Kd.int .i64)) w0 A g.length g) (hg : ∀ l ∈ g, ∀ x ∈ l, 0 ≤ x ∧ x < g.length) (hBg : Bg < B) (hn0 : w0.heap.size ≤ B)
    (J Jx : List Int → World → Prop) (hJ : AbX (XW B) J)
    (hY : ∀ m pre x W, 0 ≤ x → x < (g.length : Int) → J pre W → B + 4 ≤ W.heap.size → pre.length < N → YieldAt F m Try.prog l #[.int .i64 x] W fun e W' =>
      (e = .returned (.bool true) ∧ J (pre ++ [x]) W' ∧ KeepsBut (KX w0.heap.size Bg B) W W') ∨ (e = .returned (.bool false) ∧ Jx (pre ++ [x]) W')) :
    ∀ (fuel n a : Nat) (met : List Bool) (pre : List Int) (W : World), a < g.length → met.length = g.length → met.getD a true = false → unmet met ≤ fuel → pre.length + unmet met ≤ N →
      St g A c w0 l B Bg met W → J pre W →
      CallsIn F n Try.prog 72 #[.int .i64 a, .pointer (some ⟨B + 2, 0, none⟩), .pointer (some ⟨Bg, 0, none⟩), .pointer (some ⟨B + 3, 0, none⟩), .pointer (some ⟨B, 0, none⟩)] W fun e W' =>
        (e = .returned (.bool true) ∧ J (pre ++ (visit g fuel met a).2) W' ∧ St g A c w0 l B Bg (visit g fuel met a).1 W') ∨ (e = .returned (.bool false) ∧ ∃ q, Jx q W') := by
  intro fuel
  induction fuel with
  | zero => intro n a met pre W ha hl hm hf; have := unmet_pos (hl ▸ ha) hm; omega
  | succ fuel ih =>
    intro n a met pre W ha hl hm hf hN hS hJ0
    have hdd : ∀ k : Nat, (F.depth.isSome = true → 1 ≤ k) := fun k h => by rw [hd] at h; cases h
    rw [visit_succ]
    have hs := unmet_set (hl ▸ ha) hm
    -- THE ROW
    have hrow : ∀ x ∈ rowOf g a, 0 ≤ x ∧ x < g.length := by
      intro x hx
      unfold rowOf at hx
      rw [List.getD_eq_getElem?_getD, List.getElem?_eq_getElem ha] at hx
      exact hg _ (List.getElem_mem ha) x hx
    obtain ⟨ad, A0, c0, eA, q0, q1, q2⟩ := at_L1 hC0 (a : Int) (by omega) (by omega)
    subst eA
    rw [show rd_L1 g (a : Int) = rowOf g a from by unfold rd_L1 rowOf; simp] at q0 q1 q2
    rw [Int.toNat_natCast] at q0
    generalize hR : rowOf g a = R at q0 q1 q2 hrow ⊢
    -- THE MARK
    have hSm := hS.mark a ha hl hBg hn0
    have hJm : J pre (W.setCell ⟨B + 1, a, none⟩ (.bool true)) := hJ pre W _ hJ0 (KeepsBut.setCell W _ _ ⟨by show B ≤ B + 1; omega, by show B + 1 < B + 4; omega⟩)
    have hml : (met.set a true).length = g.length := by simpa using hl
    have hmN : pre.length + 1 + unmet (met.set a true) ≤ N := by omega
    have hmf : unmet (met.set a true) ≤ fuel := by omega
    have k1 := hS.cm
    have k2 := hS.mm a ha
    have k3 := hS.fr a
    generalize met.set a true = m0 at hSm hml hmN hmf ⊢
    generalize hW1 : W.setCell ⟨B + 1, a, none⟩ (.bool true) = W1 at hSm hJm
    have k4 := hSm.cg
    have k5 := (hSm.hB.cell (World.block_lt_of_cell? _ _ q0)).trans q0
    have hbig : R.length ≤ 9223372036854775807 := Kd.C_max q2
    have ha0 : (0 : Int) ≤ (a : Int) := by omega
    have ha1 : (a : Int) < (g.length : Int) := by omega
    clear hS hs hm
    refine callsIn_of_wp Try.func72 rfl h72 ?_ hro
    simp only [Try.ntmps72, List.size_toArray, List.length_cons, List.length_nil, Nat.reduceAdd, Nat.reduceSub, Array.replicate_succ, Array.replicate_zero, List.push_toArray, List.append_toArray, List.nil_append, List.cons_append]
    gi_wp2
    clear k1 k2 k3 k4 k5 hW1
    gi_loopw [17] (fun s wr => ∃ kk : Nat, kk ≤ R.length ∧ s = .int .i64 kk ∧ Aside0 (St g (some ad) c w0 l B Bg (vrow g fuel m0 (R.take kk)).1 wr) ∧ Aside0 (J (pre ++ (vrow g fuel m0 (R.take kk)).2) wr))
      (fun s _ => R.length - (RowKit.intOf s).toNat)
    case atStart => exact ⟨0, Nat.zero_le _, rfl, ⟨by simpa [vrow] using hSm⟩, ⟨by simpa [vrow] using hJm⟩⟩
    case round =>
      obtain ⟨kk, hkk, rfl, hSk, hJk⟩ := hrel
      have hcnt := vrow_count g hg fuel m0 hml hmf (R.take kk) (fun x hx => hrow x (List.mem_of_mem_take hx))
      have hlen := vrow_len g fuel m0 (R.take kk)
      have hsn : ∀ h : kk < R.length, vrow g fuel m0 (R.take (kk + 1)) = vstep g fuel (vrow g fuel m0 (R.take kk)) R[kk] := fun h => by
        rw [List.take_succ_eq_append_getElem h, vrow_snoc]
      by_cases hlt : kk < R.length
      · have hltz : (kk : Int) < (R.length : Int) := by omega
        have hk0 : (0 : Int) ≤ (kk : Int) := by omega
        replace hsn := hsn hlt
        obtain ⟨ae, e1, r0⟩ := Kd.at_int q2 (kk : Int) hk0 hltz
        subst e1
        rw [Int.toNat_natCast] at r0
        have hrd : rd R (kk : Int) = R[kk] := by unfold rd; simp [hlt]
        rw [hrd] at r0
        have hxr := hrow R[kk] (List.getElem_mem hlt)
        generalize R[kk] = x at r0 hxr hsn
        obtain ⟨xn, rfl⟩ := Int.eq_ofNat_of_zero_le hxr.1
        have hxn : xn < g.length := by omega
        replace r0 := (hSk.out.hB.cell (World.block_lt_of_cell? _ _ r0)).trans r0
        generalize vrow g fuel m0 (R.take kk) = s at *
        obtain ⟨m, o⟩ := s
        dsimp only at *
        have hx0 : (0 : Int) ≤ (xn : Int) := by omega
        have hx1 : (xn : Int) < (g.length : Int) := by omega
        have k1 := hSk.out.cm
        have k2 := hSk.out.mm xn hxn
        have k3 := hSk.out.cv
        unfold visV at k3
        unfold vstep at hsn
        dsimp only at hsn
        rw [Int.toNat_natCast] at hsn
        cases hmx : m.getD xn true with
        | true =>
          rw [hmx] at k2
          rw [hmx, if_pos rfl] at hsn
          clear ih
          gi_wp2
          refine ⟨fun _ h => (by cases h), ?_⟩
          gi_wp2
          go_roundw
          case rel => exact ⟨kk + 1, by omega, by go_num, by rw [hsn]; exact hSk, by rw [hsn]; exact hJk⟩
          case measure => simp [RowKit.intOf]; omega
        | false =>
          rw [hmx] at k2
          rw [hmx, if_neg (by simp)] at hsn
          have ihc := ih (n - 1) xn m (pre ++ o) wr hxn (by omega) hmx (by omega) (by simp; omega) hSk.out hJk.out
          clear ih
          have hsn' := Aside0.mk hsn
          clear hsn
          gi_wp2_with ((try refine ⟨hdd _, ?_⟩); gi_at_call 72; refine ihc.mono ?_; clear ihc; rintro e W3 (⟨rfl, hJ3, hS3⟩ | ⟨rfl, q, hq⟩))
          · go_roundw
            case rel => exact ⟨kk + 1, by omega, by go_num, by rw [hsn'.out]; exact ⟨hS3⟩, by rw [hsn'.out]; exact ⟨by rw [← List.append_assoc]; exact hJ3⟩⟩
            case measure => simp [RowKit.intOf]; omega
          · go_ret
            exact .inr ⟨rfl, q, hq⟩
      · obtain rfl : kk = R.length := by omega
        rw [List.take_length] at hSk hJk hcnt hlen
        clear ih hsn
        have k1 := hSk.out.cy
        obtain ⟨fn, tmps, assign, body, hy, hR⟩ := hY (n - 1) (pre ++ (vrow g fuel m0 R).2) (a : Int) wr ha0 ha1 hJk.out (World.block_lt_of_cell? _ _ hSk.out.cv) (by simp; omega)
        gi_wp2_with ((try refine ⟨hdd _, ?_⟩); refine hR.mono ?_; clear hR; rintro e W2 (⟨rfl, hJ2, hk2⟩ | ⟨rfl, hx2⟩))
        · go_ret
          exact .inl ⟨rfl, by rw [← List.append_assoc]; exact hJ2, hSk.out.keep hk2 (by omega)⟩
        · go_ret
          exact .inr ⟨rfl, _, hx2⟩
end Go.Proofs.Ytkmbhknmjnbanaa.A


namespace Go.Proofs.Ytkmbhknmjnbanaa.A
open Go.RowKit Go.Proofs.YtkmbhknmjnbanaaW.PrintWords Go.Proofs.YtkmbhknmjnbanaaW.PrintLast Go.Shelf Go.Lib
attribute [local go_sem] Oper.semAt_some
set_option linter.unusedVariables false
set_option linter.unusedSimpArgs false

def met0 (g : List (List Int)) : List Bool := List.replicate g.length false
theorem unmet_met0 (g : List (List Int)) : unmet (met0 g) = g.length := by simp [unmet, met0]
/-- what is left, in that order -/
def walkOf (g : List (List Int)) (a : Nat) : List Int := (visit g g.length (met0 g) a).2
theorem made4 (n : Nat) : madeCells #[.bool false] n = (Array.range n).map (fun _ => Value.bool false) := by
  unfold madeCells
  apply Array.ext
  · simp
  · intro i h1 h2; simp [Nat.mod_one]

set_option maxRecDepth 100000 in
set_option maxHeartbeats 4000000 in
theorem walk1_in (F : Fence) (hd : F.depth = none) (n : Nat) (h71 : F.fn 71) (h72 : F.fn 72) (hro : F.round = none) (l Bg Bf a : Nat) (A : Option Addr) (c : Nat) (g : List (List Int)) (w0 : World)
    (hC0 : Kd.C (Kd.slice 3 (Kd.int .i64)) w0 A g.length g) (hg : ∀ l ∈ g, ∀ x ∈ l, 0 ≤ x ∧ x < g.length) (ha : a < g.length) (hgl : g.length ≤ 100000)
    (J Jx : List Int → World → Prop) (W : World) (hBg : Bg < W.heap.size) (hB : Below w0.heap.size w0 W) (hJ : AbX (XW W.heap.size) J)
    (hY : ∀ pre x W', 0 ≤ x → x < (g.length : Int) → J pre W' → W.heap.size + 4 ≤ W'.heap.size → pre.length < g.length → YieldAt F (n - 1) Try.prog l #[.int .i64 x] W' fun e W'' =>
      (e = .returned (.bool true) ∧ J (pre ++ [x]) W'' ∧ KeepsBut (KX w0.heap.size Bg W.heap.size) W' W'') ∨ (e = .returned (.bool false) ∧ Jx (pre ++ [x]) W''))
    (hcg : W.cell? ⟨Bg, 0, none⟩ = some (.slice A g.length c)) (hcf : W.cell? ⟨Bf, 0, none⟩ = some (.int .i64 a)) (h0 : J [] W) :
    CallsIn F n Try.prog 71 #[.func (.yield l) #[] #[], .pointer (some ⟨Bg, 0, none⟩), .pointer (some ⟨Bf, 0, none⟩)] W fun e W' => (∃ v, e = .returned v) ∧
      ((∃ ys, ys = walkOf g a ∧ J ys W') ∨ (∃ pre, True ∧ Jx pre W')) := by
  have hdd : ∀ k : Nat, (F.depth.isSome = true → 1 ≤ k) := fun k h => by rw [hd] at h; cases h
  obtain ⟨B, hBe⟩ : ∃ B, W.heap.size = B := ⟨_, rfl⟩
  obtain ⟨W4, hW4⟩ : ∃ W4, (((((W.alloc (.cells #[.func (.yield l) #[] #[]] 45)).alloc (.cells (madeCells #[.bool false] g.length) 4)).alloc (.cells #[.slice none 0 0] 29)).setCell ⟨B + 2, 0, none⟩ (.slice (some ⟨B + 1, 0, none⟩) g.length g.length)).alloc (.cells #[.nilFunc] 45)).setCell ⟨B + 3, 0, none⟩ (visV B Bg) = W4 := ⟨_, rfl⟩
  have hk : KeepsBut (XW B) W W4 := by
    rw [← hW4]
    refine (((((KeepsBut.alloc _ W _).trans (KeepsBut.alloc _ _ _)).trans (KeepsBut.alloc _ _ _)).trans (KeepsBut.setCell _ _ _ ?_)).trans (KeepsBut.alloc _ _ _)).trans (KeepsBut.setCell _ _ _ ?_)
    · exact ⟨by show B ≤ B + 2; omega, by show B + 2 < B + 4; omega⟩
    · exact ⟨by show B ≤ B + 3; omega, by show B + 3 < B + 4; omega⟩
  have hJ4 : J [] W4 := hJ [] W W4 h0 (by rw [hBe]; exact hk)
  have hS : St g A c w0 l B Bg (met0 g) W4 := by
    refine ⟨hB.trans (hk.below hB.size (fun k h1 h2 => by have := hB.size; have := h2.1; omega)), hk.cell hcg (fun h => by have : B ≤ Bg := h.1; omega), ?_, ?_, ?_, ?_, ?_⟩
    · rw [← hW4]; subst hBe; simp [go_sem]
    · rw [← hW4]; subst hBe; simp [go_sem]
    · rw [← hW4]; subst hBe; simp [go_sem]
    · intro j hj
      rw [← hW4]; subst hBe; simp [go_sem, made4, hj, met0, List.getD_eq_getElem?_getD]
    · intro j
      rw [← hW4]; subst hBe; simp [go_sem]
  have hp := visit_in F hd h72 hro l B Bg g.length A c g w0 hC0 hg (by omega) (by have := hB.size; omega) J Jx (by rw [← hBe]; exact hJ) (fun m pre x W' x0 x1 hj h4 hl => yieldAt_any hd m (by rw [← hBe]; exact hY pre x W' x0 x1 hj (by rw [hBe]; exact h4) hl))
    g.length (n - 1) a (met0 g) [] W4 ha (by simp [met0]) (by simp [met0, ha]) (by rw [unmet_met0]; exact Nat.le_refl _) (by rw [unmet_met0]; simp) hS hJ4
  have hmk : ∀ V : World, (Instr.makeSlice 29 (.int .i64 (g.length : Int)) (.int .i64 (g.length : Int))).run Try.prog V = .ok (.slice (some ⟨V.heap.size, 0, none⟩) g.length g.length) (V.alloc (.cells (madeCells #[.bool false] g.length) 4)) := by
    intro V
    obtain ⟨i0, hi, hz0, hz1, hz2⟩ := info_parts info4
    have := run_make V 29 4 i0 _ Try.underlying29 hi hz0 .i64 .i64 (g.length : Int) (g.length : Int) (by omega) (by omega) (by rw [hz2]; omega) (by omega)
    rw [Int.toNat_natCast, hz1, Nat.mul_one] at this
    exact this
  have hBf : Bf < W.heap.size := World.block_lt_of_cell? _ _ hcf
  have hk4 : W4.cell? ⟨Bf, 0, none⟩ = some (.int .i64 a) := hk.cell hcf (fun h => by have : B ≤ Bf := h.1; omega)
  clear hS hJ4 hY hJ h0 hk
  unfold visV at hW4
  subst hBe
  rw [show W.heap.size + 3 = W.heap.size + 1 + 1 + 1 from rfl, show W.heap.size + 2 = W.heap.size + 1 + 1 from rfl] at hW4 hp
  obtain ⟨W3, hW3⟩ : ∃ W3, ((((W.alloc (.cells #[.func (.yield l) #[] #[]] 45)).alloc (.cells (madeCells #[.bool false] g.length) 4)).alloc (.cells #[.slice none 0 0] 29)).setCell ⟨W.heap.size + 1 + 1, 0, none⟩ (.slice (some ⟨W.heap.size + 1, 0, none⟩) g.length g.length)) = W3 := ⟨_, rfl⟩
  rw [hW3] at hW4
  have k0 : W3.heap.size = W.heap.size + 1 + 1 + 1 := by rw [← hW3]; simp [go_sem]
  have k1 : (W3.alloc (.cells #[.nilFunc] 45)).cell? ⟨W.heap.size + 1 + 1 + 1, 0, none⟩ = some .nilFunc := by rw [← k0]; simp [go_sem]
  have k2 : (W3.alloc (.cells #[.nilFunc] 45)).frozen? ⟨W.heap.size + 1 + 1 + 1, 0, none⟩ = false := by rw [← k0]; simp [go_sem]
  have k3 : W4.cell? ⟨W.heap.size + 1 + 1 + 1, 0, none⟩ = some (.func (.func 72) #[] #[.pointer (some ⟨W.heap.size + 1 + 1, 0, none⟩), .pointer (some ⟨Bg, 0, none⟩), .pointer (some ⟨W.heap.size + 1 + 1 + 1, 0, none⟩), .pointer (some ⟨W.heap.size, 0, none⟩)]) := by
    rw [← hW4]; exact World.cell?_setCell_same' _ _ _ (by rw [k1]; rfl)
  have k4 : W4.cell? ⟨Bf, 0, none⟩ = some (.int .i64 a) := hk4
  refine callsIn_of_wp Try.func71 rfl h71 ?_ hro
  simp only [Try.ntmps71, List.size_toArray, List.length_cons, List.length_nil, Nat.reduceAdd, Nat.reduceSub, Array.replicate_succ, Array.replicate_zero, List.push_toArray, List.append_toArray, List.nil_append, List.cons_append]
  gi_wp2_with ((try refine ⟨hdd _, ?_⟩); gi_at_call 72; refine hp.mono ?_; clear hp; rintro e W5 (⟨rfl, hJ5, _⟩ | ⟨rfl, q, hq⟩))
  · go_end0
    exact ⟨⟨_, rfl⟩, .inl ⟨_, rfl, by simpa [walkOf] using hJ5⟩⟩
  · go_end0
    exact ⟨⟨_, rfl⟩, .inr ⟨q, trivial, hq⟩⟩

/-- a block of g -/
abbrev Blk (g : List (List Int)) := { x : Int // 0 ≤ x ∧ x < (g.length : Int) }
theorem walk_stops (F : Fence) (hd : F.depth = none) (n : Nat) (h71 : F.fn 71) (h72 : F.fn 72) (hro : F.round = none) (Bg Bf a : Nat) (A : Option Addr) (c : Nat) (g : List (List Int)) (w0 w : World)
    (hC0 : Kd.C (Kd.slice 3 (Kd.int .i64)) w0 A g.length g) (hg : ∀ l ∈ g, ∀ x ∈ l, 0 ≤ x ∧ x < g.length) (ha : a < g.length) (hgl : g.length ≤ 100000) (hB : Below w0.heap.size w0 w)
    (hcg : w.cell? ⟨Bg, 0, none⟩ = some (.slice A g.length c)) (hcf : w.cell? ⟨Bf, 0, none⟩ = some (.int .i64 a)) :
    SeqX F n Try.prog 71 #[.pointer (some ⟨Bg, 0, none⟩), .pointer (some ⟨Bf, 0, none⟩)] (fun x : Blk g => #[.int .i64 x.1]) XW (fun B => KeepsBut (KX w0.heap.size Bg B)) (fun ys => ys.map (·.1) = walkOf g a) (fun _ => True) g.length 4 w := by
  intro l J Jx W hW hJ hJx hY h0
  refine (walk1_in F hd n h71 h72 hro l Bg Bf a A c g w0 hC0 hg ha hgl (fun pre W => ∃ p : List (Blk g), p.map (·.1) = pre ∧ J p W) (fun pre W => ∃ p : List (Blk g), Jx p W) W
    (Nat.lt_of_lt_of_le (World.block_lt_of_cell? _ _ hcg) hW.size) (hB.trans (hW.mono hB.size)) (fun s W1 W2 ⟨p, hp, hj⟩ hk => ⟨p, hp, hJ p W1 W2 hj hk⟩) ?_
    ((hW.cell (World.block_lt_of_cell? _ _ hcg)).trans hcg) ((hW.cell (World.block_lt_of_cell? _ _ hcf)).trans hcf) ⟨[], rfl, h0⟩).mono ?_
  · rintro pre x W' x0 x1 ⟨p, rfl, hj⟩ h4 hlen
    refine (hY p ⟨x, x0, x1⟩ W' hj h4 (by simpa using hlen)).mono ?_
    rintro e W'' (⟨rfl, h1, h2⟩ | ⟨rfl, h1⟩)
    · exact .inl ⟨rfl, ⟨p ++ [⟨x, x0, x1⟩], by simp, h1⟩, h2⟩
    · exact .inr ⟨rfl, _, h1⟩
  · rintro e W' ⟨hv, (⟨ys, rfl, p, hp, hj⟩ | ⟨_, _, p, hj⟩)⟩
    · exact ⟨hv, .inl ⟨p, hp, hj⟩⟩
    · exact ⟨hv, .inr ⟨p, trivial, hj⟩⟩

theorem walk_in (F : Fence) (n : Nat) (h49 : F.fn 49) (hro : F.round = none) (A : Option Addr) (m c : Nat) (a : Int) (w : World) :
    CallsIn F n Try.prog 49 #[.slice A m c, .int .i64 a] w fun e w' => e = .returned (.func (.func 71) #[] #[.pointer (some ⟨w.heap.size, 0, none⟩), .pointer (some ⟨w.heap.size + 1, 0, none⟩)]) ∧ w' = (w.alloc (.cells #[.slice A m c] 22)).alloc (.cells #[.int .i64 a] 3) := by
  refine callsIn_of_wp Try.func49 rfl h49 ?_ hro
  simp only [Try.ntmps49, List.size_toArray, List.length_cons, List.length_nil, Nat.reduceAdd, Nat.reduceSub, Array.replicate_succ, Array.replicate_zero, List.push_toArray, List.append_toArray, List.nil_append, List.cons_append]
  gi_wp2
  go_ret
  exact ⟨rfl, rfl⟩
end Go.Proofs.Ytkmbhknmjnbanaa.A


namespace Go.Proofs.Ytkmbhknmjnbanaa.A
open Go.RowKit Go.Proofs.YtkmbhknmjnbanaaW.PrintWords Go.Proofs.YtkmbhknmjnbanaaW.PrintLast Go.Shelf Go.Lib
attribute [local go_sem] Oper.semAt_some
set_option linter.unusedVariables false
set_option linter.unusedSimpArgs false

theorem right_rows {g : List (List Int)} (h : rightB g = true) : g.length ≤ 4096 ∧ 1 ≤ g.length ∧ ∀ l ∈ g, ∀ x ∈ l, 0 ≤ x ∧ x < (g.length : Int) := by
  unfold rightB at h
  simp only [Bool.and_eq_true, decide_eq_true_eq, Bool.not_eq_true', List.any_eq_false] at h
  obtain ⟨⟨h1, h2⟩, h3⟩ := h
  refine ⟨h2, h1, fun l hl x hx => ?_⟩
  have := h3 l hl
  simp only [badL, Bool.or_eq_true, decide_eq_true_eq, List.any_eq_true, not_or, not_exists, not_and] at this
  have := this.2 x hx
  simp only [badN, Bool.or_eq_true, decide_eq_true_eq] at this
  omega

/-- the marks of those that have come -/
def marks (n : Nat) (pre : List Int) : List Bool := (List.range n).map fun j : Nat => decide ((j : Int) ∈ pre)
theorem marks_len (n : Nat) (pre : List Int) : (marks n pre).length = n := by simp [marks]
end Go.Proofs.Ytkmbhknmjnbanaa.A


namespace Go.Proofs.Ytkmbhknmjnbanaa.A
open Go.RowKit Go.Proofs.YtkmbhknmjnbanaaW.PrintWords Go.Proofs.YtkmbhknmjnbanaaW.PrintLast Go.Proofs.YtkmbhknmjnbanaaW.PrintMore
attribute [local go_sem] max2_int min2_int max_two min_two max_three min_three max_four min_four   -- for this text's walks alone
set_option linter.unusedVariables false
set_option linter.unusedSimpArgs false

def slices_Reverse_int_int.l0 : Nat → List Int → Int → Int → Option (List Int)
  | 0, _, _, _ => none
  | k + 1, x0, x2, x3 => if x2 < x3 then (if 0 ≤ x3 then (if x3 < (x0.length : Int) then (if 0 ≤ x2 then (if x2 < (x0.length : Int) then (slices_Reverse_int_int.l0 k ((x0.set (x2 : Int).toNat (rd x0 x3)).set (x3 : Int).toNat (rd x0 x2)) (wrap64 (x2 + 1)) (wrap64 (x3 - 1))) else (none)) else (none)) else (none)) else (none)) else (some x0)
def slices_Reverse_int_int.f (k : Nat) (l0 : List Int) : Option (List Int) := slices_Reverse_int_int.l0 k l0 0 (wrap64 ((l0.length : Int) - 1))
def slices_Reverse_int_int.T3 : Bool × List (List Nat × List Nat) := (true, [([], []), ([], []), ([], []), ([], []), ([], []), ([], []), ([4, 5], [4, 5]), ([6], [6]), ([], []), ([], []), ([8, 9], [8, 9]), ([10], [10]), ([0, 1, 0, 1, 4, 5, 6, 7, 11], [0, 1]), ([12, 7, 0, 1, 4, 5, 6, 7, 11], [7, 12]), ([2, 3, 0, 1, 2, 3, 4, 5, 6, 7, 8, 9, 10, 11, 12, 13], [2, 3]), ([14, 11, 13, 0, 1, 2, 3, 4, 5, 6, 7, 8, 9, 10, 11, 12, 13], [11, 14])])
def slices_Reverse_int_int.B3 : List Nat := [0, 0, 0, 0, 0, 0, 48, 112, 0, 0, 768, 1792, 4083, 8179, 16383, 32767]
theorem slices_Reverse_int_int.tab3 : rtab .any (opsOf Try.f51 3) = slices_Reverse_int_int.T3 := by kernel_rfl
theorem slices_Reverse_int_int.bits3 : waitsOk slices_Reverse_int_int.T3.2 slices_Reverse_int_int.B3 = true := by kernel_rfl
set_option maxHeartbeats 8000000 in
set_option maxRecDepth 100000 in
theorem slices_Reverse_int_int.calls (k : Nat) (P0_ : Nat → Prop) (u9000_ : Value) (l0 : List Int) (r : List Int) (w0 w : World) (hB : Below w0.heap.size w0 w) (ho0 : Kd.R (Kd.int .i64) 3 w w0.heap.size P0_ u9000_ l0) (h : slices_Reverse_int_int.f k l0 = some r) :
    Calls Try.prog 51 #[u9000_] w fun e w' => e = .returned (.tuple #[]) ∧ Kd.R (Kd.int .i64) 3 w' w0.heap.size (fun k_ => (P0_ k_ ∨ w.heap.size ≤ k_)) u9000_ r ∧ Below w0.heap.size w0 w' ∧ Kept w w' (fun k_ => P0_ k_) := by
  have HO0 := Aside0.mk (show Kd.R (Kd.int .i64) 3 w w0.heap.size (fun k_ => (P0_ k_ ∨ w.heap.size ≤ k_)) u9000_ l0 from Kd.R_mono ho0 (fun k_ hk => (.inl hk)))
  have HK := Aside0.mk (Kept.refl w (fun k_ => P0_ k_))
  have HW0 := Aside0.mk hB.size
  have HB := Aside0.mk hB
  clear hB
  have H : (slices_Reverse_int_int.l0 k l0 0 (wrap64 ((l0.length : Int) - 1))) = some r := h
  clear h
  have H' := Aside0.mk H
  clear H
  obtain ⟨Ao2, co2, eo2⟩ := Kd.R_slice HO0.out
  subst eo2
  go_enter Try.func51, Try.ntmps51
  go_wp2
  go_loopg [2, 3] k (fun kq v2 v3 w' => ∃ (x0_1 : List Int) (x2_1 : Int) (x3_1 : Int), v2 = .int .i64 x2_1 ∧ v3 = .int .i64 x3_1 ∧ Aside0 (slices_Reverse_int_int.l0 kq x0_1 x2_1 x3_1 = some r) ∧ Aside0 (kq ≤ k) ∧ Aside0 (Kd.R (Kd.int .i64) 3 w' w0.heap.size (fun k_ => (P0_ k_ ∨ w.heap.size ≤ k_)) (.slice Ao2 l0.length co2) x0_1) ∧ Aside0 (Kept w w' (fun k_ => P0_ k_)) ∧ Aside0 (Below w0.heap.size w0 w'))
  case atStart => exact ⟨(l0), (0), (wrap64 ((l0.length : Int) - 1)), (by first | rfl | (simp; done) | (simp [*]; done)), (by first | rfl | (simp; done) | (simp [*]; done)), H', ⟨Nat.le_refl _⟩, ⟨by (with_reducible repeat (first | apply Kd.R_alloc | apply Kd.R_drewN | apply Kd.R_drew)); exact HO0.out⟩, ⟨by repeat (first | (with_reducible first | exact HK.out | apply Kept.alloc | apply Kept.drewN | apply Kept.drew) | exact HK.out)⟩, ⟨by repeat (first | (with_reducible first | exact HB.out | apply below_alloc | apply pw_below_drewN | apply below_drew1) | exact HB.out)⟩⟩
  case round =>
    clear H'
    try clear p2
    obtain ⟨x0_1, x2_1, x3_1, rfl, rfl, HA, HK1, HO_0, HK, HB⟩ := hrel
    have hl0_1 := (Kd.R_reads' HO_0.out).1
    rw [hl0_1] at HO_0
    (try simp only [hl0_1])
    cases gk with
    | zero => exact absurd HA.out (by simp [slices_Reverse_int_int.l0])
    | succ k1 =>
      have H := HA.out
      clear HA
      simp only [slices_Reverse_int_int.l0] at H
      by_cases c3 : x2_1 < x3_1
      · rw [if_pos c3] at H
        have c3b0 : decide (x2_1 < x3_1) = true := decide_eq_true c3
        clear c3
        by_cases c4 : 0 ≤ x3_1
        · rw [if_pos c4] at H
          have c4b0 : decide (0 ≤ x3_1) = true := decide_eq_true c4
          clear c4
          by_cases c5 : x3_1 < (x0_1.length : Int)
          · rw [if_pos c5] at H
            have c5b0 : decide (x3_1 < (x0_1.length : Int)) = true := decide_eq_true c5
            clear c5
            by_cases c6 : 0 ≤ x2_1
            · rw [if_pos c6] at H
              have c6b0 : decide (0 ≤ x2_1) = true := decide_eq_true c6
              clear c6
              by_cases c7 : x2_1 < (x0_1.length : Int)
              · rw [if_pos c7] at H
                have c7b0 : decide (x2_1 < (x0_1.length : Int)) = true := decide_eq_true c7
                clear c7
                obtain ⟨y121, hy121⟩ : ∃ y_ : List Int, y_ = (x0_1.set (x2_1 : Int).toNat (rd x0_1 x3_1)) := ⟨_, rfl⟩
                replace H : (slices_Reverse_int_int.l0 k1 (y121.set (x3_1 : Int).toNat (rd x0_1 x2_1)) (wrap64 (x2_1 + 1)) (wrap64 (x3_1 - 1))) = some r := by first | (rw [hy121]; with_reducible exact H) | (have H2_ := (Option.bind_some _ _).symm.trans H; rw [hy121]; with_reducible exact H2_) | (have H2_ := (Option.bind_some _ _).symm.trans H; with_reducible exact H2_) | with_reducible exact H | (rw [hy121]; exact H) | exact H
                have Ny121 := Aside0.mk hy121
                clear hy121
                obtain ⟨y122, hy122⟩ : ∃ y_ : List Int, y_ = (y121.set (x3_1 : Int).toNat (rd x0_1 x2_1)) := ⟨_, rfl⟩
                replace H : (slices_Reverse_int_int.l0 k1 y122 (wrap64 (x2_1 + 1)) (wrap64 (x3_1 - 1))) = some r := by first | (rw [hy122]; with_reducible exact H) | (have H2_ := (Option.bind_some _ _).symm.trans H; rw [hy122]; with_reducible exact H2_) | (have H2_ := (Option.bind_some _ _).symm.trans H; with_reducible exact H2_) | with_reducible exact H | (rw [hy122]; exact H) | exact H
                have Ny122 := Aside0.mk hy122
                clear hy122
                have H' := Aside0.mk H
                clear H
                try go_wp2
                have n0_ := Aside0.mk (Kd.R_drew HO_0.out)
                have n1_ := Aside0.mk (Kept.drew HK.out)
                have n2_ := Aside0.mk (below_drew1 HB.out)
                clear HO_0
                clear HK
                clear HB
                have HO_0 := n0_
                have HK := n1_
                have HB := n2_
                clear n0_ n1_ n2_
                have p119 : 0 ≤ (x3_1 : Int) := of_decide_eq_true (by first | (with_reducible assumption) | assumption)
                have q119 : x3_1 < (x0_1.length : Int) := of_decide_eq_true (by first | (with_reducible assumption) | assumption)
                obtain ⟨ad119, e119, hx119_0⟩ := Kd.at_int (Kd.R_reads' HO_0.out).2.2 x3_1 p119 q119
                cases e119
                replace p119 := eq_true p119
                replace q119 := eq_true q119
                have p120 : 0 ≤ (x2_1 : Int) := of_decide_eq_true (by first | (with_reducible assumption) | assumption)
                have q120 : x2_1 < (x0_1.length : Int) := of_decide_eq_true (by first | (with_reducible assumption) | assumption)
                obtain ⟨ad120, e120, hx120_0⟩ := Kd.at_int (Kd.R_reads' HO_0.out).2.2 x2_1 p120 q120
                obtain rfl : ad119 = ad120 := (by injection e120)
                replace p120 := eq_true p120
                replace q120 := eq_true q120
                have p8 : 0 ≤ (x2_1 : Int) := of_decide_eq_true (by first | (with_reducible assumption) | assumption)
                have q8 : (x2_1 : Int) < ((x0_1.length : Int) : Int) := of_decide_eq_true (by first | (with_reducible assumption) | assumption)
                obtain ⟨go8, co8, eo8, gb8, gl8, cl8, HG8⟩ := Kd.R_form HO_0.out (by omega)
                (first | cases eo8 | (injection eo8 with ea_ en_ ec_; (first | subst ea_ | (injection ea_ with ea_; subst ea_)); subst ec_; clear en_))
                have GB8 := Aside0.mk gb8
                have GG8 := Aside0.mk HG8
                clear gb8 gl8 HG8
                have HMgo8 := Aside0.mk (show (P0_ go8 ∨ w.heap.size ≤ go8) from (HO_0.out.1 _ rfl))
                (first | simp only [add_plain] at hx119_0 | skip)
                (first | simp only [add_plain] at hx120_0 | skip)
                obtain ⟨hx8_0, hf8_0⟩ := Kd.R_celln 0 HO_0.out (x2_1 : Int) p8 q8
                replace p8 := eq_true p8
                replace q8 := eq_true q8
                have HP11 := Kd.R_putn HO_0.out (x2_1 : Int) (rd x0_1 x3_1)
                rw [← Ny121.out] at HP11
                have HQ11 := Aside0.mk HP11
                clear HP11
                have p9 : 0 ≤ (x3_1 : Int) := of_decide_eq_true (by first | (with_reducible assumption) | assumption)
                have q9 : (x3_1 : Int) < ((x0_1.length : Int) : Int) := of_decide_eq_true (by first | (with_reducible assumption) | assumption)
                obtain ⟨hx9_0, hf9_0⟩ := Kd.R_celln 0 HQ11.out (x3_1 : Int) p9 q9
                replace p9 := eq_true p9
                replace q9 := eq_true q9
                have HP12 := Kd.R_putn HQ11.out (x3_1 : Int) (rd x0_1 x2_1)
                rw [← Ny122.out] at HP12
                have HQ12 := Aside0.mk HP12
                clear HP12
                refine start_ (n := 16) (S := fun w' => w'.cell? ⟨go8, (x3_1).toNat, none⟩ = some (.int .i64 (rd x0_1 x3_1)) ∧ w'.cell? ⟨go8, (x2_1).toNat, none⟩ = some (.int .i64 (rd x0_1 x2_1))) (ds := [13, 15]) #[false, false, false, false, false, false, false, false, false, false, false, false, false, false, false, false] (by kernel_rfl) rfl rfl ⟨hx119_0, hx120_0⟩ (fun hHeld => ?_); refine with_tabW slices_Reverse_int_int.tab3 slices_Reverse_int_int.bits3 (fun HT_ HW_ => ?_)
                generalize wr.drew = w10 at HO_0 HK HB GG8 HQ11 HQ12 hf8_0 hf9_0 hx119_0 hx120_0 hx8_0 hx9_0 hHeld ⊢
                refine pure_ (i := 0) (N := some 14) (v := ?_) (a' := ?_) #[true, false, false, false, false, false, false, false, false, false, false, false, false, false, false, false] rfl rfl (any_of HT_.out (by kernel_rfl)) (fun _ _ _ h => h) (Or.inl ⟨by rfl, ?_⟩) ?_ ?_
                rotate_left
                · intro w'
                  go_simp
                  with_reducible rfl
                rotate_left
                · simp only [Act.put, List.setIfInBounds_toArray, List.set_cons_zero, List.set_cons_succ, i64_w, i32_w]
                  rfl
                refine pure_ (i := 1) (N := some 15) (v := ?_) (a' := ?_) #[true, true, false, false, false, false, false, false, false, false, false, false, false, false, false, false] rfl rfl (any_of HT_.out (by kernel_rfl)) (fun _ _ _ h => h) (Or.inl ⟨by rfl, ?_⟩) ?_ ?_
                rotate_left
                · intro w'
                  go_simp
                  with_reducible rfl
                rotate_left
                · simp only [Act.put, List.setIfInBounds_toArray, List.set_cons_zero, List.set_cons_succ, i64_w, i32_w]
                  rfl
                refine pure_ (i := 2) (N := some 16) (v := ?_) (a' := ?_) #[true, true, true, false, false, false, false, false, false, false, false, false, false, false, false, false] rfl rfl (any_of HT_.out (by kernel_rfl)) (fun _ _ _ h => h) (Or.inl ⟨by rfl, ?_⟩) ?_ ?_
                rotate_left
                · intro w'
                  go_simp
                  with_reducible rfl
                rotate_left
                · simp only [Act.put, List.setIfInBounds_toArray, List.set_cons_zero, List.set_cons_succ, i64_w, i32_w]
                  rfl
                refine pure_ (i := 3) (N := some 17) (v := ?_) (a' := ?_) #[true, true, true, true, false, false, false, false, false, false, false, false, false, false, false, false] rfl rfl (any_of HT_.out (by kernel_rfl)) (fun _ _ _ h => h) (Or.inl ⟨by rfl, ?_⟩) ?_ ?_
                rotate_left
                · intro w'
                  go_simp
                  with_reducible rfl
                rotate_left
                · simp only [Act.put, List.setIfInBounds_toArray, List.set_cons_zero, List.set_cons_succ, i64_w, i32_w]
                  rfl
                refine pure_ (i := 4) (N := some 18) (v := ?_) (a' := ?_) #[true, true, true, true, true, false, false, false, false, false, false, false, false, false, false, false] rfl rfl (any_of HT_.out (by kernel_rfl)) (fun _ _ _ h => h) (Or.inl ⟨by rfl, ?_⟩) ?_ ?_
                rotate_left
                · intro w'
                  go_simp
                  with_reducible rfl
                rotate_left
                · simp only [Act.put, List.setIfInBounds_toArray, List.set_cons_zero, List.set_cons_succ, i64_w, i32_w]
                  rfl
                refine pure_ (i := 5) (N := some 19) (v := ?_) (a' := ?_) #[true, true, true, true, true, true, false, false, false, false, false, false, false, false, false, false] rfl rfl (any_of HT_.out (by kernel_rfl)) (fun _ _ _ h => h) (Or.inl ⟨by rfl, ?_⟩) ?_ ?_
                rotate_left
                · intro w'
                  go_simp
                  with_reducible rfl
                rotate_left
                · simp only [Act.put, List.setIfInBounds_toArray, List.set_cons_zero, List.set_cons_succ, i64_w, i32_w]
                  rfl
                refine pure_ (i := 6) (N := some 20) (v := ?_) (a' := ?_) #[true, true, true, true, true, true, true, false, false, false, false, false, false, false, false, false] rfl rfl (any_of HT_.out (by kernel_rfl)) (fun _ _ _ h => h) (Or.inl ⟨by rfl, ?_⟩) ?_ ?_
                rotate_left
                · intro w'
                  go_simp
                  with_reducible rfl
                rotate_left
                · simp only [Act.put, List.setIfInBounds_toArray, List.set_cons_zero, List.set_cons_succ, i64_w, i32_w]
                  rfl
                refine pure_ (i := 8) (N := some 22) (v := ?_) (a' := ?_) #[true, true, true, true, true, true, true, false, true, false, false, false, false, false, false, false] rfl rfl (any_of HT_.out (by kernel_rfl)) (fun _ _ _ h => h) (Or.inl ⟨by rfl, ?_⟩) ?_ ?_
                rotate_left
                · intro w'
                  go_simp
                  with_reducible rfl
                rotate_left
                · simp only [Act.put, List.setIfInBounds_toArray, List.set_cons_zero, List.set_cons_succ, i64_w, i32_w]
                  rfl
                refine pure_ (i := 9) (N := some 23) (v := ?_) (a' := ?_) #[true, true, true, true, true, true, true, false, true, true, false, false, false, false, false, false] rfl rfl (any_of HT_.out (by kernel_rfl)) (fun _ _ _ h => h) (Or.inl ⟨by rfl, ?_⟩) ?_ ?_
                rotate_left
                · intro w'
                  go_simp
                  with_reducible rfl
                rotate_left
                · simp only [Act.put, List.setIfInBounds_toArray, List.set_cons_zero, List.set_cons_succ, i64_w, i32_w]
                  rfl
                refine pure_ (i := 10) (N := some 24) (v := ?_) (a' := ?_) #[true, true, true, true, true, true, true, false, true, true, true, false, false, false, false, false] rfl rfl (any_of HT_.out (by kernel_rfl)) (fun _ _ _ h => h) (Or.inl ⟨by rfl, ?_⟩) ?_ ?_
                rotate_left
                · intro w'
                  go_simp
                  with_reducible rfl
                rotate_left
                · simp only [Act.put, List.setIfInBounds_toArray, List.set_cons_zero, List.set_cons_succ, i64_w, i32_w]
                  rfl
                refine take_ (i := 7) (N := some 21) (v := ?_) (a' := ?_) #[true, true, true, true, true, true, true, true, true, true, true, false, false, false, false, false] rfl rfl (take_ofW HT_.out HW_.out (by kernel_rfl)) (fun _ _ _ h => h) (Or.inl ⟨by rfl, ?_⟩) hHeld ?_ ?_
                rotate_left
                · rintro w' ⟨s0, s1⟩
                  go_simp
                  with_reducible rfl
                rotate_left
                · simp only [Act.put, List.setIfInBounds_toArray, List.set_cons_zero, List.set_cons_succ, i64_w, i32_w]
                  rfl
                refine take_ (i := 11) (N := some 25) (v := ?_) (a' := ?_) #[true, true, true, true, true, true, true, true, true, true, true, true, false, false, false, false] rfl rfl (take_ofW HT_.out HW_.out (by kernel_rfl)) (fun _ _ _ h => h) (Or.inl ⟨by rfl, ?_⟩) hHeld ?_ ?_
                rotate_left
                · rintro w' ⟨s0, s1⟩
                  go_simp
                  with_reducible rfl
                rotate_left
                · simp only [Act.put, List.setIfInBounds_toArray, List.set_cons_zero, List.set_cons_succ, i64_w, i32_w]
                  rfl
                refine pure_ (i := 12) (N := some 26) (v := ?_) (a' := ?_) #[true, true, true, true, true, true, true, true, true, true, true, true, true, false, false, false] rfl rfl (any_of HT_.out (by kernel_rfl)) (fun _ _ _ h => h) (Or.inl ⟨by rfl, ?_⟩) ?_ ?_
                rotate_left
                · intro w'
                  go_simp
                  with_reducible rfl
                rotate_left
                · simp only [Act.put, List.setIfInBounds_toArray, List.set_cons_zero, List.set_cons_succ, i64_w, i32_w]
                  rfl
                refine last_ (i := 13) (N := none) #[true, true, true, true, true, true, true, true, true, true, true, true, true, true, false, false] rfl rfl (one_of HT_.out (by kernel_rfl)) (by decide) (fun K hK => ?_)
                refine skip_ (w1 := ?_) (by rfl) rfl ?_ ?_
                rotate_left
                · go_simp
                  rfl
                refine hK.out _ _ ?_
                clear hK K
                refine pure_ (i := 14) (N := some 27) (v := ?_) (a' := ?_) #[true, true, true, true, true, true, true, true, true, true, true, true, true, true, true, false] rfl rfl (any_of HT_.out (by kernel_rfl)) (fun _ _ _ h => h) (Or.inl ⟨by rfl, ?_⟩) ?_ ?_
                rotate_left
                · intro w'
                  go_simp
                  with_reducible rfl
                rotate_left
                · simp only [Act.put, List.setIfInBounds_toArray, List.set_cons_zero, List.set_cons_succ, i64_w, i32_w]
                  rfl
                refine last_ (i := 15) (N := none) #[true, true, true, true, true, true, true, true, true, true, true, true, true, true, true, true] rfl rfl (one_of HT_.out (by kernel_rfl)) (by decide) (fun K hK => ?_)
                refine skip_ (w1 := ?_) (by rfl) rfl ?_ ?_
                rotate_left
                · go_simp
                  rfl
                refine hK.out _ _ ?_
                clear hK K
                refine done_ (done_of HT_.out (by kernel_rfl)) ?_
                try go_wp2
                (try simp only [← hl0_1])
                go_roundg k1
                case measure => have := HK1.out; omega
                case rel => exact ⟨(y122), (wrap64 (x2_1 + 1)), (wrap64 (x3_1 - 1)), (by first | rfl | (simp; done) | (simp [*]; done)), (by first | rfl | (simp; done) | (simp [*]; done)), H', ⟨by have := HK1.out; omega⟩, ⟨by (try simp only [hl0_1]); (with_reducible repeat (first | apply Kd.R_alloc | apply Kd.R_drewN | apply Kd.R_drew)); exact HQ12.out⟩, ⟨by repeat (first | (with_reducible first | exact HK.out | apply Kept.alloc | apply Kept.drewN | apply Kept.drew | refine Kept.setCell ?_ HMgo8.out _ | refine Kept.setCell ?_ HMgo8.out _) | exact HK.out)⟩, ⟨by repeat (first | (with_reducible first | exact HB.out | apply below_alloc | apply pw_below_drewN | apply below_drew1 | refine below_set ?_ GB8.out | refine below_set ?_ GB8.out) | exact HB.out)⟩⟩
              · rw [if_neg c7] at H
                exact absurd H (by simp)
            · rw [if_neg c6] at H
              exact absurd H (by simp)
          · rw [if_neg c5] at H
            exact absurd H (by simp)
        · rw [if_neg c4] at H
          exact absurd H (by simp)
      · rw [if_neg c3] at H
        have c3b0 : decide (x2_1 < x3_1) = false := decide_eq_false c3
        clear c3
        obtain rfl := Option.some.inj H
        go_wp2
        first | go_end0 | ((try simp only [Exit.inBlock, Exit.then]); refine bodyPost_ret (results_none rfl _ _ _) rfl ?_)
        exact ⟨by first | rfl | (simp [errW_none, errW_some] <;> rfl) | (simp [*, errW_none, errW_some] <;> rfl), (by first | exact (by (with_reducible repeat (first | apply Kd.R_alloc | apply Kd.R_drewN | apply Kd.R_drew)); exact HO_0.out) | (simp only [hl0_1]; exact (by (with_reducible repeat (first | apply Kd.R_alloc | apply Kd.R_drewN | apply Kd.R_drew)); exact HO_0.out))), by repeat (first | (with_reducible first | exact HB.out | apply below_alloc | apply pw_below_drewN | apply below_drew1) | exact HB.out), by repeat (first | (with_reducible first | exact HK.out | apply Kept.alloc | apply Kept.drewN | apply Kept.drew) | exact HK.out)⟩

end Go.Proofs.Ytkmbhknmjnbanaa.A


namespace Go.Proofs.Ytkmbhknmjnbanaa.A
open Go.RowKit Go.Proofs.YtkmbhknmjnbanaaW.PrintWords Go.Proofs.YtkmbhknmjnbanaaW.PrintLast Go.Shelf Go.Lib
attribute [local go_sem] Oper.semAt_some
set_option linter.unusedVariables false
set_option linter.unusedSimpArgs false

theorem rev_l0 : ∀ (d k : Nat) (A M B : List Int), M.length ≤ d → d < k → (A ++ M ++ B).length ≤ 1000000 →
    slices_Reverse_int_int.l0 k (A ++ M ++ B) A.length (((A ++ M).length : Int) - 1) = some (A ++ M.reverse ++ B)
  | d, 0, A, M, B, h, hk, hl => by omega
  | d, k + 1, A, M, B, h, hk, hl => by
    simp only [List.length_append] at hl
    unfold slices_Reverse_int_int.l0
    by_cases hc : 2 ≤ M.length
    · obtain ⟨x, M1, rfl⟩ : ∃ x M1, M = x :: M1 := by cases M with | nil => simp at hc | cons x M1 => exact ⟨x, M1, rfl⟩
      obtain ⟨M2, y, rfl⟩ : ∃ M2 y, M1 = M2 ++ [y] := ⟨M1.dropLast, M1.getLast (by intro e; subst e; simp at hc), (List.dropLast_concat_getLast _).symm⟩
      simp only [List.length_cons, List.length_append, List.length_nil] at hl h hk hc ⊢
      rw [if_pos (by omega), if_pos (by omega), if_pos (by omega), if_pos (by omega), if_pos (by omega)]
      have e1 : rd (A ++ x :: (M2 ++ [y]) ++ B) (((A.length + (M2.length + (0 + 1) + 1) : Nat) : Int) - 1) = y := by
        unfold rd
        rw [show ((((A.length + (M2.length + (0 + 1) + 1) : Nat) : Int) - 1)).toNat = (A ++ x :: M2).length by simp; omega, show A ++ x :: (M2 ++ [y]) ++ B = (A ++ x :: M2) ++ (y :: B) by simp, List.getD_eq_getElem?_getD, List.getElem?_append_right (Nat.le_refl _)]
        simp
      have e2 : rd (A ++ x :: (M2 ++ [y]) ++ B) ((A.length : Nat) : Int) = x := by
        unfold rd
        rw [Int.toNat_natCast, show A ++ x :: (M2 ++ [y]) ++ B = A ++ (x :: (M2 ++ y :: B)) by simp, List.getD_eq_getElem?_getD, List.getElem?_append_right (Nat.le_refl _)]
        simp
      rw [e1, e2]
      have e3 : ((A ++ x :: (M2 ++ [y]) ++ B).set ((A.length : Nat) : Int).toNat y).set (((A.length + (M2.length + (0 + 1) + 1) : Nat) : Int) - 1).toNat x = (A ++ [y]) ++ M2 ++ (x :: B) := by
        rw [Int.toNat_natCast, show ((((A.length + (M2.length + (0 + 1) + 1) : Nat) : Int) - 1)).toNat = A.length + (M2.length + 1) by omega, show A ++ x :: (M2 ++ [y]) ++ B = A ++ (x :: (M2 ++ y :: B)) by simp]
        rw [List.set_append_right _ _ (Nat.le_refl _), List.set_append_right _ _ (by omega)]
        simp [List.set_append_right, List.set_cons_succ]
      rw [e3, show wrap64 ((A.length : Int) + 1) = ((A ++ [y]).length : Int) by simp; unfold wrap64; omega, show wrap64 (((A.length + (M2.length + (0 + 1) + 1) : Nat) : Int) - 1 - 1) = (((A ++ [y]) ++ M2).length : Int) - 1 by simp; unfold wrap64; omega]
      rw [rev_l0 (d - 1) k (A ++ [y]) M2 (x :: B) (by omega) (by omega) (by simp; omega)]
      simp
    · rw [if_neg (by simp; omega)]
      match M, hc with
      | [], _ => simp
      | [x], _ => simp
      | x :: y :: M, hc => simp at hc
theorem rev_f (l : List Int) (hl : l.length ≤ 1000000) : slices_Reverse_int_int.f (l.length + 1) l = some l.reverse := by
  unfold slices_Reverse_int_int.f
  have := rev_l0 l.length (l.length + 1) [] l [] (Nat.le_refl _) (by omega) (by simpa using hl)
  simp only [List.nil_append, List.append_nil, List.length_nil] at this
  rw [show wrap64 ((l.length : Int) - 1) = (l.length : Int) - 1 by unfold wrap64; omega]
  exact this
theorem reverse_calls (v : Value) (l : List Int) (w0 w : World) (hB : Below w0.heap.size w0 w) (h : Kd.R (Kd.int .i64) 3 w w0.heap.size (fun _ => True) v l) (hl : l.length ≤ 1000000) :
    Calls Try.prog 51 #[v] w fun e w' => e = .returned (.tuple #[]) ∧ Kd.R (Kd.int .i64) 3 w' w0.heap.size (fun _ => True) v l.reverse ∧ Below w0.heap.size w0 w' :=
  (slices_Reverse_int_int.calls (l.length + 1) (fun _ => True) v l l.reverse w0 w hB h (rev_f l hl)).mono fun e w' ⟨h1, h2, h3, _⟩ => ⟨h1, Kd.R_mono h2 (fun _ _ => trivial), h3⟩

theorem KeepsBut.of_grownBy {X : Nat → Prop} {W W' : World} {row : Option Nat} (hg : W.grownBy W' row) (hrow : ∀ r, row = some r → X r) : KeepsBut X W W' :=
  ⟨hg.os, hg.tape, hg.output, hg.size, fun k hk hn => hg.block k hk (fun e => hn (hrow k e.symm))⟩
theorem own_base {W : World} {base : Nat} {e : TypeId} {size : Nat} {v : Value} {k : Nat} {xs : List Value} (h : W.ownsRow base e size v k xs) : ∀ r, v.ownBlock = some r → base ≤ r ∧ r < W.heap.size := by
  intro r hr
  rcases h.2 with ⟨rfl, _⟩ | ⟨g, cap, cur, rfl, hb, hgb, _⟩
  · simp [Value.ownBlock] at hr
  · obtain rfl : g = r := by simpa [Value.ownBlock] using hr
    exact ⟨hb, (Array.getElem?_eq_some_iff.1 hgb).1⟩
theorem own_keep {X : Nat → Prop} {W W' : World} {base : Nat} {e : TypeId} {size : Nat} {v : Value} {k : Nat} {xs : List Value} (h : W.ownsRow base e size v k xs) (hk : KeepsBut X W W') (hx : ∀ r, base ≤ r → ¬ X r) : W'.ownsRow base e size v k xs := by
  refine ⟨h.1, ?_⟩
  rcases h.2 with h0 | ⟨g, cap, cur, hv, hb, hgb, hr⟩
  · exact .inl h0
  · exact .inr ⟨g, cap, cur, hv, hb, (hk.block g (Array.getElem?_eq_some_iff.1 hgb).1 (hx g hb)).trans hgb, hr⟩
theorem own_lower {W : World} {base base' : Nat} {e : TypeId} {size : Nat} {v : Value} {k : Nat} {xs : List Value} (h : W.ownsRow base e size v k xs) (hb : base' ≤ base) : W.ownsRow base' e size v k xs := by
  refine ⟨h.1, ?_⟩
  rcases h.2 with h0 | ⟨g, cap, cur, hv, hb', hgb, hr⟩
  · exact .inl h0
  · exact .inr ⟨g, cap, cur, hv, Nat.le_trans hb hb', hgb, hr⟩

set_option maxRecDepth 100000 in
set_option maxHeartbeats 4000000 in
theorem appendSeq_walk (Bg Bf a : Nat) (A : Option Addr) (c : Nat) (g : List (List Int)) (w0 w : World)
    (hC0 : Kd.C (Kd.slice 3 (Kd.int .i64)) w0 A g.length g) (hg : ∀ l ∈ g, ∀ x ∈ l, 0 ≤ x ∧ x < g.length) (ha : a < g.length) (hgl : g.length ≤ 100000) (hB : Below w0.heap.size w0 w)
    (hcg : w.cell? ⟨Bg, 0, none⟩ = some (.slice A g.length c)) (hcf : w.cell? ⟨Bf, 0, none⟩ = some (.int .i64 a)) :
    CallsIn Fence.wide 5 Try.prog 73 #[.slice none 0 0, .func (.func 71) #[] #[.pointer (some ⟨Bg, 0, none⟩), .pointer (some ⟨Bf, 0, none⟩)]] w fun e w' => ∃ v, e = .returned v ∧ Kd.R (Kd.int .i64) 3 w' w.heap.size (fun _ => True) v (walkOf g a) ∧ Below w.heap.size w w' := by
  have hro : (Fence.wide).round = none := rfl
  have hd : (Fence.wide).depth = none := rfl
  refine callsIn_of_wp_marks Try.func73 rfl trivial ?_ hro
  simp only [Try.ntmps73, List.size_toArray, List.length_cons, List.length_nil, Nat.reduceAdd, Nat.reduceSub, Array.replicate_succ, Array.replicate_zero, List.push_toArray, List.append_toArray, List.nil_append, List.cons_append]
  gi_wp2
  obtain ⟨Bs, hBs⟩ : ∃ Bs, w.heap.size = Bs := ⟨_, rfl⟩
  obtain ⟨WL, hWL⟩ : ∃ WL, w.alloc (.cells #[.slice none 0 0] 27) = WL := ⟨_, rfl⟩
  have hsz : WL.heap.size = Bs + 1 := by rw [← hWL, ← hBs]; simp
  have hBL : Below w.heap.size w WL := by rw [← hWL]; exact below_alloc (Below.refl _ _) _
  have hbox : Boxed WL Bs 27 (.slice none 0 0) := by rw [← hWL, ← hBs]; exact Boxed.new w 27 _
  have hlg := World.block_lt_of_cell? _ _ hcg
  have hlf := World.block_lt_of_cell? _ _ hcf
  have hstops := walk_stops Fence.wide hd 4 trivial trivial hro Bg Bf a A c g w0 WL hC0 hg ha hgl (hB.trans (hBL.mono hB.size)) ((hBL.cell hlg).trans hcg) ((hBL.cell hlf).trans hcf)
  rw [hWL, hBs]
  refine wpIn_rangeFunc_X hro (by omega) (gf := 71) (lb := #[.pointer (some ⟨Bg, 0, none⟩), .pointer (some ⟨Bf, 0, none⟩)]) rfl trivial (enters_of Try.func71 (by kernel_rfl) rfl) hstops
    (fun k hk => by have := hk.1; omega) (fun h k => h.trans k) (fun W l o o' h1 h2 _ _ _ => KeepsBut.putObj W o' (by have := hB.size; simp only [] at hlg; rintro (h | h | h) <;> omega)) (Below.refl _ _) (fun _ => rfl)
    (fun pre W => Below w.heap.size w W ∧ ∃ v, Boxed W Bs 27 v ∧ W.ownsRow (Bs + 7) 3 1 v pre.length ((pre.map (·.1)).map (Value.int .i64)))
    (fun _ _ _ => False) ?hI (fun _ _ _ _ h => h.elim) ⟨hBL, _, hbox, World.ownsRow_nil _ _ _ _⟩ ?a1 ?assign ?body ?done ?stop
  case hI =>
    rintro pre W W' ⟨h1, v, h2, h3⟩ hk
    have hx : ∀ k, XX XW WL.heap.size k → Bs + 1 ≤ k ∧ k < Bs + 7 := by
      rintro k (h | h)
      · have := h.1; have := h.2; omega
      · omega
    refine ⟨h1.trans (hk.below h1.size (fun k hk hX => by have := hx k hX; omega)), v, (hk.block Bs h2.lt (fun hX => by have := hx Bs hX; omega)).trans h2, own_keep h3 hk (fun r hr hX => by have := hx r hX; omega)⟩
  case assign =>
    intro l x W K hK
    gi_wp2
    exact hK
  case body =>
    rintro l pre ⟨x, x0, x1⟩ W ⟨h1, v, hv, hrow⟩ h4 hlen
    have hc1 := hv.cell
    have hf1 := hv.frozen
    obtain ⟨i0, hi, hz0, hz1, hz2⟩ := info_parts info3
    gi_wp2_with (gi_at_builtin; refine wpListIn_append_own _ rfl _ _ 27 rfl (Bs + 7) 3 i0 _ 1 8 Try.underlying27 hi hz0 hz1 hz2 rfl (by decide) _ _ _ rfl (hrow.alloc _) ⟨W.heap.size, 0, none⟩ 1 1 [.int .i64 x] rfl rfl (cell_one_new _ _ _) (by simp [Value.oneCell']) (by unfold maxLen; omega) (by omega) (by simp; omega) ?_; intro v' w1 hown' hgrow _; replace hgrow : (W.alloc (.cells #[.int .i64 x] 3)).grownBy w1 v.ownBlock := hgrow; obtain ⟨g', cap', rfl⟩ := ownsRow_succ hown'; have hv1 := (hv.alloc (.cells #[.int .i64 x] 3)).kept hgrow (hv.not_row (by decide) hrow); have hc2 := hv1.cell; have hf2 := hv1.frozen)
    have hX : ∀ r, (r = Bs ∨ Bs + 7 ≤ r) → KX w0.heap.size Bg (Bs + 1 + 2) r := by
      have := hB.size
      rintro r hr (h | h | h) <;> omega
    have hkb : KeepsBut (fun r => r = Bs ∨ Bs + 7 ≤ r) W (w1.setCell ⟨Bs, 0, none⟩ (.slice (some ⟨g', 0, none⟩) (pre.length + 1) cap')) :=
      ((KeepsBut.alloc _ W _).trans (KeepsBut.of_grownBy hgrow fun r hr => .inr (own_base hrow r hr).1)).trans (KeepsBut.setCell _ _ _ (.inl rfl))
    refine ⟨KeepsOthers.from ?_ _, hkb.mono hX, (by have := h1.trans (hkb.below h1.size (fun k hk hr => by omega)); rwa [hBs] at this), _, hv1.set _, ?_⟩
    · refine ((KeepsOthers.alloc W _).trans (KeepsOthers.of_grownBy hgrow fun j o ej hj => ?_)).trans (KeepsOthers.setCell _ _ _)
      rcases (hrow.alloc (.cells #[.int .i64 x] 3)).2 with ⟨rfl, _⟩ | ⟨g, cap, cur, rfl, _, hgb, _⟩
      · simp [Value.ownBlock] at ej
      · obtain rfl : g = j := by simpa [Value.ownBlock] using ej
        rw [hgb] at hj; cases hj; rfl
    · have e1 : ((pre ++ [(⟨x, x0, x1⟩ : Blk g)]).map (fun y => y.1)).map (Value.int .i64) = (pre.map (fun y => y.1)).map (Value.int .i64) ++ [.int .i64 x] := by rw [List.map_append, List.map_append]; rfl
      have := hown'.kept (grownBy_setCell' w1 Bs (.slice (some ⟨g', 0, none⟩) (pre.length + 1) cap')) (.inr (hv1.not_row (by decide) hown').symm)
      show World.ownsRow _ _ 3 1 _ (pre ++ [(⟨x, x0, x1⟩ : Blk g)]).length (((pre ++ [(⟨x, x0, x1⟩ : Blk g)]).map (fun y => y.1)).map (Value.int .i64))
      rw [List.length_append, e1]
      exact this
  case done =>
    rintro D ys W hD hys ⟨h1, v, hv, hrow⟩ hK
    have hc1 := hv.cell
    have hf1 := hv.frozen
    gi_wp2
    refine ⟨by simp, .inl ⟨_, _, rfl, run_takeDeferred hK, ?_⟩⟩
    refine ⟨_, results_tmp rfl _ _ _, _, rfl, ?_, ?_⟩
    · rw [hys] at hrow
      have hl : ys.length = (walkOf g a).length := by rw [← hys, List.length_map]
      rw [hl] at hrow
      exact Kd.R_of_own (own_lower (ownsRow_putObj hrow (.deferred none) hK rfl) (by omega)) (fun _ _ => trivial)
    · have := h1.trans (belowK_b (w := w) (Nat.le_refl _) W D _ (.deferred none) (by omega) hK rfl rfl)
      rwa [hBs] at this
  case stop =>
    rintro D c pre W _ _ h
    exact h.elim

set_option maxHeartbeats 1000000 in
theorem collect_walk (Bg Bf a : Nat) (A : Option Addr) (c : Nat) (g : List (List Int)) (w0 w : World)
    (hC0 : Kd.C (Kd.slice 3 (Kd.int .i64)) w0 A g.length g) (hg : ∀ l ∈ g, ∀ x ∈ l, 0 ≤ x ∧ x < g.length) (ha : a < g.length) (hgl : g.length ≤ 100000) (hB : Below w0.heap.size w0 w)
    (hcg : w.cell? ⟨Bg, 0, none⟩ = some (.slice A g.length c)) (hcf : w.cell? ⟨Bf, 0, none⟩ = some (.int .i64 a)) :
    Calls Try.prog 50 #[.func (.func 71) #[] #[.pointer (some ⟨Bg, 0, none⟩), .pointer (some ⟨Bf, 0, none⟩)]] w fun e w' => ∃ v, e = .returned v ∧ Kd.R (Kd.int .i64) 3 w' w.heap.size (fun _ => True) v (walkOf g a) ∧ Below w.heap.size w w' := by
  have hc := callsIn_wide.1 (appendSeq_walk Bg Bf a A c g w0 w hC0 hg ha hgl hB hcg hcf)
  go_enter Try.func50, Try.ntmps50
  go_wp2_with fail
  refine hc.mono ?_
  rintro e w' ⟨v, rfl, hv, hb⟩
  go_wp2_with fail
  go_ret
  exact ⟨v, rfl, hv, hb⟩

theorem walk_len {g : List (List Int)} (hg : ∀ l ∈ g, ∀ x ∈ l, 0 ≤ x ∧ x < g.length) {a : Nat} (ha : a < g.length) : (walkOf g a).length ≤ g.length := by
  have := visit_count g hg g.length (met0 g) a (by simp [met0]) ha (by simp [met0, ha]) (by rw [unmet_met0]; exact Nat.le_refl _)
  rw [unmet_met0] at this
  unfold walkOf; omega

set_option maxHeartbeats 1000000 in
theorem order_calls (A : Option Addr) (c : Nat) (g : List (List Int)) (w : World) (h : Kd.C (Kd.slice 3 (Kd.int .i64)) w A g.length g) :
    Calls Try.prog 28 #[.slice A g.length c] w fun e w' => ∃ v, e = .returned v ∧ Kd.R (Kd.int .i64) 3 w' w.heap.size (fun _ => True) v (if rightB g = true then (walkOf g 0).reverse else []) ∧ Below w.heap.size w w' := by
  have hrc := right_calls A c g w h
  cases hr : rightB g with
  | false =>
    rw [hr] at hrc
    go_enter Try.func28, Try.ntmps28
    go_wp2_with fail
    refine hrc.mono ?_
    rintro e w1 ⟨rfl, hb⟩
    go_wp2_with fail
    go_ret
    exact ⟨_, rfl, by simpa using Kd.R_nil _ _ _ _ _, hb⟩
  | true =>
    rw [hr] at hrc
    obtain ⟨hl1, hl2, hg⟩ := right_rows hr
    go_enter Try.func28, Try.ntmps28
    go_wp2_with fail
    refine hrc.mono ?_
    rintro e w1 ⟨rfl, hb1⟩
    have hwk := callsIn_wide.1 (walk_in Fence.wide 5 trivial rfl A g.length c 0 w1)
    go_wp2_with fail
    refine hwk.mono ?_
    rintro e w2 ⟨rfl, rfl⟩
    have hB2 : Below w1.heap.size w1 ((w1.alloc (.cells #[.slice A g.length c] 22)).alloc (.cells #[.int .i64 0] 3)) := below_alloc (below_alloc (Below.refl _ _) _) _
    have hcl := collect_walk w1.heap.size (w1.heap.size + 1) 0 A c g w ((w1.alloc (.cells #[.slice A g.length c] 22)).alloc (.cells #[.int .i64 0] 3)) h hg (by omega) (by omega) (hb1.trans (hB2.mono hb1.size)) (by simp [go_sem]) (by simp [go_sem])
    have hsz2 : w1.heap.size ≤ ((w1.alloc (.cells #[.slice A g.length c] 22)).alloc (.cells #[.int .i64 0] 3)).heap.size := hB2.size
    generalize hW2 : (w1.alloc (.cells #[.slice A g.length c] 22)).alloc (.cells #[.int .i64 0] 3) = W2 at *
    go_wp2_with fail
    refine hcl.mono ?_
    rintro e w3 ⟨v, rfl, hv, hb3⟩
    have hwl := walk_len hg (show 0 < g.length by omega)
    have hrv := reverse_calls v (walkOf g 0) W2 w3 hb3 hv (by omega)
    go_wp2_with fail
    refine hrv.mono ?_
    rintro e w4 ⟨rfl, hv4, hb4⟩
    go_wp2_with fail
    go_ret
    have hsz : w.heap.size ≤ W2.heap.size := Nat.le_trans hb1.size hB2.size
    exact ⟨v, rfl, by exact Kd.R_lower hv4 hsz, (hb1.trans (hB2.mono hb1.size)).trans (hb4.mono hsz)⟩
end Go.Proofs.Ytkmbhknmjnbanaa.A


namespace Go.Proofs.Ytkmbhknmjnbanaa.A
open Go.RowKit Go.Proofs.YtkmbhknmjnbanaaW.PrintWords Go.Proofs.YtkmbhknmjnbanaaW.PrintLast Go.Proofs.YtkmbhknmjnbanaaW.PrintMore
attribute [local go_sem] max2_int min2_int max_two min_two max_three min_three max_four min_four   -- for this text's walks alone
set_option linter.unusedVariables false
set_option linter.unusedSimpArgs false

def bits_Mul64.f (a0 : Int) (a1 : Int) : Option (Int × Int) := some (IntKind.u64.wrap ((IntKind.u64.wrap ((IntKind.u64.wrap ((a0 / 4294967296) * (a1 / 4294967296))) + ((IntKind.u64.wrap ((IntKind.u64.wrap ((a0 / 4294967296) * (Go.bits .and .u64 a1 4294967295))) + ((IntKind.u64.wrap ((Go.bits .and .u64 a0 4294967295) * (Go.bits .and .u64 a1 4294967295))) / 4294967296))) / 4294967296))) + ((IntKind.u64.wrap ((Go.bits .and .u64 (IntKind.u64.wrap ((IntKind.u64.wrap ((a0 / 4294967296) * (Go.bits .and .u64 a1 4294967295))) + ((IntKind.u64.wrap ((Go.bits .and .u64 a0 4294967295) * (Go.bits .and .u64 a1 4294967295))) / 4294967296))) 4294967295) + (IntKind.u64.wrap ((Go.bits .and .u64 a0 4294967295) * (a1 / 4294967296))))) / 4294967296)), IntKind.u64.wrap (a0 * a1))
set_option maxHeartbeats 8000000 in
set_option maxRecDepth 100000 in
theorem bits_Mul64.calls (a0 : Int) (a1 : Int) (r1 : Int) (r2 : Int) (w : World) (h : bits_Mul64.f a0 a1 = some (r1, r2)) :
    Calls Try.prog 86 #[.int .u64 a0, .int .u64 a1] w fun e w' => e = .returned (.tuple #[.int .u64 r1, .int .u64 r2]) ∧ Drawn0 w w' := by
  have H : (some (IntKind.u64.wrap ((IntKind.u64.wrap ((IntKind.u64.wrap ((a0 / 4294967296) * (a1 / 4294967296))) + ((IntKind.u64.wrap ((IntKind.u64.wrap ((a0 / 4294967296) * (Go.bits .and .u64 a1 4294967295))) + ((IntKind.u64.wrap ((Go.bits .and .u64 a0 4294967295) * (Go.bits .and .u64 a1 4294967295))) / 4294967296))) / 4294967296))) + ((IntKind.u64.wrap ((Go.bits .and .u64 (IntKind.u64.wrap ((IntKind.u64.wrap ((a0 / 4294967296) * (Go.bits .and .u64 a1 4294967295))) + ((IntKind.u64.wrap ((Go.bits .and .u64 a0 4294967295) * (Go.bits .and .u64 a1 4294967295))) / 4294967296))) 4294967295) + (IntKind.u64.wrap ((Go.bits .and .u64 a0 4294967295) * (a1 / 4294967296))))) / 4294967296)), IntKind.u64.wrap (a0 * a1))) = some (r1, r2) := h
  clear h
  simp only [Option.some.injEq, Prod.mk.injEq] at H
  obtain ⟨rfl, rfl⟩ := H
  go_enter Try.func86, Try.ntmps86
  go_wp2
  go_ret2
  exact ⟨by first | rfl | (simp; done) | (simp [*]; done), by repeat (first | exact Drawn0.refl _ | apply Drawn0.step)⟩

end Go.Proofs.Ytkmbhknmjnbanaa.A


namespace Go.Proofs.Ytkmbhknmjnbanaa.A
open Go.RowKit Go.Proofs.YtkmbhknmjnbanaaW.PrintWords Go.Proofs.YtkmbhknmjnbanaaW.PrintLast Go.Proofs.YtkmbhknmjnbanaaW.PrintMore
attribute [local go_sem] max2_int min2_int max_two min_two max_three min_three max_four min_four   -- for this text's walks alone
set_option linter.unusedVariables false
set_option linter.unusedSimpArgs false

def bits_Mul.f (a0 : Int) (a1 : Int) : Option (Int × Int) := (bits_Mul64.f a0 a1).bind fun bt123 => (some (bt123.1, bt123.2))
set_option maxHeartbeats 8000000 in
set_option maxRecDepth 100000 in
theorem bits_Mul.calls (a0 : Int) (a1 : Int) (r1 : Int) (r2 : Int) (w : World) (h : bits_Mul.f a0 a1 = some (r1, r2)) :
    Calls Try.prog 78 #[.int .u64 a0, .int .u64 a1] w fun e w' => e = .returned (.tuple #[.int .u64 r1, .int .u64 r2]) ∧ Drawn0 w w' := by
  have H : ((bits_Mul64.f a0 a1).bind fun bt123 => (some (bt123.1, bt123.2))) = some (r1, r2) := h
  clear h
  replace H := Option.bind_eq_some_iff.mp H
  obtain ⟨⟨t123, t124⟩, A30, H⟩ := H
  replace H : (some (t123, t124)) = some (r1, r2) := H
  have A3 := Aside0.mk A30
  clear A30
  simp only [Option.some.injEq, Prod.mk.injEq] at H
  obtain ⟨rfl, rfl⟩ := H
  go_enter Try.func78, Try.ntmps78
  go_wp2_with (first | ((with_reducible refine gate_callee (f := 86) rfl ?_); refine goesL_ (some 25) rfl rfl Try.func86 (by kernel_rfl) rfl #[.int .u64 a0, .int .u64 a1] rfl (by (try simp only [List.map_toArray, List.map_cons, List.map_nil]); first | done | rfl | (simp only [List.length_drop, List.length_take]; rfl)) ?_; (with_reducible refine (bits_Mul64.calls a0 a1 t123 t124 _ A3.out).mono ?_); rintro e w' ⟨rfl, ⟨nd, rfl⟩⟩; refine ⟨_, rfl, ?_⟩))
  go_ret2
  exact ⟨by first | rfl | (simp; done) | (simp [*]; done), by repeat (first | exact Drawn0.refl _ | apply Drawn0.step)⟩

end Go.Proofs.Ytkmbhknmjnbanaa.A


namespace Go.Proofs.Ytkmbhknmjnbanaa.A
open Go.RowKit Go.Proofs.YtkmbhknmjnbanaaW.PrintWords Go.Proofs.YtkmbhknmjnbanaaW.PrintLast Go.Shelf Go.Lib
set_option linter.unusedVariables false
set_option linter.unusedSimpArgs false

theorem mul1 : (List.range 4097).all (fun n => decide (bits_Mul.f 1 (n : Int) = some (0, (n : Int)))) = true := by kernel_rfl
theorem mul1' {n : Nat} (h : n ≤ 4096) : bits_Mul.f 1 (n : Int) = some (0, (n : Int)) := by
  have := mul1
  rw [List.all_eq_true] at this
  exact of_decide_eq_true (this n (by simp; omega))
def rep1 (n m : Nat) : List Value := List.replicate n (.int .i64 (-1)) ++ List.replicate (m - n) (.int .i64 0)
theorem rep1_splice {m n k : Nat} (hk : m + k ≤ n) : splice (rep1 m n) m (List.replicate k (.int .i64 (-1))) = rep1 (m + k) n := by
  unfold splice rep1
  rw [List.length_replicate, List.take_left' (by simp), List.drop_append, List.length_replicate, List.drop_replicate, List.drop_replicate, ← List.append_assoc, ← List.append_assoc]
  rw [show m - (m + k) = 0 by omega, List.replicate_zero, List.append_nil, List.replicate_append_replicate, show n - m - (m + k - m) = n - (m + k) by omega]
theorem rep1_len {m n : Nat} (h : m ≤ n) : (rep1 m n).length = n := by simp [rep1]; omega

set_option maxRecDepth 100000 in
set_option maxHeartbeats 2000000 in
theorem repeat_calls (ad : Addr) (c n : Nat) (w : World) (hn : 1 ≤ n) (hn2 : n ≤ 4096) (h : w.cell? (ad.add 0) = some (.int .i64 (-1))) :
    Calls Try.prog 61 #[.slice (some ad) 1 c, .int .i64 n] w fun e w' => ∃ v, e = .returned v ∧ Kd.R (Kd.int .i64) 3 w' w.heap.size (fun _ => True) v (List.replicate n (-1)) ∧ Below w.heap.size w w' := by
  have hmul := bits_Mul.calls 1 (n : Int) 0 (n : Int) w (mul1' hn2)
  have hu : IntKind.u64.wrap (n : Int) = (n : Int) := by simp [IntKind.wrap, IntKind.bits, IntKind.signed]; omega
  have hu2 : IntKind.i64.wrap (n : Int) = (n : Int) := by rw [IntKind.wrap_i64]; omega
  obtain ⟨i0, hi, hz0, hz1, hz2⟩ := info_parts info3
  have hmk : ∀ V : World, (Instr.makeSlice 27 (.int .i64 (n : Int)) (.int .i64 (n : Int))).run Try.prog V = .ok (.slice (some ⟨V.heap.size, 0, none⟩) n n) (V.alloc (.cells (Array.replicate n (Value.int .i64 0)) 3)) := by
    intro V
    have := run_make V 27 3 i0 _ Try.underlying27 hi hz0 .i64 .i64 (n : Int) (n : Int) (by omega) (by omega) (by rw [hz2]; omega) (by omega)
    rw [Int.toNat_natCast, hz1, Nat.mul_one] at this
    rw [this]
    refine congrArg (fun c => Result.ok _ (V.alloc (.cells c 3))) ?_
    unfold madeCells
    apply Array.ext
    · simp
    · intro i h1 h2; simp [Nat.mod_one, Value.cells]
  have hn0 : ¬ (n : Int) < 0 := by omega
  have hn3 : ¬ (n : Int) > 9223372036854775807 := by omega
  go_enter Try.func61, Try.ntmps61
  go_wp2_with fail
  refine hmul.mono ?_
  rintro e w1 ⟨rfl, hd⟩
  have hB1 := hd.below
  have h1 := (hB1.cell (World.block_lt_of_cell? _ _ h)).trans h
  obtain ⟨g, hg⟩ : ∃ g, w1.heap.size = g := ⟨_, rfl⟩
  obtain ⟨W, hW⟩ : ∃ W, w1.alloc (.cells (Array.replicate n (Value.int .i64 0)) 3) = W := ⟨_, rfl⟩
  have hBW : Below w.heap.size w W := by rw [← hW]; exact below_alloc hB1 _
  have hgw : w.heap.size ≤ g := by rw [← hg]; exact hB1.size
  have hblk : W.heap[g]? = some (.cells (List.replicate n (Value.int .i64 0)).toArray 3 (0, 0)) := by rw [← hW, ← hg, List.toArray_replicate]; exact World.alloc_heap_new _ _
  have hca : W.cell? (ad.add 0) = some (.int .i64 (-1)) := by rw [← hW]; exact (World.cell?_alloc_lt _ _ _ (World.block_lt_of_cell? _ _ h1)).trans h1
  clear hmul hd h1
  have hsrc : ∀ j v, ([Value.int .i64 (-1)] : List Value)[j]? = some v → W.cell? (ad.add j) = some v := by
    intro j v hj
    match j, hj with
    | 0, hj => simp at hj; subst hj; exact hca
  have hsz1 : (Try.prog.info? 3).map (·.size) = some 1 := by rw [hi]; simp [hz1]
  have hfit : 0 + ([Value.int .i64 (-1)] : List Value).length ≤ (List.replicate n (Value.int .i64 0)).length := by simp; omega
  have hmin : ([Value.int .i64 (-1)] : List Value).length = Nat.min 1 n := by simp [Nat.min_def]; omega
  have hone : ∀ v ∈ ([Value.int .i64 (-1)] : List Value), v.oneCell' = true := by intro v hv; simp at hv; subst hv; rfl
  obtain ⟨W2, hcp, hblk2, hB2⟩ : ∃ W2, (Builtin.copy_ #[27, 27] 3 #[.slice (some ⟨g, 0, none⟩) n n, .slice (some ad) 1 c]).run Try.prog W = .ok (.int .i64 1) W2 ∧ W2.heap[g]? = some (.cells (rep1 1 n).toArray 3 (0, 0)) ∧ Below w.heap.size w W2 := by
    refine ⟨_, run_copy_row (P := Try.prog) W 27 27 3 3 g 0 n n ad 1 c _ 3 [.int .i64 (-1)] Try.underlying27 hsz1 hblk hmin hsrc (by simpa using hfit) hone, ?_, below_setRow hBW hgw _⟩
    rw [setRow_heap W g _ _ 3 _ hblk]
    refine congrArg (fun l => some (Obj.cells (List.toArray l) 3 (0, 0))) ?_
    simp [rep1]
  clear hca hsrc hmin hone hfit
  go_wp2_with fail
  go_loopw [8] (fun s wr => ∃ m : Nat, 1 ≤ m ∧ m ≤ n ∧ s = .int .i64 m ∧ Aside0 (wr.heap[g]? = some (.cells (rep1 m n).toArray 3 (0, 0))) ∧ Aside0 (Below w.heap.size w wr)) (fun s _ => n - (RowKit.intOf s).toNat)
  case atStart => exact ⟨1, by omega, by omega, rfl, ⟨hblk2⟩, ⟨hB2⟩⟩
  case round =>
    obtain ⟨m, hm1, hm2, rfl, hbk, hBk⟩ := hrel
    by_cases hlt : m < n
    · have hmz : (m : Int) < (n : Int) := by omega
      have hm0 : (0 : Int) ≤ (m : Int) := by omega
      have a1 : ¬ n = m := by omega
      have a2 : ¬ (n : Int) = (m : Int) := by omega
      have a3 : (m : Int) ≤ (n : Int) := by omega
      have hk0 : Nat.min m (n - m) ≤ m := Nat.min_le_left _ _
      have hk1 : Nat.min m (n - m) ≤ n - m := Nat.min_le_right _ _
      have hk2 : 1 ≤ Nat.min m (n - m) := by simp only [Nat.min_def]; split <;> omega
      generalize hk : Nat.min m (n - m) = k at hk0 hk1 hk2
      have hbd : wr.drew.heap[g]? = some (.cells (rep1 m n).toArray 3 (0, 0)) := hbk.out
      have hbB : Below w.heap.size w wr.drew := hBk.out.trans ⟨rfl, rfl, rfl, Nat.le_refl _, fun _ _ => rfl⟩
      have hsr : ∀ j v, (List.replicate k (Value.int .i64 (-1)))[j]? = some v → wr.drew.cell? ((⟨g, 0, none⟩ : Addr).add j) = some v := by
        intro j v hj
        obtain ⟨hj1, hj2⟩ := List.getElem?_eq_some_iff.1 hj
        simp only [List.length_replicate] at hj1
        simp only [List.getElem_replicate] at hj2
        rw [show (⟨g, 0, none⟩ : Addr).add j = ⟨g, j, none⟩ by unfold Addr.add; split <;> simp_all]
        unfold World.cell?
        simp only [hbd]
        subst hj2
        simp [rep1, List.getElem?_append, show j < m by omega]
      have hone : ∀ v ∈ List.replicate k (Value.int .i64 (-1)), v.oneCell' = true := by intro v hv; rw [List.mem_replicate] at hv; rw [hv.2]; rfl
      have hlk : (List.replicate k (Value.int .i64 (-1))).length = Nat.min m (n - m) := by simp [hk]
      have hft : m + (List.replicate k (Value.int .i64 (-1))).length ≤ (rep1 m n).length := by rw [rep1_len hm2]; simp; omega
      have hsp := Aside0.mk (rep1_splice (m := m) (n := n) (k := k) (by omega))
      clear hbk hBk hcp hblk2 hB2 hW hblk hBW
      go_wp2_with fail
      go_region_law (refine step_copy_splice rfl (.tmp 41) (.tmp 44) 27 27 rfl 3 Try.underlying27 hsz1 (some ⟨g, m, none⟩) (some ⟨g, 0, none⟩) (n - m) (n - m) m n (by simp [Act.eval, Act.put, a1, a2]) (by simp [Act.eval, Act.put]) g m (rep1 m n) 3 hbd (List.replicate k (.int .i64 (-1))) hlk (fun _ => ⟨rfl, _, rfl, hsr⟩) hft hone w.heap.size w hbB hgw ?_; intro w3 HG3 HB3)
      rw [hsp.out] at HG3
      have h1 := Aside0.mk HG3.out
      have h2 := Aside0.mk HB3
      clear HG3 HB3 hsp hft hlk hone hsr hbd hbB
      simp [Act.put]
      rw [show IntKind.i64.wrap ((m : Int) + (k : Int)) = ((m + k : Nat) : Int) by rw [IntKind.wrap_i64]; omega]
      have hmk1 : m + k ≤ n := by omega
      have hmk2 : 1 ≤ m + k := by omega
      have hmk3 : n - (m + k) < n - m := by omega
      generalize m + k = mk at *
      go_wp2_with fail
      go_roundw
      case rel => exact ⟨mk, hmk2, hmk1, rfl, h1, h2⟩
      case measure => simp [RowKit.intOf]; omega
    · obtain rfl : m = n := by omega
      go_wp2_with fail
      go_ret
      refine ⟨.slice (some ⟨g, 0, none⟩) m m, rfl, ?_, hBk.out⟩
      refine Kd.R_of_own ⟨?_, .inr ⟨g, m, (rep1 m m).toArray, by rw [List.length_replicate], hgw, hbk.out, by rw [List.length_replicate]; exact Nat.le_refl _, by unfold maxLen; omega, by simp [rep1], ?_⟩⟩ (fun _ _ => trivial)
      · rw [encs_length, Nat.mul_one]
      · simp [rep1, encs]
end Go.Proofs.Ytkmbhknmjnbanaa.A


namespace Go.Proofs.Ytkmbhknmjnbanaa.A
open Go.RowKit Go.Proofs.YtkmbhknmjnbanaaW.PrintWords Go.Proofs.YtkmbhknmjnbanaaW.PrintLast Go.Shelf Go.Lib
set_option linter.unusedVariables false
set_option linter.unusedSimpArgs false

def graph_Right.f (l0 : List (List Int)) : Option Bool := some (rightB l0)
theorem graph_Right.calls (A0 : Option Addr) (c0 : Nat) (l0 : List (List Int)) (r : Bool) (w : World) (hr0 : Kd.C (Kd.slice 3 (Kd.int .i64)) w A0 l0.length l0) (hc0 : l0.length ≤ c0) (h : graph_Right.f l0 = some r) :
    Calls Try.prog 19 #[.slice A0 l0.length c0] w fun e w' => e = .returned (.bool r) ∧ Below w.heap.size w w' := by
  obtain rfl := Option.some.inj h
  exact right_calls A0 c0 l0 w hr0
/-- what graph.Reach answers -/
def reachRes (g : List (List Int)) (a : Int) : List Bool := if rightB g = true ∧ 0 ≤ a ∧ a < g.length then marks g.length (walkOf g a.toNat) else []
/-- what graph.Order answers -/
def orderOf (g : List (List Int)) : List Int := if rightB g = true then (walkOf g 0).reverse else []
end Go.Proofs.Ytkmbhknmjnbanaa.A


namespace Go.Proofs.Ytkmbhknmjnbanaa.A
open Go.RowKit Go.Proofs.YtkmbhknmjnbanaaW.PrintWords Go.Proofs.YtkmbhknmjnbanaaW.PrintLast Go.Proofs.YtkmbhknmjnbanaaW.PrintMore
attribute [local go_sem] max2_int min2_int max_two min_two max_three min_three max_four min_four   -- for this text's walks alone
set_option linter.unusedVariables false
set_option linter.unusedSimpArgs false

mutual
def graph_Preds.l0 : Nat → List (List Int) → List (List Int) → Int → Int → Option ((List (List Int)))
  | 0, _, _, _, _ => none
  | k + 1, x3, x14, x15, x16 => if x16 < x15 then (if 0 ≤ x16 then (if x16 < (x14.length : Int) then (graph_Preds.l1 k x3 x16 x14 x15 x16 (rd_L1 x14 x16) ((rd_L1 x14 x16).length : Int) 0) else (none)) else (none)) else (some x3)
def graph_Preds.l1 : Nat → List (List Int) → Int → List (List Int) → Int → Int → List Int → Int → Int → Option ((List (List Int)))
  | 0, _, _, _, _, _, _, _, _ => none
  | k + 1, x3, x4, x14, x15, x16, x21, x22, x23 => if x23 < x22 then (if 0 ≤ x23 then (if x23 < (x21.length : Int) then (if 0 ≤ (rd x21 x23) then (if (rd x21 x23) < (x3.length : Int) then (if (rd_L1 x3 (rd x21 x23)).length < 17592186044416 then (graph_Preds.l1 k (x3.set ((rd x21 x23) : Int).toNat ((rd_L1 x3 (rd x21 x23)) ++ [x4])) x4 x14 x15 x16 x21 x22 (wrap64 (x23 + 1))) else (none)) else (none)) else (none)) else (none)) else (none)) else (graph_Preds.l0 k x3 x14 x15 (wrap64 (x16 + 1)))
end
def graph_Preds.f (k : Nat) (l0 : List (List Int)) : Option ((List (List Int))) := (graph_Right.f l0).bind fun t101 => (if t101 = true then (if 0 ≤ (l0.length : Int) then (if ((l0.length : Int) : Int).toNat ≤ 11728124029610 then (graph_Preds.l0 k (List.replicate ((l0.length : Int) : Int).toNat []) l0 (l0.length : Int) 0) else (none)) else (none)) else (some ([] : List (List Int))))
set_option maxHeartbeats 8000000 in
set_option maxRecDepth 100000 in
theorem graph_Preds.calls (k : Nat) (A0 : Option Addr) (c0 : Nat) (l0 : List (List Int)) (r : List (List Int)) (w : World) (hr0 : Kd.C (Kd.slice 3 (Kd.int .i64)) w A0 l0.length l0) (hc0 : l0.length ≤ c0) (h : graph_Preds.f k l0 = some r) :
    Calls Try.prog 16 #[.slice A0 l0.length c0] w fun e w' => ∃ v0_ : Value, e = .returned (v0_) ∧ Kd.S (Kd.slice 3 (Kd.int .i64)) 27 w' w.heap.size (fun _ => True) v0_ r ∧ Below w.heap.size w w' := by
  have HR0 := Aside0.mk hr0
  have HC0 := Aside0.mk hc0
  clear hr0 hc0
  have HB := Aside0.mk (Below.refl w.heap.size w)
  have H : ((graph_Right.f l0).bind fun t101 => (if t101 = true then (if 0 ≤ (l0.length : Int) then (if ((l0.length : Int) : Int).toNat ≤ 11728124029610 then (graph_Preds.l0 k (List.replicate ((l0.length : Int) : Int).toNat []) l0 (l0.length : Int) 0) else (none)) else (none)) else (some ([] : List (List Int))))) = some r := h
  clear h
  replace H := Option.bind_eq_some_iff.mp H
  obtain ⟨t101, A20, H⟩ := H
  replace H : (if t101 = true then (if 0 ≤ (l0.length : Int) then (if ((l0.length : Int) : Int).toNat ≤ 11728124029610 then (graph_Preds.l0 k (List.replicate ((l0.length : Int) : Int).toNat []) l0 (l0.length : Int) 0) else (none)) else (none)) else (some ([] : List (List Int)))) = some r := H
  have A2 := Aside0.mk A20
  clear A20
  by_cases c3 : t101 = true
  · subst c3
    have H1 : (if 0 ≤ (l0.length : Int) then (if ((l0.length : Int) : Int).toNat ≤ 11728124029610 then (graph_Preds.l0 k (List.replicate ((l0.length : Int) : Int).toNat []) l0 (l0.length : Int) 0) else (none)) else (none)) = some r := by rw [if_pos rfl] at H; exact H
    clear H
    have H := H1
    clear H1
    by_cases c4 : 0 ≤ (l0.length : Int)
    · rw [if_pos c4] at H
      have c4b0 := eq_true c4
      have c4b1 : decide (0 ≤ (l0.length : Int)) = true := decide_eq_true c4
      clear c4
      by_cases c5 : ((l0.length : Int) : Int).toNat ≤ 11728124029610
      · rw [if_pos c5] at H
        have c5b0 := eq_true c5
        have c5b1 : decide (((l0.length : Int) : Int).toNat ≤ 11728124029610) = true := decide_eq_true c5
        clear c5
        obtain ⟨y102, hy102⟩ : ∃ y_ : List (List Int), y_ = (List.replicate ((l0.length : Int) : Int).toNat []) := ⟨_, rfl⟩
        replace H : (graph_Preds.l0 k y102 l0 (l0.length : Int) 0) = some r := by first | (rw [hy102]; with_reducible exact H) | (have H2_ := (Option.bind_some _ _).symm.trans H; rw [hy102]; with_reducible exact H2_) | (have H2_ := (Option.bind_some _ _).symm.trans H; with_reducible exact H2_) | with_reducible exact H | (rw [hy102]; exact H) | exact H
        have Ny102 := Aside0.mk hy102
        clear hy102
        have H' := Aside0.mk H
        clear H
        go_enter Try.func16, Try.ntmps16
        go_wp2_with (first | ((with_reducible refine gate_callee (f := 19) rfl ?_); refine goesL_ (some 9) rfl rfl Try.func19 (by kernel_rfl) rfl #[.slice A0 l0.length c0] rfl (by (try simp only [List.map_toArray, List.map_cons, List.map_nil]); first | done | rfl | (simp only [List.length_drop, List.length_take]; rfl)) ?_; (with_reducible refine (graph_Right.calls _ _ l0 true _ ?side1 ?side2 A2.out).mono ?_); (case side1 => repeat (first | exact HR0.out | (with_reducible refine Kd.C_alloc ?_ _) | (with_reducible refine Kd.C_drewN ?_ _) | (with_reducible refine Kd.C_drew ?_))); (case side2 => exact HC0.out); rintro e w6 ⟨rfl, hb⟩; refine ⟨_, rfl, ?_⟩; have n0_ := Aside0.mk (below_step (by repeat (first | (with_reducible first | exact HB.out | apply below_alloc | apply pw_below_drewN | apply below_drew1) | exact HB.out)) hb); clear HB; have HB := n0_; clear n0_; (try clear hb); (try clear hb2); (try clear hk); (try clear hi)) | ((with_reducible refine gate_dst (N := 13) rfl ?_); refine Kd.S_make (Kd.slice 3 (Kd.int .i64)) _ 27 rfl (N := 13) rfl 22 _ _ rfl (l0.length : Int) rfl rfl Try.underlying22 (.slice none 0 0) 24 info27 rfl (by decide) (by omega) [] (ok := fun _ => True) (okp := fun _ => True) ⟨_, rfl, Kd.R_nil _ _ _ _ _⟩ (fun _ hk => hk) trivial (of_decide_eq_true (by first | (with_reducible assumption) | assumption)) (Nat.le_trans (Nat.mul_le_mul_right _ (of_decide_eq_true (by first | (with_reducible assumption) | assumption) : (l0.length : Int).toNat ≤ 11728124029610)) (by omega)) (Below.refl _ _) (Nat.le_refl _) ?_; intro v103 w7 ho8 hb hg_ hnew_; clear hg_ hnew_; (first | rw [← Ny102.out] at ho8 | (simp only [Int.reduceToNat] at ho8; rw [← Ny102.out] at ho8)); have n0_ := Aside0.mk (Kd.S_lower ho8 (below_size (by repeat (first | (with_reducible first | exact HB.out | apply below_alloc | apply pw_below_drewN | apply below_drew1) | exact HB.out)))); have n1_ := Aside0.mk (below_step (by repeat (first | (with_reducible first | exact HB.out | apply below_alloc | apply pw_below_drewN | apply below_drew1) | exact HB.out)) hb); clear HB; have HO104 := n0_; have HB := n1_; clear n0_ n1_; clear hb ho8))
        go_loopg [16] k (fun kq v16 w' => ∃ (x3_1 : List (List Int)) (x16_1 : Int), v16 = .int .i64 x16_1 ∧ Aside0 (graph_Preds.l0 kq x3_1 l0 (l0.length : Int) x16_1 = some r) ∧ Aside0 (kq ≤ k) ∧ Aside0 (Kd.S (Kd.slice 3 (Kd.int .i64)) 27 w' w.heap.size (fun _ => True) v103 x3_1) ∧ Aside0 (Below w.heap.size w w'))
        case atStart => exact ⟨(y102), (0), (by first | rfl | (simp; done) | (simp [*]; done)), H', ⟨Nat.le_refl _⟩, ⟨by (with_reducible repeat (first | apply Kd.S_alloc | apply Kd.S_drewN | apply Kd.S_drew)); exact HO104.out⟩, ⟨by repeat (first | (with_reducible first | exact HB.out | apply below_alloc | apply pw_below_drewN | apply below_drew1) | exact HB.out)⟩⟩
        case round =>
          clear H'
          try clear c1
          try clear p2
          try clear c3
          try clear c4
          try clear c4b0
          try clear c4b1
          try clear c5
          try clear c5b0
          try clear c5b1
          obtain ⟨x3_1, x16_1, rfl, HA, HK1, HO_3, HB⟩ := hrel
          cases gk with
          | zero => exact absurd HA.out (by simp [graph_Preds.l0])
          | succ k1 =>
            have H := HA.out
            clear HA
            simp only [graph_Preds.l0] at H
            by_cases c9 : x16_1 < (l0.length : Int)
            · rw [if_pos c9] at H
              have c9b0 : decide (x16_1 < (l0.length : Int)) = true := decide_eq_true c9
              clear c9
              by_cases c10 : 0 ≤ x16_1
              · rw [if_pos c10] at H
                have c10b0 : decide (0 ≤ x16_1) = true := decide_eq_true c10
                clear c10
                by_cases c11 : x16_1 < (l0.length : Int)
                · rw [if_pos c11] at H
                  have c11b0 : decide (x16_1 < (l0.length : Int)) = true := decide_eq_true c11
                  clear c11
                  have H' := Aside0.mk H
                  clear H
                  have p105 : 0 ≤ (x16_1 : Int) := of_decide_eq_true (by first | (with_reducible assumption) | assumption)
                  have q105 : x16_1 < (l0.length : Int) := of_decide_eq_true (by first | (with_reducible assumption) | assumption)
                  obtain ⟨ad105, A105_0, c105_0, e105, hx105_0, hl105_0, hi105_0⟩ := at_L1 HR0.out x16_1 p105 q105
                  cases e105
                  replace hx105_0 := (HB.out.cell (World.block_lt_of_cell? w _ hx105_0)).trans hx105_0
                  have HR105_0 := Aside0.mk hi105_0
                  have HC105_0 := Aside0.mk hl105_0
                  clear hi105_0 hl105_0
                  replace p105 := eq_true p105
                  replace q105 := eq_true q105
                  go_wp2
                  go_loopg [23] k1 (fun kq v23 w' => ∃ (x3_2 : List (List Int)) (x23_2 : Int), v23 = .int .i64 x23_2 ∧ Aside0 (graph_Preds.l1 kq x3_2 x16_1 l0 (l0.length : Int) x16_1 (rd_L1 l0 x16_1) ((rd_L1 l0 x16_1).length : Int) x23_2 = some r) ∧ Aside0 (kq ≤ k1) ∧ Aside0 (Kd.S (Kd.slice 3 (Kd.int .i64)) 27 w' w.heap.size (fun _ => True) v103 x3_2) ∧ Aside0 (Below w.heap.size w w'))
                  case atStart => exact ⟨(x3_1), (0), (by first | rfl | (simp; done) | (simp [*]; done)), H', ⟨Nat.le_refl _⟩, ⟨by (with_reducible repeat (first | apply Kd.S_alloc | apply Kd.S_drewN | apply Kd.S_drew)); exact HO_3.out⟩, ⟨by repeat (first | (with_reducible first | exact HB.out | apply below_alloc | apply pw_below_drewN | apply below_drew1) | exact HB.out)⟩⟩
                  case round =>
                    clear H'
                    try clear c1
                    try clear p1
                    try clear q1
                    try clear hx1
                    try clear p2
                    try clear c3
                    try clear c4
                    try clear c4b0
                    try clear c4b1
                    try clear c5
                    try clear c5b0
                    try clear c5b1
                    try clear c9
                    try clear c9b0
                    try clear c10
                    try clear c10b0
                    try clear p10
                    try clear q10
                    try clear hx10
                    try clear c11
                    try clear c11b0
                    try clear hx105_0
                    try clear p105
                    try clear p2
                    try clear q105
                    obtain ⟨x3_2, x23_2, rfl, HA, HK2, HO_3, HB⟩ := hrel
                    cases gk with
                    | zero => exact absurd HA.out (by simp [graph_Preds.l1])
                    | succ k2 =>
                      have H := HA.out
                      clear HA
                      simp only [graph_Preds.l1] at H
                      by_cases c12 : x23_2 < ((rd_L1 l0 x16_1).length : Int)
                      · rw [if_pos c12] at H
                        have c12b0 : decide (x23_2 < ((rd_L1 l0 x16_1).length : Int)) = true := decide_eq_true c12
                        clear c12
                        by_cases c13 : 0 ≤ x23_2
                        · rw [if_pos c13] at H
                          have c13b0 : decide (0 ≤ x23_2) = true := decide_eq_true c13
                          clear c13
                          by_cases c14 : x23_2 < ((rd_L1 l0 x16_1).length : Int)
                          · rw [if_pos c14] at H
                            have c14b0 : decide (x23_2 < ((rd_L1 l0 x16_1).length : Int)) = true := decide_eq_true c14
                            clear c14
                            by_cases c15 : 0 ≤ (rd (rd_L1 l0 x16_1) x23_2)
                            · rw [if_pos c15] at H
                              have c15b0 : decide (0 ≤ (rd (rd_L1 l0 x16_1) x23_2)) = true := decide_eq_true c15
                              clear c15
                              by_cases c16 : (rd (rd_L1 l0 x16_1) x23_2) < (x3_2.length : Int)
                              · rw [if_pos c16] at H
                                have c16b0 : decide ((rd (rd_L1 l0 x16_1) x23_2) < (x3_2.length : Int)) = true := decide_eq_true c16
                                clear c16
                                by_cases c17 : (rd_L1 x3_2 (rd (rd_L1 l0 x16_1) x23_2)).length < 17592186044416
                                · rw [if_pos c17] at H
                                  have LMc17 := Aside0.mk c17
                                  clear c17
                                  obtain ⟨y108, hy108⟩ : ∃ y_ : List Int, y_ = ((rd_L1 x3_2 (rd (rd_L1 l0 x16_1) x23_2)) ++ [x16_1]) := ⟨_, rfl⟩
                                  replace H : (graph_Preds.l1 k2 (x3_2.set ((rd (rd_L1 l0 x16_1) x23_2) : Int).toNat y108) x16_1 l0 (l0.length : Int) x16_1 (rd_L1 l0 x16_1) ((rd_L1 l0 x16_1).length : Int) (wrap64 (x23_2 + 1))) = some r := by first | (rw [hy108]; with_reducible exact H) | (have H2_ := (Option.bind_some _ _).symm.trans H; rw [hy108]; with_reducible exact H2_) | (have H2_ := (Option.bind_some _ _).symm.trans H; with_reducible exact H2_) | with_reducible exact H | (rw [hy108]; exact H) | exact H
                                  have Ny108 := Aside0.mk hy108
                                  clear hy108
                                  obtain ⟨y111, hy111⟩ : ∃ y_ : List (List Int), y_ = (x3_2.set ((rd (rd_L1 l0 x16_1) x23_2) : Int).toNat y108) := ⟨_, rfl⟩
                                  replace H : (graph_Preds.l1 k2 y111 x16_1 l0 (l0.length : Int) x16_1 (rd_L1 l0 x16_1) ((rd_L1 l0 x16_1).length : Int) (wrap64 (x23_2 + 1))) = some r := by first | (rw [hy111]; with_reducible exact H) | (have H2_ := (Option.bind_some _ _).symm.trans H; rw [hy111]; with_reducible exact H2_) | (have H2_ := (Option.bind_some _ _).symm.trans H; with_reducible exact H2_) | with_reducible exact H | (rw [hy111]; exact H) | exact H
                                  have Ny111 := Aside0.mk hy111
                                  clear hy111
                                  have H' := Aside0.mk H
                                  clear H
                                  have p106 : 0 ≤ (x23_2 : Int) := of_decide_eq_true (by first | (with_reducible assumption) | assumption)
                                  have q106 : x23_2 < ((rd_L1 l0 x16_1).length : Int) := of_decide_eq_true (by first | (with_reducible assumption) | assumption)
                                  obtain ⟨ad106, e106, hx106_0⟩ := Kd.at_int HR105_0.out x23_2 p106 q106
                                  cases e106
                                  replace hx106_0 := (HB.out.cell (World.block_lt_of_cell? w _ hx106_0)).trans hx106_0
                                  replace p106 := eq_true p106
                                  replace q106 := eq_true q106
                                  obtain ⟨Ao19, co19, eo19⟩ := Kd.S_slice HO_3.out
                                  subst eo19
                                  have p107 : 0 ≤ ((rd (rd_L1 l0 x16_1) x23_2) : Int) := of_decide_eq_true (by first | (with_reducible assumption) | assumption)
                                  have q107 : (rd (rd_L1 l0 x16_1) x23_2) < (x3_2.length : Int) := of_decide_eq_true (by first | (with_reducible assumption) | assumption)
                                  obtain ⟨ad107, A107_0, c107_0, e107, hx107_0, hl107_0, hi107_0⟩ := at_L1 (Kd.S_reads' HO_3.out).2.2 (rd (rd_L1 l0 x16_1) x23_2) p107 q107
                                  cases e107
                                  obtain ⟨ce107, hce107, hMe107, hcc107⟩ := Kd.S_get HO_3.out [] (rd (rd_L1 l0 x16_1) x23_2) p107 (by first | exact q107 | exact of_decide_eq_true (by first | (with_reducible assumption) | assumption) | (have e_ := (Kd.S_reads' HO_3.out).1; omega))
                                  obtain ⟨ve107_0, rfl, ge107_0⟩ := hMe107
                                  have hv107_0 := hcc107 0 _ rfl
                                  rw [Nat.add_zero, show ((Kd.slice 3 (Kd.int .i64))).sz = 1 from rfl, Nat.mul_one] at hv107_0
                                  replace hv107_0 := Option.some.inj (hv107_0.symm.trans hx107_0)
                                  rw [hv107_0] at ge107_0
                                  have HL107_0 := Aside0.mk (show Kd.R (Kd.int .i64) 3 _ _ _ _ (rd_L1 x3_2 (rd (rd_L1 l0 x16_1) x23_2)) from ge107_0)
                                  clear hv107_0 ge107_0
                                  have HX107_0 := Aside0.mk hx107_0
                                  clear hcc107 hce107
                                  have HR107_0 := Aside0.mk hi107_0
                                  have HC107_0 := Aside0.mk hl107_0
                                  clear hi107_0 hl107_0
                                  replace p107 := eq_true p107
                                  replace q107 := eq_true q107
                                  obtain ⟨go20, co20, eo20, gb20, gl20, cl20, HG20⟩ := Kd.S_form HO_3.out (by have h_ : ((rd (rd_L1 l0 x16_1) x23_2) : Int) < ((x3_2.length : Int) : Int) := of_decide_eq_true (by first | (with_reducible assumption) | assumption); have h2_ : 0 ≤ ((rd (rd_L1 l0 x16_1) x23_2) : Int) := (of_decide_eq_true (by first | (with_reducible assumption) | assumption)); omega)
                                  (first | cases eo20 | (injection eo20 with ea_ en_ ec_; (first | subst ea_ | (injection ea_ with ea_; subst ea_)); subst ec_; clear en_))
                                  have GB20 := Aside0.mk gb20
                                  have GG20 := Aside0.mk HG20
                                  clear gb20 gl20 HG20
                                  (first | simp only [add_plain] at hx107_0 | skip)
                                  obtain ⟨oki20, ce20, hcl20, hM20, hcc20, _, _, hH20⟩ := Kd.S_elem HO_3.out [] ((rd (rd_L1 l0 x16_1) x23_2) : Int) (of_decide_eq_true (by first | (with_reducible assumption) | assumption)) (by have h_ : ((rd (rd_L1 l0 x16_1) x23_2) : Int) < ((x3_2.length : Int) : Int) := of_decide_eq_true (by first | (with_reducible assumption) | assumption); first | exact h_ | (have e_ := (Kd.S_reads' HO_3.out).1; omega) | simpa using h_)
                                  obtain ⟨ve20_0, rfl, ge20_0⟩ := hM20
                                  have hv20 := hcc20 0 _ rfl
                                  have hX20 := HX107_0.out
                                  (try simp only [add_plain] at hX20)
                                  (try simp only [Nat.add_zero] at hv20)
                                  (try rw [show ((Kd.slice 3 (Kd.int .i64))).sz = 1 from rfl, Nat.mul_one] at hv20)
                                  replace hv20 := Option.some.inj (hv20.symm.trans hX20)
                                  subst hv20
                                  clear hX20 hcc20 hcl20
                                  have UU20 := Aside0.mk (show Kd.R (Kd.int .i64) 3 _ w.heap.size oki20 (.slice A107_0 (rd_L1 x3_2 (rd (rd_L1 l0 x16_1) x23_2)).length c107_0) (rd_L1 x3_2 (rd (rd_L1 l0 x16_1) x23_2)) from ge20_0)
                                  have HH20 := Aside0.mk hH20
                                  have HN20 := Aside0.mk (Kd.S_reads' HO_3.out).1
                                  clear hH20 ge20_0
                                  go_wp2_with (first | ((with_reducible refine gate_builtin (b := .append) (xs := #[.tmp 32, .tmp 34]) rfl ?_); at_builtin; refine Kd.R_append (Kd.int .i64) (w0 := w) w.heap.size rfl (.tmp 32) (.tmp 34) 27 3 (.int .i64 0) 8 rfl Try.underlying27 info3 rfl (by decide) (by omega) (.slice A107_0 (rd_L1 x3_2 (rd (rd_L1 l0 x16_1) x23_2)).length c107_0) (rd_L1 x3_2 (rd (rd_L1 l0 x16_1) x23_2)) x16_1 [.int .i64 x16_1] (fun k_ => oki20 k_ ∨ ((fun _ => True)) k_ ∧ wr.heap.size ≤ k_) (fun _ => False) rfl rfl ?aP (fun _ hk => hk.elim) ?aF ?aO ?aB ?aS ?aL ?_; (case aP => exact rfl); (case aB => exact (by repeat (first | (with_reducible first | exact HB.out | apply below_alloc | apply pw_below_drewN | apply below_drew1) | exact HB.out))); (case aF => exact (fun k_ hk => .inr ⟨trivial, hk⟩)); (case aO => exact (by (with_reducible repeat (first | apply Kd.R_alloc | apply Kd.R_drewN | apply Kd.R_drew)); exact Kd.R_mono UU20.out (fun _ hk => .inl hk))); (case aS => exact (below_size (by repeat (first | (with_reducible first | exact HB.out | apply below_alloc | apply pw_below_drewN | apply below_drew1) | exact HB.out)))); (case aL => have := LMc17.out; omega); intro v109 w21 ho hb hg hat; rw [← Ny108.out] at ho; have n0_ := Aside0.mk (hb); have n1_ := Aside0.mk (Kd.H_grown (Kd.H_widen (by repeat (first | exact HH20.out | refine Kd.H_alloc ?_ _ | refine Kd.H_drewN ?_ _ | refine Kd.H_drew ?_))) hg (fun k_ e_ => .inl (UU20.out.1 k_ e_))); have n2_ := Aside0.mk (ho); clear HB; clear HH20; clear HO_3; clear UU20; clear HL107_0; have HB := n0_; have HH20 := n1_; have HO110 := n2_; clear n0_ n1_ n2_; clear ho hb hg hat; have p18 : 0 ≤ ((rd (rd_L1 l0 x16_1) x23_2) : Int) := of_decide_eq_true (by first | (with_reducible assumption) | assumption); have q18 : ((rd (rd_L1 l0 x16_1) x23_2) : Int) < ((x3_2.length : Int) : Int) := of_decide_eq_true (by first | (with_reducible assumption) | assumption); replace p18 := eq_true p18; replace q18 := eq_true q18; obtain ⟨Ao24, co24, eo24⟩ := Kd.R_slice HO110.out; subst eo24; obtain ⟨_, _, hraw22, _, _, hcc22, _⟩ := Kd.H_raw HH20.out (of_decide_eq_true (by first | (with_reducible assumption) | assumption)) (by have h_ : ((rd (rd_L1 l0 x16_1) x23_2) : Int) < ((x3_2.length : Int) : Int) := of_decide_eq_true (by first | (with_reducible assumption) | assumption); first | exact h_ | (have e_ := (HN20.out); omega) | simpa using h_); obtain ⟨_, hfr22⟩ := Kd.H_at HH20.out (of_decide_eq_true (by first | (with_reducible assumption) | assumption)) (by have h_ : ((rd (rd_L1 l0 x16_1) x23_2) : Int) < ((x3_2.length : Int) : Int) := of_decide_eq_true (by first | (with_reducible assumption) | assumption); first | exact h_ | (have e_ := (HN20.out); omega) | simpa using h_); have hx22_0 := hcc22 0 _ rfl; have hf22_0 := hfr22 0; (try simp only [Nat.add_zero] at hx22_0 hf22_0); (try rw [show ((Kd.slice 3 (Kd.int .i64))).sz = 1 from rfl, Nat.mul_one] at hx22_0); (try rw [show ((Kd.slice 3 (Kd.int .i64))).sz = 1 from rfl, Nat.mul_one] at hf22_0); have HP22 := Kd.S_seg0 HH20.out (of_decide_eq_true (by first | (with_reducible assumption) | assumption)) (by have h_ : ((rd (rd_L1 l0 x16_1) x23_2) : Int) < ((x3_2.length : Int) : Int) := of_decide_eq_true (by first | (with_reducible assumption) | assumption); first | exact h_ | (have e_ := (HN20.out); omega) | simpa using h_) (seg := [.slice Ao24 y108.length co24]) (j := 0) (show 1 ≤ 1 from by decide) (x' := y108) (Kd.M_row HO110.out) (fun _ hk => hk); (try simp only [show ((Kd.slice 3 (Kd.int .i64))).sz = 1 from rfl, Nat.mul_one, Nat.add_zero] at HP22); clear hcc22 hfr22) | ((with_reducible refine gate_store (t := 27) (p := 36) rfl ?_); refine store_event (t := 27) (p := 36) (v := ?vo_w23) (w1 := (w21.setCell ⟨go20, ((rd (rd_L1 l0 x16_1) x23_2) : Int).toNat, none⟩ (.slice Ao24 y108.length co24))) ?hg ?ho ?hn ?hr ?_; (case ho => rfl); (case hg => rfl); (case hn => rfl); (case hr => first | (go_simp; done) | (go_simp; rfl)); intro w23 hw; have hg : w21.grownBy w23 (some go20) := (by rw [hw]; exact HP22.2); have hp_ : Kd.S (Kd.slice 3 (Kd.int .i64)) 27 w23 w.heap.size (fun _ => True) (.slice (some ⟨go20, 0, none⟩) x3_2.length co19) y111 := (by rw [hw, Ny111.out]; exact HP22.1); clear HP22; have n0_ := Aside0.mk ((by rw [hw]; exact below_set HB.out GB20.out : Below w.heap.size w w23)); have n1_ := Aside0.mk (hp_); clear HB; clear HO110; clear HH20; have HB := n0_; have HO_3 := n1_; clear n0_ n1_; clear hg hw hp_ hraw22))
                                  go_roundg k2
                                  case measure => have := HK1.out; have := HK2.out; omega
                                  case rel => exact ⟨(y111), (wrap64 (x23_2 + 1)), (by first | rfl | (simp; done) | (simp [*]; done)), H', ⟨by have := HK1.out; have := HK2.out; omega⟩, ⟨by (with_reducible repeat (first | apply Kd.S_alloc | apply Kd.S_drewN | apply Kd.S_drew)); exact HO_3.out⟩, ⟨by repeat (first | (with_reducible first | exact HB.out | apply below_alloc | apply pw_below_drewN | apply below_drew1) | exact HB.out)⟩⟩
                                · rw [if_neg c17] at H
                                  exact absurd H (by simp)
                              · rw [if_neg c16] at H
                                exact absurd H (by simp)
                            · rw [if_neg c15] at H
                              exact absurd H (by simp)
                          · rw [if_neg c14] at H
                            exact absurd H (by simp)
                        · rw [if_neg c13] at H
                          exact absurd H (by simp)
                      · rw [if_neg c12] at H
                        have c12b0 : decide (x23_2 < ((rd_L1 l0 x16_1).length : Int)) = false := decide_eq_false c12
                        clear c12
                        have H' := Aside0.mk H
                        clear H
                        go_wp2
                        go_roundg k2
                        case measure => have := HK1.out; have := HK2.out; omega
                        case rel => exact ⟨(x3_2), (wrap64 (x16_1 + 1)), (by first | rfl | (simp; done) | (simp [*]; done)), H', ⟨by have := HK1.out; have := HK2.out; omega⟩, ⟨by (with_reducible repeat (first | apply Kd.S_alloc | apply Kd.S_drewN | apply Kd.S_drew)); exact HO_3.out⟩, ⟨by repeat (first | (with_reducible first | exact HB.out | apply below_alloc | apply pw_below_drewN | apply below_drew1) | exact HB.out)⟩⟩
                · rw [if_neg c11] at H
                  exact absurd H (by simp)
              · rw [if_neg c10] at H
                exact absurd H (by simp)
            · rw [if_neg c9] at H
              have c9b0 : decide (x16_1 < (l0.length : Int)) = false := decide_eq_false c9
              clear c9
              obtain rfl := Option.some.inj H
              go_wp2
              go_ret
              exact ⟨_, by first | rfl | (simp [errW_none, errW_some] <;> rfl) | (simp [*, errW_none, errW_some] <;> rfl), by (with_reducible repeat (first | apply Kd.S_alloc | apply Kd.S_drewN | apply Kd.S_drew)); exact HO_3.out, by repeat (first | (with_reducible first | exact HB.out | apply below_alloc | apply pw_below_drewN | apply below_drew1) | exact HB.out)⟩
      · rw [if_neg c5] at H
        exact absurd H (by simp)
    · rw [if_neg c4] at H
      exact absurd H (by simp)
  · replace c3 := Bool.eq_false_iff.mpr c3
    subst c3
    have H1 : (some ([] : List (List Int))) = some r := by rw [if_neg (show ¬ (false = true) by decide)] at H; exact H
    clear H
    have H := H1
    clear H1
    obtain rfl := Option.some.inj H
    go_enter Try.func16, Try.ntmps16
    go_wp2_with (first | ((with_reducible refine gate_callee (f := 19) rfl ?_); refine goesL_ (some 9) rfl rfl Try.func19 (by kernel_rfl) rfl #[.slice A0 l0.length c0] rfl (by (try simp only [List.map_toArray, List.map_cons, List.map_nil]); first | done | rfl | (simp only [List.length_drop, List.length_take]; rfl)) ?_; (with_reducible refine (graph_Right.calls _ _ l0 false _ ?side1 ?side2 A2.out).mono ?_); (case side1 => repeat (first | exact HR0.out | (with_reducible refine Kd.C_alloc ?_ _) | (with_reducible refine Kd.C_drewN ?_ _) | (with_reducible refine Kd.C_drew ?_))); (case side2 => exact HC0.out); rintro e w25 ⟨rfl, hb⟩; refine ⟨_, rfl, ?_⟩; have n0_ := Aside0.mk (below_step (by repeat (first | (with_reducible first | exact HB.out | apply below_alloc | apply pw_below_drewN | apply below_drew1) | exact HB.out)) hb); clear HB; have HB := n0_; clear n0_; (try clear hb); (try clear hb2); (try clear hk); (try clear hi)))
    go_ret
    exact ⟨_, by first | rfl | (simp [errW_none, errW_some] <;> rfl) | (simp [*, errW_none, errW_some] <;> rfl), by first | exact Kd.S_nil _ _ _ _ _ | exact Kd.N_nil _ _ _ _ _ | exact Kd.V_nil _ _ _ _ _ | exact Kd.Q_nil _ _ _ _ _ | exact Kd.R_nil _ _ _ _ _, by repeat (first | (with_reducible first | exact HB.out | apply below_alloc | apply pw_below_drewN | apply below_drew1) | exact HB.out)⟩

end Go.Proofs.Ytkmbhknmjnbanaa.A


namespace Go.Proofs.Ytkmbhknmjnbanaa.A
open Go.RowKit Go.Proofs.YtkmbhknmjnbanaaW.PrintWords Go.Proofs.YtkmbhknmjnbanaaW.PrintLast Go.Shelf
set_option linter.unusedVariables false
set_option linter.unusedSimpArgs false

def Evt {α : Type} (g : Nat → Option α) (r : α) : Prop := ∃ K, ∀ k, K ≤ k → g k = some r
theorem Evt.const {α : Type} {x : Option α} {r : α} (h : x = some r) : Evt (fun _ => x) r := ⟨0, fun _ _ => h⟩
theorem Evt.step {α : Type} {f g : Nat → Option α} {r : α} (h : Evt g r) (e : ∀ k, f (k + 1) = g k) : Evt f r := by
  obtain ⟨K, h⟩ := h
  refine ⟨K + 1, fun k hk => ?_⟩
  obtain ⟨j, rfl⟩ : ∃ j, k = j + 1 := ⟨k - 1, by omega⟩
  rw [e]; exact h j (by omega)
theorem Evt.congr {α : Type} {f g : Nat → Option α} {r : α} (h : Evt g r) (e : ∀ k, f k = g k) : Evt f r := by
  obtain ⟨K, h⟩ := h
  exact ⟨K, fun k hk => (e k).trans (h k hk)⟩
theorem Evt.bind {α β : Type} {g : Nat → Option α} {h : Nat → α → Option β} {x : α} {r : β} (h1 : Evt g x) (h2 : Evt (fun k => h k x) r) : Evt (fun k => (g k).bind (h k)) r := by
  obtain ⟨K1, h1⟩ := h1
  obtain ⟨K2, h2⟩ := h2
  refine ⟨K1 + K2, fun k hk => ?_⟩
  show (g k).bind (h k) = _
  rw [h1 k (by omega)]
  exact h2 k (by omega)
theorem Evt.get {α : Type} {g : Nat → Option α} {r : α} (h : Evt g r) : ∃ k, g k = some r := by
  obtain ⟨K, h⟩ := h
  exact ⟨K, h K (Nat.le_refl _)⟩

theorem w64 {n : Int} (h1 : -1000000000000 ≤ n) (h2 : n ≤ 1000000000000) : wrap64 n = n := by unfold wrap64; omega
theorem rdL {l : List (List Int)} {i : Nat} : rd_L1 l (i : Int) = rowOf l i := by unfold rd_L1 rowOf; simp
theorem rdI {l : List Int} {i : Nat} (h : i < l.length) : rd l (i : Int) = l[i] := by unfold rd; simp [h]
theorem rowOf_mem {g : List (List Int)} {a : Nat} (h : a < g.length) : rowOf g a ∈ g := by
  unfold rowOf; rw [List.getD_eq_getElem?_getD, List.getElem?_eq_getElem h]; exact List.getElem_mem h

def padd (i : Int) (out : List (List Int)) (x : Int) : List (List Int) := out.set x.toNat (rowOf out x.toNat ++ [i])
def prow (out : List (List Int)) (i : Int) (l : List Int) : List (List Int) := l.foldl (padd i) out
def pfold (g : List (List Int)) (m : Nat) : List (List Int) := (List.range m).foldl (fun out (i : Nat) => prow out (i : Int) (rowOf g i)) (List.replicate g.length [])
def predsOf (g : List (List Int)) : List (List Int) := pfold g g.length
theorem pfold_succ (g : List (List Int)) (m : Nat) : pfold g (m + 1) = prow (pfold g m) m (rowOf g m) := by simp [pfold, List.range_succ]
theorem padd_len (i : Int) (out : List (List Int)) (x : Int) : (padd i out x).length = out.length := by simp [padd]
theorem prow_len (i : Int) (l : List Int) : ∀ out : List (List Int), (prow out i l).length = out.length := by
  unfold prow
  induction l with
  | nil => intro out; rfl
  | cons x l ih => intro out; rw [List.foldl_cons, ih, padd_len]
theorem pfold_len (g : List (List Int)) : ∀ m, (pfold g m).length = g.length
  | 0 => by simp [pfold]
  | m + 1 => by rw [pfold_succ, prow_len, pfold_len g m]
theorem predsOf_len (g : List (List Int)) : (predsOf g).length = g.length := pfold_len g _
/-- how many there are in all -/
def tot (l : List (List Int)) : Nat := (l.map List.length).sum
theorem row_le_tot : ∀ (l : List (List Int)) (j : Nat), (rowOf l j).length ≤ tot l
  | [], j => by simp [rowOf, tot]
  | a :: l, 0 => by simp [rowOf, tot]
  | a :: l, j + 1 => by
    have := row_le_tot l j
    simp only [rowOf, tot, List.getD_cons_succ, List.map_cons, List.sum_cons] at *
    omega
theorem tot_append (a b : List (List Int)) : tot (a ++ b) = tot a + tot b := by simp [tot]
theorem tot_set : ∀ (l : List (List Int)) (j : Nat) (r : List Int), j < l.length → tot (l.set j r) + (rowOf l j).length = tot l + r.length
  | [], j, r, h => by simp at h
  | a :: l, 0, r, _ => by simp [tot, rowOf]; omega
  | a :: l, j + 1, r, h => by
    have := tot_set l j r (by simpa using h)
    simp only [rowOf, tot, List.getD_cons_succ, List.set_cons_succ, List.map_cons, List.sum_cons] at *
    omega
theorem tot_padd {i : Int} {out : List (List Int)} {x : Int} (h : x.toNat < out.length) : tot (padd i out x) = tot out + 1 := by
  have := tot_set out x.toNat (rowOf out x.toNat ++ [i]) h
  unfold padd
  rw [List.length_append] at this
  simp only [List.length_cons, List.length_nil] at this
  omega
theorem tot_prow (i : Int) (l : List Int) : ∀ out : List (List Int), (∀ x ∈ l, x.toNat < out.length) → tot (prow out i l) = tot out + l.length := by
  unfold prow
  induction l with
  | nil => intro out _; rfl
  | cons x l ih =>
    intro out h
    rw [List.foldl_cons, ih _ (fun y hy => by rw [padd_len]; exact h y (by simp [hy])), tot_padd (h x (by simp)), List.length_cons]
    omega
theorem tot_pfold {g : List (List Int)} (hg : ∀ l ∈ g, ∀ x ∈ l, 0 ≤ x ∧ x < (g.length : Int)) : ∀ m, m ≤ g.length → tot (pfold g m) = tot (g.take m)
  | 0, _ => by simp [pfold, tot]
  | m + 1, h => by
    rw [pfold_succ, tot_prow _ _ _ (fun x hx => by
      have := hg _ (rowOf_mem (show m < g.length by omega)) x hx
      rw [pfold_len]; omega), tot_pfold hg m (by omega), List.take_succ_eq_append_getElem (by omega)]
    rw [tot_append, rowOf, List.getD_eq_getElem?_getD, List.getElem?_eq_getElem (show m < g.length by omega)]
    simp [tot]
theorem tot_le {g : List (List Int)} {b : Nat} (h : ∀ l ∈ g, l.length ≤ b) : tot g ≤ b * g.length := by
  induction g with
  | nil => simp [tot]
  | cons a g ih =>
    have := ih (fun l hl => h l (by simp [hl]))
    have := h a (by simp)
    simp only [tot, List.map_cons, List.sum_cons, List.length_cons] at *
    rw [Nat.mul_add]
    omega
theorem tot_take (g : List (List Int)) (m : Nat) : tot (g.take m) ≤ tot g := by
  have := tot_append (g.take m) (g.drop m)
  rw [List.take_append_drop] at this
  omega
/-- who is ahead of whom -/
theorem padd_mem {i : Int} {out : List (List Int)} {x : Int} (h : x.toNat < out.length) (j : Nat) (y : Int) : y ∈ rowOf (padd i out x) j ↔ y ∈ rowOf out j ∨ (j = x.toNat ∧ y = i) := by
  unfold padd rowOf
  rw [List.getD_eq_getElem?_getD, List.getElem?_set]
  by_cases e : x.toNat = j
  · subst e
    simp [h, List.getD_eq_getElem?_getD]
  · have e' : ¬ j = x.toNat := fun h => e h.symm
    simp [e, e', List.getD_eq_getElem?_getD]
theorem prow_mem (i : Int) (j : Nat) (y : Int) (l : List Int) : ∀ out : List (List Int), (∀ x ∈ l, 0 ≤ x ∧ x.toNat < out.length) → (y ∈ rowOf (prow out i l) j ↔ y ∈ rowOf out j ∨ ((j : Int) ∈ l ∧ y = i)) := by
  unfold prow
  induction l with
  | nil => intro out _; simp
  | cons x l ih =>
    intro out h
    have hx := h x (by simp)
    rw [List.foldl_cons, ih _ (fun z hz => by rw [padd_len]; exact h z (by simp [hz])), padd_mem hx.2, List.mem_cons]
    have : j = x.toNat ↔ (j : Int) = x := by omega
    rw [this]
    constructor
    · rintro ((h1 | ⟨h1, h2⟩) | ⟨h1, h2⟩)
      · exact .inl h1
      · exact .inr ⟨.inl h1, h2⟩
      · exact .inr ⟨.inr h1, h2⟩
    · rintro (h1 | ⟨h1 | h1, h2⟩)
      · exact .inl (.inl h1)
      · exact .inl (.inr ⟨h1, h2⟩)
      · exact .inr ⟨h1, h2⟩
theorem pfold_mem {g : List (List Int)} (hg : ∀ l ∈ g, ∀ x ∈ l, 0 ≤ x ∧ x < (g.length : Int)) (j : Nat) (y : Int) : ∀ m, m ≤ g.length → (y ∈ rowOf (pfold g m) j ↔ ∃ i : Nat, i < m ∧ y = i ∧ (j : Int) ∈ rowOf g i)
  | 0, _ => by simp [pfold, rowOf, List.getD_eq_getElem?_getD, List.getElem?_replicate]; split <;> simp
  | m + 1, h => by
    rw [pfold_succ, prow_mem _ _ _ _ _ (fun x hx => by
      have := hg _ (rowOf_mem (show m < g.length by omega)) x hx
      rw [pfold_len]; omega), pfold_mem hg j y m (by omega)]
    constructor
    · rintro (⟨i, h1, h2, h3⟩ | ⟨h1, h2⟩)
      · exact ⟨i, by omega, h2, h3⟩
      · exact ⟨m, by omega, h2, h1⟩
    · rintro ⟨i, h1, h2, h3⟩
      by_cases e : i = m
      · subst e; exact .inr ⟨h3, h2⟩
      · exact .inl ⟨i, by omega, h2, h3⟩
theorem predsOf_mem {g : List (List Int)} (hg : ∀ l ∈ g, ∀ x ∈ l, 0 ≤ x ∧ x < (g.length : Int)) (j : Nat) (y : Int) : y ∈ rowOf (predsOf g) j ↔ ∃ i : Nat, i < g.length ∧ y = i ∧ (j : Int) ∈ rowOf g i := pfold_mem hg j y _ (Nat.le_refl _)

theorem preds_l1 {g : List (List Int)} (hn : g.length ≤ 4096) {i : Nat} (hi : i < g.length) {R : List Int} (hR : ∀ x ∈ R, 0 ≤ x ∧ x < (g.length : Int)) (hRl : R.length ≤ 100) {r : List (List Int)} : ∀ (d kk : Nat) (out : List (List Int)), kk + d = R.length → out.length = g.length → tot out + d ≤ 1000000 →
    Evt (fun k => graph_Preds.l0 k (prow out i (R.drop kk)) g g.length ((i + 1 : Nat) : Int)) r → Evt (fun k => graph_Preds.l1 k out i g g.length i R R.length kk) r
  | 0, kk, out, hk, ho, ht, h => by
    rw [List.drop_eq_nil_of_le (by omega)] at h
    refine Evt.step h fun k => ?_
    rw [graph_Preds.l1, if_neg (by omega), w64 (by omega) (by omega)]
    rfl
  | d + 1, kk, out, hk, ho, ht, h => by
    have hlt : kk < R.length := by omega
    have hx := hR R[kk] (List.getElem_mem hlt)
    have hlen : R[kk].toNat < out.length := by omega
    rw [List.drop_eq_getElem_cons hlt] at h
    refine Evt.step (preds_l1 hn hi hR hRl d (kk + 1) (padd i out R[kk]) (by omega) (by rw [padd_len, ho]) (by rw [tot_padd hlen]; omega) h) fun k => ?_
    have hrl := row_le_tot out R[kk].toNat
    rw [graph_Preds.l1, if_pos (by omega), if_pos (by omega), if_pos (by omega), rdI hlt, if_pos hx.1, if_pos (by omega)]
    rw [show rd_L1 out R[kk] = rowOf out R[kk].toNat from rfl, if_pos (by omega), w64 (by omega) (by omega)]
    rfl
theorem preds_l0 {g : List (List Int)} (hn : g.length ≤ 4096) (hg : ∀ l ∈ g, ∀ x ∈ l, 0 ≤ x ∧ x < (g.length : Int)) (h8 : ∀ l ∈ g, l.length ≤ 8) : ∀ (d i : Nat), i + d = g.length →
    Evt (fun k => graph_Preds.l0 k (pfold g i) g g.length i) (predsOf g)
  | 0, i, hi => by
    obtain rfl : i = g.length := by omega
    refine Evt.step (Evt.const rfl) fun k => ?_
    rw [graph_Preds.l0, if_neg (by omega)]
    rfl
  | d + 1, i, hi => by
    have hlt : i < g.length := by omega
    have ih := preds_l0 hn hg h8 d (i + 1) (by omega)
    rw [pfold_succ] at ih
    have h1 := h8 _ (rowOf_mem hlt)
    have h2 := tot_pfold hg i (by omega)
    have h3 := tot_take g i
    have h4 := tot_le h8
    refine Evt.step (preds_l1 (r := predsOf g) hn hlt (R := rowOf g i) (hg _ (rowOf_mem hlt)) (by omega) (rowOf g i).length 0 (pfold g i) (by omega) (pfold_len g i) (by omega) ih) fun k => ?_
    rw [graph_Preds.l0, if_pos (by omega), if_pos (by omega), if_pos (by omega), rdL]
    rfl
theorem right_8 {g : List (List Int)} (h : rightB g = true) : ∀ l ∈ g, l.length ≤ 8 := by
  unfold rightB at h
  simp only [Bool.and_eq_true, decide_eq_true_eq, Bool.not_eq_true', List.any_eq_false] at h
  intro l hl
  have := h.2 l hl
  simp only [badL, Bool.or_eq_true, decide_eq_true_eq, not_or] at this
  omega
theorem preds_ev (g : List (List Int)) : Evt (fun k => graph_Preds.f k g) (if rightB g = true then predsOf g else []) := by
  unfold graph_Preds.f graph_Right.f
  simp only [Option.bind_some]
  cases hr : rightB g
  · exact Evt.const rfl
  · obtain ⟨h1, h2, h3⟩ := right_rows hr
    simp only [if_pos trivial]
    refine Evt.congr (preds_l0 h1 h3 (right_8 hr) g.length 0 (by omega)) fun k => ?_
    rw [if_pos (by omega), if_pos (by omega), Int.toNat_natCast]
    rfl
end Go.Proofs.Ytkmbhknmjnbanaa.A


namespace Go.Proofs.Ytkmbhknmjnbanaa.A
open Go.RowKit Go.Proofs.YtkmbhknmjnbanaaW.PrintWords Go.Proofs.YtkmbhknmjnbanaaW.PrintLast Go.Shelf
set_option linter.unusedVariables false
set_option linter.unusedSimpArgs false

/-- all that is left lies in the graph -/
theorem visit_in_range {g : List (List Int)} (hg : ∀ l ∈ g, ∀ x ∈ l, 0 ≤ x ∧ x < (g.length : Int)) : ∀ (n : Nat) (met : List Bool) (a : Nat), a < g.length → ∀ x ∈ (visit g n met a).2, 0 ≤ x ∧ x < (g.length : Int)
  | 0, _, _, _ => by intro x hx; simp [visit] at hx
  | n + 1, met, a, ha => by
    rw [visit_succ]
    have : ∀ (l : List Int), (∀ x ∈ l, 0 ≤ x ∧ x < (g.length : Int)) → ∀ (s : List Bool × List Int), (∀ x ∈ s.2, 0 ≤ x ∧ x < (g.length : Int)) → ∀ x ∈ (l.foldl (vstep g n) s).2, 0 ≤ x ∧ x < (g.length : Int) := by
      intro l
      induction l with
      | nil => intro _ s hs; exact hs
      | cons y l ih =>
        intro hl s hs
        have hy := hl y (by simp)
        rw [List.foldl_cons]
        refine ih (fun z hz => hl z (by simp [hz])) _ ?_
        unfold vstep
        split
        · exact hs
        · intro z hz
          rcases List.mem_append.1 hz with hz | hz
          · exact hs z hz
          · exact visit_in_range hg n _ _ (by omega) z hz
    intro x hx
    rcases List.mem_append.1 hx with hx | hx
    · exact this (rowOf g a) (hg _ (rowOf_mem ha)) (met.set a true, []) (by simp) x hx
    · simp only [List.mem_singleton] at hx
      subst hx
      omega
theorem order_in_range {g : List (List Int)} (hr : rightB g = true) : ∀ x ∈ orderOf g, 0 ≤ x ∧ x < (g.length : Int) := by
  obtain ⟨h1, h2, h3⟩ := right_rows hr
  intro x hx
  unfold orderOf at hx
  rw [if_pos hr, List.mem_reverse] at hx
  exact visit_in_range h3 _ _ _ (by omega) x hx
theorem order_len {g : List (List Int)} (hr : rightB g = true) : (orderOf g).length ≤ g.length := by
  obtain ⟨h1, h2, h3⟩ := right_rows hr
  unfold orderOf
  rw [if_pos hr, List.length_reverse]
  exact walk_len h3 (by omega)

def plfold (o : List Int) (n m : Nat) : List Int := (List.range m).foldl (fun p (i : Nat) => p.set (o.getD i 0).toNat (i : Int)) (List.replicate n (-1))
theorem plfold_succ (o : List Int) (n m : Nat) : plfold o n (m + 1) = (plfold o n m).set (o.getD m 0).toNat m := by simp [plfold, List.range_succ]
theorem plfold_len (o : List Int) (n : Nat) : ∀ m, (plfold o n m).length = n
  | 0 => by simp [plfold]
  | m + 1 => by rw [plfold_succ, List.length_set, plfold_len o n m]
def placesOf (g : List (List Int)) : List Int := plfold (orderOf g) g.length (orderOf g).length
theorem rdD {l : List Int} {i : Nat} : rd l (i : Int) = l.getD i 0 := by unfold rd; simp
theorem rdD' {l : List Int} {x : Int} (h : 0 ≤ x) : rd l x = l.getD x.toNat 0 := rfl
end Go.Proofs.Ytkmbhknmjnbanaa.A


namespace Go.Proofs.Ytkmbhknmjnbanaa.A
set_option linter.unusedVariables false
set_option linter.unusedSimpArgs false

def Edge (g : List (List Int)) (a b : Nat) : Prop := (b : Int) ∈ rowOf g a
inductive Way (g : List (List Int)) : Nat → Nat → Prop
  | refl (a : Nat) : Way g a a
  | step {a b c : Nat} : Way g a b → Edge g b c → Way g a c
theorem Way.trans {g : List (List Int)} {a b c : Nat} (h1 : Way g a b) (h2 : Way g b c) : Way g a c := by
  induction h2 with
  | refl => exact h1
  | step _ e ih => exact ih.step e
theorem Way.head {g : List (List Int)} {a b c : Nat} (e : Edge g a b) (h : Way g b c) : Way g a c := ((Way.refl a).step e).trans h
/-- all blocks that edges name are there -/
def InG (g : List (List Int)) : Prop := ∀ l ∈ g, ∀ x ∈ l, 0 ≤ x ∧ x < (g.length : Int)
theorem Edge.lt {g : List (List Int)} (hg : InG g) {a b : Nat} (e : Edge g a b) : b < g.length := by
  by_cases ha : a < g.length
  · have := (hg _ (rowOf_mem ha) _ e).2; omega
  · unfold Edge rowOf at e
    rw [List.getD_eq_getElem?_getD, List.getElem?_eq_none (by omega)] at e
    simp at e
theorem Edge.lt1 {g : List (List Int)} {a b : Nat} (e : Edge g a b) : a < g.length := by
  by_cases ha : a < g.length
  · exact ha
  · unfold Edge rowOf at e
    rw [List.getD_eq_getElem?_getD, List.getElem?_eq_none (by omega)] at e
    simp at e
theorem Way.lt {g : List (List Int)} (hg : InG g) {a b : Nat} (h : Way g a b) (ha : a < g.length) : b < g.length := by
  induction h with
  | refl => exact ha
  | step _ e _ => exact e.lt hg

/-- what stands in the marks -/
abbrev Mk (m : List Bool) (i : Nat) : Prop := m.getD i true = true
theorem mk_set {m : List Bool} {a i : Nat} (ha : a < m.length) : Mk (m.set a true) i ↔ Mk m i ∨ i = a := by
  unfold Mk
  rw [List.getD_eq_getElem?_getD, List.getElem?_set, List.getD_eq_getElem?_getD]
  by_cases e : a = i
  · subst e; simp [ha]
  · have : ¬ i = a := fun h => e h.symm
    simp [e, this]

/-- what holds of the marks and what was left, in a walk from a over marks m0 -/
structure Dfs (g : List (List Int)) (m0 : List Bool) (a : Nat) (m : List Bool) (out : List Int) : Prop where
  len : m.length = m0.length
  mark : ∀ i : Nat, Mk m i ↔ Mk m0 i ∨ (i : Int) ∈ out
  nodup : out.Nodup
  new : ∀ i : Nat, (i : Int) ∈ out → ¬ Mk m0 i
  nat : ∀ x ∈ out, 0 ≤ x
  way : ∀ i : Nat, (i : Int) ∈ out → Way g a i
  clo : ∀ i j : Nat, (i : Int) ∈ out → Edge g i j → Mk m j
  ord : ∀ (pre post : List Int) (i j : Nat), out = pre ++ (i : Int) :: post → Edge g i j → Mk m0 j ∨ (j : Int) ∈ pre ∨ Way g j i

theorem split_append {α : Type} {a b pre post : List α} {x : α} (h : a ++ b = pre ++ x :: post) : (∃ p2, a = pre ++ x :: p2) ∨ ∃ p1, pre = a ++ p1 ∧ b = p1 ++ x :: post := by
  rcases List.append_eq_append_iff.1 h with ⟨c, h1, h2⟩ | ⟨c, h1, h2⟩
  · exact .inr ⟨c, h1, h2⟩
  · cases c with
    | nil => exact .inr ⟨[], by simpa using h1.symm, by simpa using h2.symm⟩
    | cons y c =>
      simp only [List.cons_append, List.cons.injEq] at h2
      obtain ⟨rfl, h2⟩ := h2
      exact .inl ⟨c, h1⟩

theorem Dfs.init (g : List (List Int)) (m0 : List Bool) (a : Nat) : Dfs g m0 a m0 [] :=
  ⟨rfl, fun i => by simp, List.nodup_nil, fun i h => by simp at h, fun x h => by simp at h, fun i h => by simp at h, fun i j h => by simp at h, fun pre post i j h => by simp at h⟩
theorem Dfs.grow {g : List (List Int)} {m0 m m' : List Bool} {a b : Nat} {out o2 : List Int} (h : Dfs g m0 a m out) (he : Edge g a b) (h2 : Dfs g m b m' o2) : Dfs g m0 a m' (out ++ o2) := by
  refine ⟨h2.len.trans h.len, fun i => ?_, ?_, fun i hi => ?_, fun x hx => ?_, fun i hi => ?_, fun i j hi e => ?_, fun pre post i j ho e => ?_⟩
  · rw [h2.mark, h.mark, List.mem_append, or_assoc]
  · rw [List.nodup_append]
    refine ⟨h.nodup, h2.nodup, fun x hx y hy e => ?_⟩
    subst e
    obtain ⟨i, rfl⟩ := Int.eq_ofNat_of_zero_le (h.nat x hx)
    exact h2.new i hy ((h.mark i).2 (.inr hx))
  · rcases List.mem_append.1 hi with hi | hi
    · exact h.new i hi
    · exact fun hm => h2.new i hi ((h.mark i).2 (.inl hm))
  · rcases List.mem_append.1 hx with hx | hx
    · exact h.nat x hx
    · exact h2.nat x hx
  · rcases List.mem_append.1 hi with hi | hi
    · exact h.way i hi
    · exact Way.head he (h2.way i hi)
  · rcases List.mem_append.1 hi with hi | hi
    · exact (h2.mark j).2 (.inl (h.clo i j hi e))
    · exact h2.clo i j hi e
  · rcases split_append ho with ⟨p2, ha⟩ | ⟨p1, hp, hb⟩
    · exact h.ord pre p2 i j ha e
    · rcases h2.ord p1 post i j hb e with h3 | h3 | h3
      · rcases (h.mark j).1 h3 with h4 | h4
        · exact .inl h4
        · exact .inr (.inl (by rw [hp]; exact List.mem_append_left _ h4))
      · exact .inr (.inl (by rw [hp]; exact List.mem_append_right _ h3))
      · exact .inr (.inr h3)
theorem Dfs.done {g : List (List Int)} {m0 m : List Bool} {a : Nat} {out : List Int} (ha : a < m0.length) (hm : ¬ Mk m0 a) (h : Dfs g (m0.set a true) a m out) (hs : ∀ j : Nat, Edge g a j → Mk m j) : Dfs g m0 a m (out ++ [(a : Int)]) := by
  have hna : (a : Int) ∉ out := fun h1 => h.new a h1 ((mk_set ha).2 (.inr rfl))
  refine ⟨by rw [h.len, List.length_set], fun i => ?_, ?_, fun i hi => ?_, fun x hx => ?_, fun i hi => ?_, fun i j hi e => ?_, fun pre post i j ho e => ?_⟩
  · rw [h.mark, mk_set ha, List.mem_append, List.mem_singleton]
    constructor
    · rintro ((h1 | rfl) | h1)
      · exact .inl h1
      · exact .inr (.inr rfl)
      · exact .inr (.inl h1)
    · rintro (h1 | h1 | h1)
      · exact .inl (.inl h1)
      · exact .inr h1
      · exact .inl (.inr (by omega))
  · rw [List.nodup_append]
    refine ⟨h.nodup, by simp, fun x hx y hy e => ?_⟩
    simp only [List.mem_singleton] at hy
    subst hy; subst e
    exact hna hx
  · rcases List.mem_append.1 hi with hi | hi
    · exact fun hm => h.new i hi ((mk_set ha).2 (.inl hm))
    · simp only [List.mem_singleton] at hi
      obtain rfl : i = a := by omega
      exact hm
  · rcases List.mem_append.1 hx with hx | hx
    · exact h.nat x hx
    · simp only [List.mem_singleton] at hx; omega
  · rcases List.mem_append.1 hi with hi | hi
    · exact h.way i hi
    · simp only [List.mem_singleton] at hi
      obtain rfl : i = a := by omega
      exact .refl _
  · rcases List.mem_append.1 hi with hi | hi
    · exact h.clo i j hi e
    · simp only [List.mem_singleton] at hi
      obtain rfl : i = a := by omega
      exact hs j e
  · rcases split_append ho with ⟨p2, ho'⟩ | ⟨p1, hp, hb⟩
    · rcases h.ord pre p2 i j ho' e with h3 | h3 | h3
      · rcases (mk_set ha).1 h3 with h4 | rfl
        · exact .inl h4
        · exact .inr (.inr (h.way i (by rw [ho']; simp)))
      · exact .inr (.inl h3)
      · exact .inr (.inr h3)
    · cases p1 with
      | cons y p1 => simp at hb
      | nil =>
        simp only [List.nil_append, List.cons.injEq] at hb
        obtain rfl : a = i := by omega
        simp only [List.append_nil] at hp
        subst hp
        rcases (h.mark j).1 (hs j e) with h3 | h3
        · rcases (mk_set ha).1 h3 with h4 | rfl
          · exact .inl h4
          · exact .inr (.inr (.refl _))
        · exact .inr (.inl h3)

theorem unmet_le_of {g : List (List Int)} {m0 m : List Bool} {a : Nat} {out : List Int} (h : Dfs g m0 a m out) : unmet m ≤ unmet m0 := by
  unfold unmet
  have hl := h.len
  have hm : ∀ i : Nat, Mk m0 i → Mk m i := fun i hi => (h.mark i).2 (.inl hi)
  clear h
  induction m0 generalizing m with
  | nil => cases m with
    | nil => simp
    | cons => simp at hl
  | cons b m0 ih =>
    cases m with
    | nil => simp at hl
    | cons c m =>
      have h1 := ih (m := m) (by simpa using hl) (fun i hi => by have := hm (i + 1) (by simpa [Mk] using hi); simpa [Mk] using this)
      have h2 : b = true → c = true := fun e => by have := hm 0 (by simpa [Mk] using e); simpa [Mk] using this
      rw [List.count_cons, List.count_cons]
      cases b <;> cases c <;> simp_all <;> omega

theorem visit_dfs {g : List (List Int)} (hg : InG g) : ∀ (n : Nat) (met : List Bool) (a : Nat), met.length = g.length → a < g.length → ¬ Mk met a → unmet met ≤ n → Dfs g met a (visit g n met a).1 (visit g n met a).2
  | 0, met, a, hl, ha, hm, hn => by
    have := unmet_pos (m := met) (a := a) (by omega) (by simpa [Mk] using hm); omega
  | n + 1, met, a, hl, ha, hm, hn => by
    rw [visit_succ]
    have hs := unmet_set (m := met) (a := a) (by omega) (by simpa [Mk] using hm)
    have H : ∀ (l pre : List Int), rowOf g a = pre ++ l → ∀ s : List Bool × List Int, Dfs g (met.set a true) a s.1 s.2 → (∀ j : Nat, (j : Int) ∈ pre → Mk s.1 j) →
        Dfs g (met.set a true) a (l.foldl (vstep g n) s).1 (l.foldl (vstep g n) s).2 ∧ ∀ j : Nat, (j : Int) ∈ rowOf g a → Mk (l.foldl (vstep g n) s).1 j := by
      intro l
      induction l with
      | nil => intro pre hp s hd hj; exact ⟨hd, fun j h => hj j (by rw [hp] at h; simpa using h)⟩
      | cons x l ih =>
        intro pre hp s hd hj
        have hx := hg _ (rowOf_mem ha) x (by rw [hp]; simp)
        obtain ⟨b, rfl⟩ := Int.eq_ofNat_of_zero_le hx.1
        rw [List.foldl_cons]
        have he : Edge g a b := by unfold Edge; rw [hp]; simp
        have hle := unmet_le_of hd
        have hlen := hd.len
        rw [List.length_set] at hlen
        unfold vstep
        rw [Int.toNat_natCast]
        split
        · rename_i hmk
          refine ih (pre ++ [(b : Int)]) (by rw [hp]; simp) s hd fun j h => ?_
          rcases List.mem_append.1 h with h | h
          · exact hj j h
          · simp only [List.mem_singleton] at h
            obtain rfl : j = b := by omega
            exact hmk
        · rename_i hmk
          have hv := visit_dfs hg n s.1 b (by omega) (by omega) (by simpa [Mk] using hmk) (by omega)
          have hg2 := hd.grow he hv
          refine ih (pre ++ [(b : Int)]) (by rw [hp]; simp) _ hg2 fun j h => ?_
          rcases List.mem_append.1 h with h | h
          · exact (hv.mark j).2 (.inl (hj j h))
          · simp only [List.mem_singleton] at h
            obtain rfl : j = b := by omega
            refine (hv.mark j).2 (.inr ?_)
            obtain ⟨n', rfl⟩ : ∃ n', n = n' + 1 := ⟨n - 1, by
              have := unmet_pos (m := s.1) (a := j) (by omega) (by simpa using hmk); omega⟩
            rw [visit_succ]; simp
    have h1 := H (rowOf g a) [] rfl (met.set a true, []) (Dfs.init _ _ _) (fun j h => by simp at h)
    exact Dfs.done (by omega) hm h1.1 h1.2
end Go.Proofs.Ytkmbhknmjnbanaa.A


namespace Go.Proofs.Ytkmbhknmjnbanaa.A
open Go.RowKit Go.Proofs.YtkmbhknmjnbanaaW.PrintWords Go.Proofs.YtkmbhknmjnbanaaW.PrintLast Go.Proofs.YtkmbhknmjnbanaaW.PrintMore
attribute [local go_sem] max2_int min2_int max_two min_two max_three min_three max_four min_four   -- for this text's walks alone
set_option linter.unusedVariables false
set_option linter.unusedSimpArgs false

mutual
def swagelaw06_Few.l0 : Nat → List (List Int) → Int → Option (Bool)
  | 0, _, _ => none
  | k + 1, x0, x3 => if x3 < (x0.length : Int) then (swagelaw06_Few.j1 k x0 x3 (decide (x3 < 100))) else (swagelaw06_Few.j1 k x0 x3 false)
def swagelaw06_Few.j1 : Nat → List (List Int) → Int → Bool → Option (Bool)
  | 0, _, _, _ => none
  | k + 1, x0, x3, x11 => if x11 = true then (if 0 ≤ x3 then (if x3 < (x0.length : Int) then (if ((rd_L1 x0 x3).length : Int) > 20 then (some false) else (swagelaw06_Few.l0 k x0 (wrap64 (x3 + 1)))) else (none)) else (none)) else (some (decide ((x0.length : Int) ≤ 40)))
end
def swagelaw06_Few.f (k : Nat) (l0 : List (List Int)) : Option (Bool) := swagelaw06_Few.l0 k l0 0
set_option maxHeartbeats 8000000 in
set_option maxRecDepth 100000 in
theorem swagelaw06_Few.calls (k : Nat) (A0 : Option Addr) (c0 : Nat) (l0 : List (List Int)) (r : Bool) (w : World) (hr0 : Kd.C (Kd.slice 3 (Kd.int .i64)) w A0 l0.length l0) (hc0 : l0.length ≤ c0) (h : swagelaw06_Few.f k l0 = some r) :
    Calls Try.prog 14 #[.slice A0 l0.length c0] w fun e w' => e = .returned (.bool r) ∧ Drawn0 w w' := by
  have HR0 := Aside0.mk hr0
  have HC0 := Aside0.mk hc0
  clear hr0 hc0
  have H : (swagelaw06_Few.l0 k l0 0) = some r := h
  clear h
  have H' := Aside0.mk H
  clear H
  go_enter Try.func14, Try.ntmps14
  go_wp2
  go_loopg [3] k (fun kq v3 w' => ∃ (x3_1 : Int), v3 = .int .i64 x3_1 ∧ Aside0 (swagelaw06_Few.l0 kq l0 x3_1 = some r) ∧ Aside0 (kq ≤ k) ∧ Drawn0 w w')
  case atStart => exact ⟨(0), (by first | rfl | (simp; done) | (simp [*]; done)), H', ⟨Nat.le_refl _⟩, by repeat (first | exact Drawn0.refl _ | apply Drawn0.step)⟩
  case round =>
    clear H'
    try clear c1
    obtain ⟨x3_1, rfl, HA, HK1, ⟨m1, rfl⟩⟩ := hrel
    cases gk with
    | zero => exact absurd HA.out (by simp [swagelaw06_Few.l0])
    | succ k1 =>
      have H := HA.out
      clear HA
      simp only [swagelaw06_Few.l0] at H
      have HC2 := Aside0.mk H
      clear H
      go_upto_region 2 with (fail)
      go_cut [11] (fun v11 wc => ∃ (kq : Nat) (x11_1 : Bool), v11 = .bool x11_1 ∧ Aside0 (swagelaw06_Few.j1 kq l0 x3_1 x11_1 = some r) ∧ Aside0 (kq ≤ k1) ∧ Drawn0 w wc)
      case first =>
        have H := HC2.out
        clear HC2
        by_cases c3 : x3_1 < (l0.length : Int)
        · rw [if_pos c3] at H
          have c3b0 : decide (x3_1 < (l0.length : Int)) = true := decide_eq_true c3
          clear c3
          (first | rw [c3b0] | (simp only [i64_w, i32_w]; rw [c3b0]) | skip)
          have H' := Aside0.mk H
          clear H
          go_wp2
          go_meet
          case rel => exact ⟨_, (decide (x3_1 < 100)), (by first | rfl | (simp; done) | (simp [*]; done)), H', ⟨by have := HK1.out; first | omega | exact Nat.le_refl _⟩, by repeat (first | exact Drawn0.refl _ | apply Drawn0.step)⟩
        · rw [if_neg c3] at H
          have c3b0 : decide (x3_1 < (l0.length : Int)) = false := decide_eq_false c3
          clear c3
          (first | rw [c3b0] | (simp only [i64_w, i32_w]; rw [c3b0]) | skip)
          have H' := Aside0.mk H
          clear H
          go_wp2
          go_meet
          case rel => exact ⟨_, (false), (by first | rfl | (simp; done) | (simp [*]; done)), H', ⟨by have := HK1.out; first | omega | exact Nat.le_refl _⟩, by repeat (first | exact Drawn0.refl _ | apply Drawn0.step)⟩
      case rest =>
        clear HC2
        try clear c1
        try clear p2
        try clear c3
        try clear c3b0
        obtain ⟨kq, x11_1, rfl, HA, HJ1, ⟨mc1, rfl⟩⟩ := hcut
        cases kq with
        | zero => exact absurd HA.out (by simp [swagelaw06_Few.j1])
        | succ kj1 =>
          have H := HA.out
          clear HA
          simp only [swagelaw06_Few.j1] at H
          by_cases c4 : x11_1 = true
          · subst c4
            have H1 : (if 0 ≤ x3_1 then (if x3_1 < (l0.length : Int) then (if ((rd_L1 l0 x3_1).length : Int) > 20 then (some false) else (swagelaw06_Few.l0 kj1 l0 (wrap64 (x3_1 + 1)))) else (none)) else (none)) = some r := by rw [if_pos rfl] at H; exact H
            clear H
            have H := H1
            clear H1
            by_cases c5 : 0 ≤ x3_1
            · rw [if_pos c5] at H
              have c5b0 : decide (0 ≤ x3_1) = true := decide_eq_true c5
              clear c5
              by_cases c6 : x3_1 < (l0.length : Int)
              · rw [if_pos c6] at H
                have c6b0 : decide (x3_1 < (l0.length : Int)) = true := decide_eq_true c6
                clear c6
                by_cases c7 : ((rd_L1 l0 x3_1).length : Int) > 20
                · rw [if_pos c7] at H
                  have c7b0 : decide (20 < ((rd_L1 l0 x3_1).length : Int)) = true := decide_eq_true c7
                  have c7b1 : decide (20 < (rd_L1 l0 x3_1).length) = true := decide_eq_true (by omega)
                  clear c7
                  obtain rfl := Option.some.inj H
                  have p274 : 0 ≤ (x3_1 : Int) := of_decide_eq_true (by first | (with_reducible assumption) | assumption)
                  have q274 : x3_1 < (l0.length : Int) := of_decide_eq_true (by first | (with_reducible assumption) | assumption)
                  obtain ⟨ad274, A274_0, c274_0, e274, hx274_0, hl274_0, hi274_0⟩ := at_L1 HR0.out x3_1 p274 q274
                  cases e274
                  have HR274_0 := Aside0.mk hi274_0
                  have HC274_0 := Aside0.mk hl274_0
                  clear hi274_0 hl274_0
                  replace p274 := eq_true p274
                  replace q274 := eq_true q274
                  go_wp2
                  go_ret
                  exact ⟨by first | rfl | (simp; done) | (simp [*]; done), by repeat (first | exact Drawn0.refl _ | apply Drawn0.step)⟩
                · rw [if_neg c7] at H
                  have c7b0 : decide (20 < ((rd_L1 l0 x3_1).length : Int)) = false := decide_eq_false c7
                  have c7b1 : decide (20 < (rd_L1 l0 x3_1).length) = false := decide_eq_false (by omega)
                  clear c7
                  have H' := Aside0.mk H
                  clear H
                  have p274 : 0 ≤ (x3_1 : Int) := of_decide_eq_true (by first | (with_reducible assumption) | assumption)
                  have q274 : x3_1 < (l0.length : Int) := of_decide_eq_true (by first | (with_reducible assumption) | assumption)
                  obtain ⟨ad274, A274_0, c274_0, e274, hx274_0, hl274_0, hi274_0⟩ := at_L1 HR0.out x3_1 p274 q274
                  cases e274
                  have HR274_0 := Aside0.mk hi274_0
                  have HC274_0 := Aside0.mk hl274_0
                  clear hi274_0 hl274_0
                  replace p274 := eq_true p274
                  replace q274 := eq_true q274
                  go_wp2
                  go_roundg kj1
                  case measure => have := HK1.out; have := HJ1.out; omega
                  case rel => exact ⟨(wrap64 (x3_1 + 1)), (by first | rfl | (simp; done) | (simp [*]; done)), H', ⟨by have := HK1.out; have := HJ1.out; omega⟩, by repeat (first | exact Drawn0.refl _ | apply Drawn0.step)⟩
              · rw [if_neg c6] at H
                exact absurd H (by simp)
            · rw [if_neg c5] at H
              exact absurd H (by simp)
          · replace c4 := Bool.eq_false_iff.mpr c4
            subst c4
            have H1 : (some (decide ((l0.length : Int) ≤ 40))) = some r := by rw [if_neg (show ¬ (false = true) by decide)] at H; exact H
            clear H
            have H := H1
            clear H1
            obtain rfl := Option.some.inj H
            go_wp2
            go_ret
            exact ⟨by first | rfl | (simp; done) | (simp [*]; done), by repeat (first | exact Drawn0.refl _ | apply Drawn0.step)⟩

end Go.Proofs.Ytkmbhknmjnbanaa.A


namespace Go.Proofs.Ytkmbhknmjnbanaa.A
open Go.RowKit Go.Proofs.YtkmbhknmjnbanaaW.PrintWords Go.Proofs.YtkmbhknmjnbanaaW.PrintLast Go.Proofs.YtkmbhknmjnbanaaW.PrintMore
attribute [local go_sem] max2_int min2_int max_two min_two max_three min_three max_four min_four   -- for this text's walks alone
set_option linter.unusedVariables false
set_option linter.unusedSimpArgs false

def swageref02_Ints.l0 : Nat → List Int → List Int → Int → Option (Bool)
  | 0, _, _, _ => none
  | k + 1, x0, x1, x5 => if x5 < (x0.length : Int) then (if 0 ≤ x5 then (if x5 < (x1.length : Int) then (if (rd x0 x5) = (rd x1 x5) then (swageref02_Ints.l0 k x0 x1 (wrap64 (x5 + 1))) else (some false)) else (none)) else (none)) else (some true)
def swageref02_Ints.f (k : Nat) (l0 : List Int) (l1 : List Int) : Option (Bool) := if (l0.length : Int) = (l1.length : Int) then (swageref02_Ints.l0 k l0 l1 0) else (some false)
set_option maxHeartbeats 8000000 in
set_option maxRecDepth 100000 in
theorem swageref02_Ints.calls (k : Nat) (A0 : Option Addr) (c0 : Nat) (l0 : List Int) (A1 : Option Addr) (c1 : Nat) (l1 : List Int) (r : Bool) (w : World) (hr0 : Kd.C (Kd.int .i64) w A0 l0.length l0) (hc0 : l0.length ≤ c0) (hr1 : Kd.C (Kd.int .i64) w A1 l1.length l1) (hc1 : l1.length ≤ c1) (h : swageref02_Ints.f k l0 l1 = some r) :
    Calls Try.prog 27 #[.slice A0 l0.length c0, .slice A1 l1.length c1] w fun e w' => e = .returned (.bool r) ∧ Drawn0 w w' := by
  have HR0 := Aside0.mk hr0
  have HC0 := Aside0.mk hc0
  clear hr0 hc0
  have HR1 := Aside0.mk hr1
  have HC1 := Aside0.mk hc1
  clear hr1 hc1
  have H : (if (l0.length : Int) = (l1.length : Int) then (swageref02_Ints.l0 k l0 l1 0) else (some false)) = some r := h
  clear h
  by_cases c3 : (l0.length : Int) = (l1.length : Int)
  · rw [if_pos c3] at H
    have c3b0 : ((l0.length : Int) == (l1.length : Int)) = true := beq_iff_eq.mpr c3
    have c3b1 : ((l0.length : Int) != (l1.length : Int)) = false := bne_eq_false_iff_eq.mpr c3
    have c3b2 : (l0.length == l1.length) = true := by first | simpa using c3 | (simp at c3 ⊢; omega)
    clear c3
    have H' := Aside0.mk H
    clear H
    go_enter Try.func27, Try.ntmps27
    go_wp2
    repeat (go_quiet (fail); try go_wp2)
    go_loopg [5] k (fun kq v5 w' => ∃ (x5_1 : Int), v5 = .int .i64 x5_1 ∧ Aside0 (swageref02_Ints.l0 kq l0 l1 x5_1 = some r) ∧ Aside0 (kq ≤ k) ∧ Drawn0 w w')
    case atStart => exact ⟨(0), (by first | rfl | (simp; done) | (simp [*]; done)), H', ⟨Nat.le_refl _⟩, by repeat (first | exact Drawn0.refl _ | apply Drawn0.step)⟩
    case round =>
      clear H'
      try clear c1
      try clear c2
      try clear p2
      try clear c3
      try clear c3b0
      try clear c3b1
      try clear c3b2
      obtain ⟨x5_1, rfl, HA, HK1, ⟨m1, rfl⟩⟩ := hrel
      cases gk with
      | zero => exact absurd HA.out (by simp [swageref02_Ints.l0])
      | succ k1 =>
        have H := HA.out
        clear HA
        simp only [swageref02_Ints.l0] at H
        by_cases c4 : x5_1 < (l0.length : Int)
        · rw [if_pos c4] at H
          have c4b0 : decide (x5_1 < (l0.length : Int)) = true := decide_eq_true c4
          clear c4
          by_cases c5 : 0 ≤ x5_1
          · rw [if_pos c5] at H
            have c5b0 : decide (0 ≤ x5_1) = true := decide_eq_true c5
            clear c5
            by_cases c6 : x5_1 < (l1.length : Int)
            · rw [if_pos c6] at H
              have c6b0 : decide (x5_1 < (l1.length : Int)) = true := decide_eq_true c6
              clear c6
              by_cases c7 : (rd l0 x5_1) = (rd l1 x5_1)
              · rw [if_pos c7] at H
                have c7b0 : ((rd l0 x5_1) == (rd l1 x5_1)) = true := beq_iff_eq.mpr c7
                have c7b1 : ((rd l0 x5_1) != (rd l1 x5_1)) = false := bne_eq_false_iff_eq.mpr c7
                clear c7
                have H' := Aside0.mk H
                clear H
                have p112 : 0 ≤ (x5_1 : Int) := of_decide_eq_true (by first | (with_reducible assumption) | assumption)
                have q112 : x5_1 < (l0.length : Int) := of_decide_eq_true (by first | (with_reducible assumption) | assumption)
                obtain ⟨ad112, e112, hx112_0⟩ := Kd.at_int HR0.out x5_1 p112 q112
                cases e112
                replace p112 := eq_true p112
                replace q112 := eq_true q112
                have p113 : 0 ≤ (x5_1 : Int) := of_decide_eq_true (by first | (with_reducible assumption) | assumption)
                have q113 : x5_1 < (l1.length : Int) := of_decide_eq_true (by first | (with_reducible assumption) | assumption)
                obtain ⟨ad113, e113, hx113_0⟩ := Kd.at_int HR1.out x5_1 p113 q113
                cases e113
                replace p113 := eq_true p113
                replace q113 := eq_true q113
                go_wp2
                repeat (go_quiet (fail); try go_wp2)
                go_roundg k1
                case measure => have := HK1.out; omega
                case rel => exact ⟨(wrap64 (x5_1 + 1)), (by first | rfl | (simp; done) | (simp [*]; done)), H', ⟨by have := HK1.out; omega⟩, by repeat (first | exact Drawn0.refl _ | apply Drawn0.step)⟩
              · rw [if_neg c7] at H
                have c7b0 : ((rd l0 x5_1) == (rd l1 x5_1)) = false := beq_eq_false_iff_ne.mpr c7
                have c7b1 : ((rd l0 x5_1) != (rd l1 x5_1)) = true := bne_iff_ne.mpr c7
                obtain rfl := Option.some.inj H
                have p112 : 0 ≤ (x5_1 : Int) := of_decide_eq_true (by first | (with_reducible assumption) | assumption)
                have q112 : x5_1 < (l0.length : Int) := of_decide_eq_true (by first | (with_reducible assumption) | assumption)
                obtain ⟨ad112, e112, hx112_0⟩ := Kd.at_int HR0.out x5_1 p112 q112
                cases e112
                replace p112 := eq_true p112
                replace q112 := eq_true q112
                have p113 : 0 ≤ (x5_1 : Int) := of_decide_eq_true (by first | (with_reducible assumption) | assumption)
                have q113 : x5_1 < (l1.length : Int) := of_decide_eq_true (by first | (with_reducible assumption) | assumption)
                obtain ⟨ad113, e113, hx113_0⟩ := Kd.at_int HR1.out x5_1 p113 q113
                cases e113
                replace p113 := eq_true p113
                replace q113 := eq_true q113
                go_wp2
                repeat (go_quiet (fail); try go_wp2)
                go_ret
                exact ⟨by first | rfl | (simp; done) | (simp [*]; done), by repeat (first | exact Drawn0.refl _ | apply Drawn0.step)⟩
            · rw [if_neg c6] at H
              exact absurd H (by simp)
          · rw [if_neg c5] at H
            exact absurd H (by simp)
        · rw [if_neg c4] at H
          have c4b0 : decide (x5_1 < (l0.length : Int)) = false := decide_eq_false c4
          clear c4
          obtain rfl := Option.some.inj H
          go_wp2
          repeat (go_quiet (fail); try go_wp2)
          go_ret
          exact ⟨by first | rfl | (simp; done) | (simp [*]; done), by repeat (first | exact Drawn0.refl _ | apply Drawn0.step)⟩
  · rw [if_neg c3] at H
    have c3b0 : ((l0.length : Int) == (l1.length : Int)) = false := beq_eq_false_iff_ne.mpr c3
    have c3b1 : ((l0.length : Int) != (l1.length : Int)) = true := bne_iff_ne.mpr c3
    have c3b2 : (l0.length == l1.length) = false := by first | simpa using c3 | (simp at c3 ⊢; omega)
    obtain rfl := Option.some.inj H
    go_enter Try.func27, Try.ntmps27
    go_wp2
    repeat (go_quiet (fail); try go_wp2)
    go_ret
    exact ⟨by first | rfl | (simp; done) | (simp [*]; done), by repeat (first | exact Drawn0.refl _ | apply Drawn0.step)⟩

end Go.Proofs.Ytkmbhknmjnbanaa.A


namespace Go.Proofs.Ytkmbhknmjnbanaa.A
open Go.RowKit Go.Proofs.YtkmbhknmjnbanaaW.PrintWords Go.Proofs.YtkmbhknmjnbanaaW.PrintLast Go.Proofs.YtkmbhknmjnbanaaW.PrintMore
attribute [local go_sem] max2_int min2_int max_two min_two max_three min_three max_four min_four   -- for this text's walks alone
set_option linter.unusedVariables false
set_option linter.unusedSimpArgs false

def swageref06_Rows.l0 : Nat → List (List Int) → List (List Int) → Int → Option (Bool)
  | 0, _, _, _ => none
  | k + 1, x0, x1, x5 => if x5 < (x0.length : Int) then (if 0 ≤ x5 then (if x5 < (x1.length : Int) then ((swageref02_Ints.f k (rd_L1 x0 x5) (rd_L1 x1 x5)).bind fun t116 => (if t116 = true then (swageref06_Rows.l0 k x0 x1 (wrap64 (x5 + 1))) else (some false))) else (none)) else (none)) else (some true)
def swageref06_Rows.f (k : Nat) (l0 : List (List Int)) (l1 : List (List Int)) : Option (Bool) := if (l0.length : Int) = (l1.length : Int) then (swageref06_Rows.l0 k l0 l1 0) else (some false)
set_option maxHeartbeats 8000000 in
set_option maxRecDepth 100000 in
theorem swageref06_Rows.calls (k : Nat) (A0 : Option Addr) (c0 : Nat) (l0 : List (List Int)) (A1 : Option Addr) (c1 : Nat) (l1 : List (List Int)) (r : Bool) (w : World) (hr0 : Kd.C (Kd.slice 3 (Kd.int .i64)) w A0 l0.length l0) (hc0 : l0.length ≤ c0) (hr1 : Kd.C (Kd.slice 3 (Kd.int .i64)) w A1 l1.length l1) (hc1 : l1.length ≤ c1) (h : swageref06_Rows.f k l0 l1 = some r) :
    Calls Try.prog 17 #[.slice A0 l0.length c0, .slice A1 l1.length c1] w fun e w' => e = .returned (.bool r) ∧ Drawn0 w w' := by
  have HR0 := Aside0.mk hr0
  have HC0 := Aside0.mk hc0
  clear hr0 hc0
  have HR1 := Aside0.mk hr1
  have HC1 := Aside0.mk hc1
  clear hr1 hc1
  have H : (if (l0.length : Int) = (l1.length : Int) then (swageref06_Rows.l0 k l0 l1 0) else (some false)) = some r := h
  clear h
  by_cases c3 : (l0.length : Int) = (l1.length : Int)
  · rw [if_pos c3] at H
    have c3b0 : ((l0.length : Int) == (l1.length : Int)) = true := beq_iff_eq.mpr c3
    have c3b1 : ((l0.length : Int) != (l1.length : Int)) = false := bne_eq_false_iff_eq.mpr c3
    have c3b2 : (l0.length == l1.length) = true := by first | simpa using c3 | (simp at c3 ⊢; omega)
    clear c3
    have H' := Aside0.mk H
    clear H
    go_enter Try.func17, Try.ntmps17
    go_wp2
    repeat (go_quiet (fail); try go_wp2)
    go_loopg [5] k (fun kq v5 w' => ∃ (x5_1 : Int), v5 = .int .i64 x5_1 ∧ Aside0 (swageref06_Rows.l0 kq l0 l1 x5_1 = some r) ∧ Aside0 (kq ≤ k) ∧ Drawn0 w w')
    case atStart => exact ⟨(0), (by first | rfl | (simp; done) | (simp [*]; done)), H', ⟨Nat.le_refl _⟩, by repeat (first | exact Drawn0.refl _ | apply Drawn0.step)⟩
    case round =>
      clear H'
      try clear c1
      try clear p2
      try clear c3
      try clear c3b0
      try clear c3b1
      try clear c3b2
      obtain ⟨x5_1, rfl, HA, HK1, ⟨m1, rfl⟩⟩ := hrel
      cases gk with
      | zero => exact absurd HA.out (by simp [swageref06_Rows.l0])
      | succ k1 =>
        have H := HA.out
        clear HA
        simp only [swageref06_Rows.l0] at H
        by_cases c4 : x5_1 < (l0.length : Int)
        · rw [if_pos c4] at H
          have c4b0 : decide (x5_1 < (l0.length : Int)) = true := decide_eq_true c4
          clear c4
          by_cases c5 : 0 ≤ x5_1
          · rw [if_pos c5] at H
            have c5b0 : decide (0 ≤ x5_1) = true := decide_eq_true c5
            clear c5
            by_cases c6 : x5_1 < (l1.length : Int)
            · rw [if_pos c6] at H
              have c6b0 : decide (x5_1 < (l1.length : Int)) = true := decide_eq_true c6
              clear c6
              replace H := Option.bind_eq_some_iff.mp H
              obtain ⟨t116, A70, H⟩ := H
              replace H : (if t116 = true then (swageref06_Rows.l0 k1 l0 l1 (wrap64 (x5_1 + 1))) else (some false)) = some r := H
              have A7 := Aside0.mk A70
              clear A70
              by_cases c8 : t116 = true
              · subst c8
                have H1 : (swageref06_Rows.l0 k1 l0 l1 (wrap64 (x5_1 + 1))) = some r := by rw [if_pos rfl] at H; exact H
                clear H
                have H := H1
                clear H1
                have H' := Aside0.mk H
                clear H
                have p114 : 0 ≤ (x5_1 : Int) := of_decide_eq_true (by first | (with_reducible assumption) | assumption)
                have q114 : x5_1 < (l0.length : Int) := of_decide_eq_true (by first | (with_reducible assumption) | assumption)
                obtain ⟨ad114, A114_0, c114_0, e114, hx114_0, hl114_0, hi114_0⟩ := at_L1 HR0.out x5_1 p114 q114
                cases e114
                have HR114_0 := Aside0.mk hi114_0
                have HC114_0 := Aside0.mk hl114_0
                clear hi114_0 hl114_0
                replace p114 := eq_true p114
                replace q114 := eq_true q114
                have p115 : 0 ≤ (x5_1 : Int) := of_decide_eq_true (by first | (with_reducible assumption) | assumption)
                have q115 : x5_1 < (l1.length : Int) := of_decide_eq_true (by first | (with_reducible assumption) | assumption)
                obtain ⟨ad115, A115_0, c115_0, e115, hx115_0, hl115_0, hi115_0⟩ := at_L1 HR1.out x5_1 p115 q115
                cases e115
                have HR115_0 := Aside0.mk hi115_0
                have HC115_0 := Aside0.mk hl115_0
                clear hi115_0 hl115_0
                replace p115 := eq_true p115
                replace q115 := eq_true q115
                go_wp2_with (first | (go_at_call 27; (with_reducible refine (swageref02_Ints.calls k1 _ _ (rd_L1 l0 x5_1) _ _ (rd_L1 l1 x5_1) true _ ?side1 ?side2 ?side3 ?side4 A7.out).mono ?_); (case side1 => repeat (first | exact HR114_0.out | (with_reducible refine Kd.C_alloc ?_ _) | (with_reducible refine Kd.C_drewN ?_ _) | (with_reducible refine Kd.C_drew ?_))); (case side2 => exact HC114_0.out); (case side3 => repeat (first | exact HR115_0.out | (with_reducible refine Kd.C_alloc ?_ _) | (with_reducible refine Kd.C_drewN ?_ _) | (with_reducible refine Kd.C_drew ?_))); (case side4 => exact HC115_0.out); rintro e w' ⟨rfl, ⟨nd, rfl⟩⟩; (try first | exact ⟨rfl, _, World.drewN_drewN _ _ _⟩ | exact ⟨rfl, _, Eq.trans (World.drewN_drewN _ _ _) (congrArg (World.drewN _) (Nat.add_assoc _ _ _))⟩)))
                repeat (go_quiet (first | (go_at_call 27; (with_reducible refine (swageref02_Ints.calls k1 _ _ (rd_L1 l0 x5_1) _ _ (rd_L1 l1 x5_1) true _ ?side1 ?side2 ?side3 ?side4 A7.out).mono ?_); (case side1 => repeat (first | exact HR114_0.out | (with_reducible refine Kd.C_alloc ?_ _) | (with_reducible refine Kd.C_drewN ?_ _) | (with_reducible refine Kd.C_drew ?_))); (case side2 => exact HC114_0.out); (case side3 => repeat (first | exact HR115_0.out | (with_reducible refine Kd.C_alloc ?_ _) | (with_reducible refine Kd.C_drewN ?_ _) | (with_reducible refine Kd.C_drew ?_))); (case side4 => exact HC115_0.out); rintro e w' ⟨rfl, ⟨nd, rfl⟩⟩; (try first | exact ⟨rfl, _, World.drewN_drewN _ _ _⟩ | exact ⟨rfl, _, Eq.trans (World.drewN_drewN _ _ _) (congrArg (World.drewN _) (Nat.add_assoc _ _ _))⟩))); try go_wp2_with (first | (go_at_call 27; (with_reducible refine (swageref02_Ints.calls k1 _ _ (rd_L1 l0 x5_1) _ _ (rd_L1 l1 x5_1) true _ ?side1 ?side2 ?side3 ?side4 A7.out).mono ?_); (case side1 => repeat (first | exact HR114_0.out | (with_reducible refine Kd.C_alloc ?_ _) | (with_reducible refine Kd.C_drewN ?_ _) | (with_reducible refine Kd.C_drew ?_))); (case side2 => exact HC114_0.out); (case side3 => repeat (first | exact HR115_0.out | (with_reducible refine Kd.C_alloc ?_ _) | (with_reducible refine Kd.C_drewN ?_ _) | (with_reducible refine Kd.C_drew ?_))); (case side4 => exact HC115_0.out); rintro e w' ⟨rfl, ⟨nd, rfl⟩⟩; (try first | exact ⟨rfl, _, World.drewN_drewN _ _ _⟩ | exact ⟨rfl, _, Eq.trans (World.drewN_drewN _ _ _) (congrArg (World.drewN _) (Nat.add_assoc _ _ _))⟩))))
                go_roundg k1
                case measure => have := HK1.out; omega
                case rel => exact ⟨(wrap64 (x5_1 + 1)), (by first | rfl | (simp; done) | (simp [*]; done)), H', ⟨by have := HK1.out; omega⟩, by repeat (first | exact Drawn0.refl _ | apply Drawn0.step)⟩
              · replace c8 := Bool.eq_false_iff.mpr c8
                subst c8
                have H1 : (some false) = some r := by rw [if_neg (show ¬ (false = true) by decide)] at H; exact H
                clear H
                have H := H1
                clear H1
                obtain rfl := Option.some.inj H
                have p114 : 0 ≤ (x5_1 : Int) := of_decide_eq_true (by first | (with_reducible assumption) | assumption)
                have q114 : x5_1 < (l0.length : Int) := of_decide_eq_true (by first | (with_reducible assumption) | assumption)
                obtain ⟨ad114, A114_0, c114_0, e114, hx114_0, hl114_0, hi114_0⟩ := at_L1 HR0.out x5_1 p114 q114
                cases e114
                have HR114_0 := Aside0.mk hi114_0
                have HC114_0 := Aside0.mk hl114_0
                clear hi114_0 hl114_0
                replace p114 := eq_true p114
                replace q114 := eq_true q114
                have p115 : 0 ≤ (x5_1 : Int) := of_decide_eq_true (by first | (with_reducible assumption) | assumption)
                have q115 : x5_1 < (l1.length : Int) := of_decide_eq_true (by first | (with_reducible assumption) | assumption)
                obtain ⟨ad115, A115_0, c115_0, e115, hx115_0, hl115_0, hi115_0⟩ := at_L1 HR1.out x5_1 p115 q115
                cases e115
                have HR115_0 := Aside0.mk hi115_0
                have HC115_0 := Aside0.mk hl115_0
                clear hi115_0 hl115_0
                replace p115 := eq_true p115
                replace q115 := eq_true q115
                go_wp2_with (first | (go_at_call 27; (with_reducible refine (swageref02_Ints.calls k1 _ _ (rd_L1 l0 x5_1) _ _ (rd_L1 l1 x5_1) false _ ?side1 ?side2 ?side3 ?side4 A7.out).mono ?_); (case side1 => repeat (first | exact HR114_0.out | (with_reducible refine Kd.C_alloc ?_ _) | (with_reducible refine Kd.C_drewN ?_ _) | (with_reducible refine Kd.C_drew ?_))); (case side2 => exact HC114_0.out); (case side3 => repeat (first | exact HR115_0.out | (with_reducible refine Kd.C_alloc ?_ _) | (with_reducible refine Kd.C_drewN ?_ _) | (with_reducible refine Kd.C_drew ?_))); (case side4 => exact HC115_0.out); rintro e w' ⟨rfl, ⟨nd, rfl⟩⟩; (try first | exact ⟨rfl, _, World.drewN_drewN _ _ _⟩ | exact ⟨rfl, _, Eq.trans (World.drewN_drewN _ _ _) (congrArg (World.drewN _) (Nat.add_assoc _ _ _))⟩)))
                repeat (go_quiet (first | (go_at_call 27; (with_reducible refine (swageref02_Ints.calls k1 _ _ (rd_L1 l0 x5_1) _ _ (rd_L1 l1 x5_1) false _ ?side1 ?side2 ?side3 ?side4 A7.out).mono ?_); (case side1 => repeat (first | exact HR114_0.out | (with_reducible refine Kd.C_alloc ?_ _) | (with_reducible refine Kd.C_drewN ?_ _) | (with_reducible refine Kd.C_drew ?_))); (case side2 => exact HC114_0.out); (case side3 => repeat (first | exact HR115_0.out | (with_reducible refine Kd.C_alloc ?_ _) | (with_reducible refine Kd.C_drewN ?_ _) | (with_reducible refine Kd.C_drew ?_))); (case side4 => exact HC115_0.out); rintro e w' ⟨rfl, ⟨nd, rfl⟩⟩; (try first | exact ⟨rfl, _, World.drewN_drewN _ _ _⟩ | exact ⟨rfl, _, Eq.trans (World.drewN_drewN _ _ _) (congrArg (World.drewN _) (Nat.add_assoc _ _ _))⟩))); try go_wp2_with (first | (go_at_call 27; (with_reducible refine (swageref02_Ints.calls k1 _ _ (rd_L1 l0 x5_1) _ _ (rd_L1 l1 x5_1) false _ ?side1 ?side2 ?side3 ?side4 A7.out).mono ?_); (case side1 => repeat (first | exact HR114_0.out | (with_reducible refine Kd.C_alloc ?_ _) | (with_reducible refine Kd.C_drewN ?_ _) | (with_reducible refine Kd.C_drew ?_))); (case side2 => exact HC114_0.out); (case side3 => repeat (first | exact HR115_0.out | (with_reducible refine Kd.C_alloc ?_ _) | (with_reducible refine Kd.C_drewN ?_ _) | (with_reducible refine Kd.C_drew ?_))); (case side4 => exact HC115_0.out); rintro e w' ⟨rfl, ⟨nd, rfl⟩⟩; (try first | exact ⟨rfl, _, World.drewN_drewN _ _ _⟩ | exact ⟨rfl, _, Eq.trans (World.drewN_drewN _ _ _) (congrArg (World.drewN _) (Nat.add_assoc _ _ _))⟩))))
                go_ret
                exact ⟨by first | rfl | (simp; done) | (simp [*]; done), by repeat (first | exact Drawn0.refl _ | apply Drawn0.step)⟩
            · rw [if_neg c6] at H
              exact absurd H (by simp)
          · rw [if_neg c5] at H
            exact absurd H (by simp)
        · rw [if_neg c4] at H
          have c4b0 : decide (x5_1 < (l0.length : Int)) = false := decide_eq_false c4
          clear c4
          obtain rfl := Option.some.inj H
          go_wp2
          repeat (go_quiet (fail); try go_wp2)
          go_ret
          exact ⟨by first | rfl | (simp; done) | (simp [*]; done), by repeat (first | exact Drawn0.refl _ | apply Drawn0.step)⟩
  · rw [if_neg c3] at H
    have c3b0 : ((l0.length : Int) == (l1.length : Int)) = false := beq_eq_false_iff_ne.mpr c3
    have c3b1 : ((l0.length : Int) != (l1.length : Int)) = true := bne_iff_ne.mpr c3
    have c3b2 : (l0.length == l1.length) = false := by first | simpa using c3 | (simp at c3 ⊢; omega)
    obtain rfl := Option.some.inj H
    go_enter Try.func17, Try.ntmps17
    go_wp2
    repeat (go_quiet (fail); try go_wp2)
    go_ret
    exact ⟨by first | rfl | (simp; done) | (simp [*]; done), by repeat (first | exact Drawn0.refl _ | apply Drawn0.step)⟩

end Go.Proofs.Ytkmbhknmjnbanaa.A


namespace Go.Proofs.Ytkmbhknmjnbanaa.A
open Go.RowKit Go.Proofs.YtkmbhknmjnbanaaW.PrintWords Go.Proofs.YtkmbhknmjnbanaaW.PrintLast Go.Proofs.YtkmbhknmjnbanaaW.PrintMore
attribute [local go_sem] max2_int min2_int max_two min_two max_three min_three max_four min_four   -- for this text's walks alone
set_option linter.unusedVariables false
set_option linter.unusedSimpArgs false

mutual
def swageref06_Right.l0 : Nat → List (List Int) → Int → Option (Bool)
  | 0, _, _ => none
  | k + 1, x0, x3 => if x3 < (x0.length : Int) then (if 0 ≤ x3 then (if ((rd_L1 x0 x3).length : Int) > 8 then (some false) else (swageref06_Right.l1 k x0 x3 0)) else (none)) else (if (x0.length : Int) ≥ 1 then (some (decide ((x0.length : Int) ≤ 4096))) else (some false))
def swageref06_Right.l1 : Nat → List (List Int) → Int → Int → Option (Bool)
  | 0, _, _, _ => none
  | k + 1, x0, x3, x4 => if 0 ≤ x3 then (if x3 < (x0.length : Int) then (if x4 < ((rd_L1 x0 x3).length : Int) then (if 0 ≤ x4 then (if (rd (rd_L1 x0 x3) x4) < 0 then (some false) else (if (rd (rd_L1 x0 x3) x4) ≥ (x0.length : Int) then (some false) else (swageref06_Right.l1 k x0 x3 (wrap64 (x4 + 1))))) else (none)) else (swageref06_Right.l0 k x0 (wrap64 (x3 + 1)))) else (none)) else (none)
end
def swageref06_Right.f (k : Nat) (l0 : List (List Int)) : Option (Bool) := swageref06_Right.l0 k l0 0
set_option maxHeartbeats 8000000 in
set_option maxRecDepth 100000 in
theorem swageref06_Right.calls (k : Nat) (A0 : Option Addr) (c0 : Nat) (l0 : List (List Int)) (r : Bool) (w : World) (hr0 : Kd.C (Kd.slice 3 (Kd.int .i64)) w A0 l0.length l0) (hc0 : l0.length ≤ c0) (h : swageref06_Right.f k l0 = some r) :
    Calls Try.prog 20 #[.slice A0 l0.length c0] w fun e w' => e = .returned (.bool r) ∧ Drawn0 w w' := by
  have HR0 := Aside0.mk hr0
  have HC0 := Aside0.mk hc0
  clear hr0 hc0
  have H : (swageref06_Right.l0 k l0 0) = some r := h
  clear h
  have H' := Aside0.mk H
  clear H
  go_enter Try.func20, Try.ntmps20
  go_wp2
  go_loopg [3] k (fun kq v3 w' => ∃ (x3_1 : Int), v3 = .int .i64 x3_1 ∧ Aside0 (swageref06_Right.l0 kq l0 x3_1 = some r) ∧ Aside0 (kq ≤ k) ∧ Drawn0 w w')
  case atStart => exact ⟨(0), (by first | rfl | (simp; done) | (simp [*]; done)), H', ⟨Nat.le_refl _⟩, by repeat (first | exact Drawn0.refl _ | apply Drawn0.step)⟩
  case round =>
    clear H'
    obtain ⟨x3_1, rfl, HA, HK1, ⟨m1, rfl⟩⟩ := hrel
    cases gk with
    | zero => exact absurd HA.out (by simp [swageref06_Right.l0])
    | succ k1 =>
      have H := HA.out
      clear HA
      simp only [swageref06_Right.l0] at H
      by_cases c2 : x3_1 < (l0.length : Int)
      · rw [if_pos c2] at H
        have c2b0 : decide (x3_1 < (l0.length : Int)) = true := decide_eq_true c2
        clear c2
        by_cases c3 : 0 ≤ x3_1
        · rw [if_pos c3] at H
          have c3b0 : decide (0 ≤ x3_1) = true := decide_eq_true c3
          clear c3
          by_cases c4 : ((rd_L1 l0 x3_1).length : Int) > 8
          · rw [if_pos c4] at H
            have c4b0 : decide (8 < ((rd_L1 l0 x3_1).length : Int)) = true := decide_eq_true c4
            have c4b1 : decide (8 < (rd_L1 l0 x3_1).length) = true := decide_eq_true (by omega)
            clear c4
            obtain rfl := Option.some.inj H
            have p285 : 0 ≤ (x3_1 : Int) := of_decide_eq_true (by first | (with_reducible assumption) | assumption)
            have q285 : x3_1 < (l0.length : Int) := of_decide_eq_true (by first | (with_reducible assumption) | assumption)
            obtain ⟨ad285, A285_0, c285_0, e285, hx285_0, hl285_0, hi285_0⟩ := at_L1 HR0.out x3_1 p285 q285
            cases e285
            have HR285_0 := Aside0.mk hi285_0
            have HC285_0 := Aside0.mk hl285_0
            clear hi285_0 hl285_0
            replace p285 := eq_true p285
            replace q285 := eq_true q285
            go_wp2
            go_ret
            exact ⟨by first | rfl | (simp; done) | (simp [*]; done), by repeat (first | exact Drawn0.refl _ | apply Drawn0.step)⟩
          · rw [if_neg c4] at H
            have c4b0 : decide (8 < ((rd_L1 l0 x3_1).length : Int)) = false := decide_eq_false c4
            have c4b1 : decide (8 < (rd_L1 l0 x3_1).length) = false := decide_eq_false (by omega)
            clear c4
            have H' := Aside0.mk H
            clear H
            have p285 : 0 ≤ (x3_1 : Int) := of_decide_eq_true (by first | (with_reducible assumption) | assumption)
            have q285 : x3_1 < (l0.length : Int) := of_decide_eq_true (by first | (with_reducible assumption) | assumption)
            obtain ⟨ad285, A285_0, c285_0, e285, hx285_0, hl285_0, hi285_0⟩ := at_L1 HR0.out x3_1 p285 q285
            cases e285
            have HR285_0 := Aside0.mk hi285_0
            have HC285_0 := Aside0.mk hl285_0
            clear hi285_0 hl285_0
            replace p285 := eq_true p285
            replace q285 := eq_true q285
            go_wp2
            go_loopg [4] k1 (fun kq v4 w' => ∃ (x4_2 : Int), v4 = .int .i64 x4_2 ∧ Aside0 (swageref06_Right.l1 kq l0 x3_1 x4_2 = some r) ∧ Aside0 (kq ≤ k1) ∧ Drawn0 w w')
            case atStart => exact ⟨(0), (by first | rfl | (simp; done) | (simp [*]; done)), H', ⟨Nat.le_refl _⟩, by repeat (first | exact Drawn0.refl _ | apply Drawn0.step)⟩
            case round =>
              clear H'
              try clear c2
              try clear c2b0
              try clear p2
              try clear q2
              try clear hx2
              try clear c3
              try clear c3b0
              try clear c4
              try clear c4b0
              try clear c4b1
              try clear hx285_0
              try clear p285
              try clear q285
              obtain ⟨x4_2, rfl, HA, HK2, ⟨m2, rfl⟩⟩ := hrel
              cases gk with
              | zero => exact absurd HA.out (by simp [swageref06_Right.l1])
              | succ k2 =>
                have H := HA.out
                clear HA
                simp only [swageref06_Right.l1] at H
                by_cases c5 : 0 ≤ x3_1
                · rw [if_pos c5] at H
                  have c5b0 : decide (0 ≤ x3_1) = true := decide_eq_true c5
                  clear c5
                  by_cases c6 : x3_1 < (l0.length : Int)
                  · rw [if_pos c6] at H
                    have c6b0 : decide (x3_1 < (l0.length : Int)) = true := decide_eq_true c6
                    clear c6
                    by_cases c7 : x4_2 < ((rd_L1 l0 x3_1).length : Int)
                    · rw [if_pos c7] at H
                      have c7b0 : decide (x4_2 < ((rd_L1 l0 x3_1).length : Int)) = true := decide_eq_true c7
                      clear c7
                      by_cases c8 : 0 ≤ x4_2
                      · rw [if_pos c8] at H
                        have c8b0 : decide (0 ≤ x4_2) = true := decide_eq_true c8
                        clear c8
                        by_cases c9 : (rd (rd_L1 l0 x3_1) x4_2) < 0
                        · rw [if_pos c9] at H
                          have c9b0 : decide ((rd (rd_L1 l0 x3_1) x4_2) < 0) = true := decide_eq_true c9
                          clear c9
                          obtain rfl := Option.some.inj H
                          have p286 : 0 ≤ (x3_1 : Int) := of_decide_eq_true (by first | (with_reducible assumption) | assumption)
                          have q286 : x3_1 < (l0.length : Int) := of_decide_eq_true (by first | (with_reducible assumption) | assumption)
                          obtain ⟨ad286, A286_0, c286_0, e286, hx286_0, hl286_0, hi286_0⟩ := at_L1 HR0.out x3_1 p286 q286
                          obtain rfl : ad285 = ad286 := (by injection e286)
                          have HR286_0 := Aside0.mk hi286_0
                          have HC286_0 := Aside0.mk hl286_0
                          clear hi286_0 hl286_0
                          replace p286 := eq_true p286
                          replace q286 := eq_true q286
                          have p287 : 0 ≤ (x3_1 : Int) := of_decide_eq_true (by first | (with_reducible assumption) | assumption)
                          have q287 : x3_1 < (l0.length : Int) := of_decide_eq_true (by first | (with_reducible assumption) | assumption)
                          obtain ⟨ad287, A287_0, c287_0, e287, hx287_0, hl287_0, hi287_0⟩ := at_L1 HR0.out x3_1 p287 q287
                          obtain rfl : ad285 = ad287 := (by injection e287)
                          have HR287_0 := Aside0.mk hi287_0
                          have HC287_0 := Aside0.mk hl287_0
                          clear hi287_0 hl287_0
                          replace p287 := eq_true p287
                          replace q287 := eq_true q287
                          have ea_ := Option.some.inj (hx286_0.symm.trans hx287_0)
                          injection ea_ with ea_ en_ ec_
                          subst ea_
                          subst ec_
                          clear en_
                          have p288 : 0 ≤ (x4_2 : Int) := of_decide_eq_true (by first | (with_reducible assumption) | assumption)
                          have q288 : x4_2 < ((rd_L1 l0 x3_1).length : Int) := of_decide_eq_true (by first | (with_reducible assumption) | assumption)
                          obtain ⟨ad288, e288, hx288_0⟩ := Kd.at_int HR287_0.out x4_2 p288 q288
                          cases e288
                          replace p288 := eq_true p288
                          replace q288 := eq_true q288
                          go_wp2
                          go_ret
                          exact ⟨by first | rfl | (simp; done) | (simp [*]; done), by repeat (first | exact Drawn0.refl _ | apply Drawn0.step)⟩
                        · rw [if_neg c9] at H
                          have c9b0 : decide ((rd (rd_L1 l0 x3_1) x4_2) < 0) = false := decide_eq_false c9
                          clear c9
                          by_cases c10 : (rd (rd_L1 l0 x3_1) x4_2) ≥ (l0.length : Int)
                          · rw [if_pos c10] at H
                            have c10b0 : decide ((l0.length : Int) ≤ (rd (rd_L1 l0 x3_1) x4_2)) = true := decide_eq_true c10
                            clear c10
                            obtain rfl := Option.some.inj H
                            have p286 : 0 ≤ (x3_1 : Int) := of_decide_eq_true (by first | (with_reducible assumption) | assumption)
                            have q286 : x3_1 < (l0.length : Int) := of_decide_eq_true (by first | (with_reducible assumption) | assumption)
                            obtain ⟨ad286, A286_0, c286_0, e286, hx286_0, hl286_0, hi286_0⟩ := at_L1 HR0.out x3_1 p286 q286
                            obtain rfl : ad285 = ad286 := (by injection e286)
                            have HR286_0 := Aside0.mk hi286_0
                            have HC286_0 := Aside0.mk hl286_0
                            clear hi286_0 hl286_0
                            replace p286 := eq_true p286
                            replace q286 := eq_true q286
                            have p287 : 0 ≤ (x3_1 : Int) := of_decide_eq_true (by first | (with_reducible assumption) | assumption)
                            have q287 : x3_1 < (l0.length : Int) := of_decide_eq_true (by first | (with_reducible assumption) | assumption)
                            obtain ⟨ad287, A287_0, c287_0, e287, hx287_0, hl287_0, hi287_0⟩ := at_L1 HR0.out x3_1 p287 q287
                            obtain rfl : ad285 = ad287 := (by injection e287)
                            have HR287_0 := Aside0.mk hi287_0
                            have HC287_0 := Aside0.mk hl287_0
                            clear hi287_0 hl287_0
                            replace p287 := eq_true p287
                            replace q287 := eq_true q287
                            have ea_ := Option.some.inj (hx286_0.symm.trans hx287_0)
                            injection ea_ with ea_ en_ ec_
                            subst ea_
                            subst ec_
                            clear en_
                            have p288 : 0 ≤ (x4_2 : Int) := of_decide_eq_true (by first | (with_reducible assumption) | assumption)
                            have q288 : x4_2 < ((rd_L1 l0 x3_1).length : Int) := of_decide_eq_true (by first | (with_reducible assumption) | assumption)
                            obtain ⟨ad288, e288, hx288_0⟩ := Kd.at_int HR287_0.out x4_2 p288 q288
                            cases e288
                            replace p288 := eq_true p288
                            replace q288 := eq_true q288
                            have p289 : 0 ≤ (x3_1 : Int) := of_decide_eq_true (by first | (with_reducible assumption) | assumption)
                            have q289 : x3_1 < (l0.length : Int) := of_decide_eq_true (by first | (with_reducible assumption) | assumption)
                            obtain ⟨ad289, A289_0, c289_0, e289, hx289_0, hl289_0, hi289_0⟩ := at_L1 HR0.out x3_1 p289 q289
                            obtain rfl : ad285 = ad289 := (by injection e289)
                            have HR289_0 := Aside0.mk hi289_0
                            have HC289_0 := Aside0.mk hl289_0
                            clear hi289_0 hl289_0
                            replace p289 := eq_true p289
                            replace q289 := eq_true q289
                            have ea_ := Option.some.inj (hx286_0.symm.trans hx289_0)
                            injection ea_ with ea_ en_ ec_
                            subst ea_
                            subst ec_
                            clear en_
                            have p290 : 0 ≤ (x4_2 : Int) := of_decide_eq_true (by first | (with_reducible assumption) | assumption)
                            have q290 : x4_2 < ((rd_L1 l0 x3_1).length : Int) := of_decide_eq_true (by first | (with_reducible assumption) | assumption)
                            obtain ⟨ad290, e290, hx290_0⟩ := Kd.at_int HR289_0.out x4_2 p290 q290
                            cases e290
                            replace p290 := eq_true p290
                            replace q290 := eq_true q290
                            go_wp2
                            go_ret
                            exact ⟨by first | rfl | (simp; done) | (simp [*]; done), by repeat (first | exact Drawn0.refl _ | apply Drawn0.step)⟩
                          · rw [if_neg c10] at H
                            have c10b0 : decide ((l0.length : Int) ≤ (rd (rd_L1 l0 x3_1) x4_2)) = false := decide_eq_false c10
                            clear c10
                            have H' := Aside0.mk H
                            clear H
                            have p286 : 0 ≤ (x3_1 : Int) := of_decide_eq_true (by first | (with_reducible assumption) | assumption)
                            have q286 : x3_1 < (l0.length : Int) := of_decide_eq_true (by first | (with_reducible assumption) | assumption)
                            obtain ⟨ad286, A286_0, c286_0, e286, hx286_0, hl286_0, hi286_0⟩ := at_L1 HR0.out x3_1 p286 q286
                            obtain rfl : ad285 = ad286 := (by injection e286)
                            have HR286_0 := Aside0.mk hi286_0
                            have HC286_0 := Aside0.mk hl286_0
                            clear hi286_0 hl286_0
                            replace p286 := eq_true p286
                            replace q286 := eq_true q286
                            have p287 : 0 ≤ (x3_1 : Int) := of_decide_eq_true (by first | (with_reducible assumption) | assumption)
                            have q287 : x3_1 < (l0.length : Int) := of_decide_eq_true (by first | (with_reducible assumption) | assumption)
                            obtain ⟨ad287, A287_0, c287_0, e287, hx287_0, hl287_0, hi287_0⟩ := at_L1 HR0.out x3_1 p287 q287
                            obtain rfl : ad285 = ad287 := (by injection e287)
                            have HR287_0 := Aside0.mk hi287_0
                            have HC287_0 := Aside0.mk hl287_0
                            clear hi287_0 hl287_0
                            replace p287 := eq_true p287
                            replace q287 := eq_true q287
                            have ea_ := Option.some.inj (hx286_0.symm.trans hx287_0)
                            injection ea_ with ea_ en_ ec_
                            subst ea_
                            subst ec_
                            clear en_
                            have p288 : 0 ≤ (x4_2 : Int) := of_decide_eq_true (by first | (with_reducible assumption) | assumption)
                            have q288 : x4_2 < ((rd_L1 l0 x3_1).length : Int) := of_decide_eq_true (by first | (with_reducible assumption) | assumption)
                            obtain ⟨ad288, e288, hx288_0⟩ := Kd.at_int HR287_0.out x4_2 p288 q288
                            cases e288
                            replace p288 := eq_true p288
                            replace q288 := eq_true q288
                            have p289 : 0 ≤ (x3_1 : Int) := of_decide_eq_true (by first | (with_reducible assumption) | assumption)
                            have q289 : x3_1 < (l0.length : Int) := of_decide_eq_true (by first | (with_reducible assumption) | assumption)
                            obtain ⟨ad289, A289_0, c289_0, e289, hx289_0, hl289_0, hi289_0⟩ := at_L1 HR0.out x3_1 p289 q289
                            obtain rfl : ad285 = ad289 := (by injection e289)
                            have HR289_0 := Aside0.mk hi289_0
                            have HC289_0 := Aside0.mk hl289_0
                            clear hi289_0 hl289_0
                            replace p289 := eq_true p289
                            replace q289 := eq_true q289
                            have ea_ := Option.some.inj (hx286_0.symm.trans hx289_0)
                            injection ea_ with ea_ en_ ec_
                            subst ea_
                            subst ec_
                            clear en_
                            have p290 : 0 ≤ (x4_2 : Int) := of_decide_eq_true (by first | (with_reducible assumption) | assumption)
                            have q290 : x4_2 < ((rd_L1 l0 x3_1).length : Int) := of_decide_eq_true (by first | (with_reducible assumption) | assumption)
                            obtain ⟨ad290, e290, hx290_0⟩ := Kd.at_int HR289_0.out x4_2 p290 q290
                            cases e290
                            replace p290 := eq_true p290
                            replace q290 := eq_true q290
                            go_wp2
                            go_roundg k2
                            case measure => have := HK1.out; have := HK2.out; omega
                            case rel => exact ⟨(wrap64 (x4_2 + 1)), (by first | rfl | (simp; done) | (simp [*]; done)), H', ⟨by have := HK1.out; have := HK2.out; omega⟩, by repeat (first | exact Drawn0.refl _ | apply Drawn0.step)⟩
                      · rw [if_neg c8] at H
                        exact absurd H (by simp)
                    · rw [if_neg c7] at H
                      have c7b0 : decide (x4_2 < ((rd_L1 l0 x3_1).length : Int)) = false := decide_eq_false c7
                      clear c7
                      have H' := Aside0.mk H
                      clear H
                      have p286 : 0 ≤ (x3_1 : Int) := of_decide_eq_true (by first | (with_reducible assumption) | assumption)
                      have q286 : x3_1 < (l0.length : Int) := of_decide_eq_true (by first | (with_reducible assumption) | assumption)
                      obtain ⟨ad286, A286_0, c286_0, e286, hx286_0, hl286_0, hi286_0⟩ := at_L1 HR0.out x3_1 p286 q286
                      obtain rfl : ad285 = ad286 := (by injection e286)
                      have HR286_0 := Aside0.mk hi286_0
                      have HC286_0 := Aside0.mk hl286_0
                      clear hi286_0 hl286_0
                      replace p286 := eq_true p286
                      replace q286 := eq_true q286
                      go_wp2
                      go_roundg k2
                      case measure => have := HK1.out; have := HK2.out; omega
                      case rel => exact ⟨(wrap64 (x3_1 + 1)), (by first | rfl | (simp; done) | (simp [*]; done)), H', ⟨by have := HK1.out; have := HK2.out; omega⟩, by repeat (first | exact Drawn0.refl _ | apply Drawn0.step)⟩
                  · rw [if_neg c6] at H
                    exact absurd H (by simp)
                · rw [if_neg c5] at H
                  exact absurd H (by simp)
        · rw [if_neg c3] at H
          exact absurd H (by simp)
      · rw [if_neg c2] at H
        have c2b0 : decide (x3_1 < (l0.length : Int)) = false := decide_eq_false c2
        clear c2
        by_cases c11 : (l0.length : Int) ≥ 1
        · rw [if_pos c11] at H
          have c11b0 : decide (1 ≤ (l0.length : Int)) = true := decide_eq_true c11
          have c11b1 : decide (1 ≤ l0.length) = true := decide_eq_true (by omega)
          clear c11
          obtain rfl := Option.some.inj H
          go_wp2
          go_ret
          exact ⟨by first | rfl | (simp; done) | (simp [*]; done), by repeat (first | exact Drawn0.refl _ | apply Drawn0.step)⟩
        · rw [if_neg c11] at H
          have c11b0 : decide (1 ≤ (l0.length : Int)) = false := decide_eq_false c11
          have c11b1 : decide (1 ≤ l0.length) = false := decide_eq_false (by omega)
          clear c11
          obtain rfl := Option.some.inj H
          go_wp2
          go_ret
          exact ⟨by first | rfl | (simp; done) | (simp [*]; done), by repeat (first | exact Drawn0.refl _ | apply Drawn0.step)⟩

end Go.Proofs.Ytkmbhknmjnbanaa.A


namespace Go.Proofs.Ytkmbhknmjnbanaa.A
open Go.RowKit Go.Proofs.YtkmbhknmjnbanaaW.PrintWords Go.Proofs.YtkmbhknmjnbanaaW.PrintLast Go.Proofs.YtkmbhknmjnbanaaW.PrintMore
attribute [local go_sem] max2_int min2_int max_two min_two max_three min_three max_four min_four   -- for this text's walks alone
set_option linter.unusedVariables false
set_option linter.unusedSimpArgs false

def swageref06_Copy.l0 : Nat → List (List Int) → List (List Int) → Int → Option ((List (List Int)))
  | 0, _, _, _ => none
  | k + 1, x0, x3, x4 => if x4 < (x0.length : Int) then ((some (([] : List Int) : List Int)).bind fun y275 => (if 0 ≤ x4 then (if y275.length + (rd_L1 x0 x4).length < 17592186044416 then (if x3.length < 5864062014805 then (swageref06_Copy.l0 k x0 (x3 ++ [(y275 ++ (rd_L1 x0 x4))]) (wrap64 (x4 + 1))) else (none)) else (none)) else (none))) else (some x3)
def swageref06_Copy.f (k : Nat) (l0 : List (List Int)) : Option ((List (List Int))) := swageref06_Copy.l0 k l0 ([] : List (List Int)) 0
set_option maxHeartbeats 8000000 in
set_option maxRecDepth 100000 in
theorem swageref06_Copy.calls (k : Nat) (A0 : Option Addr) (c0 : Nat) (l0 : List (List Int)) (r : List (List Int)) (w : World) (hr0 : Kd.C (Kd.slice 3 (Kd.int .i64)) w A0 l0.length l0) (hc0 : l0.length ≤ c0) (h : swageref06_Copy.f k l0 = some r) :
    Calls Try.prog 15 #[.slice A0 l0.length c0] w fun e w' => ∃ v0_ : Value, e = .returned (v0_) ∧ Kd.S (Kd.slice 3 (Kd.int .i64)) 27 w' w.heap.size (fun _ => True) v0_ r ∧ Below w.heap.size w w' := by
  have HR0 := Aside0.mk hr0
  have HC0 := Aside0.mk hc0
  clear hr0 hc0
  have HB := Aside0.mk (Below.refl w.heap.size w)
  have H : (swageref06_Copy.l0 k l0 ([] : List (List Int)) 0) = some r := h
  clear h
  have H' := Aside0.mk H
  clear H
  go_enter Try.func15, Try.ntmps15
  go_wp2
  go_loopg [3, 4] k (fun kq v3 v4 w' => ∃ (x3_1 : List (List Int)) (x4_1 : Int), v4 = .int .i64 x4_1 ∧ Aside0 (swageref06_Copy.l0 kq l0 x3_1 x4_1 = some r) ∧ Aside0 (kq ≤ k) ∧ Aside0 (Kd.S (Kd.slice 3 (Kd.int .i64)) 27 w' w.heap.size (fun _ => True) v3 x3_1) ∧ Aside0 (Below w.heap.size w w'))
  case atStart => exact ⟨(([] : List (List Int))), (0), (by first | rfl | (simp; done) | (simp [*]; done)), H', ⟨Nat.le_refl _⟩, ⟨by first | exact Kd.S_nil _ _ _ _ _ | exact Kd.N_nil _ _ _ _ _ | exact Kd.V_nil _ _ _ _ _ | exact Kd.Q_nil _ _ _ _ _ | exact Kd.R_nil _ _ _ _ _⟩, ⟨by repeat (first | (with_reducible first | exact HB.out | apply below_alloc | apply pw_below_drewN | apply below_drew1) | exact HB.out)⟩⟩
  case round =>
    clear H'
    try clear c1
    obtain ⟨x3_1, x4_1, rfl, HA, HK1, HO_3, HB⟩ := hrel
    cases gk with
    | zero => exact absurd HA.out (by simp [swageref06_Copy.l0])
    | succ k1 =>
      have H := HA.out
      clear HA
      simp only [swageref06_Copy.l0] at H
      by_cases c2 : x4_1 < (l0.length : Int)
      · rw [if_pos c2] at H
        have c2b0 : decide (x4_1 < (l0.length : Int)) = true := decide_eq_true c2
        clear c2
        obtain ⟨y275, hy275⟩ : ∃ y_ : List Int, y_ = (([] : List Int)) := ⟨_, rfl⟩
        replace H : (if 0 ≤ x4_1 then (if y275.length + (rd_L1 l0 x4_1).length < 17592186044416 then (if x3_1.length < 5864062014805 then (swageref06_Copy.l0 k1 l0 (x3_1 ++ [(y275 ++ (rd_L1 l0 x4_1))]) (wrap64 (x4_1 + 1))) else (none)) else (none)) else (none)) = some r := by first | (rw [hy275]; with_reducible exact H) | (have H2_ := (Option.bind_some _ _).symm.trans H; rw [hy275]; with_reducible exact H2_) | (have H2_ := (Option.bind_some _ _).symm.trans H; with_reducible exact H2_) | with_reducible exact H | (rw [hy275]; exact H) | exact H
        have Ny275 := Aside0.mk hy275
        clear hy275
        by_cases c3 : 0 ≤ x4_1
        · rw [if_pos c3] at H
          have c3b0 : decide (0 ≤ x4_1) = true := decide_eq_true c3
          clear c3
          by_cases c4 : y275.length + (rd_L1 l0 x4_1).length < 17592186044416
          · rw [if_pos c4] at H
            have LMc4 := Aside0.mk c4
            clear c4
            obtain ⟨y279, hy279⟩ : ∃ y_ : List Int, y_ = (y275 ++ (rd_L1 l0 x4_1)) := ⟨_, rfl⟩
            replace H : (if x3_1.length < 5864062014805 then (swageref06_Copy.l0 k1 l0 (x3_1 ++ [y279]) (wrap64 (x4_1 + 1))) else (none)) = some r := by first | (rw [hy279]; with_reducible exact H) | (have H2_ := (Option.bind_some _ _).symm.trans H; rw [hy279]; with_reducible exact H2_) | (have H2_ := (Option.bind_some _ _).symm.trans H; with_reducible exact H2_) | with_reducible exact H | (rw [hy279]; exact H) | exact H
            have Ny279 := Aside0.mk hy279
            clear hy279
            by_cases c5 : x3_1.length < 5864062014805
            · rw [if_pos c5] at H
              have LMc5 := Aside0.mk c5
              clear c5
              obtain ⟨y282, hy282⟩ : ∃ y_ : List (List Int), y_ = (x3_1 ++ [y279]) := ⟨_, rfl⟩
              replace H : (swageref06_Copy.l0 k1 l0 y282 (wrap64 (x4_1 + 1))) = some r := by first | (rw [hy282]; with_reducible exact H) | (have H2_ := (Option.bind_some _ _).symm.trans H; rw [hy282]; with_reducible exact H2_) | (have H2_ := (Option.bind_some _ _).symm.trans H; with_reducible exact H2_) | with_reducible exact H | (rw [hy282]; exact H) | exact H
              have Ny282 := Aside0.mk hy282
              clear hy282
              have H' := Aside0.mk H
              clear H
              go_wp2_with (first | ((with_reducible refine gate_dst (N := 12) rfl ?_); refine Kd.R_lit (Kd.int .i64) _ 3 ?hg (N := 12) ?hd (xs := ([] : List Int)) (inner := []) (ok := fun _ => True) (okp := fun _ => True) ?hr ?hp (fun _ hk => hk) trivial (Below.refl _ _) (Nat.le_refl _) (by simp) ?_; (case hd => rfl); (case hg => rfl); (case hr => first | (go_simp; done) | (go_simp; rfl)); (case hp => exact (Reps.none _ _)); intro v276 w6 ho7 hb hg_ hnew_; clear hg_ hnew_; (first | rw [← Ny275.out] at ho7 | (simp only [Int.reduceToNat] at ho7; rw [← Ny275.out] at ho7)); have n0_ := Aside0.mk (Kd.S_elder' (by (with_reducible repeat (first | apply Kd.S_alloc | apply Kd.S_drewN | apply Kd.S_drew)); exact HO_3.out) (Kd.R_base ho7) hb); have n1_ := Aside0.mk (Kd.R_lower ho7 (below_size (by repeat (first | (with_reducible first | exact HB.out | apply below_alloc | apply pw_below_drewN | apply below_drew1) | exact HB.out)))); have n2_ := Aside0.mk (below_step (by repeat (first | (with_reducible first | exact HB.out | apply below_alloc | apply pw_below_drewN | apply below_drew1) | exact HB.out)) hb); clear HO_3; clear HB; have HO_3 := n0_; have HO277 := n1_; have HB := n2_; clear n0_ n1_ n2_; clear hb ho7; have p278 : 0 ≤ (x4_1 : Int) := of_decide_eq_true (by first | (with_reducible assumption) | assumption); have q278 : x4_1 < (l0.length : Int) := of_decide_eq_true (by first | (with_reducible assumption) | assumption); obtain ⟨ad278, A278_0, c278_0, e278, hx278_0, hl278_0, hi278_0⟩ := at_L1 HR0.out x4_1 p278 q278; cases e278; replace hx278_0 := (HB.out.cell (World.block_lt_of_cell? w _ hx278_0)).trans hx278_0; have HR278_0 := Aside0.mk hi278_0; have HC278_0 := Aside0.mk hl278_0; clear hi278_0 hl278_0; replace p278 := eq_true p278; replace q278 := eq_true q278) | ((with_reducible refine gate_builtin (b := .append) (xs := #[.tmp 12, .tmp 16]) rfl ?_); at_builtin; refine Kd.R_append_rows (Kd.int .i64) (w0 := w) w.heap.size rfl (.tmp 12) (.tmp 16) 27 3 (.int .i64 0) 8 rfl Try.underlying27 info3 rfl (by decide) (by omega) v276 y275 (rd_L1 l0 x4_1) _ _ _ (fun _ => True) (fun _ => False) rfl rfl ?aO ?aR (fun _ _ h => h) (fun _ h => h.elim) ?aF ?aB ?aS ?aL ?_; (case aR => repeat (first | exact (Kd.C_below HR278_0.out HB.out) | (with_reducible refine Kd.C_alloc ?_ _) | (with_reducible refine Kd.C_drewN ?_ _) | (with_reducible refine Kd.C_drew ?_))); (case aB => exact (by repeat (first | (with_reducible first | exact HB.out | apply below_alloc | apply pw_below_drewN | apply below_drew1) | exact HB.out))); (case aF => exact (fun _ _ => trivial)); (case aO => exact (by (with_reducible repeat (first | apply Kd.R_alloc | apply Kd.R_drewN | apply Kd.R_drew)); exact HO277.out)); (case aS => exact (below_size (by repeat (first | (with_reducible first | exact HB.out | apply below_alloc | apply pw_below_drewN | apply below_drew1) | exact HB.out)))); (case aL => have := LMc4.out; omega); intro v280 w8 ho hb hg hat; rw [← Ny279.out] at ho; have n0_ := Aside0.mk (Kd.S_after (ok := (fun _ => True)) (by (with_reducible repeat (first | apply Kd.S_alloc | apply Kd.S_drewN | apply Kd.S_drew)); exact HO_3.out) hg hat); have n1_ := Aside0.mk (hb); have n2_ := Aside0.mk (ho); clear HO_3; clear HB; clear HO277; have HO_3 := n0_; have HB := n1_; have HO281 := n2_; clear n0_ n1_ n2_; clear ho hb hg hat; obtain ⟨Ao10, co10, eo10⟩ := Kd.R_slice HO281.out; subst eo10) | ((with_reducible refine gate_builtin (b := .append) (xs := #[.tmp 11, .tmp 18]) rfl ?_); at_builtin; refine Kd.S_append (Kd.slice 3 (Kd.int .i64)) (w0 := w) w.heap.size rfl (.tmp 11) (.tmp 18) 22 27 (.slice none 0 0) 24 rfl Try.underlying22 info27 rfl (by decide) (by omega) u3 x3_1 y279 [.slice Ao10 y279.length co10] (fun _ => True) (fun k_ => some k_ = (.slice Ao10 y279.length co10 : Value).ownBlock) rfl rfl ?aP (fun k_ hk_ => ((Kd.R_mono (ok' := fun k_ => ((fun _ => True)) k_ ∧ some k_ ≠ (u3 : Value).ownBlock) (Kd.R_apart' (HO281.out) (Kd.S_typed HO_3.out) (by decide)) (fun k_ hk => ⟨trivial, hk.2⟩))).1 k_ hk_.symm) ?aF ?aO ?aB ?aS ?aL ?_; (case aP => exact Kd.M_row (Kd.R_mono (Kd.R_tight rfl (Kd.R_mono (ok' := fun k_ => ((fun _ => True)) k_ ∧ some k_ ≠ (u3 : Value).ownBlock) (Kd.R_apart' (HO281.out) (Kd.S_typed HO_3.out) (by decide)) (fun k_ hk => ⟨trivial, hk.2⟩))) (fun _ h_ => h_))); (case aB => exact (by repeat (first | (with_reducible first | exact HB.out | apply below_alloc | apply pw_below_drewN | apply below_drew1) | exact HB.out))); (case aF => exact (fun _ _ => trivial)); (case aO => exact (by (with_reducible repeat (first | apply Kd.S_alloc | apply Kd.S_drewN | apply Kd.S_drew)); exact Kd.S_mono HO_3.out (fun k_ hk => ⟨trivial, fun e_ => hk.2 e_⟩))); (case aS => exact (below_size (by repeat (first | (with_reducible first | exact HB.out | apply below_alloc | apply pw_below_drewN | apply below_drew1) | exact HB.out)))); (case aL => have := LMc5.out; omega); intro v283 w9 ho hb hg hat; rw [← Ny282.out] at ho; have n0_ := Aside0.mk (hb); have n1_ := Aside0.mk (ho); clear HB; clear HO_3; clear HO281; have HB := n0_; have HO284 := n1_; clear n0_ n1_; clear ho hb hg hat))
              go_roundg k1
              case measure => have := HK1.out; omega
              case rel => exact ⟨(y282), (wrap64 (x4_1 + 1)), (by first | rfl | (simp; done) | (simp [*]; done)), H', ⟨by have := HK1.out; omega⟩, ⟨by (with_reducible repeat (first | apply Kd.S_alloc | apply Kd.S_drewN | apply Kd.S_drew)); exact HO284.out⟩, ⟨by repeat (first | (with_reducible first | exact HB.out | apply below_alloc | apply pw_below_drewN | apply below_drew1) | exact HB.out)⟩⟩
            · rw [if_neg c5] at H
              exact absurd H (by simp)
          · rw [if_neg c4] at H
            exact absurd H (by simp)
        · rw [if_neg c3] at H
          exact absurd H (by simp)
      · rw [if_neg c2] at H
        have c2b0 : decide (x4_1 < (l0.length : Int)) = false := decide_eq_false c2
        clear c2
        obtain rfl := Option.some.inj H
        go_wp2
        go_ret
        exact ⟨_, by first | rfl | (simp [errW_none, errW_some] <;> rfl) | (simp [*, errW_none, errW_some] <;> rfl), by (with_reducible repeat (first | apply Kd.S_alloc | apply Kd.S_drewN | apply Kd.S_drew)); exact HO_3.out, by repeat (first | (with_reducible first | exact HB.out | apply below_alloc | apply pw_below_drewN | apply below_drew1) | exact HB.out)⟩

end Go.Proofs.Ytkmbhknmjnbanaa.A


namespace Go.Proofs.Ytkmbhknmjnbanaa.A
open Go.RowKit Go.Proofs.YtkmbhknmjnbanaaW.PrintWords Go.Proofs.YtkmbhknmjnbanaaW.PrintLast Go.Shelf
set_option linter.unusedVariables false
set_option linter.unusedSimpArgs false

theorem wsucc {i : Nat} (h : i ≤ 1000000000) : wrap64 ((i : Int) + 1) = ((i + 1 : Nat) : Int) := by rw [w64 (by omega) (by omega)]; rfl

theorem ints_l0 (l : List Int) (hl : l.length ≤ 1000000) : ∀ (d i : Nat), i + d = l.length → Evt (fun k => swageref02_Ints.l0 k l l i) true
  | 0, i, hi => Evt.step (Evt.const rfl) fun k => by rw [swageref02_Ints.l0, if_neg (by omega)]
  | d + 1, i, hi => Evt.step (ints_l0 l hl d (i + 1) (by omega)) fun k => by
    rw [swageref02_Ints.l0, if_pos (by omega), if_pos (by omega), if_pos (by omega), if_pos rfl, wsucc (by omega)]
theorem ints_ev (l : List Int) (hl : l.length ≤ 1000000) : Evt (fun k => swageref02_Ints.f k l l) true := by
  unfold swageref02_Ints.f
  exact Evt.congr (ints_l0 l hl l.length 0 (by omega)) fun k => by rw [if_pos rfl]; rfl
theorem rows_l0 (l : List (List Int)) (hl : l.length ≤ 1000000) (hr : ∀ x ∈ l, x.length ≤ 1000000) : ∀ (d i : Nat), i + d = l.length → Evt (fun k => swageref06_Rows.l0 k l l i) true
  | 0, i, hi => Evt.step (Evt.const rfl) fun k => by rw [swageref06_Rows.l0, if_neg (by omega)]
  | d + 1, i, hi => by
    have h1 := ints_ev (rowOf l i) (hr _ (rowOf_mem (show i < l.length by omega)))
    refine Evt.step (Evt.bind (h := fun k t116 => (if t116 = true then (swageref06_Rows.l0 k l l ((i + 1 : Nat) : Int)) else (some false))) h1 (Evt.congr (rows_l0 l hl hr d (i + 1) (by omega)) fun k => by rw [if_pos rfl])) fun k => ?_
    rw [swageref06_Rows.l0, if_pos (by omega), if_pos (by omega), if_pos (by omega), rdL, wsucc (by omega)]
theorem rows_ev (l : List (List Int)) (hl : l.length ≤ 1000000) (hr : ∀ x ∈ l, x.length ≤ 1000000) : Evt (fun k => swageref06_Rows.f k l l) true := by
  unfold swageref06_Rows.f
  exact Evt.congr (rows_l0 l hl hr l.length 0 (by omega)) fun k => by rw [if_pos rfl]; rfl

theorem few_l0 (g : List (List Int)) : ∀ (d i : Nat), i ≤ 100 → i + d = min g.length 100 → ∃ r, Evt (fun k => swagelaw06_Few.l0 k g i) r ∧ (r = true → g.length ≤ 40)
  | 0, i, h0, hi => by
    refine ⟨decide ((g.length : Int) ≤ 40), ?_, fun h => by have := of_decide_eq_true h; omega⟩
    refine Evt.step (Evt.step (Evt.const (x := some (decide ((g.length : Int) ≤ 40))) rfl) (f := fun k => swagelaw06_Few.j1 k g i false) fun k => ?_) fun k => ?_
    · rw [swagelaw06_Few.j1, if_neg (by simp)]
    · rw [swagelaw06_Few.l0]
      by_cases h : (i : Int) < (g.length : Int)
      · rw [if_pos h, decide_eq_false (by omega)]
      · rw [if_neg h]
  | d + 1, i, h0, hi => by
    by_cases h : (rowOf g i).length > 20
    · refine ⟨false, ?_, by simp⟩
      refine Evt.step (Evt.step (Evt.const (x := some false) rfl) (f := fun k => swagelaw06_Few.j1 k g i true) fun k => ?_) fun k => ?_
      · rw [swagelaw06_Few.j1, if_pos rfl, if_pos (by omega), if_pos (by omega), rdL, if_pos (by omega)]
      · rw [swagelaw06_Few.l0, if_pos (by omega), decide_eq_true (by omega)]
    · obtain ⟨r, h1, h2⟩ := few_l0 g d (i + 1) (by omega) (by omega)
      refine ⟨r, ?_, h2⟩
      refine Evt.step (Evt.step h1 (f := fun k => swagelaw06_Few.j1 k g i true) fun k => ?_) fun k => ?_
      · rw [swagelaw06_Few.j1, if_pos rfl, if_pos (by omega), if_pos (by omega), rdL, if_neg (by omega), wsucc (by omega)]
      · rw [swagelaw06_Few.l0, if_pos (by omega), decide_eq_true (by omega)]
theorem few_ev (g : List (List Int)) : ∃ r, Evt (fun k => swagelaw06_Few.f k g) r ∧ (r = true → g.length ≤ 40) := by
  obtain ⟨r, h1, h2⟩ := few_l0 g (min g.length 100) 0 (by omega) (by omega)
  exact ⟨r, h1, h2⟩

theorem rref_l1 {g : List (List Int)} (hn : g.length ≤ 4096) {i : Nat} (hi : i < g.length) (h8 : (rowOf g i).length ≤ 8) {r : Bool} (h : Evt (fun k => swageref06_Right.l0 k g ((i + 1 : Nat) : Int)) r) :
    ∀ (d j : Nat), j + d = (rowOf g i).length → Evt (fun k => swageref06_Right.l1 k g i j) (!(((rowOf g i).drop j).any (badN g.length)) && r)
  | 0, j, hj => by
    rw [List.drop_eq_nil_of_le (by omega)]
    refine Evt.step h fun k => ?_
    rw [swageref06_Right.l1, if_pos (by omega), if_pos (by omega), rdL, if_neg (by omega), wsucc (by omega)]
  | d + 1, j, hj => by
    have hlt : j < (rowOf g i).length := by omega
    rw [List.drop_eq_getElem_cons hlt, List.any_cons]
    by_cases h1 : (rowOf g i)[j] < 0
    · rw [show badN g.length (rowOf g i)[j] = true by simp [badN, h1]]
      refine Evt.step (Evt.const rfl) fun k => ?_
      rw [swageref06_Right.l1, if_pos (by omega), if_pos (by omega), rdL, if_pos (by omega), if_pos (by omega), rdI hlt, if_pos h1]
      rfl
    · by_cases h2 : (rowOf g i)[j] ≥ (g.length : Int)
      · rw [show badN g.length (rowOf g i)[j] = true by simp [badN]; omega]
        refine Evt.step (Evt.const rfl) fun k => ?_
        rw [swageref06_Right.l1, if_pos (by omega), if_pos (by omega), rdL, if_pos (by omega), if_pos (by omega), rdI hlt, if_neg h1, if_pos h2]
        rfl
      · rw [show badN g.length (rowOf g i)[j] = false by simp [badN]; omega]
        refine Evt.step (rref_l1 hn hi h8 h d (j + 1) (by omega)) fun k => ?_
        rw [swageref06_Right.l1, if_pos (by omega), if_pos (by omega), rdL, if_pos (by omega), if_pos (by omega), rdI hlt, if_neg h1, if_neg h2, wsucc (by omega)]
theorem rref_l0 {g : List (List Int)} (hn : g.length ≤ 4096) : ∀ (d i : Nat), i + d = g.length → Evt (fun k => swageref06_Right.l0 k g i) (!((g.drop i).any (badL g.length)) && decide (1 ≤ g.length))
  | 0, i, hi => by
    rw [List.drop_eq_nil_of_le (by omega)]
    refine Evt.step (Evt.const rfl) fun k => ?_
    rw [swageref06_Right.l0, if_neg (by omega)]
    by_cases h : 1 ≤ g.length
    · rw [if_pos (by omega), decide_eq_true (by omega), decide_eq_true h]; rfl
    · rw [if_neg (by omega), decide_eq_false h]; rfl
  | d + 1, i, hi => by
    have hlt : i < g.length := by omega
    have hrow : rowOf g i = g[i] := by unfold rowOf; rw [List.getD_eq_getElem?_getD, List.getElem?_eq_getElem hlt]; rfl
    rw [List.drop_eq_getElem_cons hlt, List.any_cons, ← hrow]
    by_cases h : (rowOf g i).length > 8
    · rw [show badL g.length (rowOf g i) = true by simp [badL]; left; omega]
      refine Evt.step (Evt.const rfl) fun k => ?_
      rw [swageref06_Right.l0, if_pos (by omega), if_pos (by omega), rdL, if_pos (by omega)]
      rfl
    · have h1 := rref_l1 hn hlt (by omega) (rref_l0 hn d (i + 1) (by omega)) (rowOf g i).length 0 (by omega)
      rw [List.drop_zero] at h1
      rw [show badL g.length (rowOf g i) = (rowOf g i).any (badN g.length) by unfold badL; rw [decide_eq_false (by omega)]; rfl, Bool.not_or, Bool.and_assoc]
      refine Evt.step h1 fun k => ?_
      rw [swageref06_Right.l0, if_pos (by omega), if_pos (by omega), rdL, if_neg (by omega)]
      rfl
theorem rref_ev {g : List (List Int)} (hn : g.length ≤ 4096) : Evt (fun k => swageref06_Right.f k g) (rightB g) := by
  have h := rref_l0 hn g.length 0 (by omega)
  rw [List.drop_zero] at h
  have e : rightB g = (!(g.any (badL g.length)) && decide (1 ≤ g.length)) := by
    unfold rightB
    rw [decide_eq_true (p := g.length ≤ 4096) hn]
    cases decide (1 ≤ g.length) <;> cases g.any (badL g.length) <;> rfl
  rw [e]
  exact h

end Go.Proofs.Ytkmbhknmjnbanaa.A

