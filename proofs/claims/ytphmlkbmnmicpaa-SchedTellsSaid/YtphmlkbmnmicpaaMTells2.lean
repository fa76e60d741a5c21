/- Parts of the proof, in the order in which they rest on one another. -/
import Derived.Test.YtphmlkbmnmicpaaMTells1
import Derived.Below
import Derived.Deep.Draws
import Derived.Deep.AppendLies
import Derived.Maps.AppendAt
import Derived.OwnWalk
import Derived.Laws.BytesArg
import Derived.Laws.MakeOwn
import Derived.Laws.OwnMore
import Derived.Deep.OwnRows
import Derived.Tactics
import Derived.Lib.ConvBytes
import Derived.Laws.Slices
import Derived.WalkKit
import Derived.KernelRfl
import Derived.RowKit3
import Derived.Deep.LoopGhost
import Derived.Deep.QuietTactic
import Derived.BigQuiet
import Derived.WideLaws
import Derived.Deep.DeepCutAuto
import Derived.Deep.CutBlock
import Derived.Deep.RegionHeld3
import Derived.Laws.Rows
import Derived.Lib.AppendStr
import Derived.ArgAppend
import Derived.Laws.IdiomCopy
import Derived.RowKit
import Derived.OrdersHeld
import Derived.Laws.BitsLemmas
import Derived.Laws.StructEq
import Derived.Test.YtphmlkbmnmicpaaProg
import Derived.Shelf.Abstract
import Derived.Lib.Walk
import Derived.RangeFuncBox
import Derived.RangeFuncLeaves
import Derived.RangeFuncNested
import Derived.RangeFuncBound
import Derived.OwnWalkIn
import Derived.TacticsInMore
import Derived.LoopNIn
import Derived.LoopIn
import Derived.Outline
import Derived.Lib.QuietBelowIn
import Derived.OrdersIn
import Derived.StillTail
set_option linter.unusedVariables false
set_option linter.unusedSimpArgs false
namespace Go.Proofs.Ytphmlkbmnmicpaa.A
open Go.RowKit Go.Proofs.YtphmlkbmnmicpaaW.PrintWords Go.Proofs.YtphmlkbmnmicpaaW.PrintLast Go.Proofs.YtphmlkbmnmicpaaW.PrintMore
attribute [local go_sem] max2_int zBH max_two zBL zBB zBA zBI zBG   -- for this text's walks alone
def errW : Option Int → Value
 | none => .nilIface
 | some c => .iface 0 (.int .i64 c)
theorem zAO : errW none = .nilIface := rfl
theorem zAN (c : Int) : errW (some c) = .iface 0 (.int .i64 c) := rfl
theorem info3 : (Try.prog.info? 3).map (fun i => (i.zero, i.size, i.bytes)) = some (some (.int .i64 0), 1, 8) := by kernel_rfl
theorem info23 : (Try.prog.info? 23).map (fun i => (i.zero, i.size, i.bytes)) = some (some (.slice none 0 0), 1, 24) := by kernel_rfl
theorem info29 : (Try.prog.info? 29).map (fun i => (i.zero, i.size, i.bytes)) = some (some (.agg #[(.slice none 0 0), (.int .i64 0), (.int .i64 0), (.int .i64 0), (.int .i64 0)]), 5, 56) := by kernel_rfl
theorem info37 : (Try.prog.info? 37).map (fun i => (i.zero, i.size, i.bytes)) = some (some (.agg #[(.int .i64 0), (.int .i64 0), (.int .i64 0), (.int .i64 0), (.int .i64 0), (.slice none 0 0)]), 6, 64) := by kernel_rfl
def rd_L1 (xs : List (List Int)) (i : Int) : (List Int) := xs.getD i.toNat ([] : List Int)
theorem at_L1 {w : World} {A : Option Addr} {n : Nat} {xs : List (List Int)} (h : Kd.C (Kd.slice 3 (Kd.int .i64)) w A n xs) (i : Int) (h0 : 0 ≤ i) (h1 : i < n) : ∃ ad A0 c0, A = some ad ∧ w.cell? (ad.add i.toNat) = some (.slice A0 (rd_L1 xs i).length c0) ∧ (rd_L1 xs i).length ≤ c0 ∧ (Kd.int .i64).C w A0 (rd_L1 xs i).length (rd_L1 xs i) := by
 obtain ⟨ad, c, e, _, hK, hc0⟩ := Kd.C_get h ([] : List Int) i h0 h1
 have hc : ∀ j u, c[j]? = some u → w.cell? (ad.add (i.toNat * 1 + j)) = some u := hc0
 obtain ⟨A0, c0, rfl, l0, g0⟩ := hK
 exact ⟨ad, A0, c0, e, by have hq := hc 0 _ rfl; rwa [Nat.mul_one, Nat.add_zero] at hq, l0, g0⟩
structure S37 where
 f0 : Int
 f1 : Int
 f2 : Int
 f3 : Int
 f4 : Int
 f5 : (List Int)
def z37 : S37 := ⟨(0 : Int), (0 : Int), (0 : Int), (0 : Int), (0 : Int), ([] : List Int)⟩
def k37 : Kd S37 := Kd.iso (Kd.pair (Kd.int .i64) (Kd.pair (Kd.int .i64) (Kd.pair (Kd.int .i64) (Kd.pair (Kd.int .i64) (Kd.pair (Kd.int .i64) (Kd.slice 3 (Kd.int .i64))))))) (fun x : S37 => (x.f0, x.f1, x.f2, x.f3, x.f4, x.f5))
theorem k37_open {w : World} {x : S37} {cs : List Value} (h : k37.K w x cs) : ∃ A5 c5, cs = [.int .i64 x.f0, .int .i64 x.f1, .int .i64 x.f2, .int .i64 x.f3, .int .i64 x.f4, .slice A5 x.f5.length c5] ∧ x.f5.length ≤ c5 ∧ (Kd.int .i64).C w A5 x.f5.length x.f5 := by
 obtain ⟨_, _, rfl, rfl, ⟨_, _, rfl, rfl, ⟨_, _, rfl, rfl, ⟨_, _, rfl, rfl, ⟨_, _, rfl, rfl, ⟨A5, c5, rfl, l5, g5⟩⟩⟩⟩⟩⟩ := h
 exact ⟨A5, c5, rfl, l5, g5⟩
theorem k37_openM {w : World} {base : Nat} {ok : Nat → Prop} {x : S37} {cs : List Value} (h : k37.M w base ok x cs) : ∃ v5, cs = [.int .i64 x.f0, .int .i64 x.f1, .int .i64 x.f2, .int .i64 x.f3, .int .i64 x.f4, v5] ∧ (Kd.int .i64).R 3 w base ok v5 x.f5 := by
 obtain ⟨_, _, rfl, rfl, ⟨_, _, rfl, rfl, ⟨_, _, rfl, rfl, ⟨_, _, rfl, rfl, ⟨_, _, rfl, rfl, ⟨v5, rfl, g5⟩⟩⟩⟩⟩⟩ := h
 exact ⟨v5, rfl, g5⟩
theorem k37_mk (w : World) (x : S37) {A5 : Option Addr} {c5 : Nat} (l5 : x.f5.length ≤ c5) (g5 : (Kd.int .i64).C w A5 x.f5.length x.f5) : k37.K w x [.int .i64 x.f0, .int .i64 x.f1, .int .i64 x.f2, .int .i64 x.f3, .int .i64 x.f4, .slice A5 x.f5.length c5] := ⟨[.int .i64 x.f0], [.int .i64 x.f1, .int .i64 x.f2, .int .i64 x.f3, .int .i64 x.f4, .slice A5 x.f5.length c5], rfl, rfl, ⟨[.int .i64 x.f1], [.int .i64 x.f2, .int .i64 x.f3, .int .i64 x.f4, .slice A5 x.f5.length c5], rfl, rfl, ⟨[.int .i64 x.f2], [.int .i64 x.f3, .int .i64 x.f4, .slice A5 x.f5.length c5], rfl, rfl, ⟨[.int .i64 x.f3], [.int .i64 x.f4, .slice A5 x.f5.length c5], rfl, rfl, ⟨[.int .i64 x.f4], [.slice A5 x.f5.length c5], rfl, rfl, ⟨A5, c5, rfl, l5, g5⟩⟩⟩⟩⟩⟩
theorem k37_mkM (w : World) (base : Nat) (ok : Nat → Prop) (x : S37) {v5 : Value} (g5 : (Kd.int .i64).R 3 w base ok v5 x.f5) : k37.M w base ok x [.int .i64 x.f0, .int .i64 x.f1, .int .i64 x.f2, .int .i64 x.f3, .int .i64 x.f4, v5] := ⟨[.int .i64 x.f0], [.int .i64 x.f1, .int .i64 x.f2, .int .i64 x.f3, .int .i64 x.f4, v5], rfl, rfl, ⟨[.int .i64 x.f1], [.int .i64 x.f2, .int .i64 x.f3, .int .i64 x.f4, v5], rfl, rfl, ⟨[.int .i64 x.f2], [.int .i64 x.f3, .int .i64 x.f4, v5], rfl, rfl, ⟨[.int .i64 x.f3], [.int .i64 x.f4, v5], rfl, rfl, ⟨[.int .i64 x.f4], [v5], rfl, rfl, ⟨v5, rfl, g5⟩⟩⟩⟩⟩⟩
def zAF (xs : List S37) (i : Int) : S37 := xs.getD i.toNat z37
theorem zBT {w : World} {A : Option Addr} {n : Nat} {xs : List S37} (h : Kd.C k37 w A n xs) (i : Int) (h0 : 0 ≤ i) (h1 : i < n) : ∃ ad A5 c5, A = some ad ∧ w.cell? (ad.add (i.toNat * 6)) = some (.int .i64 (zAF xs i).f0) ∧ w.cell? ⟨(ad.add (i.toNat * 6)).block, (ad.add (i.toNat * 6)).off + 1, none⟩ = some (.int .i64 (zAF xs i).f1) ∧ w.cell? ⟨(ad.add (i.toNat * 6)).block, (ad.add (i.toNat * 6)).off + 2, none⟩ = some (.int .i64 (zAF xs i).f2) ∧ w.cell? ⟨(ad.add (i.toNat * 6)).block, (ad.add (i.toNat * 6)).off + 3, none⟩ = some (.int .i64 (zAF xs i).f3) ∧ w.cell? ⟨(ad.add (i.toNat * 6)).block, (ad.add (i.toNat * 6)).off + 4, none⟩ = some (.int .i64 (zAF xs i).f4) ∧ w.cell? ⟨(ad.add (i.toNat * 6)).block, (ad.add (i.toNat * 6)).off + 5, none⟩ = some (.slice A5 (zAF xs i).f5.length c5) ∧ (zAF xs i).f5.length ≤ c5 ∧ (Kd.int .i64).C w A5 (zAF xs i).f5.length (zAF xs i).f5 := by
 obtain ⟨ad, c, e, _, hK, hc0⟩ := Kd.C_get h z37 i h0 h1
 have hc : ∀ j u, c[j]? = some u → w.cell? (ad.add (i.toNat * 6 + j)) = some u := hc0
 obtain ⟨A5, c5, rfl, l5, g5⟩ := k37_open hK
 exact ⟨ad, A5, c5, e, hc 0 _ rfl, by rw [← zBP _ _ 1 (by omega)]; exact hc 1 _ rfl, by rw [← zBP _ _ 2 (by omega)]; exact hc 2 _ rfl, by rw [← zBP _ _ 3 (by omega)]; exact hc 3 _ rfl, by rw [← zBP _ _ 4 (by omega)]; exact hc 4 _ rfl, by rw [← zBP _ _ 5 (by omega)]; exact hc 5 _ rfl, l5, g5⟩
structure S27 where
 f0 : Int
 f1 : Int
 f2 : Int
 f3 : Int
def z27 : S27 := ⟨(0 : Int), (0 : Int), (0 : Int), (0 : Int)⟩
def k27 : Kd S27 := Kd.iso (Kd.pair (Kd.int .i64) (Kd.pair (Kd.int .i64) (Kd.pair (Kd.int .i64) (Kd.int .i64)))) (fun x : S27 => (x.f0, x.f1, x.f2, x.f3))
theorem k27_open {w : World} {x : S27} {cs : List Value} (h : k27.K w x cs) : cs = [.int .i64 x.f0, .int .i64 x.f1, .int .i64 x.f2, .int .i64 x.f3] := by
 obtain ⟨_, _, rfl, rfl, ⟨_, _, rfl, rfl, ⟨_, _, rfl, rfl, rfl⟩⟩⟩ := h
 exact rfl
theorem k27_openM {w : World} {base : Nat} {ok : Nat → Prop} {x : S27} {cs : List Value} (h : k27.M w base ok x cs) : cs = [.int .i64 x.f0, .int .i64 x.f1, .int .i64 x.f2, .int .i64 x.f3] := by
 obtain ⟨_, _, rfl, rfl, ⟨_, _, rfl, rfl, ⟨_, _, rfl, rfl, rfl⟩⟩⟩ := h
 exact rfl
theorem k27_mk (w : World) (x : S27)  : k27.K w x [.int .i64 x.f0, .int .i64 x.f1, .int .i64 x.f2, .int .i64 x.f3] := ⟨[.int .i64 x.f0], [.int .i64 x.f1, .int .i64 x.f2, .int .i64 x.f3], rfl, rfl, ⟨[.int .i64 x.f1], [.int .i64 x.f2, .int .i64 x.f3], rfl, rfl, ⟨[.int .i64 x.f2], [.int .i64 x.f3], rfl, rfl, rfl⟩⟩⟩
theorem k27_mkM (w : World) (base : Nat) (ok : Nat → Prop) (x : S27)  : k27.M w base ok x [.int .i64 x.f0, .int .i64 x.f1, .int .i64 x.f2, .int .i64 x.f3] := ⟨[.int .i64 x.f0], [.int .i64 x.f1, .int .i64 x.f2, .int .i64 x.f3], rfl, rfl, ⟨[.int .i64 x.f1], [.int .i64 x.f2, .int .i64 x.f3], rfl, rfl, ⟨[.int .i64 x.f2], [.int .i64 x.f3], rfl, rfl, rfl⟩⟩⟩
structure S29 where
 f0 : (List S37)
 f1 : S27
def z29 : S29 := ⟨([] : List S37), z27⟩
def k29 : Kd S29 := Kd.iso (Kd.pair (Kd.slice 37 k37) k27) (fun x : S29 => (x.f0, x.f1))
theorem k29_open {w : World} {x : S29} {cs : List Value} (h : k29.K w x cs) : ∃ A0 c0, cs = [.slice A0 x.f0.length c0, .int .i64 x.f1.f0, .int .i64 x.f1.f1, .int .i64 x.f1.f2, .int .i64 x.f1.f3] ∧ x.f0.length ≤ c0 ∧ k37.C w A0 x.f0.length x.f0 := by
 obtain ⟨_, _, rfl, ⟨A0, c0, rfl, l0, g0⟩, s1⟩ := h
 obtain rfl := k27_open s1
 exact ⟨A0, c0, rfl, l0, g0⟩
theorem k29_openM {w : World} {base : Nat} {ok : Nat → Prop} {x : S29} {cs : List Value} (h : k29.M w base ok x cs) : ∃ v0, cs = [v0, .int .i64 x.f1.f0, .int .i64 x.f1.f1, .int .i64 x.f1.f2, .int .i64 x.f1.f3] ∧ k37.R 37 w base ok v0 x.f0 := by
 obtain ⟨_, _, rfl, ⟨v0, rfl, g0⟩, s1⟩ := h
 obtain rfl := k27_openM s1
 exact ⟨v0, rfl, g0⟩
theorem k29_mk (w : World) (x : S29) {A0 : Option Addr} {c0 : Nat} (l0 : x.f0.length ≤ c0) (g0 : k37.C w A0 x.f0.length x.f0) : k29.K w x [.slice A0 x.f0.length c0, .int .i64 x.f1.f0, .int .i64 x.f1.f1, .int .i64 x.f1.f2, .int .i64 x.f1.f3] := ⟨[.slice A0 x.f0.length c0], [.int .i64 x.f1.f0, .int .i64 x.f1.f1, .int .i64 x.f1.f2, .int .i64 x.f1.f3], rfl, ⟨A0, c0, rfl, l0, g0⟩, (k27_mk w x.f1 )⟩
theorem k29_mkM (w : World) (base : Nat) (ok : Nat → Prop) (x : S29) {v0 : Value} (g0 : k37.R 37 w base ok v0 x.f0) : k29.M w base ok x [v0, .int .i64 x.f1.f0, .int .i64 x.f1.f1, .int .i64 x.f1.f2, .int .i64 x.f1.f3] := ⟨[v0], [.int .i64 x.f1.f0, .int .i64 x.f1.f1, .int .i64 x.f1.f2, .int .i64 x.f1.f3], rfl, ⟨v0, rfl, g0⟩, (k27_mkM w base ok x.f1 )⟩
def zAQ (xs : List S29) (i : Int) : S29 := xs.getD i.toNat z29
theorem at_T29 {w : World} {A : Option Addr} {n : Nat} {xs : List S29} (h : Kd.C k29 w A n xs) (i : Int) (h0 : 0 ≤ i) (h1 : i < n) : ∃ ad A0 c0, A = some ad ∧ w.cell? (ad.add (i.toNat * 5)) = some (.slice A0 (zAQ xs i).f0.length c0) ∧ w.cell? ⟨(ad.add (i.toNat * 5)).block, (ad.add (i.toNat * 5)).off + 1, none⟩ = some (.int .i64 (zAQ xs i).f1.f0) ∧ w.cell? ⟨(ad.add (i.toNat * 5)).block, (ad.add (i.toNat * 5)).off + 2, none⟩ = some (.int .i64 (zAQ xs i).f1.f1) ∧ w.cell? ⟨(ad.add (i.toNat * 5)).block, (ad.add (i.toNat * 5)).off + 3, none⟩ = some (.int .i64 (zAQ xs i).f1.f2) ∧ w.cell? ⟨(ad.add (i.toNat * 5)).block, (ad.add (i.toNat * 5)).off + 4, none⟩ = some (.int .i64 (zAQ xs i).f1.f3) ∧ (zAQ xs i).f0.length ≤ c0 ∧ k37.C w A0 (zAQ xs i).f0.length (zAQ xs i).f0 := by
 obtain ⟨ad, c, e, _, hK, hc0⟩ := Kd.C_get h z29 i h0 h1
 have hc : ∀ j u, c[j]? = some u → w.cell? (ad.add (i.toNat * 5 + j)) = some u := hc0
 obtain ⟨A0, c0, rfl, l0, g0⟩ := k29_open hK
 exact ⟨ad, A0, c0, e, hc 0 _ rfl, by rw [← zBP _ _ 1 (by omega)]; exact hc 1 _ rfl, by rw [← zBP _ _ 2 (by omega)]; exact hc 2 _ rfl, by rw [← zBP _ _ 3 (by omega)]; exact hc 3 _ rfl, by rw [← zBP _ _ 4 (by omega)]; exact hc 4 _ rfl, l0, g0⟩
end Go.Proofs.Ytphmlkbmnmicpaa.A
namespace Go.Proofs.Ytphmlkbmnmicpaa.A
open Go.RowKit Go.Proofs.YtphmlkbmnmicpaaW.PrintWords Go.Proofs.YtphmlkbmnmicpaaW.PrintLast Go.Shelf Go.Lib
def Says (g : Nat) (lb : Array Value) (p : Int → Bool) (xs : List Int) (w : World) : Prop :=
 ∀ x ∈ xs, ∀ q, Calls Try.prog g (#[.int .i64 x] ++ lb) (w.drewN q) fun e w' => e = .returned (.bool (p x)) ∧ ∃ q', w' = (w.drewN q).drewN q'
def firstOf (p : Int → Bool) (xs : List Int) : Int := match xs.findIdx? p with | some i => i | none => -1
theorem firstOf_hit (p : Int → Bool) (xs : List Int) (k : Nat) (hk : k < xs.length) (h1 : ∀ j, j < k → p (xs.getD j 0) = false) (h2 : p (xs.getD k 0) = true) : firstOf p xs = k := by
 have : xs.findIdx? p = some k := by
  rw [List.findIdx?_eq_some_iff_getElem]
  refine ⟨hk, by simpa [List.getD_eq_getElem?_getD, hk] using h2, fun j hj => ?_⟩
  have := h1 j hj
  simpa [List.getD_eq_getElem?_getD, Nat.lt_trans hj hk] using this
 rw [firstOf, this]
theorem firstOf_miss (p : Int → Bool) (xs : List Int) (h1 : ∀ j, j < xs.length → p (xs.getD j 0) = false) : firstOf p xs = -1 := by
 have : xs.findIdx? p = none := by
  rw [List.findIdx?_eq_none_iff]
  intro x hx
  obtain ⟨j, hj, rfl⟩ := List.getElem_of_mem hx
  have := h1 j hj
  simpa [List.getD_eq_getElem?_getD, hj] using this
 rw [firstOf, this]
theorem firstOf_any (p : Int → Bool) (xs : List Int) : decide (0 ≤ firstOf p xs) = xs.any p := by
 unfold firstOf
 cases h : xs.findIdx? p with
 | none =>
  rw [List.findIdx?_eq_none_iff] at h
  simp only [show ¬ (0 : Int) ≤ -1 by omega, decide_false]
  symm
  rw [List.any_eq_false]
  intro x hx
  simp [h x hx]
 | some i =>
  simp only [show (0 : Int) ≤ (i : Int) by omega, decide_true]
  symm
  rw [List.findIdx?_eq_some_iff_getElem] at h
  obtain ⟨hi, hp, _⟩ := h
  rw [List.any_eq_true]
  exact ⟨_, List.getElem_mem hi, hp⟩
set_option maxHeartbeats 2000000 in
theorem indexFunc_calls (p : Int → Bool) (g : Nat) (lb : Array Value) (eg : ∀ args w, (callFunc g args).run Try.prog w = .ok (.enter g args) w) (A : Option Addr) (c : Nat) (xs : List Int) (w : World)
  (hx : Kd.C (Kd.int .i64) w A xs.length xs) (hp : Says g lb p xs w) :
  Calls Try.prog 51 #[.slice A xs.length c, .func (.func g) #[] lb] w fun e w' => e = .returned (.int .i64 (firstOf p xs)) ∧ ∃ q, w' = w.drewN q := by
 have hbig : xs.length ≤ 9223372036854775807 := Kd.C_max hx
 go_enter Try.func51, Try.ntmps51
 go_wp2
 go_loopg [5, 8] xs.length (fun gg _ s8 wr => ∃ kk q : Nat, kk ≤ xs.length ∧ xs.length - kk ≤ gg ∧ s8 = .int .i64 kk ∧ wr = w.drewN q ∧ Aside0 (∀ j, j < kk → p (xs.getD j 0) = false))
 case atStart => exact ⟨0, 0, Nat.zero_le _, by omega, rfl, rfl, ⟨fun j hj => absurd hj (Nat.not_lt_zero _)⟩⟩
 case round =>
  obtain ⟨kk, q, hkk, hg, rfl, rfl, HA⟩ := hrel
  by_cases hlt : kk < xs.length
  ·have hltz : (kk : Int) < (xs.length : Int) := by omega
   obtain ⟨ad, rfl, hcell⟩ := Kd.at_int hx kk (by omega) (by omega)
   have hmem : rd xs kk ∈ xs := by
    unfold rd
    simp only [Int.toNat_natCast, List.getD_eq_getElem?_getD, List.getElem?_eq_getElem hlt, Option.getD_some]
    exact List.getElem_mem hlt
   have hcall := hp _ hmem
   have hB : Aside0 (rd xs kk = xs.getD kk 0) := ⟨by simp [rd]⟩
   rw [Int.toNat_natCast] at hcell
   generalize rd xs kk = y at hcell hcall hB
   clear hmem hp hx
   cases hq : p y with
   | true =>
    rw [hq] at hcall
    have hq' := Aside0.mk hq
    clear hq
    go_wp2_with (go_at_fn g; refine (hcall _).mono ?_; rintro e w' ⟨rfl, q', rfl⟩)
    go_ret
    refine ⟨?_, _, rfl⟩
    rw [firstOf_hit p xs kk hlt HA.out (by rw [← hB.out]; exact hq'.out)]
    rfl
   | false =>
    rw [hq] at hcall
    have hq' := Aside0.mk hq
    clear hq
    go_wp2_with (go_at_fn g; refine (hcall _).mono ?_; rintro e w' ⟨rfl, q', rfl⟩)
    go_roundg (xs.length - (kk + 1))
    case measure => omega
    case rel =>
     refine ⟨kk + 1, _, by omega, by omega, by go_num, rfl, ⟨fun j hj => ?_⟩⟩
     by_cases e : j = kk
     ·subst e
      rw [← hB.out]; exact hq'.out
     ·exact HA.out j (by omega)
  ·have hltz : ¬ (kk : Int) < (xs.length : Int) := by omega
   obtain rfl : kk = xs.length := by omega
   go_wp2
   go_ret
   refine ⟨?_, q, rfl⟩
   rw [firstOf_miss p xs HA.out]
   rfl
set_option maxHeartbeats 1000000 in
theorem containsFunc_calls (p : Int → Bool) (g : Nat) (lb : Array Value) (eg : ∀ args w, (callFunc g args).run Try.prog w = .ok (.enter g args) w) (A : Option Addr) (c : Nat) (xs : List Int) (w : World)
  (hx : Kd.C (Kd.int .i64) w A xs.length xs) (hp : Says g lb p xs w) :
  Calls Try.prog 37 #[.slice A xs.length c, .func (.func g) #[] lb] w fun e w' => e = .returned (.bool (xs.any p)) ∧ ∃ q, w' = w.drewN q := by
 rw [← firstOf_any]
 go_enter Try.func37, Try.ntmps37
 go_wp2_with (go_at_call 51; refine (indexFunc_calls p g lb eg A c xs _ hx hp).mono ?_; rintro e w' ⟨rfl, q, rfl⟩)
 go_ret
 exact ⟨rfl, q, rfl⟩
end Go.Proofs.Ytphmlkbmnmicpaa.A
namespace Go.Proofs.Ytphmlkbmnmicpaa.A
open Go.RowKit Go.Proofs.YtphmlkbmnmicpaaW.PrintWords Go.Proofs.YtphmlkbmnmicpaaW.PrintLast Go.Shelf
attribute [local go_sem] Oper.semAt_some
def down (n k : Nat) : List Nat := (List.range (n - k)).map fun j => n - 1 - j
theorem down_length (n k : Nat) : (down n k).length = n - k := by simp [down]
theorem down_succ (n k : Nat) (h : k + 1 ≤ n) : down n k = down n (k + 1) ++ [k] := by
 unfold down
 rw [show n - k = (n - (k + 1)) + 1 by omega, List.range_succ, List.map_append]
 congr 1
 simp
 omega
theorem down_self (n : Nat) : down n n = [] := by simp [down]
def zCD (n₀ B : Nat) (W W' : World) : Prop := Below n₀ W W' ∧ ∀ o, W.heap[B]? = some o → W'.heap[B]? = some o
theorem keepsAnd_t {n₀ B : Nat} {X Y Z : World} (h : zCD n₀ B X Y) (k : zCD n₀ B Y Z) : zCD n₀ B X Z := ⟨h.1.trans k.1, fun o ho => k.2 o (h.2 o ho)⟩
theorem keepsAnd_refl (n₀ B : Nat) (X : World) : zCD n₀ B X X := ⟨Below.refl _ _, fun _ h => h⟩
theorem keepsAnd_b {n₀ B : Nat} {w : World} (hn : n₀ ≤ w.heap.size) (hB : B < w.heap.size) (W : World) (l : Nat) (o o' : Obj) (hl : w.heap.size ≤ l) (h : W.heap[l]? = some o) (hc : o.isCells = false) (hw : o.isWalk = false) : zCD n₀ B W (W.putObj l o') :=
 ⟨belowK_b hn W l o o' hl h hc hw, fun p hp => (World.putObj_heap_other (by omega)).trans hp⟩
set_option maxRecDepth 100000 in
set_option maxHeartbeats 2000000 in
theorem back1_in (n : Nat) (hn : 1 ≤ n) (l Bs n₀ len cap : Nat) (A : Option Addr) (ad : Addr) (sv : Nat → Value) (hreach : len ≤ 9223372036854775807) (hA : 0 < len → A = some ad ∧ ad.block < n₀) (J Jx : List Nat → World → Prop)
  (hY : ∀ pre (x : Nat) W, x < len → J pre W → pre.length < len → YieldAt Fence.wide (n - 1) Try.prog l #[.int .i64 (x : Int), sv x] W fun e W' =>
   (e = .returned (.bool true) ∧ J (pre ++ [x]) W' ∧ zCD n₀ Bs W W') ∨ (e = .returned (.bool false) ∧ Jx (pre ++ [x]) W'))
  (W : World) (hBs : Boxed W Bs 40 (.slice A len cap)) (hc : ∀ j, j < len → W.cell? (ad.add j) = some (sv j)) (h0 : J [] W) :
  CallsIn Fence.wide n Try.prog 55 #[.func (.yield l) #[] #[], .pointer (some ⟨Bs, 0, none⟩)] W fun e W' => (∃ v, e = .returned v) ∧
   ((∃ ys, ys = down len 0 ∧ J ys W') ∨ (∃ pre, (∃ k, k ≤ len ∧ pre = down len k) ∧ Jx pre W')) := by
 refine callsIn_of_wp Try.func55 rfl trivial ?_ rfl
 simp only [Try.ntmps55, List.size_toArray, List.length_cons, List.length_nil, Nat.reduceAdd, Nat.reduceSub, Array.replicate_succ, Array.replicate_zero, List.push_toArray, List.append_toArray, List.nil_append, List.cons_append]
 have hBs0 := hBs.cell
 gi_wp2
 gi_loopw [3] (fun i wr => ∃ k : Nat, k ≤ len ∧ i = .int .i64 ((k : Int) - 1) ∧ J (down len k) wr ∧ zCD n₀ Bs W wr)
  (fun i _ => (intOf i + 1).toNat)
 case atStart => exact ⟨len, Nat.le_refl _, rfl, by rw [down_self]; exact h0, keepsAnd_refl _ _ _⟩
 case round =>
  obtain ⟨k, hk, rfl, hJs, hnx⟩ := hrel
  have hBs' : wr.cell? ⟨Bs, 0, none⟩ = some (.slice A len cap) := Boxed.cell (hnx.2 _ hBs)
  cases k with
  | zero =>
   gi_wp2
   go_end0
   exact ⟨⟨_, rfl⟩, .inl ⟨_, rfl, hJs⟩⟩
  | succ k =>
   obtain ⟨rfl, hb⟩ := hA (by omega)
   have hcx : wr.cell? (ad.add k) = some (sv k) := (hnx.1.cell (p := ad.add k) (by unfold Addr.add; split <;> exact hb)).trans (hc k (by omega))
   obtain ⟨fn, tmps, assign, body, hy, hR⟩ := hY _ k wr (by omega) hJs (by rw [down_length]; omega)
   have e1 : ((k + 1 : Nat) : Int) - 1 = (k : Int) := by omega
   rw [e1]
   have hklt : (k : Int) < (len : Int) := by omega
   gi_wp2
   refine hR.mono ?_
   rintro e W3 (⟨rfl, hJ3, hk3⟩ | ⟨rfl, hJx3⟩)
   ·gi_wp2
    go_roundw
    case rel => exact ⟨k, by omega, rfl, by rw [down_succ len k (by omega)]; exact hJ3, keepsAnd_t hnx hk3⟩
    case measure => simp [intOf]
   ·gi_wp2
    refine bodyPost_ret (results_none rfl _ _ _) rfl ?_
    exact ⟨⟨_, rfl⟩, .inr ⟨_, ⟨k, by omega, (down_succ len k (by omega)).symm⟩, hJx3⟩⟩
set_option maxHeartbeats 1000000 in
theorem back_in (n : Nat) (A : Option Addr) (len cap : Nat) (w : World) :
  CallsIn Fence.wide n Try.prog 50 #[.slice A len cap] w fun e w' => e = .returned (.func (.func 55) #[] #[.pointer (some ⟨w.heap.size, 0, none⟩)]) ∧ w' = w.alloc (.cells #[.slice A len cap] 40) := by
 refine callsIn_of_wp Try.func50 rfl trivial ?_ rfl
 simp only [Try.ntmps50, List.size_toArray, List.length_cons, List.length_nil, Nat.reduceAdd, Nat.reduceSub, Array.replicate_succ, Array.replicate_zero, List.push_toArray, List.append_toArray, List.nil_append, List.cons_append]
 gi_wp2
 go_ret
 exact ⟨rfl, rfl⟩
def zBY {len : Nat} (zs : List (Fin len)) : List Nat := zs.map Fin.val
theorem placesOf_snoc {len : Nat} (zs : List (Fin len)) (x : Fin len) : zBY (zs ++ [x]) = zBY zs ++ [x.val] := by simp [zBY]
theorem placesOf_length {len : Nat} (zs : List (Fin len)) : (zBY zs).length = zs.length := by simp [zBY]
theorem back_stops (n : Nat) (hn : 1 ≤ n) (Bs n₀ len cap : Nat) (A : Option Addr) (ad : Addr) (sv : Nat → Value) (hreach : len ≤ 9223372036854775807) (hA : 0 < len → A = some ad ∧ ad.block < n₀) (w : World) (hn₀ : n₀ ≤ w.heap.size)
  (hBs : Boxed w Bs 40 (.slice A len cap)) (hc : ∀ j, j < len → w.cell? (ad.add j) = some (sv j)) :
  SeqStopsK Fence.wide n Try.prog 55 #[.pointer (some ⟨Bs, 0, none⟩)] (fun x : Fin len => #[Value.int .i64 (x.val : Int), sv x.val]) (zCD n₀ Bs) (fun ys => zBY ys = down len 0)
   (fun pre => ∃ k, k ≤ len ∧ zBY pre = down len k) len w := fun l J Jx W hW _ _ hY h0 => by
 refine (back1_in n hn l Bs n₀ len cap A ad sv hreach hA (fun ys W => ∃ zs, zBY zs = ys ∧ J zs W) (fun ys W => ∃ zs, zBY zs = ys ∧ Jx zs W) ?_ W ((hW.block Bs hBs.lt).trans hBs) (fun j hj => ?_) ⟨[], rfl, h0⟩).mono ?_
 ·rintro pre x W hx ⟨zs, rfl, hJ⟩ hlt
  refine YieldAt.mono (hY zs ⟨x, hx⟩ W hJ (by rw [← placesOf_length]; exact hlt)) ?_
  rintro e w (⟨rfl, hJ', hK⟩ | ⟨rfl, hJ'⟩)
  ·exact .inl ⟨rfl, ⟨_, placesOf_snoc _ _, hJ'⟩, hK⟩
  ·exact .inr ⟨rfl, _, placesOf_snoc _ _, hJ'⟩
 ·exact (hW.cell (p := ad.add j) (World.block_lt_of_cell? w _ (hc j hj))).trans (hc j hj)
 ·rintro e W' ⟨he, ⟨ys, rfl, zs, hz, hJ⟩ | ⟨pre, ⟨k, hk, rfl⟩, zs, hz, hJ⟩⟩
  ·exact ⟨he, .inl ⟨zs, hz, hJ⟩⟩
  ·exact ⟨he, .inr ⟨zs, ⟨k, hk, hz⟩, hJ⟩⟩
theorem rows_open {w : World} {A : Option Addr} {d : List (List Int)} (h : Kd.C (Kd.slice 3 (Kd.int .i64)) w A d.length d) :
  ∃ (ad : Addr) (f : Nat → Option Addr × Nat), (0 < d.length → A = some ad ∧ ad.block < w.heap.size) ∧
   ∀ j, j < d.length → w.cell? (ad.add j) = some (.slice (f j).1 (rd_L1 d j).length (f j).2) ∧ (rd_L1 d j).length ≤ (f j).2 ∧ (Kd.int .i64).C w (f j).1 (rd_L1 d j).length (rd_L1 d j) := by
 have key : ∀ j : Nat, ∃ p : Option Addr × Nat, j < d.length → ∃ ad, A = some ad ∧ w.cell? (ad.add j) = some (.slice p.1 (rd_L1 d j).length p.2) ∧ (rd_L1 d j).length ≤ p.2 ∧ (Kd.int .i64).C w p.1 (rd_L1 d j).length (rd_L1 d j) := by
  intro j
  by_cases hj : j < d.length
  ·obtain ⟨ad, A0, c0, e, hc, hl, hk⟩ := at_L1 h (j : Int) (by omega) (by omega)
   exact ⟨(A0, c0), fun _ => ⟨ad, e, by simpa using hc, hl, hk⟩⟩
  ·exact ⟨(none, 0), fun h => absurd h hj⟩
 obtain ⟨f, hf⟩ := Classical.axiomOfChoice key
 by_cases h0 : 0 < d.length
 ·obtain ⟨ad, e, hc, _⟩ := hf 0 h0
  refine ⟨ad, f, fun _ => ⟨e, ?_⟩, fun j hj => ?_⟩
  ·have := World.block_lt_of_cell? w _ hc
   unfold Addr.add at this
   simpa using this
  ·obtain ⟨ad', e', hc', hl, hk⟩ := hf j hj
   obtain rfl : ad = ad' := by rw [e] at e'; exact Option.some.inj e'
   exact ⟨hc', hl, hk⟩
 ·exact ⟨⟨0, 0, none⟩, f, fun h => absurd h h0, fun j hj => absurd hj (by omega)⟩
end Go.Proofs.Ytphmlkbmnmicpaa.A
namespace Go.Proofs.Ytphmlkbmnmicpaa.A
open Go.RowKit Go.Proofs.YtphmlkbmnmicpaaW.PrintWords Go.Proofs.YtphmlkbmnmicpaaW.PrintLast Go.Shelf
def readyB (ps : List Bool) (d : List (List Int)) (i : Nat) : Bool := !(ps.getD i false) && !((rd_L1 d i).any fun k => !(ps.getD k.toNat false))
structure OI (Bp g Bd : Nat) (A : Option Addr) (c n : Nat) (ps : List Bool) (d : List (List Int)) (W : World) : Prop where
 len : ps.length = n
 dlen : d.length = n
 bp : Boxed W Bp 53 (.slice (some ⟨g, 0, none⟩) n n)
 row : W.heap[g]? = some (.cells (bools ps).toArray 4 (0, 0))
 bd : Boxed W Bd 40 (.slice A n c)
 ds : Kd.C (Kd.slice 3 (Kd.int .i64)) W A n d
theorem OI.drewN {Bp g Bd : Nat} {A : Option Addr} {c n : Nat} {ps : List Bool} {d : List (List Int)} {W : World} (h : OI Bp g Bd A c n ps d W) (q : Nat) : OI Bp g Bd A c n ps d (W.drewN q) :=
 ⟨h.len, h.dlen, h.bp, h.row, h.bd, Kd.C_below h.ds (zAA (Below.refl _ _) q)⟩
theorem OI.cell {Bp g Bd : Nat} {A : Option Addr} {c n : Nat} {ps : List Bool} {d : List (List Int)} {W : World} (h : OI Bp g Bd A c n ps d W) (i : Nat) (hi : i < n) : W.cell? ⟨g, i, none⟩ = some (.bool (ps.getD i false)) := by
 rw [zAE h.row i]
 have : i < ps.length := by rw [h.len]; exact hi
 simp [bools, this, List.getD_eq_getElem?_getD]
set_option maxHeartbeats 1000000 in
theorem notPlaced_calls (Bp g Bd : Nat) (A : Option Addr) (c n : Nat) (ps : List Bool) (d : List (List Int)) (W : World) (h : OI Bp g Bd A c n ps d W) (x : Int) (h0 : 0 ≤ x) (h1 : x < n) :
  Calls Try.prog 38 #[.int .i64 x, .pointer (some ⟨Bp, 0, none⟩)] W fun e w' => e = .returned (.bool (!(ps.getD x.toNat false))) ∧ W = w' := by
 have k0 := h.bp.cell
 have k1 := h.cell x.toNat (by omega)
 generalize ps.getD x.toNat false = b at k1 ⊢
 clear h
 go_enter Try.func38, Try.ntmps38
 go_wp2
 go_ret
 exact ⟨rfl, rfl⟩
set_option maxHeartbeats 1000000 in
theorem ready_calls (Bp g Bd : Nat) (A : Option Addr) (c n : Nat) (ps : List Bool) (d : List (List Int)) (W : World) (h : OI Bp g Bd A c n ps d W) (hrow : ∀ i, i < n → ∀ k ∈ rd_L1 d i, 0 ≤ k ∧ k < n) (i : Nat) (hi : i < n) :
  Calls Try.prog 36 #[.int .i64 (i : Int), .pointer (some ⟨Bp, 0, none⟩), .pointer (some ⟨Bd, 0, none⟩)] W fun e w' => e = .returned (.bool (readyB ps d i)) ∧ ∃ q, w' = W.drewN q := by
 have k0 := h.bp.cell
 have k1 := h.cell i hi
 have k2 := h.bd.cell
 obtain ⟨ad, A0, c0, rfl, q0, q1, q2⟩ := at_L1 h.ds (i : Int) (by omega) (by omega)
 rw [Int.toNat_natCast] at q0
 have hii : (i : Int) < (n : Int) := by omega
 have hc := containsFunc_calls (fun k => !(ps.getD k.toNat false)) 38 #[.pointer (some ⟨Bp, 0, none⟩)] (enters_of Try.func38 (by kernel_rfl) rfl) A0 c0 (rd_L1 d i) W q2
  (fun x hx q => (notPlaced_calls Bp g Bd _ c n ps d _ (h.drewN q) x (hrow i hi x hx).1 (hrow i hi x hx).2).mono fun e w' ⟨he, hw⟩ => ⟨he, 0, by rw [← hw]; rfl⟩)
 have hr : Aside0 (readyB ps d i = (!(ps.getD i false) && !((rd_L1 d i).any fun k => !(ps.getD k.toNat false)))) := ⟨rfl⟩
 generalize hp : ps.getD i false = b at k1 hr
 generalize hq : ((rd_L1 d i).any fun k => !(ps.getD k.toNat false)) = b2 at hc hr
 generalize (rd_L1 d (i : Int)).length = rl at q0 q1 hc
 clear h hrow hp hq q1 q2
 cases b
 ·go_enter Try.func36, Try.ntmps36
  go_wp2_with (go_at_call 37; refine hc.mono ?_; rintro e w' ⟨rfl, q, rfl⟩)
  go_ret
  exact ⟨by rw [hr.out]; cases b2 <;> rfl, q, rfl⟩
 ·go_enter Try.func36, Try.ntmps36
  go_wp2
  go_ret
  exact ⟨by rw [hr.out]; rfl, 0, rfl⟩
set_option maxHeartbeats 1000000 in
theorem same_calls (x : Int) (W : World) : Calls Try.prog 40 #[.int .i64 x] W fun e w' => e = .returned (.int .i64 x) ∧ W = w' := by
 go_enter Try.func40, Try.ntmps40
 go_wp2
 go_ret
 exact ⟨rfl, rfl⟩
end Go.Proofs.Ytphmlkbmnmicpaa.A
namespace Go.Proofs.Ytphmlkbmnmicpaa.A
open Go.RowKit Go.Proofs.YtphmlkbmnmicpaaW.PrintWords Go.Proofs.YtphmlkbmnmicpaaW.PrintLast Go.Shelf
def bestStep (h : List Int) (rdy : Nat → Bool) (at_ : Int) (i : Nat) : Int := if rdy i && (decide (at_ < 0) || decide (rd h at_ < rd h i)) then i else at_
def zBD (h : List Int) (rdy : Nat → Bool) (k : Nat) : Int := (List.range k).foldl (bestStep h rdy) (-1)
theorem bestUpto_succ (h : List Int) (rdy : Nat → Bool) (k : Nat) : zBD h rdy (k + 1) = bestStep h rdy (zBD h rdy k) k := by simp [zBD, List.range_succ]
theorem bestUpto_range (h : List Int) (rdy : Nat → Bool) (k : Nat) : -1 ≤ zBD h rdy k ∧ zBD h rdy k < k + (if k = 0 then 1 else 0) := by
 induction k with
 | zero => exact ⟨Int.le_refl _, by simp [zBD]⟩
 | succ k ih =>
  rw [bestUpto_succ]
  unfold bestStep
  split
  ·constructor <;> simp; omega
  ·have := ih.1
   have := ih.2
   split at this <;> simp at * <;> omega
set_option maxRecDepth 100000 in
set_option maxHeartbeats 2000000 in
theorem best_calls (Bp g Bd : Nat) (A : Option Addr) (c n : Nat) (ps : List Bool) (d : List (List Int)) (W : World) (h : OI Bp g Bd A c n ps d W) (hrow : ∀ i, i < n → ∀ k ∈ rd_L1 d i, 0 ≤ k ∧ k < n)
  (hs : List Int) (Ah : Option Addr) (ch : Nat) (hh : Kd.C (Kd.int .i64) W Ah n hs) :
  Calls Try.prog 39 #[.slice Ah n ch, .func (.func 36) #[] #[.pointer (some ⟨Bp, 0, none⟩), .pointer (some ⟨Bd, 0, none⟩)], .func (.func 40) #[] #[]] W fun e w' =>
   e = .returned (.int .i64 (zBD hs (readyB ps d) n)) ∧ ∃ q, w' = W.drewN q := by
 have hbig : n ≤ 9223372036854775807 := Kd.C_max hh
 have hlen : hs.length = n := Kd.C_len hh
 have hlen' := Aside0.mk hlen
 clear hlen
 go_enter Try.func39, Try.ntmps39
 go_wp2
 go_loopg [7, 12] n (fun gg s7 s12 wr => ∃ kk q : Nat, kk ≤ n ∧ n - kk ≤ gg ∧ s7 = .int .i64 (zBD hs (readyB ps d) kk) ∧ s12 = .int .i64 kk ∧ Aside0 (wr = W.drewN q))
 case atStart => exact ⟨0, 0, Nat.zero_le _, by omega, rfl, rfl, ⟨rfl⟩⟩
 case round =>
  obtain ⟨kk, q, hkk, hg, rfl, rfl, HW⟩ := hrel
  by_cases hlt : kk < n
  ·have hltz : (kk : Int) < (n : Int) := by omega
   obtain ⟨ad, rfl, hcell⟩ := Kd.at_int hh (kk : Int) (by omega) (by omega)
   rw [Int.toNat_natCast] at hcell
   have hrd : ∀ q, Calls Try.prog 36 _ (wr.drewN q) _ := fun q1 => ready_calls Bp g Bd A c n ps d (wr.drewN q1) (by rw [HW.out]; exact (h.drewN q).drewN q1) hrow kk hlt
   have hcell : wr.cell? (ad.add kk) = some (.int .i64 (rd hs kk)) := by rw [HW.out]; exact hcell
   have hsuc := Aside0.mk (bestUpto_succ hs (readyB ps d) kk)
   have hb := bestUpto_range hs (readyB ps d) kk
   have hb1 : zBD hs (readyB ps d) kk < n := by
    have := hb.2
    split at this <;> omega
   have hb0 := hb.1
   clear hb
   have hbc : 0 ≤ zBD hs (readyB ps d) kk → wr.cell? (ad.add (zBD hs (readyB ps d) kk).toNat) = some (.int .i64 (rd hs (zBD hs (readyB ps d) kk))) := by
    intro h0
    obtain ⟨ad', e, hc⟩ := Kd.at_int hh (zBD hs (readyB ps d) kk) h0 hb1
    obtain rfl : ad = ad' := Option.some.inj e
    rw [HW.out]
    exact hc
   have hst := Aside0.mk (show bestStep hs (readyB ps d) (zBD hs (readyB ps d) kk) kk = if readyB ps d kk && (decide (zBD hs (readyB ps d) kk < 0) || decide (rd hs (zBD hs (readyB ps d) kk) < rd hs kk)) then (kk : Int) else zBD hs (readyB ps d) kk from rfl)
   generalize hbe : zBD hs (readyB ps d) kk = b at *
   generalize hre : readyB ps d kk = r at hrd hst
   generalize hhk : rd hs (kk : Int) = hk at hcell hst
   clear hre hhk
   have hbe' := Aside0.mk hbe
   clear hbe
   clear hh h hrow
   have fin : ∀ (x : Int), Aside0 (zBD hs (readyB ps d) (kk + 1) = x) → ∀ nq, ∃ q', Aside0 (wr.drewN nq = W.drewN q') := fun x _ nq => ⟨q + nq, ⟨by rw [HW.out, World.drewN_drewN]⟩⟩
   cases r with
   | false =>
    have hv : Aside0 (zBD hs (readyB ps d) (kk + 1) = b) := ⟨by rw [hsuc.out, hst.out]; rfl⟩
    clear hsuc hst hbc
    go_wp2
    go_quiet ((go_at_call 36; exact Calls.quiet_of (hrd _)))
    obtain ⟨q', hq'⟩ := fin _ hv nq
    go_wp2
    go_roundg (n - (kk + 1))
    case measure => omega
    case rel => exact ⟨kk + 1, q', by omega, by omega, by rw [hv.out], by go_num, hq'⟩
   | true =>
    by_cases hb : b < 0
    ·have hv : Aside0 (zBD hs (readyB ps d) (kk + 1) = kk) := ⟨by rw [hsuc.out, hst.out]; simp [hb]⟩
     clear hsuc hst hbc
     go_wp2
     go_quiet ((go_at_call 36; exact Calls.quiet_of (hrd _)))
     obtain ⟨q', hq'⟩ := fin _ hv nq
     go_wp2
     go_roundg (n - (kk + 1))
     case measure => omega
     case rel => exact ⟨kk + 1, q', by omega, by omega, by rw [hv.out], by go_num, hq'⟩
    ·have hb1' : 0 ≤ b := by omega
     replace hbc := hbc hb1'
     generalize rd hs b = hbv at hbc hst
     by_cases hgt : hbv < hk
     ·have hv : Aside0 (zBD hs (readyB ps d) (kk + 1) = kk) := ⟨by rw [hsuc.out, hst.out]; simp [hgt]⟩
      clear hsuc hst hb
      go_wp2
      go_quiet (first | (go_at_call 36; exact Calls.quiet_of (hrd _)) | (go_at_call 40; exact Calls.quiet_of_same ((same_calls _ _).mono fun e w' ⟨he, hw⟩ => ⟨he, hw.symm⟩)))
      obtain ⟨q', hq'⟩ := fin _ hv nq
      go_wp2
      go_roundg (n - (kk + 1))
      case measure => omega
      case rel => exact ⟨kk + 1, q', by omega, by omega, by rw [hv.out], by go_num, hq'⟩
     ·have hv : Aside0 (zBD hs (readyB ps d) (kk + 1) = b) := ⟨by rw [hsuc.out, hst.out]; simp [hgt, hb]⟩
      clear hsuc hst hb
      go_wp2
      go_quiet (first | (go_at_call 36; exact Calls.quiet_of (hrd _)) | (go_at_call 40; exact Calls.quiet_of_same ((same_calls _ _).mono fun e w' ⟨he, hw⟩ => ⟨he, hw.symm⟩)))
      obtain ⟨q', hq'⟩ := fin _ hv nq
      go_wp2
      go_roundg (n - (kk + 1))
      case measure => omega
      case rel => exact ⟨kk + 1, q', by omega, by omega, by rw [hv.out], by go_num, hq'⟩
  ·obtain rfl : kk = n := by omega
   go_wp2
   go_ret
   exact ⟨rfl, q, HW.out⟩
end Go.Proofs.Ytphmlkbmnmicpaa.A
namespace Go.Proofs.Ytphmlkbmnmicpaa.R
open Go
section
variable {F : Fence} {n : Nat} {P : Program} {ops : Array Oper} {md : Region.Mode} {C : World → Prop}
def noDefer (ops : Array Oper) : Bool := ops.all fun o => match o.op with | .defer _ => false | _ => true
theorem noDefer_spec {i : Nat} {o : Oper} (h : noDefer ops = true) (ho : ops[i]? = some o) : ∀ c, o.op ≠ .defer c := by
 intro c hc
 have h1 := Array.all_eq_true'.1 h o (Array.mem_of_getElem? ho)
 rw [hc] at h1
 cases h1
theorem semAt_any (r : Option Nat) (ρ : Operand → Value) (o : Oper) (h : ∀ c, o.op ≠ .defer c) : o.semAt r ρ = execOp ρ o := by
 cases r with
 | none => exact Oper.semAt_none _ _
 | some l => exact Oper.semAt_some l _ _ h
theorem wpIn_of_quiet {o : Oper} (hnd : ∀ c, o.op ≠ .defer c) {a : Act} {K : Act → Prop} {K' : Act → World → Prop} {Q' : Exit → Act → World → Prop} {w : World} (hw : C w) (h : ∀ a w', C w' → K a → K' a w')
  (ha : o.askedIn F P a C) (hh : o.quietIn F n P a C K) : o.wpIn F n P a w K' Q' := by
 obtain ⟨v, h1, h2⟩ := hh
 have h3 := h1 w hw
 unfold Oper.quietAtIn at h3
 unfold Oper.wpIn
 refine ⟨ha w hw, ?_⟩
 rw [semAt_any F.round _ _ hnd]
 generalize (execOp a.eval o).run P w = r at *
 cases r with
 | ok x w' =>
  cases x <;> simp only [Oper.quietUponIn] at h3 <;> simp only [Oper.uponIn]
  case value u =>
   obtain ⟨e1, e2⟩ := h3
   rw [e1, e2]
   exact h _ _ hw h2
  case skip =>
   obtain ⟨e1, e2⟩ := h3
   rw [e1, ← e2]
   exact h _ _ hw h2
  case enter f args =>
   obtain ⟨e1, hd, hc⟩ := h3
   rw [e1]
   exact ⟨hd, hc.mono fun e w'' ⟨he, hw''⟩ => by subst he; exact h _ _ hw'' h2⟩
 | halt x w' => simp only [Oper.quietUponIn] at h3
theorem wpOpIn_of_qOpIn {i : Nat} {a : Act} {K : Act → Prop} {K' : Act → World → Prop} {Q' : Exit → Act → World → Prop} {w : World} (hnd : noDefer ops = true) (hC : C w) (h : ∀ a w', C w' → K a → K' a w')
  (hh : qOpIn F n P ops C i K a) : wpOpIn F n P ops Q' i K' a w := by
 unfold qOpIn at hh
 unfold wpOpIn
 split
 ·rename_i ho; simp only [ho] at hh; exact h _ _ hC hh
 ·rename_i o ho
  simp only [ho] at hh
  obtain ⟨ha, hh⟩ := hh
  split
  ·rename_i hw; simp only [hw, if_true] at hh; exact wpIn_of_quiet (noDefer_spec hnd ho) hC h ha hh
  ·rename_i hw; simp only [hw] at hh; exact ⟨ha w hC, h _ _ hC hh⟩
def wpAnyLIn (F : Fence) (n : Nat) (P : Program) (md : Region.Mode) (ops : Array Oper) (C : World → Prop) (m : Nat) (L : Array Bool → Act → Prop) : Nat → Array Bool → Act → Prop
 | 0, listed, a => L listed a
 | f + 1, listed, a =>
  Region.ready md ops listed ≠ [] ∧ ∀ i ∈ Region.ready md ops listed, i < m ∧ qOpIn F n P ops C i (wpAnyLIn F n P md ops C m L f (listed.setIfInBounds i true)) a
theorem wpAnyIn_of_head {m g : Nat} {L : Array Bool → Act → Prop} {Q' : Exit → Act → World → Prop} (hnd : noDefer ops = true) (hL : ∀ listed a w, C w → L listed a → wpAnyIn F n P md ops Q' g listed a w) :
  ∀ (f : Nat) (listed : Array Bool) (a : Act) (w : World), C w → wpAnyLIn F n P md ops C m L f listed a → wpAnyIn F n P md ops Q' (f + g) listed a w
 | 0, listed, a, w, hw, h => by rw [Nat.zero_add]; exact hL _ _ _ hw h
 | f + 1, listed, a, w, hw, h => by
  rw [show f + 1 + g = (f + g) + 1 by omega]
  exact ⟨fun h0 => absurd h0 h.1, fun i hi => wpOpIn_of_qOpIn hnd hw (fun a' w' hw' h' => wpAnyIn_of_head hnd hL f _ a' w' hw' h') (h.2 i hi).2⟩
theorem wpAnyLIn_first {m i : Nat} {oi : Oper} {v : Value} {L : Array Bool → Act → Prop} (hi : ops[i]? = some oi) (hsel : ∀ (j : Nat) (o : Oper) cs b, ops[j]? = some o → o.op ≠ .select cs b)
  (hs : Region.sinkB md ops m = true) (hc : Region.chainB md ops m = true) (hn : m < ops.size) (hin : i < m)
  (hdone : ∀ listed a, L listed a → ∀ j ∈ Region.ready md ops listed, m ≤ j) :
  ∀ (f : Nat) (listed : Array Bool) (a : Act), HeadInv md ops m listed →
   (∀ j oj, ops[j]? = some oj → j ≠ i → listed.getD j true = false → (∀ e ∈ oj.after, Region.binds md e = true → e.on ≠ i) → oi.apart ops oj = true) →
   i ∈ Region.ready md ops listed → YieldsQuiet F n P ops C oi v a →
   wpAnyLIn F n P md ops C m L f (listed.setIfInBounds i true) (a.put oi.dst v) → wpAnyLIn F n P md ops C m L (f + 1) listed a := by
 intro f
 induction f with
 | zero =>
  intro listed a inv _ hr hy H
  have hun := (mem_ready.1 hr).1
  refine ⟨fun h => (by rw [h] at hr; cases hr), fun j hj => ?_⟩
  have hjn : j < m := by
   rcases Nat.lt_or_ge j m with h | h
   ·exact h
   ·exact absurd hj (tail_waits hs hc hn inv _ i rfl hin hun j h)
  refine ⟨hjn, ?_⟩
  by_cases hji : j = i
  ·subst hji; exact hy.qOpIn hi H
  ·have := hdone _ _ H j (ready_mono hj hji)
   omega
 | succ f ih =>
  intro listed a inv hfree hr hy H
  have hun := (mem_ready.1 hr).1
  refine ⟨fun h => (by rw [h] at hr; cases hr), fun j hj => ?_⟩
  have hjn : j < m := by
   rcases Nat.lt_or_ge j m with h | h
   ·exact h
   ·exact absurd hj (tail_waits hs hc hn inv _ i rfl hin hun j h)
  refine ⟨hjn, ?_⟩
  by_cases hji : j = i
  ·subst hji; exact hy.qOpIn hi H
  ·have h1 := (H.2 j (ready_mono hj hji)).2
   obtain ⟨hjun, oj, hoj, hall⟩ := mem_ready.1 hj
   have hnot : ∀ e ∈ oj.after, Region.binds md e = true → e.on ≠ i := fun e he hb heq => by
    have h1 := hall e he hb
    rw [heq, getD_both hun] at h1
    cases h1
   have h2 := qOpIn_put hoj (hfree j oj hoj hji hjun hnot) (fun cs b => hsel i oi cs b hi) (fun cs b => hsel j oj cs b hoj) hy h1
   have hfree' : ∀ k ok, ops[k]? = some ok → k ≠ i → (listed.setIfInBounds j true).getD k true = false →
     (∀ e ∈ ok.after, Region.binds md e = true → e.on ≠ i) → oi.apart ops ok = true := fun k ok hk hki hun hno => by
    refine hfree k ok hk hki ?_ hno
    by_cases hjk : j = k
    ·subst hjk; exact hjun
    ·rw [getD_set_ne true hjk] at hun; exact hun
   refine qOpIn_mono (fun a' h3 => ih (listed.setIfInBounds j true) a' (inv.set hj hjn) hfree' (ready_mono hr (Ne.symm hji)) h3.1 ?_) h2
   rw [Array.setIfInBounds_comm _ _ hji]
   exact h3.2
theorem wpAnyIn_of_seq {Q' : Exit → Act → World → Prop} : ∀ (l : List Oper) (k : Nat) (listed : Array Bool) (a : Act) (w : World), (∀ j, l[j]? = ops[k + j]?) →
  Region.seqB md ops l.length k listed = true → wpListIn F n P ops Q' l a w → wpAnyIn F n P md ops Q' l.length listed a w
 | [], _, _, _, _, _, hB, h => ⟨by simpa [Region.seqB] using hB, h⟩
 | o :: l, k, listed, a, w, hl, hB, h => by
  have h0 : ops[k]? = some o := by simpa using (hl 0).symm
  simp only [List.length_cons, Region.seqB, Bool.and_eq_true, decide_eq_true_eq] at hB
  refine ⟨fun h1 => (by rw [hB.1] at h1; cases h1), fun i hi => ?_⟩
  rw [hB.1] at hi
  have hik : i = k := by simpa using hi
  subst hik
  have hw : wpOpIn F n P ops Q' i (wpListIn F n P ops Q' l) a w := by unfold wpOpIn; simp only [h0]; exact h
  exact wpOpIn_mono (fun a' w' h' => wpAnyIn_of_seq l (i + 1) _ a' w' (fun j => by have := hl (j + 1); simpa [Nat.add_assoc, Nat.add_comm 1 j] using this) hB.2 h') hw
theorem wpAnyLIn_lex {m g : Nat} {Lq : Act → Prop} (hsel : Region.noSelect ops = true) (hs : Region.sinkB md ops m = true) (hc : Region.chainB md ops m = true) (hn : m < ops.size) :
  ∀ (l : List Oper) (k : Nat) (listed : Array Bool) (a : Act), (∀ j, j < l.length → l[j]? = ops[k + j]?) → k + l.length = m → HeadInv md ops m listed →
  Region.lexHead md ops g l.length k listed = true → wpQuietIn F n P ops C Lq l a →
  wpAnyLIn F n P md ops C m (fun listed' a' => Region.seqB md ops g m listed' = true ∧ Lq a') l.length listed a
 | [], k, listed, a, _, hk, _, hB, h => by
  have : k = m := by simpa using hk
  subst this
  exact ⟨by simpa [Region.lexHead] using hB, h⟩
 | o :: l, k, listed, a, hl, hk, inv, hB, h => by
  have h0 : ops[k]? = some o := by simpa using (hl 0 (by simp)).symm
  simp only [List.length_cons, Region.lexHead, Bool.and_eq_true] at hB
  obtain ⟨⟨hr, hf⟩, hB'⟩ := hB
  have hkn : k < m := by simp only [List.length_cons] at hk; omega
  have hr' : k ∈ Region.ready md ops listed := by simpa using hr
  have hst : qOpIn F n P ops C k (wpQuietIn F n P ops C Lq l) a := by unfold qOpIn; simp only [h0]; exact h
  obtain ⟨v, hy, hK⟩ := yieldsQuiet_of_qOpIn h0 hst
  exact wpAnyLIn_first h0 (Region.noSelect_spec hsel) hs hc hn hkn (fun listed' a' hL => seqB_ready hL.1) l.length listed a inv (Region.free_spec h0 hf) hr' hy
   (wpAnyLIn_lex hsel hs hc hn l (k + 1) _ _ (fun j hj => by have := hl (j + 1) (by simp; omega); simpa [Nat.add_assoc, Nat.add_comm 1 j] using this) (by simp only [List.length_cons] at hk; omega) (inv.set hr' hkn) hB' hK)
theorem region_tail {id : Nat} {Q : Exit → Act → World → Prop} {a : Act} {w : World} {l : List Oper} (C : World → Prop) (m : Nat) (hnd : noDefer l.toArray = true) (hm : P.follows .mixedOrders = true) (hB : Region.lexTailB .any l.toArray m = true) (hC : C { w with drawn := w.drawn + 1 })
  (h : wpQuietIn F n P l.toArray C (fun a' => ∀ w', C w' → wpListIn F n P l.toArray Q (l.drop m) a' w') (l.take m) a) : (Code.region id l.toArray true).wpIn F n P Q a w := by
 simp only [Region.lexTailB, Bool.and_eq_true, decide_eq_true_eq] at hB
 obtain ⟨⟨⟨⟨hsel, hn⟩, hs⟩, hc⟩, hlex⟩ := hB
 have hn' : m < l.length := by simpa using hn
 have htl : (l.take m).length = m := by simp; omega
 have hdl : (l.drop m).length = l.toArray.size - m := by simp
 have inv0 : HeadInv .any l.toArray m (Array.replicate l.toArray.size false) :=
  ⟨by simp, fun j oj _ hl => (by rw [getD_replicate_false] at hl; cases hl), fun t _ ht => getD_in (by simpa using ht) (getD_replicate_false _ _)⟩
 have H := wpAnyLIn_lex (F := F) (n := n) (P := P) (C := C) (md := .any) (g := l.toArray.size - m) hsel hs hc hn (l.take m) 0 _ a (fun j hj => by
  have hj' : j < m := by rw [htl] at hj; exact hj
  simp [hj']) (by simpa using htl) inv0 (by rw [htl]; exact hlex) h
 refine wpIn_region_any hm ?_
 have := wpAnyIn_of_head (Q' := Q) (g := l.toArray.size - m) hnd (fun listed a' w' hw' hL => by
  have := wpAnyIn_of_seq (F := F) (n := n) (P := P) (md := .any) (Q' := Q) (l.drop m) m listed a' w' (fun j => by simp [List.getElem?_drop]) (by rw [hdl]; exact hL.1) (hL.2 w' hw')
  rwa [hdl] at this) _ _ _ _ hC H
 rw [htl, show m + (l.toArray.size - m) = l.toArray.size by omega] at this
 exact this
end
end Go.Proofs.Ytphmlkbmnmicpaa.R
namespace Go.Proofs.Ytphmlkbmnmicpaa.A
open Go.RowKit Go.Proofs.YtphmlkbmnmicpaaW.PrintWords Go.Proofs.YtphmlkbmnmicpaaW.PrintLast
def latOf (x : S37) : Int :=
 if x.f0 = 7 then 20 else if x.f0 = 4 then 3 else if x.f0 = 2 then (if x.f4 = 3 then 3 else if x.f4 = 4 then 8 else if x.f4 = 5 then 8 else 1) else 1
def mx2 (a b : Int) : Int := if a < b then b else a
def setMax (i : Nat) (out : List Int) (k : Int) : List Int := out.set k.toNat (mx2 (rd out k) (rd out i))
def hRow (i : Nat) (out : List Int) (row : List Int) : List Int := row.foldl (setMax i) out
def hStep (l : List S37) (d : List (List Int)) (out : List Int) (i : Nat) : List Int :=
 hRow i (out.set i (wrap64 (rd out i + latOf (zAF l i)))) (rd_L1 d i)
def hAll (l : List S37) (d : List (List Int)) (is : List Nat) : List Int := is.foldl (hStep l d) (List.replicate d.length 0)
theorem hAll_snoc (l : List S37) (d : List (List Int)) (is : List Nat) (i : Nat) : hAll l d (is ++ [i]) = hStep l d (hAll l d is) i := by simp [hAll]
theorem setMax_length (i : Nat) (out : List Int) (k : Int) : (setMax i out k).length = out.length := by simp [setMax]
theorem hRow_length (i : Nat) (row : List Int) : ∀ out : List Int, (hRow i out row).length = out.length := by
 induction row with
 | nil => intro out; rfl
 | cons k row ih => intro out; show (hRow i (setMax i out k) row).length = _; rw [ih, setMax_length]
theorem hStep_length (l : List S37) (d : List (List Int)) (out : List Int) (i : Nat) : (hStep l d out i).length = out.length := by simp [hStep, hRow_length]
theorem hAll_length (l : List S37) (d : List (List Int)) (is : List Nat) : (hAll l d is).length = d.length := by
 unfold hAll
 suffices h : ∀ out : List Int, (is.foldl (hStep l d) out).length = out.length by rw [h]; simp
 induction is with
 | nil => intro out; rfl
 | cons i is ih => intro out; rw [List.foldl_cons, ih, hStep_length]
end Go.Proofs.Ytphmlkbmnmicpaa.A
namespace Go.Proofs.Ytphmlkbmnmicpaa.A
open Go.RowKit Go.Proofs.YtphmlkbmnmicpaaW.PrintWords Go.Proofs.YtphmlkbmnmicpaaW.PrintLast Go.Proofs.YtphmlkbmnmicpaaW.PrintMore
attribute [local go_sem] max2_int zBH max_two zBL zBB zBA zBI zBG   -- for this text's walks alone
def sched_Latency.f (a0_0 : Int) (a0_1 : Int) (a0_2 : Int) (a0_3 : Int) (a0_4 : Int) (l0_5 : List Int) : Option (Int) := if a0_0 = 7 then (some 20) else (if a0_0 = 4 then (some 3) else (if a0_0 = 2 then (if a0_4 = 3 then (some 3) else (if a0_4 = 4 then (some 8) else (if a0_4 = 5 then (some 8) else (some 1)))) else (some 1)))
set_option maxHeartbeats 8000000 in
set_option maxRecDepth 100000 in
theorem sched_Latency.calls (a0_0 : Int) (a0_1 : Int) (a0_2 : Int) (a0_3 : Int) (a0_4 : Int) (A0_5 : Option Addr) (c0_5 : Nat) (l0_5 : List Int) (r : Int) (w : World) (hr0_5 : Kd.C (Kd.int .i64) w A0_5 l0_5.length l0_5) (hc0_5 : l0_5.length ≤ c0_5) (h : sched_Latency.f a0_0 a0_1 a0_2 a0_3 a0_4 l0_5 = some r) :
  Calls Try.prog 14 #[.agg #[.int .i64 a0_0, .int .i64 a0_1, .int .i64 a0_2, .int .i64 a0_3, .int .i64 a0_4, .slice A0_5 l0_5.length c0_5]] w fun e w' => e = .returned (.int .i64 r) ∧ Below w.heap.size w w' := by
 have hu37 := Try.underlying37
 have HR0_5 := Aside0.mk hr0_5
 have HC0_5 := Aside0.mk hc0_5
 clear hr0_5 hc0_5
 have HB := Aside0.mk (Below.refl w.heap.size w)
 have H : (if a0_0 = 7 then (some 20) else (if a0_0 = 4 then (some 3) else (if a0_0 = 2 then (if a0_4 = 3 then (some 3) else (if a0_4 = 4 then (some 8) else (if a0_4 = 5 then (some 8) else (some 1)))) else (some 1)))) = some r := h
 clear h
 by_cases c2 : a0_0 = 7
 ·rw [if_pos c2] at H
  have c2b0 : (a0_0 == 7) = true := beq_iff_eq.mpr c2
  have c2b1 : (a0_0 != 7) = false := bne_eq_false_iff_eq.mpr c2
  clear c2
  obtain rfl := Option.some.inj H
  go_enter Try.func14, Try.ntmps14
  go_wp2_with (first | ((with_reducible refine zAU (N := 1) rfl ?_); refine zAT ?hg (N := 1) ?hd (cs := #[.int .i64 a0_0, .int .i64 a0_1, .int .i64 a0_2, .int .i64 a0_3, .int .i64 a0_4, .slice A0_5 l0_5.length c0_5]) (t := 37) ?hr ?_; (case hd => rfl); (case hg => rfl); (case hr => first | (go_simp; done) | (go_simp; rfl)); intro gb165 hg w3 hbox hb; have n0_ := Aside0.mk (zAL (by repeat (first | (with_reducible first | exact HB.out | apply zAC | apply zAA | apply zAD) | exact HB.out)) hb); have n1_ := Aside0.mk (hbox); have n2_ := Aside0.mk ((by rw [hg]; exact (zAM (by repeat (first | (with_reducible first | exact HB.out | apply zAC | apply zAA | apply zAD) | exact HB.out))) : w.heap.size ≤ gb165)); have n3_ := Aside0.mk ((by rw [hg]; exact (zAM (by repeat (first | (with_reducible first | exact HB.out | apply zAC | apply zAA | apply zAD) | exact HB.out))) : w.heap.size ≤ gb165)); clear HB; have HB := n0_; have BK165 := n1_; have GW165 := n2_; have GE165 := n3_; clear n0_ n1_ n2_ n3_; clear hb hbox hg; have hcz4_0 : w3.cell? ⟨gb165, 0, none⟩ = some (.int .i64 a0_0) := (zAE BK165.out 0).trans rfl; have hcz4_1 : w3.cell? ⟨gb165, 1, none⟩ = some (.int .i64 a0_1) := (zAE BK165.out 1).trans rfl; have hcz4_2 : w3.cell? ⟨gb165, 2, none⟩ = some (.int .i64 a0_2) := (zAE BK165.out 2).trans rfl; have hcz4_3 : w3.cell? ⟨gb165, 3, none⟩ = some (.int .i64 a0_3) := (zAE BK165.out 3).trans rfl; have hcz4_4 : w3.cell? ⟨gb165, 4, none⟩ = some (.int .i64 a0_4) := (zAE BK165.out 4).trans rfl; have hcz4_5 : w3.cell? ⟨gb165, 5, none⟩ = some (.slice A0_5 l0_5.length c0_5) := (zAE BK165.out 5).trans rfl; have hfz4_0 := zAB BK165.out 0; have hfz4_1 := zAB BK165.out 1; have hfz4_2 := zAB BK165.out 2; have hfz4_3 := zAB BK165.out 3; have hfz4_4 := zAB BK165.out 4; have hfz4_5 := zAB BK165.out 5))
  go_ret
  exact ⟨by first | rfl | (simp [zAO, zAN] <;> rfl) | (simp [*, zAO, zAN] <;> rfl), by repeat (first | (with_reducible first | exact HB.out | apply zAC | apply zAA | apply zAD | refine zAH ?_ GE165.out) | exact HB.out)⟩
 ·rw [if_neg c2] at H
  have c2b0 : (a0_0 == 7) = false := beq_eq_false_iff_ne.mpr c2
  have c2b1 : (a0_0 != 7) = true := bne_iff_ne.mpr c2
  by_cases c5 : a0_0 = 4
  ·rw [if_pos c5] at H
   have c5b0 : (a0_0 == 4) = true := beq_iff_eq.mpr c5
   have c5b1 : (a0_0 != 4) = false := bne_eq_false_iff_eq.mpr c5
   clear c5
   obtain rfl := Option.some.inj H
   go_enter Try.func14, Try.ntmps14
   go_wp2_with (first | ((with_reducible refine zAU (N := 1) rfl ?_); refine zAT ?hg (N := 1) ?hd (cs := #[.int .i64 a0_0, .int .i64 a0_1, .int .i64 a0_2, .int .i64 a0_3, .int .i64 a0_4, .slice A0_5 l0_5.length c0_5]) (t := 37) ?hr ?_; (case hd => rfl); (case hg => rfl); (case hr => first | (go_simp; done) | (go_simp; rfl)); intro gb165 hg w6 hbox hb; have n0_ := Aside0.mk (zAL (by repeat (first | (with_reducible first | exact HB.out | apply zAC | apply zAA | apply zAD) | exact HB.out)) hb); have n1_ := Aside0.mk (hbox); have n2_ := Aside0.mk ((by rw [hg]; exact (zAM (by repeat (first | (with_reducible first | exact HB.out | apply zAC | apply zAA | apply zAD) | exact HB.out))) : w.heap.size ≤ gb165)); have n3_ := Aside0.mk ((by rw [hg]; exact (zAM (by repeat (first | (with_reducible first | exact HB.out | apply zAC | apply zAA | apply zAD) | exact HB.out))) : w.heap.size ≤ gb165)); clear HB; have HB := n0_; have BK165 := n1_; have GW165 := n2_; have GE165 := n3_; clear n0_ n1_ n2_ n3_; clear hb hbox hg; have hcz7_0 : w6.cell? ⟨gb165, 0, none⟩ = some (.int .i64 a0_0) := (zAE BK165.out 0).trans rfl; have hcz7_1 : w6.cell? ⟨gb165, 1, none⟩ = some (.int .i64 a0_1) := (zAE BK165.out 1).trans rfl; have hcz7_2 : w6.cell? ⟨gb165, 2, none⟩ = some (.int .i64 a0_2) := (zAE BK165.out 2).trans rfl; have hcz7_3 : w6.cell? ⟨gb165, 3, none⟩ = some (.int .i64 a0_3) := (zAE BK165.out 3).trans rfl; have hcz7_4 : w6.cell? ⟨gb165, 4, none⟩ = some (.int .i64 a0_4) := (zAE BK165.out 4).trans rfl; have hcz7_5 : w6.cell? ⟨gb165, 5, none⟩ = some (.slice A0_5 l0_5.length c0_5) := (zAE BK165.out 5).trans rfl; have hfz7_0 := zAB BK165.out 0; have hfz7_1 := zAB BK165.out 1; have hfz7_2 := zAB BK165.out 2; have hfz7_3 := zAB BK165.out 3; have hfz7_4 := zAB BK165.out 4; have hfz7_5 := zAB BK165.out 5))
   go_ret
   exact ⟨by first | rfl | (simp [zAO, zAN] <;> rfl) | (simp [*, zAO, zAN] <;> rfl), by repeat (first | (with_reducible first | exact HB.out | apply zAC | apply zAA | apply zAD | refine zAH ?_ GE165.out) | exact HB.out)⟩
  ·rw [if_neg c5] at H
   have c5b0 : (a0_0 == 4) = false := beq_eq_false_iff_ne.mpr c5
   have c5b1 : (a0_0 != 4) = true := bne_iff_ne.mpr c5
   by_cases c8 : a0_0 = 2
   ·rw [if_pos c8] at H
    have c8b0 : (a0_0 == 2) = true := beq_iff_eq.mpr c8
    have c8b1 : (a0_0 != 2) = false := bne_eq_false_iff_eq.mpr c8
    clear c8
    by_cases c9 : a0_4 = 3
    ·rw [if_pos c9] at H
     have c9b0 : (a0_4 == 3) = true := beq_iff_eq.mpr c9
     have c9b1 : (a0_4 != 3) = false := bne_eq_false_iff_eq.mpr c9
     clear c9
     obtain rfl := Option.some.inj H
     go_enter Try.func14, Try.ntmps14
     go_wp2_with (first | ((with_reducible refine zAU (N := 1) rfl ?_); refine zAT ?hg (N := 1) ?hd (cs := #[.int .i64 a0_0, .int .i64 a0_1, .int .i64 a0_2, .int .i64 a0_3, .int .i64 a0_4, .slice A0_5 l0_5.length c0_5]) (t := 37) ?hr ?_; (case hd => rfl); (case hg => rfl); (case hr => first | (go_simp; done) | (go_simp; rfl)); intro gb165 hg w10 hbox hb; have n0_ := Aside0.mk (zAL (by repeat (first | (with_reducible first | exact HB.out | apply zAC | apply zAA | apply zAD) | exact HB.out)) hb); have n1_ := Aside0.mk (hbox); have n2_ := Aside0.mk ((by rw [hg]; exact (zAM (by repeat (first | (with_reducible first | exact HB.out | apply zAC | apply zAA | apply zAD) | exact HB.out))) : w.heap.size ≤ gb165)); have n3_ := Aside0.mk ((by rw [hg]; exact (zAM (by repeat (first | (with_reducible first | exact HB.out | apply zAC | apply zAA | apply zAD) | exact HB.out))) : w.heap.size ≤ gb165)); clear HB; have HB := n0_; have BK165 := n1_; have GW165 := n2_; have GE165 := n3_; clear n0_ n1_ n2_ n3_; clear hb hbox hg; have hcz11_0 : w10.cell? ⟨gb165, 0, none⟩ = some (.int .i64 a0_0) := (zAE BK165.out 0).trans rfl; have hcz11_1 : w10.cell? ⟨gb165, 1, none⟩ = some (.int .i64 a0_1) := (zAE BK165.out 1).trans rfl; have hcz11_2 : w10.cell? ⟨gb165, 2, none⟩ = some (.int .i64 a0_2) := (zAE BK165.out 2).trans rfl; have hcz11_3 : w10.cell? ⟨gb165, 3, none⟩ = some (.int .i64 a0_3) := (zAE BK165.out 3).trans rfl; have hcz11_4 : w10.cell? ⟨gb165, 4, none⟩ = some (.int .i64 a0_4) := (zAE BK165.out 4).trans rfl; have hcz11_5 : w10.cell? ⟨gb165, 5, none⟩ = some (.slice A0_5 l0_5.length c0_5) := (zAE BK165.out 5).trans rfl; have hfz11_0 := zAB BK165.out 0; have hfz11_1 := zAB BK165.out 1; have hfz11_2 := zAB BK165.out 2; have hfz11_3 := zAB BK165.out 3; have hfz11_4 := zAB BK165.out 4; have hfz11_5 := zAB BK165.out 5))
     go_ret
     exact ⟨by first | rfl | (simp [zAO, zAN] <;> rfl) | (simp [*, zAO, zAN] <;> rfl), by repeat (first | (with_reducible first | exact HB.out | apply zAC | apply zAA | apply zAD | refine zAH ?_ GE165.out) | exact HB.out)⟩
    ·rw [if_neg c9] at H
     have c9b0 : (a0_4 == 3) = false := beq_eq_false_iff_ne.mpr c9
     have c9b1 : (a0_4 != 3) = true := bne_iff_ne.mpr c9
     by_cases c12 : a0_4 = 4
     ·rw [if_pos c12] at H
      have c12b0 : (a0_4 == 4) = true := beq_iff_eq.mpr c12
      have c12b1 : (a0_4 != 4) = false := bne_eq_false_iff_eq.mpr c12
      clear c12
      obtain rfl := Option.some.inj H
      go_enter Try.func14, Try.ntmps14
      go_wp2_with (first | ((with_reducible refine zAU (N := 1) rfl ?_); refine zAT ?hg (N := 1) ?hd (cs := #[.int .i64 a0_0, .int .i64 a0_1, .int .i64 a0_2, .int .i64 a0_3, .int .i64 a0_4, .slice A0_5 l0_5.length c0_5]) (t := 37) ?hr ?_; (case hd => rfl); (case hg => rfl); (case hr => first | (go_simp; done) | (go_simp; rfl)); intro gb165 hg w13 hbox hb; have n0_ := Aside0.mk (zAL (by repeat (first | (with_reducible first | exact HB.out | apply zAC | apply zAA | apply zAD) | exact HB.out)) hb); have n1_ := Aside0.mk (hbox); have n2_ := Aside0.mk ((by rw [hg]; exact (zAM (by repeat (first | (with_reducible first | exact HB.out | apply zAC | apply zAA | apply zAD) | exact HB.out))) : w.heap.size ≤ gb165)); have n3_ := Aside0.mk ((by rw [hg]; exact (zAM (by repeat (first | (with_reducible first | exact HB.out | apply zAC | apply zAA | apply zAD) | exact HB.out))) : w.heap.size ≤ gb165)); clear HB; have HB := n0_; have BK165 := n1_; have GW165 := n2_; have GE165 := n3_; clear n0_ n1_ n2_ n3_; clear hb hbox hg; have hcz14_0 : w13.cell? ⟨gb165, 0, none⟩ = some (.int .i64 a0_0) := (zAE BK165.out 0).trans rfl; have hcz14_1 : w13.cell? ⟨gb165, 1, none⟩ = some (.int .i64 a0_1) := (zAE BK165.out 1).trans rfl; have hcz14_2 : w13.cell? ⟨gb165, 2, none⟩ = some (.int .i64 a0_2) := (zAE BK165.out 2).trans rfl; have hcz14_3 : w13.cell? ⟨gb165, 3, none⟩ = some (.int .i64 a0_3) := (zAE BK165.out 3).trans rfl; have hcz14_4 : w13.cell? ⟨gb165, 4, none⟩ = some (.int .i64 a0_4) := (zAE BK165.out 4).trans rfl; have hcz14_5 : w13.cell? ⟨gb165, 5, none⟩ = some (.slice A0_5 l0_5.length c0_5) := (zAE BK165.out 5).trans rfl; have hfz14_0 := zAB BK165.out 0; have hfz14_1 := zAB BK165.out 1; have hfz14_2 := zAB BK165.out 2; have hfz14_3 := zAB BK165.out 3; have hfz14_4 := zAB BK165.out 4; have hfz14_5 := zAB BK165.out 5))
      go_ret
      exact ⟨by first | rfl | (simp [zAO, zAN] <;> rfl) | (simp [*, zAO, zAN] <;> rfl), by repeat (first | (with_reducible first | exact HB.out | apply zAC | apply zAA | apply zAD | refine zAH ?_ GE165.out) | exact HB.out)⟩
     ·rw [if_neg c12] at H
      have c12b0 : (a0_4 == 4) = false := beq_eq_false_iff_ne.mpr c12
      have c12b1 : (a0_4 != 4) = true := bne_iff_ne.mpr c12
      by_cases c15 : a0_4 = 5
      ·rw [if_pos c15] at H
       have c15b0 : (a0_4 == 5) = true := beq_iff_eq.mpr c15
       have c15b1 : (a0_4 != 5) = false := bne_eq_false_iff_eq.mpr c15
       clear c15
       obtain rfl := Option.some.inj H
       go_enter Try.func14, Try.ntmps14
       go_wp2_with (first | ((with_reducible refine zAU (N := 1) rfl ?_); refine zAT ?hg (N := 1) ?hd (cs := #[.int .i64 a0_0, .int .i64 a0_1, .int .i64 a0_2, .int .i64 a0_3, .int .i64 a0_4, .slice A0_5 l0_5.length c0_5]) (t := 37) ?hr ?_; (case hd => rfl); (case hg => rfl); (case hr => first | (go_simp; done) | (go_simp; rfl)); intro gb165 hg w16 hbox hb; have n0_ := Aside0.mk (zAL (by repeat (first | (with_reducible first | exact HB.out | apply zAC | apply zAA | apply zAD) | exact HB.out)) hb); have n1_ := Aside0.mk (hbox); have n2_ := Aside0.mk ((by rw [hg]; exact (zAM (by repeat (first | (with_reducible first | exact HB.out | apply zAC | apply zAA | apply zAD) | exact HB.out))) : w.heap.size ≤ gb165)); have n3_ := Aside0.mk ((by rw [hg]; exact (zAM (by repeat (first | (with_reducible first | exact HB.out | apply zAC | apply zAA | apply zAD) | exact HB.out))) : w.heap.size ≤ gb165)); clear HB; have HB := n0_; have BK165 := n1_; have GW165 := n2_; have GE165 := n3_; clear n0_ n1_ n2_ n3_; clear hb hbox hg; have hcz17_0 : w16.cell? ⟨gb165, 0, none⟩ = some (.int .i64 a0_0) := (zAE BK165.out 0).trans rfl; have hcz17_1 : w16.cell? ⟨gb165, 1, none⟩ = some (.int .i64 a0_1) := (zAE BK165.out 1).trans rfl; have hcz17_2 : w16.cell? ⟨gb165, 2, none⟩ = some (.int .i64 a0_2) := (zAE BK165.out 2).trans rfl; have hcz17_3 : w16.cell? ⟨gb165, 3, none⟩ = some (.int .i64 a0_3) := (zAE BK165.out 3).trans rfl; have hcz17_4 : w16.cell? ⟨gb165, 4, none⟩ = some (.int .i64 a0_4) := (zAE BK165.out 4).trans rfl; have hcz17_5 : w16.cell? ⟨gb165, 5, none⟩ = some (.slice A0_5 l0_5.length c0_5) := (zAE BK165.out 5).trans rfl; have hfz17_0 := zAB BK165.out 0; have hfz17_1 := zAB BK165.out 1; have hfz17_2 := zAB BK165.out 2; have hfz17_3 := zAB BK165.out 3; have hfz17_4 := zAB BK165.out 4; have hfz17_5 := zAB BK165.out 5))
       go_ret
       exact ⟨by first | rfl | (simp [zAO, zAN] <;> rfl) | (simp [*, zAO, zAN] <;> rfl), by repeat (first | (with_reducible first | exact HB.out | apply zAC | apply zAA | apply zAD | refine zAH ?_ GE165.out) | exact HB.out)⟩
      ·rw [if_neg c15] at H
       have c15b0 : (a0_4 == 5) = false := beq_eq_false_iff_ne.mpr c15
       have c15b1 : (a0_4 != 5) = true := bne_iff_ne.mpr c15
       obtain rfl := Option.some.inj H
       go_enter Try.func14, Try.ntmps14
       go_wp2_with (first | ((with_reducible refine zAU (N := 1) rfl ?_); refine zAT ?hg (N := 1) ?hd (cs := #[.int .i64 a0_0, .int .i64 a0_1, .int .i64 a0_2, .int .i64 a0_3, .int .i64 a0_4, .slice A0_5 l0_5.length c0_5]) (t := 37) ?hr ?_; (case hd => rfl); (case hg => rfl); (case hr => first | (go_simp; done) | (go_simp; rfl)); intro gb165 hg w18 hbox hb; have n0_ := Aside0.mk (zAL (by repeat (first | (with_reducible first | exact HB.out | apply zAC | apply zAA | apply zAD) | exact HB.out)) hb); have n1_ := Aside0.mk (hbox); have n2_ := Aside0.mk ((by rw [hg]; exact (zAM (by repeat (first | (with_reducible first | exact HB.out | apply zAC | apply zAA | apply zAD) | exact HB.out))) : w.heap.size ≤ gb165)); have n3_ := Aside0.mk ((by rw [hg]; exact (zAM (by repeat (first | (with_reducible first | exact HB.out | apply zAC | apply zAA | apply zAD) | exact HB.out))) : w.heap.size ≤ gb165)); clear HB; have HB := n0_; have BK165 := n1_; have GW165 := n2_; have GE165 := n3_; clear n0_ n1_ n2_ n3_; clear hb hbox hg; have hcz19_0 : w18.cell? ⟨gb165, 0, none⟩ = some (.int .i64 a0_0) := (zAE BK165.out 0).trans rfl; have hcz19_1 : w18.cell? ⟨gb165, 1, none⟩ = some (.int .i64 a0_1) := (zAE BK165.out 1).trans rfl; have hcz19_2 : w18.cell? ⟨gb165, 2, none⟩ = some (.int .i64 a0_2) := (zAE BK165.out 2).trans rfl; have hcz19_3 : w18.cell? ⟨gb165, 3, none⟩ = some (.int .i64 a0_3) := (zAE BK165.out 3).trans rfl; have hcz19_4 : w18.cell? ⟨gb165, 4, none⟩ = some (.int .i64 a0_4) := (zAE BK165.out 4).trans rfl; have hcz19_5 : w18.cell? ⟨gb165, 5, none⟩ = some (.slice A0_5 l0_5.length c0_5) := (zAE BK165.out 5).trans rfl; have hfz19_0 := zAB BK165.out 0; have hfz19_1 := zAB BK165.out 1; have hfz19_2 := zAB BK165.out 2; have hfz19_3 := zAB BK165.out 3; have hfz19_4 := zAB BK165.out 4; have hfz19_5 := zAB BK165.out 5))
       go_ret
       exact ⟨by first | rfl | (simp [zAO, zAN] <;> rfl) | (simp [*, zAO, zAN] <;> rfl), by repeat (first | (with_reducible first | exact HB.out | apply zAC | apply zAA | apply zAD | refine zAH ?_ GE165.out) | exact HB.out)⟩
   ·rw [if_neg c8] at H
    have c8b0 : (a0_0 == 2) = false := beq_eq_false_iff_ne.mpr c8
    have c8b1 : (a0_0 != 2) = true := bne_iff_ne.mpr c8
    obtain rfl := Option.some.inj H
    go_enter Try.func14, Try.ntmps14
    go_wp2_with (first | ((with_reducible refine zAU (N := 1) rfl ?_); refine zAT ?hg (N := 1) ?hd (cs := #[.int .i64 a0_0, .int .i64 a0_1, .int .i64 a0_2, .int .i64 a0_3, .int .i64 a0_4, .slice A0_5 l0_5.length c0_5]) (t := 37) ?hr ?_; (case hd => rfl); (case hg => rfl); (case hr => first | (go_simp; done) | (go_simp; rfl)); intro gb165 hg w20 hbox hb; have n0_ := Aside0.mk (zAL (by repeat (first | (with_reducible first | exact HB.out | apply zAC | apply zAA | apply zAD) | exact HB.out)) hb); have n1_ := Aside0.mk (hbox); have n2_ := Aside0.mk ((by rw [hg]; exact (zAM (by repeat (first | (with_reducible first | exact HB.out | apply zAC | apply zAA | apply zAD) | exact HB.out))) : w.heap.size ≤ gb165)); have n3_ := Aside0.mk ((by rw [hg]; exact (zAM (by repeat (first | (with_reducible first | exact HB.out | apply zAC | apply zAA | apply zAD) | exact HB.out))) : w.heap.size ≤ gb165)); clear HB; have HB := n0_; have BK165 := n1_; have GW165 := n2_; have GE165 := n3_; clear n0_ n1_ n2_ n3_; clear hb hbox hg; have hcz21_0 : w20.cell? ⟨gb165, 0, none⟩ = some (.int .i64 a0_0) := (zAE BK165.out 0).trans rfl; have hcz21_1 : w20.cell? ⟨gb165, 1, none⟩ = some (.int .i64 a0_1) := (zAE BK165.out 1).trans rfl; have hcz21_2 : w20.cell? ⟨gb165, 2, none⟩ = some (.int .i64 a0_2) := (zAE BK165.out 2).trans rfl; have hcz21_3 : w20.cell? ⟨gb165, 3, none⟩ = some (.int .i64 a0_3) := (zAE BK165.out 3).trans rfl; have hcz21_4 : w20.cell? ⟨gb165, 4, none⟩ = some (.int .i64 a0_4) := (zAE BK165.out 4).trans rfl; have hcz21_5 : w20.cell? ⟨gb165, 5, none⟩ = some (.slice A0_5 l0_5.length c0_5) := (zAE BK165.out 5).trans rfl; have hfz21_0 := zAB BK165.out 0; have hfz21_1 := zAB BK165.out 1; have hfz21_2 := zAB BK165.out 2; have hfz21_3 := zAB BK165.out 3; have hfz21_4 := zAB BK165.out 4; have hfz21_5 := zAB BK165.out 5))
    go_ret
    exact ⟨by first | rfl | (simp [zAO, zAN] <;> rfl) | (simp [*, zAO, zAN] <;> rfl), by repeat (first | (with_reducible first | exact HB.out | apply zAC | apply zAA | apply zAD | refine zAH ?_ GE165.out) | exact HB.out)⟩
end Go.Proofs.Ytphmlkbmnmicpaa.A
namespace Go.Proofs.Ytphmlkbmnmicpaa.A
open Go.RowKit Go.Proofs.YtphmlkbmnmicpaaW.PrintWords Go.Proofs.YtphmlkbmnmicpaaW.PrintLast Go.Proofs.YtphmlkbmnmicpaaW Go.Shelf
attribute [local go_sem] Oper.semAt_some PrintMore.max2_int PrintMore.max_two
theorem lat_calls (x : S37) (A : Option Addr) (c : Nat) (w : World) (hx : Kd.C (Kd.int .i64) w A x.f5.length x.f5) (hc : x.f5.length ≤ c) :
  Calls Try.prog 14 #[.agg #[.int .i64 x.f0, .int .i64 x.f1, .int .i64 x.f2, .int .i64 x.f3, .int .i64 x.f4, .slice A x.f5.length c]] w fun e w' => e = .returned (.int .i64 (latOf x)) ∧ Below w.heap.size w w' := by
 refine sched_Latency.calls x.f0 x.f1 x.f2 x.f3 x.f4 A c x.f5 (latOf x) w hx hc ?_
 unfold sched_Latency.f latOf
 split <;> (try rfl)
 split <;> (try rfl)
 split <;> (try rfl)
 split <;> (try rfl)
 split <;> (try rfl)
 split <;> rfl
def HI (w : World) (A0 : Option Addr) (n0 c0 : Nat) (out : List Int) (W : World) : Prop :=
 Boxed W w.heap.size 22 (.slice A0 n0 c0) ∧ W.heap[w.heap.size + 1]? = some (.cells (nums .i64 out).toArray 3 (0, 0)) ∧
 Boxed W (w.heap.size + 2) 23 (.slice (some ⟨w.heap.size + 1, 0, none⟩) out.length out.length)
theorem HI.own {β : Type} (w : World) (A0 : Option Addr) (n0 c0 : Nat) (f : β → List Int) : Own (fun s W => HI w A0 n0 c0 (f s) W) := by
 intro s X Y row ⟨h1, h2, h3⟩ hg hr
 exact ⟨(grownBy_keeps_cells hg hr h1 rfl).trans h1, (grownBy_keeps_cells hg hr h2 rfl).trans h2, (grownBy_keeps_cells hg hr h3 rfl).trans h3⟩
theorem HI.below {w : World} {A0 : Option Addr} {n0 c0 : Nat} {out : List Int} {W W' : World} (h : HI w A0 n0 c0 out W) (hb : Below W.heap.size W W') : HI w A0 n0 c0 out W' :=
 ⟨(hb.block _ h.1.lt).trans h.1, (hb.block _ (Array.getElem?_eq_some_iff.1 h.2.1).1).trans h.2.1, (hb.block _ h.2.2.lt).trans h.2.2⟩
theorem nums_set (out : List Int) (i : Nat) (v : Int) : (nums .i64 out).toArray.setIfInBounds i (.int .i64 v) = (nums .i64 (out.set i v)).toArray := by
 simp [nums, List.map_set]
theorem HI.set {w : World} {A0 : Option Addr} {n0 c0 : Nat} {out : List Int} {W : World} (h : HI w A0 n0 c0 out W) (i : Nat) (v : Int) : HI w A0 n0 c0 (out.set i v) (W.setCell ⟨w.heap.size + 1, i, none⟩ (.int .i64 v)) := by
 obtain ⟨h1, h2, h3⟩ := h
 refine ⟨(zAS h1 (p := ⟨w.heap.size + 1, i, none⟩) (by simp) _), ?_, ?_⟩
 ·have := blk_set h2 i (.int .i64 v)
  rwa [nums_set] at this
 ·rw [List.length_set]
  exact zAS h3 (p := ⟨w.heap.size + 1, i, none⟩) (by simp) _
theorem HI.cell {w : World} {A0 : Option Addr} {n0 c0 : Nat} {out : List Int} {W : World} (h : HI w A0 n0 c0 out W) (i : Nat) (hi : i < out.length) : W.cell? ⟨w.heap.size + 1, i, none⟩ = some (.int .i64 (rd out i)) := by
 rw [zAE h.2.1 i]
 simp [nums, rd, hi, List.getD_eq_getElem?_getD]
theorem made_nums (n : Nat) : madeCells #[Value.int .i64 0] n = (nums .i64 (List.replicate n 0)).toArray := by
 apply Array.ext
 ·simp [madeCells, nums]
 ·intro i h1 h2
  simp [madeCells, nums, Nat.mod_one]
theorem own_blk {W : World} {base g : Nat} {e : TypeId} {k : IntKind} {xs : List Int} (h : W.heap[g]? = some (.cells (nums k xs).toArray e (0, 0))) (hb : base ≤ g) (hm : xs.length ≤ 9223372036854775807) :
  W.ownsRow base e 1 (.slice (some ⟨g, 0, none⟩) xs.length xs.length) xs.length (encs (Value.int k) xs) :=
 ⟨by simp [encs], .inr ⟨g, xs.length, _, rfl, hb, h, Nat.le_refl _, by simpa [maxLen] using hm, by simp [nums], by simp [nums, encs, List.take_of_length_le]⟩⟩
theorem keepsOthers_below {W W' : World} (h : Below W.heap.size W W') : KeepsOthers W W' := ⟨h.size, fun k o hk _ => (h.block k (Array.getElem?_eq_some_iff.1 hk).1).trans hk⟩
theorem keepsAnd_set {w : World} (W : World) (i : Nat) (v : Value) : zCD w.heap.size (w.heap.size + 3) W (W.setCell ⟨w.heap.size + 1, i, none⟩ v) :=
 ⟨(Below.refl _ _).setCell (p := ⟨w.heap.size + 1, i, none⟩) (Nat.le_succ _) _, fun o ho => (Below.heap_setCell W ⟨w.heap.size + 1, i, none⟩ v (w.heap.size + 3) (by simp)).trans ho⟩
set_option maxRecDepth 100000 in
set_option maxHeartbeats 4000000 in
theorem heights_in (l : List S37) (d : List (List Int)) (A0 A1 : Option Addr) (c0 c1 : Nat) (w : World) (hl : Kd.C k37 w A0 l.length l) (hc0 : l.length ≤ c0) (hd : Kd.C (Kd.slice 3 (Kd.int .i64)) w A1 d.length d) (hc1 : d.length ≤ c1)
  (hn : d.length ≤ l.length) (hsmall : d.length ≤ 1000000) (hrow : ∀ i, i < d.length → ∀ k ∈ rd_L1 d i, 0 ≤ k ∧ k < d.length) :
  CallsIn Fence.wide 6 Try.prog 34 #[.slice A0 l.length c0, .slice A1 d.length c1] w fun e w' => ∃ v, e = .returned v ∧ Kd.R (Kd.int .i64) 3 w' w.heap.size (fun _ => True) v (hAll l d (down d.length 0)) ∧ Below w.heap.size w w' := by
 have hmk := print_make (P := Try.prog) 23 3 .i64 8 Try.underlying23 info3 (by decide) d.length (by omega)
 have fw : ∀ k, Fence.wide.fn k := fun _ => trivial
 obtain ⟨ad, f, hA, hf⟩ := rows_open hd
 have hdm := Kd.C_max hd
 refine callsIn_of_wp_marks Try.func34 rfl trivial ?_ rfl
 simp only [Try.ntmps34, List.size_toArray, List.length_cons, List.length_nil, Nat.reduceAdd, Nat.reduceSub, Array.replicate_succ, Array.replicate_zero, List.push_toArray, List.append_toArray, List.nil_append, List.cons_append]
 gi_wp2_with (gi_at_call 50; refine (back_in 5 _ _ _ _).mono ?_; rintro e w' ⟨rfl, rfl⟩)
 clear hmk
 have bN := Boxed.new (((w.alloc (.cells #[.slice A0 l.length c0] 22)).alloc (.cells (madeCells #[Value.int .i64 0] d.length) 3)).alloc (.cells #[.slice (some ⟨w.heap.size + 1, 0, none⟩) d.length d.length] 23)) 40 (.slice A1 d.length c1)
 have hI0 : HI w A0 l.length c0 (List.replicate d.length 0) ((((w.alloc (.cells #[.slice A0 l.length c0] 22)).alloc (.cells (madeCells #[Value.int .i64 0] d.length) 3)).alloc (.cells #[.slice (some ⟨w.heap.size + 1, 0, none⟩) d.length d.length] 23)).alloc (.cells #[.slice A1 d.length c1] 40)) := by
  have b0 := Boxed.new w 22 (.slice A0 l.length c0)
  have b1 := World.alloc_heap_new (w.alloc (.cells #[.slice A0 l.length c0] 22)) (.cells (madeCells #[Value.int .i64 0] d.length) 3)
  have b2 := Boxed.new ((w.alloc (.cells #[.slice A0 l.length c0] 22)).alloc (.cells (madeCells #[Value.int .i64 0] d.length) 3)) 23 (.slice (some ⟨w.heap.size + 1, 0, none⟩) d.length d.length)
  rw [World.size_alloc] at b1
  rw [World.size_alloc, World.size_alloc] at b2
  refine ⟨((b0.alloc _).alloc _).alloc _, ?_, ?_⟩
  ·rw [← made_nums]
   exact zAG (zAG b1 _) _
  ·rw [List.length_replicate]
   exact b2.alloc _
 have hB0 : Below w.heap.size w ((((w.alloc (.cells #[.slice A0 l.length c0] 22)).alloc (.cells (madeCells #[Value.int .i64 0] d.length) 3)).alloc (.cells #[.slice (some ⟨w.heap.size + 1, 0, none⟩) d.length d.length] 23)).alloc (.cells #[.slice A1 d.length c1] 40)) :=
  zAC (zAC (zAC (zAC (Below.refl _ _) _) _) _) _
 rw [World.size_alloc, World.size_alloc, World.size_alloc] at bN
 have hs0 : ((((w.alloc (.cells #[.slice A0 l.length c0] 22)).alloc (.cells (madeCells #[Value.int .i64 0] d.length) 3)).alloc (.cells #[.slice (some ⟨w.heap.size + 1, 0, none⟩) d.length d.length] 23)).alloc (.cells #[.slice A1 d.length c1] 40)).heap.size = w.heap.size + 4 := by simp
 generalize ((((w.alloc (.cells #[.slice A0 l.length c0] 22)).alloc (.cells (madeCells #[Value.int .i64 0] d.length) 3)).alloc (.cells #[.slice (some ⟨w.heap.size + 1, 0, none⟩) d.length d.length] 23)).alloc (.cells #[.slice A1 d.length c1] 40)) = W0 at hI0 hB0 bN hs0 ⊢
 refine wpIn_rangeFunc_ownG (α := Fin d.length) rfl (by decide) (gf := 55) (lb := #[.pointer (some ⟨w.heap.size + 3, 0, none⟩)]) rfl trivial (enters_of Try.func55 (by kernel_rfl) rfl)
  (back_stops 5 (by decide) (w.heap.size + 3) w.heap.size d.length c1 A1 ad (fun j => .slice (f j).1 (rd_L1 d j).length (f j).2) hdm hA W0 hB0.size bN (fun j hj => zAK hB0 (hf j hj).1))
  (fun h k => keepsAnd_t h k) (keepsAnd_b (by omega) (by omega)) (Below.refl _ _) (fun _ => rfl)
  (fun pre W => HI w A0 l.length c0 (hAll l d (zBY pre)) W ∧ Below w.heap.size w W)
  (fun _ _ _ => False)
  (OwnFrom.and (Own.from (HI.own w A0 l.length c0 fun pre : List (Fin d.length) => hAll l d (zBY pre)) _) (ownFrom_below (Nat.le_refl _) (by omega)))
  (fun _ _ _ _ _ hs _ _ => hs)
  ⟨hI0, hB0⟩
  (fun x => { tmps := #[Value.slice A0 l.length c0, Value.slice A1 d.length c1,
        Value.pointer (some { block := w.heap.size, off := 0 }), undef, Value.slice none 0 0,
        Value.pointer (some { block := w.heap.size + 1 + 1, off := 0 }), .int .i64 (x.val : Int), .slice (f x.val).1 (rd_L1 d x.val).length (f x.val).2, undef, undef,
        Value.slice A1 d.length c1, Value.int IntKind.i64 ↑d.length,
        Value.slice (some { block := w.heap.size + 1, off := 0 }) d.length d.length, Value.slice A1 d.length c1,
        .func (.func 55) #[] #[.pointer (some ⟨w.heap.size + 3, 0, none⟩)], .int .i64 (x.val : Int), .slice (f x.val).1 (rd_L1 d x.val).length (f x.val).2, undef, undef, undef, undef, undef, undef, undef, undef, undef, undef, undef, undef, undef,
        undef, undef, undef, undef, undef, undef, undef, undef, undef, undef, undef, undef, undef, undef, undef,
        undef, undef, undef], defers := [] }) ?assign ?body ?done ?stop
 case assign =>
  intro l x W K hK
  gi_wp2
  exact hK
 case body =>
  rintro lp pre x W ⟨hI, hB⟩ hlt
  obtain ⟨x, hx⟩ := x
  have hlen := hAll_length l d (zBY pre)
  generalize hout : hAll l d (zBY pre) = out at hI hlen
  have hout' := Aside0.mk hout
  clear hout
  have k0 := cell_regrown hI.2.2.cell
  have k1 := cell_regrown (hI.cell x (by omega))
  have k2 := cell_regrown hI.1.cell
  obtain ⟨ld, A5, c5, rfl, q0, q1, q2, q3, q4, q5, q6, q7⟩ := zBT hl (x : Int) (by omega) (by omega)
  simp only [Int.toNat_natCast] at q0 q1 q2 q3 q4 q5
  have m0 := cell_regrown (zAK hB q0)
  have m1 := cell_regrown (zAK hB q1)
  have m2 := cell_regrown (zAK hB q2)
  have m3 := cell_regrown (zAK hB q3)
  have m4 := cell_regrown (zAK hB q4)
  have m5 := cell_regrown (zAK hB q5)
  have cL : ∀ dd os, CallsIn (Fence.wide.inRound lp) 3 Try.prog 14 _ (Sort.grow (redrawn W dd) os) _ := fun dd os =>
   CallsIn.inRound lp (CallsIn.regrown_of (r := 3) (callsIn_wide.2 (lat_calls (zAF l x) A5 c5 (Sort.grow (redrawn W dd) os) (Kd.C_below (Kd.C_below q7 hB) (below_regrown W dd os)) q6)))
  have hxl : (x : Int) < (l.length : Int) := by omega
  have hxo : (x : Int) < (out.length : Int) := by omega
  have hu37 := Try.underlying37
  obtain ⟨_, hrl, hrc⟩ := hf x hx
  have hrc' := Aside0.mk hrc
  clear hrc hf hA hd
  gi_wp2
  generalize (f x).1 = RA at hrc' ⊢
  generalize (f x).2 = rc at hrl ⊢
  refine R.region_tail (fun w' => ∃ p : Regrown, w' = Sort.grow (redrawn W p.d) p.os) 11 (by kernel_rfl) (by kernel_rfl) (by kernel_rfl) ⟨⟨W.drawn + 1, #[]⟩, by rw [Sort.grow_empty]; rfl⟩ ?_
  simp only [List.take_succ_cons, List.take_zero, List.drop_succ_cons, List.drop_zero]
  repeat (quiet_step_in (exact cL _ _))
  refine wpQuietIn_nil ?_
  rintro _ ⟨⟨dq, osq⟩, rfl⟩
  have hb1 := below_regrown W dq osq
  have hI1 := hI.below hb1
  have hB1 := zBW hB hB.size hb1
  have hA1 : zCD w.heap.size (w.heap.size + 3) W (Sort.grow (redrawn W dq) osq) := ⟨hb1.mono hB.size, fun o ho => (hb1.block _ (Array.getElem?_eq_some_iff.1 ho).1).trans ho⟩
  have hF1 : KeepsFrom W0.heap.size W (Sort.grow (redrawn W dq) osq) := (keepsOthers_below hb1).from _
  clear k0 k1 k2 m0 m1 m2 m3 m4 m5 cL
  generalize Sort.grow (redrawn W dq) osq = W1 at hI1 hB1 hA1 hF1 ⊢
  have c1x := hI1.cell x (by omega)
  have f1x := zAB hI1.2.1 x
  gi_wp2
  have hI2 := hI1.set x (wrap64 (rd out (x : Int) + latOf (zAF l (x : Int))))
  have hB2 : Below w.heap.size w (W1.setCell ⟨w.heap.size + 1, x, none⟩ (.int .i64 (wrap64 (rd out (x : Int) + latOf (zAF l (x : Int)))))) := hB1.setCell (p := ⟨w.heap.size + 1, x, none⟩) (Nat.le_succ _) _
  have hA2 := keepsAnd_t hA1 (keepsAnd_set (w := w) W1 x (.int .i64 (wrap64 (rd out (x : Int) + latOf (zAF l (x : Int))))))
  have hF2 := hF1.trans ((KeepsOthers.setCell W1 ⟨w.heap.size + 1, x, none⟩ (.int .i64 (wrap64 (rd out (x : Int) + latOf (zAF l (x : Int)))))).from W0.heap.size)
  clear c1x f1x
  generalize hW2 : W1.setCell ⟨w.heap.size + 1, x, none⟩ (.int .i64 (wrap64 (rd out (x : Int) + latOf (zAF l (x : Int))))) = W2 at hI2 hB2 hA2 hF2 ⊢
  clear hW2 hI1 hB1 hA1 hF1
  have hrow' := Aside0.mk (hrow x hx)
  have hrm := Kd.C_max hrc'.out
  have hwr := Aside0.mk (show hStep l d out x = hRow x (out.set x (wrap64 (rd out (x : Int) + latOf (zAF l (x : Int))))) (rd_L1 d (x : Int)) from rfl)
  clear hI hb1
  have hol : (out.set x (wrap64 (rd out (x : Int) + latOf (zAF l (x : Int))))).length = d.length := by rw [List.length_set]; exact hlen
  generalize out.set x (wrap64 (rd out (x : Int) + latOf (zAF l (x : Int)))) = o2 at hI2 hwr hol
  have hol' := Aside0.mk hol
  clear hlen hol
  generalize hrw : rd_L1 d (x : Int) = row at *
  clear hrw
  gi_loopw [30] (fun s wr => ∃ j : Nat, j ≤ row.length ∧ s = .int .i64 j ∧ Aside0 (HI w (some ld) l.length c0 (hRow x o2 (row.take j)) wr) ∧ Aside0 (Below w.heap.size w wr) ∧ Aside0 (zCD w.heap.size (w.heap.size + 3) W wr) ∧ Aside0 (KeepsFrom W0.heap.size W wr))
   (fun s _ => row.length - (intOf s).toNat)
  case atStart => exact ⟨0, Nat.zero_le _, rfl, ⟨hI2⟩, ⟨hB2⟩, ⟨hA2⟩, ⟨hF2⟩⟩
  case round =>
   clear hI2 hB2 hA2 hF2
   obtain ⟨j, hj, rfl, hI, hB, hK, hF⟩ := hrel
   have hlj := Aside0.mk (hRow_length x (row.take j) o2)
   by_cases hjl : j < row.length
   ·have hjl' : (j : Int) < (row.length : Int) := by omega
    have hrt : Aside0 (hRow x o2 (row.take (j + 1)) = setMax x (hRow x o2 (row.take j)) (rd row j)) := ⟨by
     rw [List.take_succ_eq_append_getElem hjl, hRow, List.foldl_append]
     simp [rd, hjl, List.getD_eq_getElem?_getD, hRow]⟩
    obtain ⟨rad, hre, hrc⟩ := Kd.at_int hrc'.out (j : Int) (by omega) (by omega)
    rw [Int.toNat_natCast] at hrc
    have hrc2 := zAK hB.out hrc
    have hmem := hrow'.out (rd row j) (by
     unfold rd
     simp only [Int.toNat_natCast, List.getD_eq_getElem?_getD, List.getElem?_eq_getElem hjl, Option.getD_some]
     exact List.getElem_mem hjl)
    generalize hRow x o2 (row.take j) = o3 at hI hlj hrt
    have h3l : o3.length = d.length := hlj.out.trans hol'.out
    have h3l' := Aside0.mk h3l
    clear hrc
    generalize rd row (j : Int) = kk at hrc2 hmem hrt
    obtain ⟨kn, rfl⟩ := Int.eq_ofNat_of_zero_le hmem.1
    have hkn : kn < d.length := by omega
    have k0 := cell_regrown hI.out.2.2.cell
    have k1 := cell_regrown (hI.out.cell kn (by omega))
    have k2 := cell_regrown (hI.out.cell x (by omega))
    rw [h3l] at k0
    subst hre
    clear h3l hlj hmem
    gi_wp2
    refine R.region_tail (fun w' => ∃ p : Regrown, w' = Sort.grow (redrawn wr p.d) p.os) 12 (by kernel_rfl) (by kernel_rfl) (by kernel_rfl) ⟨⟨wr.drawn + 1, #[]⟩, by rw [Sort.grow_empty]; rfl⟩ ?_
    simp only [List.take_succ_cons, List.take_zero, List.drop_succ_cons, List.drop_zero]
    repeat (quiet_step_in (fail))
    refine wpQuietIn_nil ?_
    rintro _ ⟨⟨dq, osq⟩, rfl⟩
    have hb1 := below_regrown wr dq osq
    have hI1 := hI.out.below hb1
    have hB1 := zBW hB.out hB.out.size hb1
    have hA1 : zCD w.heap.size (w.heap.size + 3) W (Sort.grow (redrawn wr dq) osq) := keepsAnd_t hK.out ⟨hb1.mono hB.out.size, fun o ho => (hb1.block _ (Array.getElem?_eq_some_iff.1 ho).1).trans ho⟩
    have hF1 : KeepsFrom W0.heap.size W (Sort.grow (redrawn wr dq) osq) := hF.out.trans ((keepsOthers_below hb1).from _)
    clear k0 k1 k2 hI hB hK hF hrc2 hb1
    generalize Sort.grow (redrawn wr dq) osq = W1 at hI1 hB1 hA1 hF1 ⊢
    have c1x := hI1.cell kn (by have := h3l'.out; omega)
    have f1x := zAB hI1.2.1 kn
    gi_wp2
    have hI2 := Aside0.mk (hI1.set kn (mx2 (rd o3 (kn : Int)) (rd o3 (x : Int))))
    have hB2 := Aside0.mk (hB1.setCell (p := ⟨w.heap.size + 1, kn, none⟩) (Nat.le_succ _) (.int .i64 (mx2 (rd o3 (kn : Int)) (rd o3 (x : Int)))))
    have hA2 := Aside0.mk (keepsAnd_t hA1 (keepsAnd_set (w := w) W1 kn (.int .i64 (mx2 (rd o3 (kn : Int)) (rd o3 (x : Int))))))
    have hF2 := Aside0.mk (hF1.trans ((KeepsOthers.setCell W1 ⟨w.heap.size + 1, kn, none⟩ (.int .i64 (mx2 (rd o3 (kn : Int)) (rd o3 (x : Int))))).from W0.heap.size))
    clear c1x f1x
    go_roundw
    case rel => exact ⟨j + 1, by omega, by go_num, by rw [hrt.out]; exact hI2, hB2, hA2, hF2⟩
    case measure => simp [intOf]; omega
   ·obtain rfl : j = row.length := by omega
    gi_wp2
    rw [List.take_length] at hI
    refine ⟨hF.out, hK.out, ?_, hB.out⟩
    rw [placesOf_snoc, hAll_snoc, hout'.out, hwr.out]
    exact hI.out
 case done =>
  rintro D ys W hD hys ⟨hI, hB⟩ hK
  have hc := hI.2.2.cell
  gi_wp2
  refine ⟨by simp, .inl ⟨_, _, rfl, run_takeDeferred hK, ?_⟩⟩
  rw [hys] at hI
  refine ⟨_, results_tmp rfl _ _ _, _, rfl, ?_, hB.trans (belowK_b (w := w) (Nat.le_refl _) W D _ _ (by omega) hK rfl rfl)⟩
  exact Kd.R_of_own (ownsRow_putObj (own_blk hI.2.1 (Nat.le_succ _) (by rw [hAll_length]; omega)) _ hK rfl) (fun _ _ => trivial)
 case stop =>
  rintro D c pre W _ _ h _
  exact h.elim
theorem heights_calls (l : List S37) (d : List (List Int)) (A0 A1 : Option Addr) (c0 c1 : Nat) (w : World) (hl : Kd.C k37 w A0 l.length l) (hc0 : l.length ≤ c0) (hd : Kd.C (Kd.slice 3 (Kd.int .i64)) w A1 d.length d) (hc1 : d.length ≤ c1)
  (hn : d.length ≤ l.length) (hsmall : d.length ≤ 1000000) (hrow : ∀ i, i < d.length → ∀ k ∈ rd_L1 d i, 0 ≤ k ∧ k < d.length) :
  Calls Try.prog 34 #[.slice A0 l.length c0, .slice A1 d.length c1] w fun e w' => ∃ v, e = .returned v ∧ Kd.R (Kd.int .i64) 3 w' w.heap.size (fun _ => True) v (hAll l d (down d.length 0)) ∧ Below w.heap.size w w' :=
 callsIn_wide.1 (heights_in l d A0 A1 c0 c1 w hl hc0 hd hc1 hn hsmall hrow)
end Go.Proofs.Ytphmlkbmnmicpaa.A
namespace Go.Proofs.Ytphmlkbmnmicpaa.A
open Go.RowKit Go.Proofs.YtphmlkbmnmicpaaW.PrintWords Go.Proofs.YtphmlkbmnmicpaaW.PrintLast Go.Proofs.YtphmlkbmnmicpaaW.PrintMore
attribute [local go_sem] max2_int zBH max_two zBL zBB zBA zBI zBG   -- for this text's walks alone
def slices_Index_int_int.l0 : Nat → List Int → Int → Int → Int → Option (Int)
 | 0, _, _, _, _ => none
 | k + 1, x0, x1, x7, x8 => if x8 < x7 then (if 0 ≤ x8 then (if x8 < (x0.length : Int) then (if x1 = (rd x0 x8) then (some x8) else (slices_Index_int_int.l0 k x0 x1 x7 (wrap64 (x8 + 1)))) else (none)) else (none)) else (some (-1))
def slices_Index_int_int.f (k : Nat) (l0 : List Int) (a1 : Int) : Option (Int) := slices_Index_int_int.l0 k l0 a1 (l0.length : Int) 0
set_option maxHeartbeats 8000000 in
set_option maxRecDepth 100000 in
theorem slices_Index_int_int.calls (k : Nat) (A0 : Option Addr) (c0 : Nat) (l0 : List Int) (a1 : Int) (r : Int) (w : World) (hr0 : Kd.C (Kd.int .i64) w A0 l0.length l0) (hc0 : l0.length ≤ c0) (h : slices_Index_int_int.f k l0 a1 = some r) :
  Calls Try.prog 54 #[.slice A0 l0.length c0, .int .i64 a1] w fun e w' => e = .returned (.int .i64 r) ∧ Drawn0 w w' := by
 have HR0 := Aside0.mk hr0
 have HC0 := Aside0.mk hc0
 clear hr0 hc0
 have H : (slices_Index_int_int.l0 k l0 a1 (l0.length : Int) 0) = some r := h
 clear h
 have H' := Aside0.mk H
 clear H
 go_enter Try.func54, Try.ntmps54
 go_wp2
 go_loopg [8] k (fun kq v8 w' => ∃ (x8_1 : Int), v8 = .int .i64 x8_1 ∧ Aside0 (slices_Index_int_int.l0 kq l0 a1 (l0.length : Int) x8_1 = some r) ∧ Aside0 (kq ≤ k) ∧ Drawn0 w w')
 case atStart => exact ⟨(0), (by first | rfl | (simp; done) | (simp [*]; done)), H', ⟨Nat.le_refl _⟩, by repeat (first | exact Drawn0.refl _ | apply Drawn0.step)⟩
 case round =>
  clear H'
  try clear p2
  obtain ⟨x8_1, rfl, HA, HK1, ⟨m1, rfl⟩⟩ := hrel
  cases gk with
  | zero => exact absurd HA.out (by simp [slices_Index_int_int.l0])
  | succ k1 =>
   have H := HA.out
   clear HA
   simp only [slices_Index_int_int.l0] at H
   by_cases c3 : x8_1 < (l0.length : Int)
   ·rw [if_pos c3] at H
    have c3b0 : decide (x8_1 < (l0.length : Int)) = true := decide_eq_true c3
    clear c3
    by_cases c4 : 0 ≤ x8_1
    ·rw [if_pos c4] at H
     have c4b0 : decide (0 ≤ x8_1) = true := decide_eq_true c4
     clear c4
     by_cases c5 : x8_1 < (l0.length : Int)
     ·rw [if_pos c5] at H
      have c5b0 : decide (x8_1 < (l0.length : Int)) = true := decide_eq_true c5
      clear c5
      by_cases c6 : a1 = (rd l0 x8_1)
      ·rw [if_pos c6] at H
       have c6b0 : (a1 == (rd l0 x8_1)) = true := beq_iff_eq.mpr c6
       have c6b1 : (a1 != (rd l0 x8_1)) = false := bne_eq_false_iff_eq.mpr c6
       clear c6
       obtain rfl := Option.some.inj H
       have p101 : 0 ≤ (x8_1 : Int) := of_decide_eq_true (by first | (with_reducible assumption) | assumption)
       have q101 : x8_1 < (l0.length : Int) := of_decide_eq_true (by first | (with_reducible assumption) | assumption)
       obtain ⟨ad101, e101, hx101_0⟩ := Kd.at_int HR0.out x8_1 p101 q101
       cases e101
       replace p101 := eq_true p101
       replace q101 := eq_true q101
       go_wp2
       go_ret
       exact ⟨by first | rfl | (simp; done) | (simp [*]; done), by repeat (first | exact Drawn0.refl _ | apply Drawn0.step)⟩
      ·rw [if_neg c6] at H
       have c6b0 : (a1 == (rd l0 x8_1)) = false := beq_eq_false_iff_ne.mpr c6
       have c6b1 : (a1 != (rd l0 x8_1)) = true := bne_iff_ne.mpr c6
       have H' := Aside0.mk H
       clear H
       have p101 : 0 ≤ (x8_1 : Int) := of_decide_eq_true (by first | (with_reducible assumption) | assumption)
       have q101 : x8_1 < (l0.length : Int) := of_decide_eq_true (by first | (with_reducible assumption) | assumption)
       obtain ⟨ad101, e101, hx101_0⟩ := Kd.at_int HR0.out x8_1 p101 q101
       cases e101
       replace p101 := eq_true p101
       replace q101 := eq_true q101
       go_wp2
       go_roundg k1
       case measure => have := HK1.out; omega
       case rel => exact ⟨(wrap64 (x8_1 + 1)), (by first | rfl | (simp; done) | (simp [*]; done)), H', ⟨by have := HK1.out; omega⟩, by repeat (first | exact Drawn0.refl _ | apply Drawn0.step)⟩
     ·rw [if_neg c5] at H
      exact absurd H (by simp)
    ·rw [if_neg c4] at H
     exact absurd H (by simp)
   ·rw [if_neg c3] at H
    have c3b0 : decide (x8_1 < (l0.length : Int)) = false := decide_eq_false c3
    clear c3
    obtain rfl := Option.some.inj H
    go_wp2
    go_ret
    exact ⟨by first | rfl | (simp; done) | (simp [*]; done), by repeat (first | exact Drawn0.refl _ | apply Drawn0.step)⟩
end Go.Proofs.Ytphmlkbmnmicpaa.A
namespace Go.Proofs.Ytphmlkbmnmicpaa.A
open Go.RowKit Go.Proofs.YtphmlkbmnmicpaaW.PrintWords Go.Proofs.YtphmlkbmnmicpaaW.PrintLast Go.Proofs.YtphmlkbmnmicpaaW.PrintMore
attribute [local go_sem] max2_int zBH max_two zBL zBB zBA zBI zBG   -- for this text's walks alone
def slices_Contains_int_int.f (k : Nat) (l0 : List Int) (a1 : Int) : Option (Bool) := (slices_Index_int_int.f k l0 a1).bind fun t102 => (some (decide (t102 ≥ 0)))
set_option maxHeartbeats 8000000 in
set_option maxRecDepth 100000 in
theorem slices_Contains_int_int.calls (k : Nat) (A0 : Option Addr) (c0 : Nat) (l0 : List Int) (a1 : Int) (r : Bool) (w : World) (hr0 : Kd.C (Kd.int .i64) w A0 l0.length l0) (hc0 : l0.length ≤ c0) (h : slices_Contains_int_int.f k l0 a1 = some r) :
  Calls Try.prog 47 #[.slice A0 l0.length c0, .int .i64 a1] w fun e w' => e = .returned (.bool r) ∧ Drawn0 w w' := by
 have HR0 := Aside0.mk hr0
 have HC0 := Aside0.mk hc0
 clear hr0 hc0
 have H : ((slices_Index_int_int.f k l0 a1).bind fun t102 => (some (decide (t102 ≥ 0)))) = some r := h
 clear h
 replace H := Option.bind_eq_some_iff.mp H
 obtain ⟨t102, A30, H⟩ := H
 replace H : (some (decide (t102 ≥ 0))) = some r := H
 have A3 := Aside0.mk A30
 clear A30
 obtain rfl := Option.some.inj H
 go_enter Try.func47, Try.ntmps47
 go_wp2_with (first | ((with_reducible refine zAV (f := 54) rfl ?_); refine zBO (some 7) rfl rfl Try.func54 (by kernel_rfl) rfl #[.slice A0 l0.length c0, .int .i64 a1] rfl (by (try simp only [List.map_toArray, List.map_cons, List.map_nil]); first | done | rfl | (simp only [List.length_drop, List.length_take]; rfl)) ?_; (with_reducible refine (slices_Index_int_int.calls k _ _ l0 a1 t102 _ ?side1 ?side2 A3.out).mono ?_); (case side1 => repeat (first | exact HR0.out | (with_reducible refine Kd.C_alloc ?_ _) | (with_reducible refine Kd.C_drewN ?_ _) | (with_reducible refine Kd.C_drew ?_))); (case side2 => exact HC0.out); rintro e w' ⟨rfl, ⟨nd, rfl⟩⟩; refine ⟨_, rfl, ?_⟩))
 go_ret
 exact ⟨by first | rfl | (simp; done) | (simp [*]; done), by repeat (first | exact Drawn0.refl _ | apply Drawn0.step)⟩
end Go.Proofs.Ytphmlkbmnmicpaa.A
namespace Go.Proofs.Ytphmlkbmnmicpaa.A
open Go.RowKit Go.Proofs.YtphmlkbmnmicpaaW.PrintWords Go.Proofs.YtphmlkbmnmicpaaW.PrintLast Go.Proofs.YtphmlkbmnmicpaaW.PrintMore
attribute [local go_sem] max2_int zBH max_two zBL zBB zBA zBI zBG   -- for this text's walks alone
def code_Pure.j0 : Nat → Int → Bool → Int → Int → Int → Int → Int → List Int → Option (Bool)
 | 0, _, _, _, _, _, _, _, _ => none
 | k + 1, x4, x5, x104000, x104001, x104002, x104003, x104004, x104005 => if x5 = true then (some true) else (if x4 = 2 then ((slices_Contains_int_int.f k (([4, 5, 9, 10] : List Int)) x104004).bind fun t107 => (some (!t107))) else (some false))
def code_Pure.f (k : Nat) (a0_0 : Int) (a0_1 : Int) (a0_2 : Int) (a0_3 : Int) (a0_4 : Int) (l0_5 : List Int) : Option (Bool) := if a0_0 = 1 then (code_Pure.j0 k a0_0 (a0_0 == 1) a0_0 a0_1 a0_2 a0_3 a0_4 l0_5) else (code_Pure.j0 k a0_0 (a0_0 == 3) a0_0 a0_1 a0_2 a0_3 a0_4 l0_5)
set_option maxHeartbeats 8000000 in
set_option maxRecDepth 100000 in
theorem code_Pure.calls (k : Nat) (a0_0 : Int) (a0_1 : Int) (a0_2 : Int) (a0_3 : Int) (a0_4 : Int) (A0_5 : Option Addr) (c0_5 : Nat) (l0_5 : List Int) (r : Bool) (w : World) (hr0_5 : Kd.C (Kd.int .i64) w A0_5 l0_5.length l0_5) (hc0_5 : l0_5.length ≤ c0_5) (h : code_Pure.f k a0_0 a0_1 a0_2 a0_3 a0_4 l0_5 = some r) :
  Calls Try.prog 28 #[.agg #[.int .i64 a0_0, .int .i64 a0_1, .int .i64 a0_2, .int .i64 a0_3, .int .i64 a0_4, .slice A0_5 l0_5.length c0_5]] w fun e w' => e = .returned (.bool r) ∧ Below w.heap.size w w' := by
 have hu37 := Try.underlying37
 have HR0_5 := Aside0.mk hr0_5
 have HC0_5 := Aside0.mk hc0_5
 clear hr0_5 hc0_5
 have HB := Aside0.mk (Below.refl w.heap.size w)
 have H : (if a0_0 = 1 then (code_Pure.j0 k a0_0 (a0_0 == 1) a0_0 a0_1 a0_2 a0_3 a0_4 l0_5) else (code_Pure.j0 k a0_0 (a0_0 == 3) a0_0 a0_1 a0_2 a0_3 a0_4 l0_5)) = some r := h
 clear h
 have HC2 := Aside0.mk H
 clear H
 go_enter Try.func28, Try.ntmps28
 go_upto_if 5 with (first | ((with_reducible refine zAU (N := 1) rfl ?_); refine zAT ?hg (N := 1) ?hd (cs := #[.int .i64 a0_0, .int .i64 a0_1, .int .i64 a0_2, .int .i64 a0_3, .int .i64 a0_4, .slice A0_5 l0_5.length c0_5]) (t := 37) ?hr ?_; (case hd => rfl); (case hg => rfl); (case hr => first | (go_simp; done) | (go_simp; rfl)); intro gb103 hg w3 hbox hb; have n0_ := Aside0.mk (zAL (by repeat (first | (with_reducible first | exact HB.out | apply zAC | apply zAA | apply zAD) | exact HB.out)) hb); have n1_ := Aside0.mk (hbox); have n2_ := Aside0.mk ((by rw [hg]; exact (zAM (by repeat (first | (with_reducible first | exact HB.out | apply zAC | apply zAA | apply zAD) | exact HB.out))) : w.heap.size ≤ gb103)); have n3_ := Aside0.mk ((by rw [hg]; exact (zAM (by repeat (first | (with_reducible first | exact HB.out | apply zAC | apply zAA | apply zAD) | exact HB.out))) : w.heap.size ≤ gb103)); clear HB; have HB := n0_; have BK103 := n1_; have GW103 := n2_; have GE103 := n3_; clear n0_ n1_ n2_ n3_; clear hb hbox hg; have hcz4_0 : w3.cell? ⟨gb103, 0, none⟩ = some (.int .i64 a0_0) := (zAE BK103.out 0).trans rfl; have hcz4_1 : w3.cell? ⟨gb103, 1, none⟩ = some (.int .i64 a0_1) := (zAE BK103.out 1).trans rfl; have hcz4_2 : w3.cell? ⟨gb103, 2, none⟩ = some (.int .i64 a0_2) := (zAE BK103.out 2).trans rfl; have hcz4_3 : w3.cell? ⟨gb103, 3, none⟩ = some (.int .i64 a0_3) := (zAE BK103.out 3).trans rfl; have hcz4_4 : w3.cell? ⟨gb103, 4, none⟩ = some (.int .i64 a0_4) := (zAE BK103.out 4).trans rfl; have hcz4_5 : w3.cell? ⟨gb103, 5, none⟩ = some (.slice A0_5 l0_5.length c0_5) := (zAE BK103.out 5).trans rfl; have hfz4_0 := zAB BK103.out 0; have hfz4_1 := zAB BK103.out 1; have hfz4_2 := zAB BK103.out 2; have hfz4_3 := zAB BK103.out 3; have hfz4_4 := zAB BK103.out 4; have hfz4_5 := zAB BK103.out 5))
 (try simp only [Act.put, List.setIfInBounds_toArray, List.set_cons_zero, List.set_cons_succ])
 go_cut [5] (fun v5 wc => ∃ (kq : Nat) (x5_1 : Bool), v5 = .bool x5_1 ∧ Aside0 (code_Pure.j0 kq a0_0 x5_1 a0_0 a0_1 a0_2 a0_3 a0_4 l0_5 = some r) ∧ Aside0 (kq ≤ k) ∧ Aside0 (wc.heap[gb103]? = some (.cells #[.int .i64 a0_0, .int .i64 a0_1, .int .i64 a0_2, .int .i64 a0_3, .int .i64 a0_4, (.slice A0_5 l0_5.length c0_5)] 37 (0, 0))) ∧ Aside0 (Below w.heap.size w wc))
 case first =>
  have H := HC2.out
  clear HC2
  by_cases c5 : a0_0 = 1
  ·rw [if_pos c5] at H
   have c5b0 : (a0_0 == 1) = true := beq_iff_eq.mpr c5
   have c5b1 : (a0_0 != 1) = false := bne_eq_false_iff_eq.mpr c5
   clear c5
   (first | rw [c5b0] | (simp only [i64_w, i32_w]; rw [c5b0]) | skip)
   have H' := Aside0.mk H
   clear H
   go_wp2
   go_meet
   case rel => exact ⟨_, ((a0_0 == 1)), (by first | rfl | (simp; done) | (simp [*]; done)), H', ⟨by first | omega | exact Nat.le_refl _⟩, ⟨by (with_reducible repeat (first | refine zAI ?_ _ | refine zAJ ?_ | refine zAG ?_ _)); exact BK103.out⟩, ⟨by repeat (first | (with_reducible first | exact HB.out | apply zAC | apply zAA | apply zAD | refine zAH ?_ GE103.out) | exact HB.out)⟩⟩
  ·rw [if_neg c5] at H
   have c5b0 : (a0_0 == 1) = false := beq_eq_false_iff_ne.mpr c5
   have c5b1 : (a0_0 != 1) = true := bne_iff_ne.mpr c5
   (first | rw [c5b0] | (simp only [i64_w, i32_w]; rw [c5b0]) | skip)
   have H' := Aside0.mk H
   clear H
   go_wp2
   go_meet
   case rel => exact ⟨_, ((a0_0 == 3)), (by first | rfl | (simp; done) | (simp [*]; done)), H', ⟨by first | omega | exact Nat.le_refl _⟩, ⟨by (with_reducible repeat (first | refine zAI ?_ _ | refine zAJ ?_ | refine zAG ?_ _)); exact BK103.out⟩, ⟨by repeat (first | (with_reducible first | exact HB.out | apply zAC | apply zAA | apply zAD | refine zAH ?_ GE103.out) | exact HB.out)⟩⟩
 case rest =>
  clear HC2
  (try clear c2); (try clear p2); (try clear c5); (try clear c5b0); (try clear c5b1); (try clear hcz4_0); (try clear hcz4_1); (try clear hcz4_2); (try clear hcz4_3); (try clear hcz4_4); (try clear hcz4_5); (try clear hfz4_0); (try clear hfz4_1); (try clear hfz4_2); (try clear hfz4_3); (try clear hfz4_4); (try clear hfz4_5)
  obtain ⟨kq, x5_1, rfl, HA, HJ1, BK103, HB⟩ := hcut
  cases kq with
  | zero => exact absurd HA.out (by simp [code_Pure.j0])
  | succ kj1 =>
   have H := HA.out
   clear HA
   simp only [code_Pure.j0] at H
   by_cases c6 : x5_1 = true
   ·subst c6
    have H1 : (some true) = some r := by rw [if_pos rfl] at H; exact H
    clear H
    have H := H1
    clear H1
    obtain rfl := Option.some.inj H
    go_wp2
    go_ret
    exact ⟨by first | rfl | (simp [zAO, zAN] <;> rfl) | (simp [*, zAO, zAN] <;> rfl), by repeat (first | (with_reducible first | exact HB.out | apply zAC | apply zAA | apply zAD | refine zAH ?_ GE103.out) | exact HB.out)⟩
   ·replace c6 := Bool.eq_false_iff.mpr c6
    subst c6
    have H1 : (if a0_0 = 2 then ((slices_Contains_int_int.f kj1 (([4, 5, 9, 10] : List Int)) a0_4).bind fun t107 => (some (!t107))) else (some false)) = some r := by rw [if_neg (show ¬ (false = true) by decide)] at H; exact H
    clear H
    have H := H1
    clear H1
    by_cases c7 : a0_0 = 2
    ·rw [if_pos c7] at H
     have c7b0 : (a0_0 == 2) = true := beq_iff_eq.mpr c7
     have c7b1 : (a0_0 != 2) = false := bne_eq_false_iff_eq.mpr c7
     clear c7
     obtain ⟨y104, hy104⟩ : ∃ y_ : List Int, y_ = (([4, 5, 9, 10] : List Int)) := ⟨_, rfl⟩
     replace H : ((slices_Contains_int_int.f kj1 y104 a0_4).bind fun t107 => (some (!t107))) = some r := by first | (rw [hy104]; with_reducible exact H) | (have H2_ := (Option.bind_some _ _).symm.trans H; rw [hy104]; with_reducible exact H2_) | (have H2_ := (Option.bind_some _ _).symm.trans H; with_reducible exact H2_) | with_reducible exact H | (rw [hy104]; exact H) | exact H
     have Ny104 := Aside0.mk hy104
     clear hy104
     replace H := Option.bind_eq_some_iff.mp H
     obtain ⟨t107, A80, H⟩ := H
     replace H : (some (!t107)) = some r := H
     have A8 := Aside0.mk A80
     clear A80
     obtain rfl := Option.some.inj H
     go_wp2_with (first | ((with_reducible refine zAU (N := 10) rfl ?_); refine Kd.R_lit (Kd.int .i64) _ 3 ?hg (N := 10) ?hd (xs := ([4, 5, 9, 10] : List Int)) (inner := [.int .i64 4, .int .i64 5, .int .i64 9, .int .i64 10]) (ok := fun _ => True) (okp := fun _ => True) ?hr ?hp (fun _ hk => hk) trivial (Below.refl _ _) (Nat.le_refl _) (by simp) ?_; (case hd => rfl); (case hg => rfl); (case hr => first | (go_simp; done) | (go_simp; rfl)); (case hp => exact (Reps.one (show Kd.M (Kd.int .i64) _ _ _ 4 [.int .i64 4] from rfl) (Reps.one (show Kd.M (Kd.int .i64) _ _ _ 5 [.int .i64 5] from rfl) (Reps.one (show Kd.M (Kd.int .i64) _ _ _ 9 [.int .i64 9] from rfl) (Reps.one (show Kd.M (Kd.int .i64) _ _ _ 10 [.int .i64 10] from rfl) (Reps.none _ _)))))); intro v105 w9 ho10 hb hg_ hnew_; clear hg_ hnew_; (first | rw [← Ny104.out] at ho10 | (simp only [Int.reduceToNat] at ho10; rw [← Ny104.out] at ho10)); have n0_ := Aside0.mk (Kd.R_lower ho10 (zAM (by repeat (first | (with_reducible first | exact HB.out | apply zAC | apply zAA | apply zAD | refine zAH ?_ GE103.out) | exact HB.out)))); have n1_ := Aside0.mk (zAP (g := gb103) (o := .cells #[.int .i64 a0_0, .int .i64 a0_1, .int .i64 a0_2, .int .i64 a0_3, .int .i64 a0_4, .slice A0_5 l0_5.length c0_5] 37 (0, 0)) (by (with_reducible repeat (first | refine zAI ?_ _ | refine zAJ ?_ | refine zAG ?_ _)); exact BK103.out) hb); have n2_ := Aside0.mk (zAL (by repeat (first | (with_reducible first | exact HB.out | apply zAC | apply zAA | apply zAD | refine zAH ?_ GE103.out) | exact HB.out)) hb); clear BK103; clear HB; have HO106 := n0_; have BK103 := n1_; have HB := n2_; clear n0_ n1_ n2_; clear hb ho10; have hcz11_0 : w9.cell? ⟨gb103, 0, none⟩ = some (.int .i64 a0_0) := (zAE BK103.out 0).trans rfl; have hcz11_1 : w9.cell? ⟨gb103, 1, none⟩ = some (.int .i64 a0_1) := (zAE BK103.out 1).trans rfl; have hcz11_2 : w9.cell? ⟨gb103, 2, none⟩ = some (.int .i64 a0_2) := (zAE BK103.out 2).trans rfl; have hcz11_3 : w9.cell? ⟨gb103, 3, none⟩ = some (.int .i64 a0_3) := (zAE BK103.out 3).trans rfl; have hcz11_4 : w9.cell? ⟨gb103, 4, none⟩ = some (.int .i64 a0_4) := (zAE BK103.out 4).trans rfl; have hcz11_5 : w9.cell? ⟨gb103, 5, none⟩ = some (.slice A0_5 l0_5.length c0_5) := (zAE BK103.out 5).trans rfl; have hfz11_0 := zAB BK103.out 0; have hfz11_1 := zAB BK103.out 1; have hfz11_2 := zAB BK103.out 2; have hfz11_3 := zAB BK103.out 3; have hfz11_4 := zAB BK103.out 4; have hfz11_5 := zAB BK103.out 5; obtain ⟨Ao12, co12, eo12⟩ := Kd.R_slice HO106.out; subst eo12) | ((with_reducible refine zAV (f := 47) rfl ?_); refine zBO (some 13) rfl rfl Try.func47 (by kernel_rfl) rfl #[.slice Ao12 y104.length co12, .int .i64 a0_4] rfl (by (try simp only [List.map_toArray, List.map_cons, List.map_nil]); first | done | rfl | (simp only [List.length_drop, List.length_take]; rfl)) ?_; (with_reducible refine (slices_Contains_int_int.calls kj1 _ _ y104 a0_4 t107 _ ?side1 ?side2 A8.out).mono ?_); (case side1 => repeat (first | exact (Kd.R_reads' HO106.out).2.2 | (with_reducible refine Kd.C_alloc ?_ _) | (with_reducible refine Kd.C_drewN ?_ _) | (with_reducible refine Kd.C_drew ?_))); (case side2 => exact (Kd.R_reads' HO106.out).2.1); rintro e w' ⟨rfl, ⟨nd, rfl⟩⟩; refine ⟨_, rfl, ?_⟩))
     go_ret
     exact ⟨by first | rfl | (simp [zAO, zAN] <;> rfl) | (simp [*, zAO, zAN] <;> rfl), by repeat (first | (with_reducible first | exact HB.out | apply zAC | apply zAA | apply zAD | refine zAH ?_ GE103.out) | exact HB.out)⟩
    ·rw [if_neg c7] at H
     have c7b0 : (a0_0 == 2) = false := beq_eq_false_iff_ne.mpr c7
     have c7b1 : (a0_0 != 2) = true := bne_iff_ne.mpr c7
     obtain rfl := Option.some.inj H
     go_wp2
     go_ret
     exact ⟨by first | rfl | (simp [zAO, zAN] <;> rfl) | (simp [*, zAO, zAN] <;> rfl), by repeat (first | (with_reducible first | exact HB.out | apply zAC | apply zAA | apply zAD | refine zAH ?_ GE103.out) | exact HB.out)⟩
end Go.Proofs.Ytphmlkbmnmicpaa.A
namespace Go.Proofs.Ytphmlkbmnmicpaa.A
open Go.RowKit Go.Proofs.YtphmlkbmnmicpaaW.PrintWords Go.Proofs.YtphmlkbmnmicpaaW.PrintLast Go.Proofs.YtphmlkbmnmicpaaW.PrintMore
attribute [local go_sem] max2_int zBH max_two zBL zBB zBA zBI zBG   -- for this text's walks alone
def code_shapeOf.j0 : Nat → Int → Bool → Option (Bool × Bool × Bool × Bool × Bool)
 | 0, _, _ => none
 | k + 1, x4, x5 => if x5 = true then (some (true, false, false, true, true)) else (if x4 = 2 then (some (true, true, true, true, true)) else (if x4 = 3 then (some (true, true, false, false, true)) else (if x4 = 4 then (some (true, true, false, true, true)) else (if x4 = 5 then (some (false, true, true, true, true)) else (if x4 = 8 then (some (true, false, false, false, true)) else (if x4 = 9 then (some (false, true, false, false, true)) else (some (false, false, false, false, false))))))))
def code_shapeOf.f (k : Nat) (a0 : Int) : Option (Bool × Bool × Bool × Bool × Bool) := if a0 = 1 then (code_shapeOf.j0 k a0 (a0 == 1)) else (if a0 = 6 then (code_shapeOf.j0 k a0 (a0 == 6)) else (code_shapeOf.j0 k a0 (a0 == 7)))
set_option maxHeartbeats 8000000 in
set_option maxRecDepth 100000 in
theorem code_shapeOf.calls (k : Nat) (a0 : Int) (r1 : Bool) (r2 : Bool) (r3 : Bool) (r4 : Bool) (r5 : Bool) (w : World) (h : code_shapeOf.f k a0 = some (r1, r2, r3, r4, r5)) :
  Calls Try.prog 53 #[.int .i64 a0] w fun e w' => e = .returned (.tuple #[.agg #[.bool r1, .bool r2, .bool r3, .bool r4], .bool r5]) ∧ Below w.heap.size w w' := by
 have hu66 := Try.underlying66
 have HB := Aside0.mk (Below.refl w.heap.size w)
 have H : (if a0 = 1 then (code_shapeOf.j0 k a0 (a0 == 1)) else (if a0 = 6 then (code_shapeOf.j0 k a0 (a0 == 6)) else (code_shapeOf.j0 k a0 (a0 == 7)))) = some (r1, r2, r3, r4, r5) := h
 clear h
 have HC2 := Aside0.mk H
 clear H
 go_enter Try.func53, Try.ntmps53
 go_upto_if 5 with (first | ((with_reducible refine zAU (N := 2) rfl ?_); refine zAT ?hg (N := 2) ?hd (cs := #[.bool false, .bool false, .bool false, .bool false]) (t := 66) ?hr ?_; (case hd => rfl); (case hg => rfl); (case hr => first | (go_simp; done) | (go_simp; rfl)); intro gb108 hg w3 hbox hb; have n0_ := Aside0.mk (zAL (by repeat (first | (with_reducible first | exact HB.out | apply zAC | apply zAA | apply zAD) | exact HB.out)) hb); have n1_ := Aside0.mk (hbox); have n2_ := Aside0.mk ((by rw [hg]; exact (zAM (by repeat (first | (with_reducible first | exact HB.out | apply zAC | apply zAA | apply zAD) | exact HB.out))) : w.heap.size ≤ gb108)); have n3_ := Aside0.mk ((by rw [hg]; exact (zAM (by repeat (first | (with_reducible first | exact HB.out | apply zAC | apply zAA | apply zAD) | exact HB.out))) : w.heap.size ≤ gb108)); clear HB; have HB := n0_; have BK108 := n1_; have GW108 := n2_; have GE108 := n3_; clear n0_ n1_ n2_ n3_; clear hb hbox hg))
 (try simp only [Act.put, List.setIfInBounds_toArray, List.set_cons_zero, List.set_cons_succ])
 go_cut [5] (fun v5 wc => ∃ (kq : Nat) (x5_1 : Bool), v5 = .bool x5_1 ∧ Aside0 (code_shapeOf.j0 kq a0 x5_1 = some (r1, r2, r3, r4, r5)) ∧ Aside0 (kq ≤ k) ∧ Aside0 (wc.heap[gb108]? = some (.cells #[.bool false, .bool false, .bool false, .bool false] 66 (0, 0))) ∧ Aside0 (Below w.heap.size w wc))
 case first =>
  have H := HC2.out
  clear HC2
  by_cases c4 : a0 = 1
  ·rw [if_pos c4] at H
   have c4b0 : (a0 == 1) = true := beq_iff_eq.mpr c4
   have c4b1 : (a0 != 1) = false := bne_eq_false_iff_eq.mpr c4
   clear c4
   (first | rw [c4b0] | (simp only [i64_w, i32_w]; rw [c4b0]) | skip)
   have H' := Aside0.mk H
   clear H
   go_wp2
   go_meet
   case rel => exact ⟨_, ((a0 == 1)), (by first | rfl | (simp; done) | (simp [*]; done)), H', ⟨by first | omega | exact Nat.le_refl _⟩, ⟨by (with_reducible repeat (first | refine zAI ?_ _ | refine zAJ ?_ | refine zAG ?_ _)); exact BK108.out⟩, ⟨by repeat (first | (with_reducible first | exact HB.out | apply zAC | apply zAA | apply zAD | refine zAH ?_ GE108.out) | exact HB.out)⟩⟩
  ·rw [if_neg c4] at H
   have c4b0 : (a0 == 1) = false := beq_eq_false_iff_ne.mpr c4
   have c4b1 : (a0 != 1) = true := bne_iff_ne.mpr c4
   (first | rw [c4b0] | (simp only [i64_w, i32_w]; rw [c4b0]) | skip)
   by_cases c5 : a0 = 6
   ·rw [if_pos c5] at H
    have c5b0 : (a0 == 6) = true := beq_iff_eq.mpr c5
    have c5b1 : (a0 != 6) = false := bne_eq_false_iff_eq.mpr c5
    clear c5
    have H' := Aside0.mk H
    clear H
    go_wp2
    go_meet
    case rel => exact ⟨_, ((a0 == 6)), (by first | rfl | (simp; done) | (simp [*]; done)), H', ⟨by first | omega | exact Nat.le_refl _⟩, ⟨by (with_reducible repeat (first | refine zAI ?_ _ | refine zAJ ?_ | refine zAG ?_ _)); exact BK108.out⟩, ⟨by repeat (first | (with_reducible first | exact HB.out | apply zAC | apply zAA | apply zAD | refine zAH ?_ GE108.out) | exact HB.out)⟩⟩
   ·rw [if_neg c5] at H
    have c5b0 : (a0 == 6) = false := beq_eq_false_iff_ne.mpr c5
    have c5b1 : (a0 != 6) = true := bne_iff_ne.mpr c5
    have H' := Aside0.mk H
    clear H
    go_wp2
    go_meet
    case rel => exact ⟨_, ((a0 == 7)), (by first | rfl | (simp; done) | (simp [*]; done)), H', ⟨by first | omega | exact Nat.le_refl _⟩, ⟨by (with_reducible repeat (first | refine zAI ?_ _ | refine zAJ ?_ | refine zAG ?_ _)); exact BK108.out⟩, ⟨by repeat (first | (with_reducible first | exact HB.out | apply zAC | apply zAA | apply zAD | refine zAH ?_ GE108.out) | exact HB.out)⟩⟩
 case rest =>
  clear HC2
  (try clear p2); (try clear c4); (try clear c4b0); (try clear c4b1); (try clear c5); (try clear c5b0); (try clear c5b1)
  obtain ⟨kq, x5_1, rfl, HA, HJ1, BK108, HB⟩ := hcut
  cases kq with
  | zero => exact absurd HA.out (by simp [code_shapeOf.j0])
  | succ kj1 =>
   have H := HA.out
   clear HA
   simp only [code_shapeOf.j0] at H
   by_cases c6 : x5_1 = true
   ·subst c6
    have H1 : (some (true, false, false, true, true)) = some (r1, r2, r3, r4, r5) := by rw [if_pos rfl] at H; exact H
    clear H
    have H := H1
    clear H1
    simp only [Option.some.injEq, Prod.mk.injEq] at H
    obtain ⟨rfl, rfl, rfl, rfl, rfl⟩ := H
    have hcz7_0 : wc.cell? ⟨gb108, 0, none⟩ = some (.bool false) := (zAE BK108.out 0).trans rfl
    have hcz7_1 : wc.cell? ⟨gb108, 1, none⟩ = some (.bool false) := (zAE BK108.out 1).trans rfl
    have hcz7_2 : wc.cell? ⟨gb108, 2, none⟩ = some (.bool false) := (zAE BK108.out 2).trans rfl
    have hcz7_3 : wc.cell? ⟨gb108, 3, none⟩ = some (.bool false) := (zAE BK108.out 3).trans rfl
    have hfz7_0 := zAB BK108.out 0
    have hfz7_1 := zAB BK108.out 1
    have hfz7_2 := zAB BK108.out 2
    have hfz7_3 := zAB BK108.out 3
    go_wp2
    refine bodyPost_ret (zCH rfl _ _ gb108 66 #[.bool true, .bool false, .bool false, .bool true] (0, 0) _ rfl (by (with_reducible repeat (first | refine zAI ?_ _ | refine zAJ ?_ | refine zAG ?_ _)); refine zAR (cs := #[.bool true, .bool false, .bool false, .bool false]) ?_ 3 _ rfl; (with_reducible repeat (first | refine zAI ?_ _ | refine zAJ ?_ | refine zAG ?_ _)); refine zAR (cs := #[.bool true, .bool false, .bool false, .bool false]) ?_ 2 _ rfl; (with_reducible repeat (first | refine zAI ?_ _ | refine zAJ ?_ | refine zAG ?_ _)); refine zAR (cs := #[.bool true, .bool false, .bool false, .bool false]) ?_ 1 _ rfl; (with_reducible repeat (first | refine zAI ?_ _ | refine zAJ ?_ | refine zAG ?_ _)); refine zAR (cs := #[.bool false, .bool false, .bool false, .bool false]) ?_ 0 _ rfl; (with_reducible repeat (first | refine zAI ?_ _ | refine zAJ ?_ | refine zAG ?_ _)); exact BK108.out) Try.underlying66 rfl (by kernel_rfl)) rfl ?_
    exact ⟨by first | rfl | (simp [zAO, zAN] <;> rfl) | (simp [*, zAO, zAN] <;> rfl), by repeat (first | (with_reducible first | exact HB.out | apply zAC | apply zAA | apply zAD | refine zAH ?_ GE108.out) | exact HB.out)⟩
   ·replace c6 := Bool.eq_false_iff.mpr c6
    subst c6
    have H1 : (if a0 = 2 then (some (true, true, true, true, true)) else (if a0 = 3 then (some (true, true, false, false, true)) else (if a0 = 4 then (some (true, true, false, true, true)) else (if a0 = 5 then (some (false, true, true, true, true)) else (if a0 = 8 then (some (true, false, false, false, true)) else (if a0 = 9 then (some (false, true, false, false, true)) else (some (false, false, false, false, false)))))))) = some (r1, r2, r3, r4, r5) := by rw [if_neg (show ¬ (false = true) by decide)] at H; exact H
    clear H
    have H := H1
    clear H1
    by_cases c8 : a0 = 2
    ·rw [if_pos c8] at H
     have c8b0 : (a0 == 2) = true := beq_iff_eq.mpr c8
     have c8b1 : (a0 != 2) = false := bne_eq_false_iff_eq.mpr c8
     clear c8
     simp only [Option.some.injEq, Prod.mk.injEq] at H
     obtain ⟨rfl, rfl, rfl, rfl, rfl⟩ := H
     have hcz9_0 : wc.cell? ⟨gb108, 0, none⟩ = some (.bool false) := (zAE BK108.out 0).trans rfl
     have hcz9_1 : wc.cell? ⟨gb108, 1, none⟩ = some (.bool false) := (zAE BK108.out 1).trans rfl
     have hcz9_2 : wc.cell? ⟨gb108, 2, none⟩ = some (.bool false) := (zAE BK108.out 2).trans rfl
     have hcz9_3 : wc.cell? ⟨gb108, 3, none⟩ = some (.bool false) := (zAE BK108.out 3).trans rfl
     have hfz9_0 := zAB BK108.out 0
     have hfz9_1 := zAB BK108.out 1
     have hfz9_2 := zAB BK108.out 2
     have hfz9_3 := zAB BK108.out 3
     go_wp2
     refine bodyPost_ret (zCH rfl _ _ gb108 66 #[.bool true, .bool true, .bool true, .bool true] (0, 0) _ rfl (by (with_reducible repeat (first | refine zAI ?_ _ | refine zAJ ?_ | refine zAG ?_ _)); refine zAR (cs := #[.bool true, .bool true, .bool true, .bool false]) ?_ 3 _ rfl; (with_reducible repeat (first | refine zAI ?_ _ | refine zAJ ?_ | refine zAG ?_ _)); refine zAR (cs := #[.bool true, .bool true, .bool false, .bool false]) ?_ 2 _ rfl; (with_reducible repeat (first | refine zAI ?_ _ | refine zAJ ?_ | refine zAG ?_ _)); refine zAR (cs := #[.bool true, .bool false, .bool false, .bool false]) ?_ 1 _ rfl; (with_reducible repeat (first | refine zAI ?_ _ | refine zAJ ?_ | refine zAG ?_ _)); refine zAR (cs := #[.bool false, .bool false, .bool false, .bool false]) ?_ 0 _ rfl; (with_reducible repeat (first | refine zAI ?_ _ | refine zAJ ?_ | refine zAG ?_ _)); exact BK108.out) Try.underlying66 rfl (by kernel_rfl)) rfl ?_
     exact ⟨by first | rfl | (simp [zAO, zAN] <;> rfl) | (simp [*, zAO, zAN] <;> rfl), by repeat (first | (with_reducible first | exact HB.out | apply zAC | apply zAA | apply zAD | refine zAH ?_ GE108.out) | exact HB.out)⟩
    ·rw [if_neg c8] at H
     have c8b0 : (a0 == 2) = false := beq_eq_false_iff_ne.mpr c8
     have c8b1 : (a0 != 2) = true := bne_iff_ne.mpr c8
     by_cases c10 : a0 = 3
     ·rw [if_pos c10] at H
      have c10b0 : (a0 == 3) = true := beq_iff_eq.mpr c10
      have c10b1 : (a0 != 3) = false := bne_eq_false_iff_eq.mpr c10
      clear c10
      simp only [Option.some.injEq, Prod.mk.injEq] at H
      obtain ⟨rfl, rfl, rfl, rfl, rfl⟩ := H
      have hcz11_0 : wc.cell? ⟨gb108, 0, none⟩ = some (.bool false) := (zAE BK108.out 0).trans rfl
      have hcz11_1 : wc.cell? ⟨gb108, 1, none⟩ = some (.bool false) := (zAE BK108.out 1).trans rfl
      have hcz11_2 : wc.cell? ⟨gb108, 2, none⟩ = some (.bool false) := (zAE BK108.out 2).trans rfl
      have hcz11_3 : wc.cell? ⟨gb108, 3, none⟩ = some (.bool false) := (zAE BK108.out 3).trans rfl
      have hfz11_0 := zAB BK108.out 0
      have hfz11_1 := zAB BK108.out 1
      have hfz11_2 := zAB BK108.out 2
      have hfz11_3 := zAB BK108.out 3
      go_wp2
      refine bodyPost_ret (zCH rfl _ _ gb108 66 #[.bool true, .bool true, .bool false, .bool false] (0, 0) _ rfl (by (with_reducible repeat (first | refine zAI ?_ _ | refine zAJ ?_ | refine zAG ?_ _)); refine zAR (cs := #[.bool true, .bool true, .bool false, .bool false]) ?_ 3 _ rfl; (with_reducible repeat (first | refine zAI ?_ _ | refine zAJ ?_ | refine zAG ?_ _)); refine zAR (cs := #[.bool true, .bool true, .bool false, .bool false]) ?_ 2 _ rfl; (with_reducible repeat (first | refine zAI ?_ _ | refine zAJ ?_ | refine zAG ?_ _)); refine zAR (cs := #[.bool true, .bool false, .bool false, .bool false]) ?_ 1 _ rfl; (with_reducible repeat (first | refine zAI ?_ _ | refine zAJ ?_ | refine zAG ?_ _)); refine zAR (cs := #[.bool false, .bool false, .bool false, .bool false]) ?_ 0 _ rfl; (with_reducible repeat (first | refine zAI ?_ _ | refine zAJ ?_ | refine zAG ?_ _)); exact BK108.out) Try.underlying66 rfl (by kernel_rfl)) rfl ?_
      exact ⟨by first | rfl | (simp [zAO, zAN] <;> rfl) | (simp [*, zAO, zAN] <;> rfl), by repeat (first | (with_reducible first | exact HB.out | apply zAC | apply zAA | apply zAD | refine zAH ?_ GE108.out) | exact HB.out)⟩
     ·rw [if_neg c10] at H
      have c10b0 : (a0 == 3) = false := beq_eq_false_iff_ne.mpr c10
      have c10b1 : (a0 != 3) = true := bne_iff_ne.mpr c10
      by_cases c12 : a0 = 4
      ·rw [if_pos c12] at H
       have c12b0 : (a0 == 4) = true := beq_iff_eq.mpr c12
       have c12b1 : (a0 != 4) = false := bne_eq_false_iff_eq.mpr c12
       clear c12
       simp only [Option.some.injEq, Prod.mk.injEq] at H
       obtain ⟨rfl, rfl, rfl, rfl, rfl⟩ := H
       have hcz13_0 : wc.cell? ⟨gb108, 0, none⟩ = some (.bool false) := (zAE BK108.out 0).trans rfl
       have hcz13_1 : wc.cell? ⟨gb108, 1, none⟩ = some (.bool false) := (zAE BK108.out 1).trans rfl
       have hcz13_2 : wc.cell? ⟨gb108, 2, none⟩ = some (.bool false) := (zAE BK108.out 2).trans rfl
       have hcz13_3 : wc.cell? ⟨gb108, 3, none⟩ = some (.bool false) := (zAE BK108.out 3).trans rfl
       have hfz13_0 := zAB BK108.out 0
       have hfz13_1 := zAB BK108.out 1
       have hfz13_2 := zAB BK108.out 2
       have hfz13_3 := zAB BK108.out 3
       go_wp2
       refine bodyPost_ret (zCH rfl _ _ gb108 66 #[.bool true, .bool true, .bool false, .bool true] (0, 0) _ rfl (by (with_reducible repeat (first | refine zAI ?_ _ | refine zAJ ?_ | refine zAG ?_ _)); refine zAR (cs := #[.bool true, .bool true, .bool false, .bool false]) ?_ 3 _ rfl; (with_reducible repeat (first | refine zAI ?_ _ | refine zAJ ?_ | refine zAG ?_ _)); refine zAR (cs := #[.bool true, .bool true, .bool false, .bool false]) ?_ 2 _ rfl; (with_reducible repeat (first | refine zAI ?_ _ | refine zAJ ?_ | refine zAG ?_ _)); refine zAR (cs := #[.bool true, .bool false, .bool false, .bool false]) ?_ 1 _ rfl; (with_reducible repeat (first | refine zAI ?_ _ | refine zAJ ?_ | refine zAG ?_ _)); refine zAR (cs := #[.bool false, .bool false, .bool false, .bool false]) ?_ 0 _ rfl; (with_reducible repeat (first | refine zAI ?_ _ | refine zAJ ?_ | refine zAG ?_ _)); exact BK108.out) Try.underlying66 rfl (by kernel_rfl)) rfl ?_
       exact ⟨by first | rfl | (simp [zAO, zAN] <;> rfl) | (simp [*, zAO, zAN] <;> rfl), by repeat (first | (with_reducible first | exact HB.out | apply zAC | apply zAA | apply zAD | refine zAH ?_ GE108.out) | exact HB.out)⟩
      ·rw [if_neg c12] at H
       have c12b0 : (a0 == 4) = false := beq_eq_false_iff_ne.mpr c12
       have c12b1 : (a0 != 4) = true := bne_iff_ne.mpr c12
       by_cases c14 : a0 = 5
       ·rw [if_pos c14] at H
        have c14b0 : (a0 == 5) = true := beq_iff_eq.mpr c14
        have c14b1 : (a0 != 5) = false := bne_eq_false_iff_eq.mpr c14
        clear c14
        simp only [Option.some.injEq, Prod.mk.injEq] at H
        obtain ⟨rfl, rfl, rfl, rfl, rfl⟩ := H
        have hcz15_0 : wc.cell? ⟨gb108, 0, none⟩ = some (.bool false) := (zAE BK108.out 0).trans rfl
        have hcz15_1 : wc.cell? ⟨gb108, 1, none⟩ = some (.bool false) := (zAE BK108.out 1).trans rfl
        have hcz15_2 : wc.cell? ⟨gb108, 2, none⟩ = some (.bool false) := (zAE BK108.out 2).trans rfl
        have hcz15_3 : wc.cell? ⟨gb108, 3, none⟩ = some (.bool false) := (zAE BK108.out 3).trans rfl
        have hfz15_0 := zAB BK108.out 0
        have hfz15_1 := zAB BK108.out 1
        have hfz15_2 := zAB BK108.out 2
        have hfz15_3 := zAB BK108.out 3
        go_wp2
        refine bodyPost_ret (zCH rfl _ _ gb108 66 #[.bool false, .bool true, .bool true, .bool true] (0, 0) _ rfl (by (with_reducible repeat (first | refine zAI ?_ _ | refine zAJ ?_ | refine zAG ?_ _)); refine zAR (cs := #[.bool false, .bool true, .bool true, .bool false]) ?_ 3 _ rfl; (with_reducible repeat (first | refine zAI ?_ _ | refine zAJ ?_ | refine zAG ?_ _)); refine zAR (cs := #[.bool false, .bool true, .bool false, .bool false]) ?_ 2 _ rfl; (with_reducible repeat (first | refine zAI ?_ _ | refine zAJ ?_ | refine zAG ?_ _)); refine zAR (cs := #[.bool false, .bool false, .bool false, .bool false]) ?_ 1 _ rfl; (with_reducible repeat (first | refine zAI ?_ _ | refine zAJ ?_ | refine zAG ?_ _)); refine zAR (cs := #[.bool false, .bool false, .bool false, .bool false]) ?_ 0 _ rfl; (with_reducible repeat (first | refine zAI ?_ _ | refine zAJ ?_ | refine zAG ?_ _)); exact BK108.out) Try.underlying66 rfl (by kernel_rfl)) rfl ?_
        exact ⟨by first | rfl | (simp [zAO, zAN] <;> rfl) | (simp [*, zAO, zAN] <;> rfl), by repeat (first | (with_reducible first | exact HB.out | apply zAC | apply zAA | apply zAD | refine zAH ?_ GE108.out) | exact HB.out)⟩
       ·rw [if_neg c14] at H
        have c14b0 : (a0 == 5) = false := beq_eq_false_iff_ne.mpr c14
        have c14b1 : (a0 != 5) = true := bne_iff_ne.mpr c14
        by_cases c16 : a0 = 8
        ·rw [if_pos c16] at H
         have c16b0 : (a0 == 8) = true := beq_iff_eq.mpr c16
         have c16b1 : (a0 != 8) = false := bne_eq_false_iff_eq.mpr c16
         clear c16
         simp only [Option.some.injEq, Prod.mk.injEq] at H
         obtain ⟨rfl, rfl, rfl, rfl, rfl⟩ := H
         have hcz17_0 : wc.cell? ⟨gb108, 0, none⟩ = some (.bool false) := (zAE BK108.out 0).trans rfl
         have hcz17_1 : wc.cell? ⟨gb108, 1, none⟩ = some (.bool false) := (zAE BK108.out 1).trans rfl
         have hcz17_2 : wc.cell? ⟨gb108, 2, none⟩ = some (.bool false) := (zAE BK108.out 2).trans rfl
         have hcz17_3 : wc.cell? ⟨gb108, 3, none⟩ = some (.bool false) := (zAE BK108.out 3).trans rfl
         have hfz17_0 := zAB BK108.out 0
         have hfz17_1 := zAB BK108.out 1
         have hfz17_2 := zAB BK108.out 2
         have hfz17_3 := zAB BK108.out 3
         go_wp2
         refine bodyPost_ret (zCH rfl _ _ gb108 66 #[.bool true, .bool false, .bool false, .bool false] (0, 0) _ rfl (by (with_reducible repeat (first | refine zAI ?_ _ | refine zAJ ?_ | refine zAG ?_ _)); refine zAR (cs := #[.bool true, .bool false, .bool false, .bool false]) ?_ 3 _ rfl; (with_reducible repeat (first | refine zAI ?_ _ | refine zAJ ?_ | refine zAG ?_ _)); refine zAR (cs := #[.bool true, .bool false, .bool false, .bool false]) ?_ 2 _ rfl; (with_reducible repeat (first | refine zAI ?_ _ | refine zAJ ?_ | refine zAG ?_ _)); refine zAR (cs := #[.bool true, .bool false, .bool false, .bool false]) ?_ 1 _ rfl; (with_reducible repeat (first | refine zAI ?_ _ | refine zAJ ?_ | refine zAG ?_ _)); refine zAR (cs := #[.bool false, .bool false, .bool false, .bool false]) ?_ 0 _ rfl; (with_reducible repeat (first | refine zAI ?_ _ | refine zAJ ?_ | refine zAG ?_ _)); exact BK108.out) Try.underlying66 rfl (by kernel_rfl)) rfl ?_
         exact ⟨by first | rfl | (simp [zAO, zAN] <;> rfl) | (simp [*, zAO, zAN] <;> rfl), by repeat (first | (with_reducible first | exact HB.out | apply zAC | apply zAA | apply zAD | refine zAH ?_ GE108.out) | exact HB.out)⟩
        ·rw [if_neg c16] at H
         have c16b0 : (a0 == 8) = false := beq_eq_false_iff_ne.mpr c16
         have c16b1 : (a0 != 8) = true := bne_iff_ne.mpr c16
         by_cases c18 : a0 = 9
         ·rw [if_pos c18] at H
          have c18b0 : (a0 == 9) = true := beq_iff_eq.mpr c18
          have c18b1 : (a0 != 9) = false := bne_eq_false_iff_eq.mpr c18
          clear c18
          simp only [Option.some.injEq, Prod.mk.injEq] at H
          obtain ⟨rfl, rfl, rfl, rfl, rfl⟩ := H
          have hcz19_0 : wc.cell? ⟨gb108, 0, none⟩ = some (.bool false) := (zAE BK108.out 0).trans rfl
          have hcz19_1 : wc.cell? ⟨gb108, 1, none⟩ = some (.bool false) := (zAE BK108.out 1).trans rfl
          have hcz19_2 : wc.cell? ⟨gb108, 2, none⟩ = some (.bool false) := (zAE BK108.out 2).trans rfl
          have hcz19_3 : wc.cell? ⟨gb108, 3, none⟩ = some (.bool false) := (zAE BK108.out 3).trans rfl
          have hfz19_0 := zAB BK108.out 0
          have hfz19_1 := zAB BK108.out 1
          have hfz19_2 := zAB BK108.out 2
          have hfz19_3 := zAB BK108.out 3
          go_wp2
          refine bodyPost_ret (zCH rfl _ _ gb108 66 #[.bool false, .bool true, .bool false, .bool false] (0, 0) _ rfl (by (with_reducible repeat (first | refine zAI ?_ _ | refine zAJ ?_ | refine zAG ?_ _)); refine zAR (cs := #[.bool false, .bool true, .bool false, .bool false]) ?_ 3 _ rfl; (with_reducible repeat (first | refine zAI ?_ _ | refine zAJ ?_ | refine zAG ?_ _)); refine zAR (cs := #[.bool false, .bool true, .bool false, .bool false]) ?_ 2 _ rfl; (with_reducible repeat (first | refine zAI ?_ _ | refine zAJ ?_ | refine zAG ?_ _)); refine zAR (cs := #[.bool false, .bool false, .bool false, .bool false]) ?_ 1 _ rfl; (with_reducible repeat (first | refine zAI ?_ _ | refine zAJ ?_ | refine zAG ?_ _)); refine zAR (cs := #[.bool false, .bool false, .bool false, .bool false]) ?_ 0 _ rfl; (with_reducible repeat (first | refine zAI ?_ _ | refine zAJ ?_ | refine zAG ?_ _)); exact BK108.out) Try.underlying66 rfl (by kernel_rfl)) rfl ?_
          exact ⟨by first | rfl | (simp [zAO, zAN] <;> rfl) | (simp [*, zAO, zAN] <;> rfl), by repeat (first | (with_reducible first | exact HB.out | apply zAC | apply zAA | apply zAD | refine zAH ?_ GE108.out) | exact HB.out)⟩
         ·rw [if_neg c18] at H
          have c18b0 : (a0 == 9) = false := beq_eq_false_iff_ne.mpr c18
          have c18b1 : (a0 != 9) = true := bne_iff_ne.mpr c18
          simp only [Option.some.injEq, Prod.mk.injEq] at H
          obtain ⟨rfl, rfl, rfl, rfl, rfl⟩ := H
          have hcz20_0 : wc.cell? ⟨gb108, 0, none⟩ = some (.bool false) := (zAE BK108.out 0).trans rfl
          have hcz20_1 : wc.cell? ⟨gb108, 1, none⟩ = some (.bool false) := (zAE BK108.out 1).trans rfl
          have hcz20_2 : wc.cell? ⟨gb108, 2, none⟩ = some (.bool false) := (zAE BK108.out 2).trans rfl
          have hcz20_3 : wc.cell? ⟨gb108, 3, none⟩ = some (.bool false) := (zAE BK108.out 3).trans rfl
          have hfz20_0 := zAB BK108.out 0
          have hfz20_1 := zAB BK108.out 1
          have hfz20_2 := zAB BK108.out 2
          have hfz20_3 := zAB BK108.out 3
          go_wp2
          refine bodyPost_ret (zCH rfl _ _ gb108 66 #[.bool false, .bool false, .bool false, .bool false] (0, 0) _ rfl (by (with_reducible repeat (first | refine zAI ?_ _ | refine zAJ ?_ | refine zAG ?_ _)); refine zAR (cs := #[.bool false, .bool false, .bool false, .bool false]) ?_ 3 _ rfl; (with_reducible repeat (first | refine zAI ?_ _ | refine zAJ ?_ | refine zAG ?_ _)); refine zAR (cs := #[.bool false, .bool false, .bool false, .bool false]) ?_ 2 _ rfl; (with_reducible repeat (first | refine zAI ?_ _ | refine zAJ ?_ | refine zAG ?_ _)); refine zAR (cs := #[.bool false, .bool false, .bool false, .bool false]) ?_ 1 _ rfl; (with_reducible repeat (first | refine zAI ?_ _ | refine zAJ ?_ | refine zAG ?_ _)); refine zAR (cs := #[.bool false, .bool false, .bool false, .bool false]) ?_ 0 _ rfl; (with_reducible repeat (first | refine zAI ?_ _ | refine zAJ ?_ | refine zAG ?_ _)); exact BK108.out) Try.underlying66 rfl (by kernel_rfl)) rfl ?_
          exact ⟨by first | rfl | (simp [zAO, zAN] <;> rfl) | (simp [*, zAO, zAN] <;> rfl), by repeat (first | (with_reducible first | exact HB.out | apply zAC | apply zAA | apply zAD | refine zAH ?_ GE108.out) | exact HB.out)⟩
end Go.Proofs.Ytphmlkbmnmicpaa.A
namespace Go.Proofs.Ytphmlkbmnmicpaa.A
open Go.RowKit Go.Proofs.YtphmlkbmnmicpaaW.PrintWords Go.Proofs.YtphmlkbmnmicpaaW.PrintLast Go.Proofs.YtphmlkbmnmicpaaW.PrintMore
attribute [local go_sem] max2_int zBH max_two zBL zBB zBA zBI zBG   -- for this text's walks alone
mutual
def code_Uses.j0 : Nat → Bool → List Int → Bool → Int → Int → Int → Int → Int → List Int → Bool → Bool → Bool → Bool → Option (List Int)
 | 0, _, _, _, _, _, _, _, _, _, _, _, _, _ => none
 | k + 1, x4, x5, x16, x110000, x110001, x110002, x110003, x110004, x110005, x116000, x116001, x116002, x116003 => if x16 = true then (if x5.length < 17592186044416 then (code_Uses.j1 k x4 (x5 ++ [x110002]) x110000 x110001 x110002 x110003 x110004 x110005 x116000 x116001 x116002 x116003) else (none)) else (code_Uses.j1 k x4 x5 x110000 x110001 x110002 x110003 x110004 x110005 x116000 x116001 x116002 x116003)
def code_Uses.j1 : Nat → Bool → List Int → Int → Int → Int → Int → Int → List Int → Bool → Bool → Bool → Bool → Option (List Int)
 | 0, _, _, _, _, _, _, _, _, _, _, _, _ => none
 | k + 1, x4, x5, x110000, x110001, x110002, x110003, x110004, x110005, x116000, x116001, x116002, x116003 => if x4 = true then (code_Uses.j2 k x5 x116002 x110000 x110001 x110002 x110003 x110004 x110005) else (code_Uses.j2 k x5 false x110000 x110001 x110002 x110003 x110004 x110005)
def code_Uses.j2 : Nat → List Int → Bool → Int → Int → Int → Int → Int → List Int → Option (List Int)
 | 0, _, _, _, _, _, _, _, _ => none
 | k + 1, x5, x26, x110000, x110001, x110002, x110003, x110004, x110005 => if x26 = true then (if x5.length < 17592186044416 then ((some (x5 ++ [x110003] : List Int)).bind fun y119 => (if x110000 = 7 then (if y119.length + x110005.length < 17592186044416 then (some (y119 ++ x110005)) else (none)) else (some y119))) else (none)) else (if x110000 = 7 then (if x5.length + x110005.length < 17592186044416 then (some (x5 ++ x110005)) else (none)) else (some x5))
end
def code_Uses.f (k : Nat) (a0_0 : Int) (a0_1 : Int) (a0_2 : Int) (a0_3 : Int) (a0_4 : Int) (l0_5 : List Int) : Option (List Int) := (code_shapeOf.f k a0_0).bind fun bt110 => (if bt110.2.2.2.2 = true then (code_Uses.j0 k bt110.2.2.2.2 ([] : List Int) bt110.2.1 a0_0 a0_1 a0_2 a0_3 a0_4 l0_5 bt110.1 bt110.2.1 bt110.2.2.1 bt110.2.2.2.1) else (code_Uses.j0 k bt110.2.2.2.2 ([] : List Int) false a0_0 a0_1 a0_2 a0_3 a0_4 l0_5 bt110.1 bt110.2.1 bt110.2.2.1 bt110.2.2.2.1))
set_option maxHeartbeats 8000000 in
set_option maxRecDepth 100000 in
theorem code_Uses.calls (k : Nat) (a0_0 : Int) (a0_1 : Int) (a0_2 : Int) (a0_3 : Int) (a0_4 : Int) (A0_5 : Option Addr) (c0_5 : Nat) (l0_5 : List Int) (r : List Int) (w : World) (hr0_5 : Kd.C (Kd.int .i64) w A0_5 l0_5.length l0_5) (hc0_5 : l0_5.length ≤ c0_5) (h : code_Uses.f k a0_0 a0_1 a0_2 a0_3 a0_4 l0_5 = some r) :
  Calls Try.prog 52 #[.agg #[.int .i64 a0_0, .int .i64 a0_1, .int .i64 a0_2, .int .i64 a0_3, .int .i64 a0_4, .slice A0_5 l0_5.length c0_5]] w fun e w' => ∃ v0_ : Value, e = .returned (v0_) ∧ Kd.R (Kd.int .i64) 3 w' w.heap.size (fun _ => True) v0_ r ∧ Below w.heap.size w w' := by
 have hu37 := Try.underlying37
 have hu66 := Try.underlying66
 have HR0_5 := Aside0.mk hr0_5
 have HC0_5 := Aside0.mk hc0_5
 clear hr0_5 hc0_5
 have HB := Aside0.mk (Below.refl w.heap.size w)
 have H : ((code_shapeOf.f k a0_0).bind fun bt110 => (if bt110.2.2.2.2 = true then (code_Uses.j0 k bt110.2.2.2.2 ([] : List Int) bt110.2.1 a0_0 a0_1 a0_2 a0_3 a0_4 l0_5 bt110.1 bt110.2.1 bt110.2.2.1 bt110.2.2.2.1) else (code_Uses.j0 k bt110.2.2.2.2 ([] : List Int) false a0_0 a0_1 a0_2 a0_3 a0_4 l0_5 bt110.1 bt110.2.1 bt110.2.2.1 bt110.2.2.2.1))) = some r := h
 clear h
 replace H := Option.bind_eq_some_iff.mp H
 obtain ⟨⟨t110, t111, t112, t113, t114⟩, A20, H⟩ := H
 replace H : (if t114 = true then (code_Uses.j0 k t114 ([] : List Int) t111 a0_0 a0_1 a0_2 a0_3 a0_4 l0_5 t110 t111 t112 t113) else (code_Uses.j0 k t114 ([] : List Int) false a0_0 a0_1 a0_2 a0_3 a0_4 l0_5 t110 t111 t112 t113)) = some r := H
 have A2 := Aside0.mk A20
 clear A20
 have HC3 := Aside0.mk H
 clear H
 go_enter Try.func52, Try.ntmps52
 go_upto_region 3 with (first | ((with_reducible refine zAU (N := 1) rfl ?_); refine zAT ?hg (N := 1) ?hd (cs := #[.int .i64 a0_0, .int .i64 a0_1, .int .i64 a0_2, .int .i64 a0_3, .int .i64 a0_4, .slice A0_5 l0_5.length c0_5]) (t := 37) ?hr ?_; (case hd => rfl); (case hg => rfl); (case hr => first | (go_simp; done) | (go_simp; rfl)); intro gb109 hg w4 hbox hb; have n0_ := Aside0.mk (zAL (by repeat (first | (with_reducible first | exact HB.out | apply zAC | apply zAA | apply zAD) | exact HB.out)) hb); have n1_ := Aside0.mk (hbox); have n2_ := Aside0.mk ((by rw [hg]; exact (zAM (by repeat (first | (with_reducible first | exact HB.out | apply zAC | apply zAA | apply zAD) | exact HB.out))) : w.heap.size ≤ gb109)); have n3_ := Aside0.mk ((by rw [hg]; exact (zAM (by repeat (first | (with_reducible first | exact HB.out | apply zAC | apply zAA | apply zAD) | exact HB.out))) : w.heap.size ≤ gb109)); clear HB; have HB := n0_; have BK109 := n1_; have GW109 := n2_; have GE109 := n3_; clear n0_ n1_ n2_ n3_; clear hb hbox hg; have hcz5_0 : w4.cell? ⟨gb109, 0, none⟩ = some (.int .i64 a0_0) := (zAE BK109.out 0).trans rfl; have hcz5_1 : w4.cell? ⟨gb109, 1, none⟩ = some (.int .i64 a0_1) := (zAE BK109.out 1).trans rfl; have hcz5_2 : w4.cell? ⟨gb109, 2, none⟩ = some (.int .i64 a0_2) := (zAE BK109.out 2).trans rfl; have hcz5_3 : w4.cell? ⟨gb109, 3, none⟩ = some (.int .i64 a0_3) := (zAE BK109.out 3).trans rfl; have hcz5_4 : w4.cell? ⟨gb109, 4, none⟩ = some (.int .i64 a0_4) := (zAE BK109.out 4).trans rfl; have hcz5_5 : w4.cell? ⟨gb109, 5, none⟩ = some (.slice A0_5 l0_5.length c0_5) := (zAE BK109.out 5).trans rfl; have hfz5_0 := zAB BK109.out 0; have hfz5_1 := zAB BK109.out 1; have hfz5_2 := zAB BK109.out 2; have hfz5_3 := zAB BK109.out 3; have hfz5_4 := zAB BK109.out 4; have hfz5_5 := zAB BK109.out 5) | ((with_reducible refine zAV (f := 53) rfl ?_); refine zBO (some 9) rfl rfl Try.func53 (by kernel_rfl) rfl #[.int .i64 a0_0] rfl (by (try simp only [List.map_toArray, List.map_cons, List.map_nil]); first | done | rfl | (simp only [List.length_drop, List.length_take]; rfl)) ?_; (with_reducible refine (code_shapeOf.calls k a0_0 t110 t111 t112 t113 t114 _ A2.out).mono ?_); rintro e w6 ⟨rfl, hb⟩; refine ⟨_, rfl, ?_⟩; have n0_ := Aside0.mk (zAP (g := gb109) (o := .cells #[.int .i64 a0_0, .int .i64 a0_1, .int .i64 a0_2, .int .i64 a0_3, .int .i64 a0_4, .slice A0_5 l0_5.length c0_5] 37 (0, 0)) (by (with_reducible repeat (first | refine zAI ?_ _ | refine zAJ ?_ | refine zAG ?_ _)); exact BK109.out) hb); have n1_ := Aside0.mk (zAL (by repeat (first | (with_reducible first | exact HB.out | apply zAC | apply zAA | apply zAD | refine zAH ?_ GE109.out) | exact HB.out)) hb); clear BK109; clear HB; have BK109 := n0_; have HB := n1_; clear n0_ n1_; (try clear hb); (try clear hb2); (try clear hk); (try clear hi)) | ((with_reducible refine zAU (N := 3) rfl ?_); refine zAT ?hg (N := 3) ?hd (cs := #[.bool false, .bool false, .bool false, .bool false]) (t := 66) ?hr ?_; (case hd => rfl); (case hg => rfl); (case hr => first | (go_simp; done) | (go_simp; rfl)); intro gb115 hg w7 hbox hb; have n0_ := Aside0.mk (zAP (g := gb109) (o := .cells #[.int .i64 a0_0, .int .i64 a0_1, .int .i64 a0_2, .int .i64 a0_3, .int .i64 a0_4, .slice A0_5 l0_5.length c0_5] 37 (0, 0)) (by (with_reducible repeat (first | refine zAI ?_ _ | refine zAJ ?_ | refine zAG ?_ _)); exact BK109.out) hb); have n1_ := Aside0.mk (zAL (by repeat (first | (with_reducible first | exact HB.out | apply zAC | apply zAA | apply zAD | refine zAH ?_ GE109.out) | exact HB.out)) hb); have n2_ := Aside0.mk (hbox); have n3_ := Aside0.mk ((by rw [hg]; exact (zAM (by repeat (first | (with_reducible first | exact HB.out | apply zAC | apply zAA | apply zAD | refine zAH ?_ GE109.out) | exact HB.out))) : w.heap.size ≤ gb115)); have n4_ := Aside0.mk ((by rw [hg]; exact (zAM (by repeat (first | (with_reducible first | exact HB.out | apply zAC | apply zAA | apply zAD | refine zAH ?_ GE109.out) | exact HB.out))) : w.heap.size ≤ gb115)); have n5_ := Aside0.mk ((by rw [hg]; exact Nat.ne_of_lt (zBE (g := gb109) (o := .cells #[.int .i64 a0_0, .int .i64 a0_1, .int .i64 a0_2, .int .i64 a0_3, .int .i64 a0_4, .slice A0_5 l0_5.length c0_5] 37 (0, 0)) (by (with_reducible repeat (first | refine zAI ?_ _ | refine zAJ ?_ | refine zAG ?_ _)); exact BK109.out)) : gb109 ≠ gb115)); have n6_ := Aside0.mk ((by rw [hg]; exact Nat.ne_of_gt (zBE (g := gb109) (o := .cells #[.int .i64 a0_0, .int .i64 a0_1, .int .i64 a0_2, .int .i64 a0_3, .int .i64 a0_4, .slice A0_5 l0_5.length c0_5] 37 (0, 0)) (by (with_reducible repeat (first | refine zAI ?_ _ | refine zAJ ?_ | refine zAG ?_ _)); exact BK109.out)) : gb115 ≠ gb109)); clear BK109; clear HB; have BK109 := n0_; have HB := n1_; have BK115 := n2_; have GW115 := n3_; have GE115 := n4_; have NB109_115 := n5_; have NB115_109 := n6_; clear n0_ n1_ n2_ n3_ n4_ n5_ n6_; clear hb hbox hg; have hnb8 := NB115_109.out; have hnc8 := NB109_115.out; have hcz9_0 : w7.cell? ⟨gb115, 0, none⟩ = some (.bool false) := (zAE BK115.out 0).trans rfl; have hcz9_1 : w7.cell? ⟨gb115, 1, none⟩ = some (.bool false) := (zAE BK115.out 1).trans rfl; have hcz9_2 : w7.cell? ⟨gb115, 2, none⟩ = some (.bool false) := (zAE BK115.out 2).trans rfl; have hcz9_3 : w7.cell? ⟨gb115, 3, none⟩ = some (.bool false) := (zAE BK115.out 3).trans rfl; have hfz9_0 := zAB BK115.out 0; have hfz9_1 := zAB BK115.out 1; have hfz9_2 := zAB BK115.out 2; have hfz9_3 := zAB BK115.out 3))
 (try simp only [Act.put, List.setIfInBounds_toArray, List.set_cons_zero, List.set_cons_succ])
 go_cut [16] (fun v16 wc => ∃ (kq : Nat) (x16_2 : Bool), v16 = .bool x16_2 ∧ Aside0 (code_Uses.j0 kq t114 ([] : List Int) x16_2 a0_0 a0_1 a0_2 a0_3 a0_4 l0_5 t110 t111 t112 t113 = some r) ∧ Aside0 (kq ≤ k) ∧ Aside0 (Kd.R (Kd.int .i64) 3 wc w.heap.size (fun _ => True) (.slice none 0 0) ([] : List Int)) ∧ Aside0 (wc.heap[gb109]? = some (.cells #[.int .i64 a0_0, .int .i64 a0_1, .int .i64 a0_2, .int .i64 a0_3, .int .i64 a0_4, (.slice A0_5 l0_5.length c0_5)] 37 (0, 0))) ∧ Aside0 (wc.heap[gb115]? = some (.cells #[.bool t110, .bool t111, .bool t112, .bool t113] 66 (0, 0))) ∧ Aside0 (Below w.heap.size w wc))
 case first =>
  have H := HC3.out
  clear HC3
  by_cases c10 : t114 = true
  ·subst c10
   have H1 : (code_Uses.j0 k true ([] : List Int) t111 a0_0 a0_1 a0_2 a0_3 a0_4 l0_5 t110 t111 t112 t113) = some r := by rw [if_pos rfl] at H; exact H
   clear H
   have H := H1
   clear H1
   have H' := Aside0.mk H
   clear H
   have hnb11 := NB115_109.out
   have hnc11 := NB109_115.out
   have hcz12_0 : w7.cell? ⟨gb115, 0, none⟩ = some (.bool false) := (zAE BK115.out 0).trans rfl
   have hcz12_1 : w7.cell? ⟨gb115, 1, none⟩ = some (.bool false) := (zAE BK115.out 1).trans rfl
   have hcz12_2 : w7.cell? ⟨gb115, 2, none⟩ = some (.bool false) := (zAE BK115.out 2).trans rfl
   have hcz12_3 : w7.cell? ⟨gb115, 3, none⟩ = some (.bool false) := (zAE BK115.out 3).trans rfl
   have hfz12_0 := zAB BK115.out 0
   have hfz12_1 := zAB BK115.out 1
   have hfz12_2 := zAB BK115.out 2
   have hfz12_3 := zAB BK115.out 3
   go_wp2
   go_meet
   case rel => exact ⟨_, (t111), (by first | rfl | (simp; done) | (simp [*]; done)), H', ⟨by first | omega | exact Nat.le_refl _⟩, ⟨by first | exact Kd.R_nil _ _ _ _ _ | exact Kd.N_nil _ _ _ _ _ | exact Kd.V_nil _ _ _ _ _ | exact Kd.Q_nil _ _ _ _ _ | exact Kd.S_nil _ _ _ _ _⟩, ⟨by (with_reducible repeat (first | refine zAI ?_ _ | refine zAJ ?_ | refine zAG ?_ _)); refine zAS ?_ NB109_115.out _; (with_reducible repeat (first | refine zAI ?_ _ | refine zAJ ?_ | refine zAG ?_ _)); refine zAS ?_ NB109_115.out _; (with_reducible repeat (first | refine zAI ?_ _ | refine zAJ ?_ | refine zAG ?_ _)); refine zAS ?_ NB109_115.out _; (with_reducible repeat (first | refine zAI ?_ _ | refine zAJ ?_ | refine zAG ?_ _)); refine zAS ?_ NB109_115.out _; (with_reducible repeat (first | refine zAI ?_ _ | refine zAJ ?_ | refine zAG ?_ _)); exact BK109.out⟩, ⟨by (with_reducible repeat (first | refine zAI ?_ _ | refine zAJ ?_ | refine zAG ?_ _)); refine zAR (cs := #[.bool t110, .bool t111, .bool t112, .bool false]) ?_ 3 _ rfl; (with_reducible repeat (first | refine zAI ?_ _ | refine zAJ ?_ | refine zAG ?_ _)); refine zAR (cs := #[.bool t110, .bool t111, .bool false, .bool false]) ?_ 2 _ rfl; (with_reducible repeat (first | refine zAI ?_ _ | refine zAJ ?_ | refine zAG ?_ _)); refine zAR (cs := #[.bool t110, .bool false, .bool false, .bool false]) ?_ 1 _ rfl; (with_reducible repeat (first | refine zAI ?_ _ | refine zAJ ?_ | refine zAG ?_ _)); refine zAR (cs := #[.bool false, .bool false, .bool false, .bool false]) ?_ 0 _ rfl; (with_reducible repeat (first | refine zAI ?_ _ | refine zAJ ?_ | refine zAG ?_ _)); exact BK115.out⟩, ⟨by repeat (first | (with_reducible first | exact HB.out | apply zAC | apply zAA | apply zAD | refine zAH ?_ GE109.out | refine zAH ?_ GE115.out) | exact HB.out)⟩⟩
  ·replace c10 := Bool.eq_false_iff.mpr c10
   subst c10
   have H1 : (code_Uses.j0 k false ([] : List Int) false a0_0 a0_1 a0_2 a0_3 a0_4 l0_5 t110 t111 t112 t113) = some r := by rw [if_neg (show ¬ (false = true) by decide)] at H; exact H
   clear H
   have H := H1
   clear H1
   have H' := Aside0.mk H
   clear H
   go_wp2
   go_meet
   case rel => exact ⟨_, (false), (by first | rfl | (simp; done) | (simp [*]; done)), H', ⟨by first | omega | exact Nat.le_refl _⟩, ⟨by first | exact Kd.R_nil _ _ _ _ _ | exact Kd.N_nil _ _ _ _ _ | exact Kd.V_nil _ _ _ _ _ | exact Kd.Q_nil _ _ _ _ _ | exact Kd.S_nil _ _ _ _ _⟩, ⟨by (with_reducible repeat (first | refine zAI ?_ _ | refine zAJ ?_ | refine zAG ?_ _)); refine zAS ?_ NB109_115.out _; (with_reducible repeat (first | refine zAI ?_ _ | refine zAJ ?_ | refine zAG ?_ _)); refine zAS ?_ NB109_115.out _; (with_reducible repeat (first | refine zAI ?_ _ | refine zAJ ?_ | refine zAG ?_ _)); refine zAS ?_ NB109_115.out _; (with_reducible repeat (first | refine zAI ?_ _ | refine zAJ ?_ | refine zAG ?_ _)); refine zAS ?_ NB109_115.out _; (with_reducible repeat (first | refine zAI ?_ _ | refine zAJ ?_ | refine zAG ?_ _)); exact BK109.out⟩, ⟨by (with_reducible repeat (first | refine zAI ?_ _ | refine zAJ ?_ | refine zAG ?_ _)); refine zAR (cs := #[.bool t110, .bool t111, .bool t112, .bool false]) ?_ 3 _ rfl; (with_reducible repeat (first | refine zAI ?_ _ | refine zAJ ?_ | refine zAG ?_ _)); refine zAR (cs := #[.bool t110, .bool t111, .bool false, .bool false]) ?_ 2 _ rfl; (with_reducible repeat (first | refine zAI ?_ _ | refine zAJ ?_ | refine zAG ?_ _)); refine zAR (cs := #[.bool t110, .bool false, .bool false, .bool false]) ?_ 1 _ rfl; (with_reducible repeat (first | refine zAI ?_ _ | refine zAJ ?_ | refine zAG ?_ _)); refine zAR (cs := #[.bool false, .bool false, .bool false, .bool false]) ?_ 0 _ rfl; (with_reducible repeat (first | refine zAI ?_ _ | refine zAJ ?_ | refine zAG ?_ _)); exact BK115.out⟩, ⟨by repeat (first | (with_reducible first | exact HB.out | apply zAC | apply zAA | apply zAD | refine zAH ?_ GE109.out | refine zAH ?_ GE115.out) | exact HB.out)⟩⟩
 case rest =>
  clear HC3
  (try clear c1); (try clear p2); (try clear c5); (try clear c8); (try clear c10); (try clear c11); (try clear hcz12_0); (try clear hcz12_1); (try clear hcz12_2); (try clear hcz12_3); (try clear hcz5_0); (try clear hcz5_1); (try clear hcz5_2); (try clear hcz5_3); (try clear hcz5_4); (try clear hcz5_5); (try clear hcz9_0); (try clear hcz9_1); (try clear hcz9_2); (try clear hcz9_3); (try clear hfz12_0); (try clear hfz12_1); (try clear hfz12_2); (try clear hfz12_3); (try clear hfz5_0); (try clear hfz5_1); (try clear hfz5_2); (try clear hfz5_3); (try clear hfz5_4); (try clear hfz5_5); (try clear hfz9_0); (try clear hfz9_1); (try clear hfz9_2); (try clear hfz9_3)
  obtain ⟨kq, x16_2, rfl, HA, HJ2, HO_5, BK109, BK115, HB⟩ := hcut
  cases kq with
  | zero => exact absurd HA.out (by simp [code_Uses.j0])
  | succ kj2 =>
   have H := HA.out
   clear HA
   simp only [code_Uses.j0] at H
   have HC13 := Aside0.mk H
   clear H
   go_upto_if 16 with (fail)
   go_cut [5] (fun v5 wc => ∃ (kq : Nat) (x5_12 : List Int), Aside0 (code_Uses.j1 kq t114 x5_12 a0_0 a0_1 a0_2 a0_3 a0_4 l0_5 t110 t111 t112 t113 = some r) ∧ Aside0 (kq ≤ kj2) ∧ Aside0 (Kd.R (Kd.int .i64) 3 wc w.heap.size (fun _ => True) v5 x5_12) ∧ Aside0 (wc.heap[gb109]? = some (.cells #[.int .i64 a0_0, .int .i64 a0_1, .int .i64 a0_2, .int .i64 a0_3, .int .i64 a0_4, (.slice A0_5 l0_5.length c0_5)] 37 (0, 0))) ∧ Aside0 (wc.heap[gb115]? = some (.cells #[.bool t110, .bool t111, .bool t112, .bool t113] 66 (0, 0))) ∧ Aside0 (Below w.heap.size w wc))
   case first =>
    have H := HC13.out
    clear HC13
    by_cases c14 : x16_2 = true
    ·subst c14
     have H1 : (if ([] : List Int).length < 17592186044416 then (code_Uses.j1 kj2 t114 (([] : List Int) ++ [a0_2]) a0_0 a0_1 a0_2 a0_3 a0_4 l0_5 t110 t111 t112 t113) else (none)) = some r := by rw [if_pos rfl] at H; exact H
     clear H
     have H := H1
     clear H1
     by_cases c15 : ([] : List Int).length < 17592186044416
     ·rw [if_pos c15] at H
      have LMc15 := Aside0.mk c15
      clear c15
      obtain ⟨y116, hy116⟩ : ∃ y_ : List Int, y_ = (([] : List Int) ++ [a0_2]) := ⟨_, rfl⟩
      replace H : (code_Uses.j1 kj2 t114 y116 a0_0 a0_1 a0_2 a0_3 a0_4 l0_5 t110 t111 t112 t113) = some r := by first | (rw [hy116]; with_reducible exact H) | (have H2_ := (Option.bind_some _ _).symm.trans H; rw [hy116]; with_reducible exact H2_) | (have H2_ := (Option.bind_some _ _).symm.trans H; with_reducible exact H2_) | with_reducible exact H | (rw [hy116]; exact H) | exact H
      have Ny116 := Aside0.mk hy116
      clear hy116
      have H' := Aside0.mk H
      clear H
      have hnb16 := NB109_115.out
      have hnc16 := NB115_109.out
      have hcz17_0 : wc.cell? ⟨gb109, 0, none⟩ = some (.int .i64 a0_0) := (zAE BK109.out 0).trans rfl
      have hcz17_1 : wc.cell? ⟨gb109, 1, none⟩ = some (.int .i64 a0_1) := (zAE BK109.out 1).trans rfl
      have hcz17_2 : wc.cell? ⟨gb109, 2, none⟩ = some (.int .i64 a0_2) := (zAE BK109.out 2).trans rfl
      have hcz17_3 : wc.cell? ⟨gb109, 3, none⟩ = some (.int .i64 a0_3) := (zAE BK109.out 3).trans rfl
      have hcz17_4 : wc.cell? ⟨gb109, 4, none⟩ = some (.int .i64 a0_4) := (zAE BK109.out 4).trans rfl
      have hcz17_5 : wc.cell? ⟨gb109, 5, none⟩ = some (.slice A0_5 l0_5.length c0_5) := (zAE BK109.out 5).trans rfl
      have hfz17_0 := zAB BK109.out 0
      have hfz17_1 := zAB BK109.out 1
      have hfz17_2 := zAB BK109.out 2
      have hfz17_3 := zAB BK109.out 3
      have hfz17_4 := zAB BK109.out 4
      have hfz17_5 := zAB BK109.out 5
      go_wp2_with (first | ((with_reducible refine zBK (b := .append) (xs := #[.tmp 17, .tmp 20]) rfl ?_); at_builtin; refine Kd.R_append (Kd.int .i64) (w0 := w) w.heap.size rfl (.tmp 17) (.tmp 20) 23 3 (.int .i64 0) 8 rfl Try.underlying23 info3 rfl (by decide) (by omega) (.slice none 0 0) ([] : List Int) a0_2 [.int .i64 a0_2] (fun _ => True) (fun _ => False) rfl rfl ?aP (fun _ hk => hk.elim) ?aF ?aO ?aB ?aS ?aL ?_; (case aP => exact rfl); (case aB => exact (by repeat (first | (with_reducible first | exact HB.out | apply zAC | apply zAA | apply zAD | refine zAH ?_ GE109.out | refine zAH ?_ GE115.out) | exact HB.out))); (case aF => exact (fun _ _ => trivial)); (case aO => exact (by (with_reducible repeat (first | apply Kd.R_alloc | apply Kd.R_drewN | apply Kd.R_drew)); exact HO_5.out)); (case aS => exact (zAM (by repeat (first | (with_reducible first | exact HB.out | apply zAC | apply zAA | apply zAD | refine zAH ?_ GE109.out | refine zAH ?_ GE115.out) | exact HB.out)))); (case aL => have := LMc15.out; omega); intro v117 w18 ho hb hg hat; rw [← Ny116.out] at ho; have n0_ := Aside0.mk (zAW (g := gb109) (o := .cells #[.int .i64 a0_0, .int .i64 a0_1, .int .i64 a0_2, .int .i64 a0_3, .int .i64 a0_4, .slice A0_5 l0_5.length c0_5] 37 (0, 0)) (by (with_reducible repeat (first | refine zAI ?_ _ | refine zAJ ?_ | refine zAG ?_ _)); exact BK109.out) hg (Kd.R_ne HO_5.out BK109.out (by decide))); have n1_ := Aside0.mk (zAW (g := gb115) (o := .cells #[.bool t110, .bool t111, .bool t112, .bool t113] 66 (0, 0)) (by (with_reducible repeat (first | refine zAI ?_ _ | refine zAJ ?_ | refine zAG ?_ _)); exact BK115.out) hg (Kd.R_ne HO_5.out BK115.out (by decide))); have n2_ := Aside0.mk (hb); have n3_ := Aside0.mk (ho); clear BK109; clear BK115; clear HB; clear HO_5; have BK109 := n0_; have BK115 := n1_; have HB := n2_; have HO118 := n3_; clear n0_ n1_ n2_ n3_; clear ho hb hg hat))
      go_meet
      case rel => exact ⟨_, (y116), H', ⟨by have := HJ2.out; first | omega | exact Nat.le_refl _⟩, ⟨by (with_reducible repeat (first | apply Kd.R_alloc | apply Kd.R_drewN | apply Kd.R_drew)); exact HO118.out⟩, ⟨by (with_reducible repeat (first | refine zAI ?_ _ | refine zAJ ?_ | refine zAG ?_ _)); exact BK109.out⟩, ⟨by (with_reducible repeat (first | refine zAI ?_ _ | refine zAJ ?_ | refine zAG ?_ _)); exact BK115.out⟩, ⟨by repeat (first | (with_reducible first | exact HB.out | apply zAC | apply zAA | apply zAD | refine zAH ?_ GE109.out | refine zAH ?_ GE115.out) | exact HB.out)⟩⟩
     ·rw [if_neg c15] at H
      exact absurd H (by simp)
    ·replace c14 := Bool.eq_false_iff.mpr c14
     subst c14
     have H1 : (code_Uses.j1 kj2 t114 ([] : List Int) a0_0 a0_1 a0_2 a0_3 a0_4 l0_5 t110 t111 t112 t113) = some r := by rw [if_neg (show ¬ (false = true) by decide)] at H; exact H
     clear H
     have H := H1
     clear H1
     have H' := Aside0.mk H
     clear H
     go_wp2
     go_meet
     case rel => exact ⟨_, (([] : List Int)), H', ⟨by have := HJ2.out; first | omega | exact Nat.le_refl _⟩, ⟨by (with_reducible repeat (first | apply Kd.R_alloc | apply Kd.R_drewN | apply Kd.R_drew)); exact HO_5.out⟩, ⟨by (with_reducible repeat (first | refine zAI ?_ _ | refine zAJ ?_ | refine zAG ?_ _)); exact BK109.out⟩, ⟨by (with_reducible repeat (first | refine zAI ?_ _ | refine zAJ ?_ | refine zAG ?_ _)); exact BK115.out⟩, ⟨by repeat (first | (with_reducible first | exact HB.out | apply zAC | apply zAA | apply zAD | refine zAH ?_ GE109.out | refine zAH ?_ GE115.out) | exact HB.out)⟩⟩
   case rest =>
    clear HC13
    (try clear c1); (try clear p2); (try clear c5); (try clear c8); (try clear c10); (try clear c11); (try clear c14); (try clear c15); (try clear c16); (try clear hcz12_0); (try clear hcz12_1); (try clear hcz12_2); (try clear hcz12_3); (try clear hcz17_0); (try clear hcz17_1); (try clear hcz17_2); (try clear hcz17_3); (try clear hcz17_4); (try clear hcz17_5); (try clear hcz5_0); (try clear hcz5_1); (try clear hcz5_2); (try clear hcz5_3); (try clear hcz5_4); (try clear hcz5_5); (try clear hcz9_0); (try clear hcz9_1); (try clear hcz9_2); (try clear hcz9_3); (try clear hfz12_0); (try clear hfz12_1); (try clear hfz12_2); (try clear hfz12_3); (try clear hfz17_0); (try clear hfz17_1); (try clear hfz17_2); (try clear hfz17_3); (try clear hfz17_4); (try clear hfz17_5); (try clear hfz5_0); (try clear hfz5_1); (try clear hfz5_2); (try clear hfz5_3); (try clear hfz5_4); (try clear hfz5_5); (try clear hfz9_0); (try clear hfz9_1); (try clear hfz9_2); (try clear hfz9_3); (try clear p2)
    obtain ⟨kq, x5_12, HA, HJ12, HO_5, BK109, BK115, HB⟩ := hcut
    cases kq with
    | zero => exact absurd HA.out (by simp [code_Uses.j1])
    | succ kj12 =>
     have H := HA.out
     clear HA
     simp only [code_Uses.j1] at H
     have HC19 := Aside0.mk H
     clear H
     go_upto_region 5 with (fail)
     go_cut [26] (fun v26 wc => ∃ (kq : Nat) (x26_18 : Bool), v26 = .bool x26_18 ∧ Aside0 (code_Uses.j2 kq x5_12 x26_18 a0_0 a0_1 a0_2 a0_3 a0_4 l0_5 = some r) ∧ Aside0 (kq ≤ kj12) ∧ Aside0 (Kd.R (Kd.int .i64) 3 wc w.heap.size (fun _ => True) u5 x5_12) ∧ Aside0 (wc.heap[gb109]? = some (.cells #[.int .i64 a0_0, .int .i64 a0_1, .int .i64 a0_2, .int .i64 a0_3, .int .i64 a0_4, (.slice A0_5 l0_5.length c0_5)] 37 (0, 0))) ∧ Aside0 (wc.heap[gb115]? = some (.cells #[.bool t110, .bool t111, .bool t112, .bool t113] 66 (0, 0))) ∧ Aside0 (Below w.heap.size w wc))
     case first =>
      have H := HC19.out
      clear HC19
      by_cases c20 : t114 = true
      ·subst c20
       have H1 : (code_Uses.j2 kj12 x5_12 t112 a0_0 a0_1 a0_2 a0_3 a0_4 l0_5) = some r := by rw [if_pos rfl] at H; exact H
       clear H
       have H := H1
       clear H1
       have H' := Aside0.mk H
       clear H
       have hnb21 := NB115_109.out
       have hnc21 := NB109_115.out
       have hcz22_0 : wc.cell? ⟨gb115, 0, none⟩ = some (.bool t110) := (zAE BK115.out 0).trans rfl
       have hcz22_1 : wc.cell? ⟨gb115, 1, none⟩ = some (.bool t111) := (zAE BK115.out 1).trans rfl
       have hcz22_2 : wc.cell? ⟨gb115, 2, none⟩ = some (.bool t112) := (zAE BK115.out 2).trans rfl
       have hcz22_3 : wc.cell? ⟨gb115, 3, none⟩ = some (.bool t113) := (zAE BK115.out 3).trans rfl
       have hfz22_0 := zAB BK115.out 0
       have hfz22_1 := zAB BK115.out 1
       have hfz22_2 := zAB BK115.out 2
       have hfz22_3 := zAB BK115.out 3
       go_wp2
       go_meet
       case rel => exact ⟨_, (t112), (by first | rfl | (simp; done) | (simp [*]; done)), H', ⟨by have := HJ2.out; have := HJ12.out; first | omega | exact Nat.le_refl _⟩, ⟨by (with_reducible repeat (first | apply Kd.R_alloc | apply Kd.R_drewN | apply Kd.R_drew)); exact HO_5.out⟩, ⟨by (with_reducible repeat (first | refine zAI ?_ _ | refine zAJ ?_ | refine zAG ?_ _)); exact BK109.out⟩, ⟨by (with_reducible repeat (first | refine zAI ?_ _ | refine zAJ ?_ | refine zAG ?_ _)); exact BK115.out⟩, ⟨by repeat (first | (with_reducible first | exact HB.out | apply zAC | apply zAA | apply zAD | refine zAH ?_ GE109.out | refine zAH ?_ GE115.out) | exact HB.out)⟩⟩
      ·replace c20 := Bool.eq_false_iff.mpr c20
       subst c20
       have H1 : (code_Uses.j2 kj12 x5_12 false a0_0 a0_1 a0_2 a0_3 a0_4 l0_5) = some r := by rw [if_neg (show ¬ (false = true) by decide)] at H; exact H
       clear H
       have H := H1
       clear H1
       have H' := Aside0.mk H
       clear H
       go_wp2
       go_meet
       case rel => exact ⟨_, (false), (by first | rfl | (simp; done) | (simp [*]; done)), H', ⟨by have := HJ2.out; have := HJ12.out; first | omega | exact Nat.le_refl _⟩, ⟨by (with_reducible repeat (first | apply Kd.R_alloc | apply Kd.R_drewN | apply Kd.R_drew)); exact HO_5.out⟩, ⟨by (with_reducible repeat (first | refine zAI ?_ _ | refine zAJ ?_ | refine zAG ?_ _)); exact BK109.out⟩, ⟨by (with_reducible repeat (first | refine zAI ?_ _ | refine zAJ ?_ | refine zAG ?_ _)); exact BK115.out⟩, ⟨by repeat (first | (with_reducible first | exact HB.out | apply zAC | apply zAA | apply zAD | refine zAH ?_ GE109.out | refine zAH ?_ GE115.out) | exact HB.out)⟩⟩
     case rest =>
      clear HC19
      (try clear c1); (try clear c2); (try clear p2); (try clear c5); (try clear c8); (try clear c10); (try clear c11); (try clear c14); (try clear c15); (try clear c16); (try clear c20); (try clear c21); (try clear hcz12_0); (try clear hcz12_1); (try clear hcz12_2); (try clear hcz12_3); (try clear hcz17_0); (try clear hcz17_1); (try clear hcz17_2); (try clear hcz17_3); (try clear hcz17_4); (try clear hcz17_5); (try clear hcz22_0); (try clear hcz22_1); (try clear hcz22_2); (try clear hcz22_3); (try clear hcz5_0); (try clear hcz5_1); (try clear hcz5_2); (try clear hcz5_3); (try clear hcz5_4); (try clear hcz5_5); (try clear hcz9_0); (try clear hcz9_1); (try clear hcz9_2); (try clear hcz9_3); (try clear hfz12_0); (try clear hfz12_1); (try clear hfz12_2); (try clear hfz12_3); (try clear hfz17_0); (try clear hfz17_1); (try clear hfz17_2); (try clear hfz17_3); (try clear hfz17_4); (try clear hfz17_5); (try clear hfz22_0); (try clear hfz22_1); (try clear hfz22_2); (try clear hfz22_3); (try clear hfz5_0); (try clear hfz5_1); (try clear hfz5_2); (try clear hfz5_3); (try clear hfz5_4); (try clear hfz5_5); (try clear hfz9_0); (try clear hfz9_1); (try clear hfz9_2); (try clear hfz9_3); (try clear p2)
      obtain ⟨kq, x26_18, rfl, HA, HJ18, HO_5, BK109, BK115, HB⟩ := hcut
      cases kq with
      | zero => exact absurd HA.out (by simp [code_Uses.j2])
      | succ kj18 =>
       have H := HA.out
       clear HA
       simp only [code_Uses.j2] at H
       by_cases c23 : x26_18 = true
       ·subst c23
        have H1 : (if x5_12.length < 17592186044416 then ((some (x5_12 ++ [a0_3] : List Int)).bind fun y119 => (if a0_0 = 7 then (if y119.length + l0_5.length < 17592186044416 then (some (y119 ++ l0_5)) else (none)) else (some y119))) else (none)) = some r := by rw [if_pos rfl] at H; exact H
        clear H
        have H := H1
        clear H1
        by_cases c24 : x5_12.length < 17592186044416
        ·rw [if_pos c24] at H
         have LMc24 := Aside0.mk c24
         clear c24
         obtain ⟨y119, hy119⟩ : ∃ y_ : List Int, y_ = (x5_12 ++ [a0_3]) := ⟨_, rfl⟩
         replace H : (if a0_0 = 7 then (if y119.length + l0_5.length < 17592186044416 then (some (y119 ++ l0_5)) else (none)) else (some y119)) = some r := by first | (rw [hy119]; with_reducible exact H) | (have H2_ := (Option.bind_some _ _).symm.trans H; rw [hy119]; with_reducible exact H2_) | (have H2_ := (Option.bind_some _ _).symm.trans H; with_reducible exact H2_) | with_reducible exact H | (rw [hy119]; exact H) | exact H
         have Ny119 := Aside0.mk hy119
         clear hy119
         by_cases c25 : a0_0 = 7
         ·rw [if_pos c25] at H
          have c25b0 : (a0_0 == 7) = true := beq_iff_eq.mpr c25
          have c25b1 : (a0_0 != 7) = false := bne_eq_false_iff_eq.mpr c25
          clear c25
          by_cases c26 : y119.length + l0_5.length < 17592186044416
          ·rw [if_pos c26] at H
           have LMc26 := Aside0.mk c26
           clear c26
           obtain ⟨y122, hy122⟩ : ∃ y_ : List Int, y_ = (y119 ++ l0_5) := ⟨_, rfl⟩
           replace H : (some y122) = some r := by first | (rw [hy122]; with_reducible exact H) | (have H2_ := (Option.bind_some _ _).symm.trans H; rw [hy122]; with_reducible exact H2_) | (have H2_ := (Option.bind_some _ _).symm.trans H; with_reducible exact H2_) | with_reducible exact H | (rw [hy122]; exact H) | exact H
           have Ny122 := Aside0.mk hy122
           clear hy122
           obtain rfl := Option.some.inj H
           have hnb27 := NB109_115.out
           have hnc27 := NB115_109.out
           have hcz28_0 : wc.cell? ⟨gb109, 0, none⟩ = some (.int .i64 a0_0) := (zAE BK109.out 0).trans rfl
           have hcz28_1 : wc.cell? ⟨gb109, 1, none⟩ = some (.int .i64 a0_1) := (zAE BK109.out 1).trans rfl
           have hcz28_2 : wc.cell? ⟨gb109, 2, none⟩ = some (.int .i64 a0_2) := (zAE BK109.out 2).trans rfl
           have hcz28_3 : wc.cell? ⟨gb109, 3, none⟩ = some (.int .i64 a0_3) := (zAE BK109.out 3).trans rfl
           have hcz28_4 : wc.cell? ⟨gb109, 4, none⟩ = some (.int .i64 a0_4) := (zAE BK109.out 4).trans rfl
           have hcz28_5 : wc.cell? ⟨gb109, 5, none⟩ = some (.slice A0_5 l0_5.length c0_5) := (zAE BK109.out 5).trans rfl
           have hfz28_0 := zAB BK109.out 0
           have hfz28_1 := zAB BK109.out 1
           have hfz28_2 := zAB BK109.out 2
           have hfz28_3 := zAB BK109.out 3
           have hfz28_4 := zAB BK109.out 4
           have hfz28_5 := zAB BK109.out 5
           go_wp2_with (first | ((with_reducible refine zBK (b := .append) (xs := #[.tmp 27, .tmp 30]) rfl ?_); at_builtin; refine Kd.R_append (Kd.int .i64) (w0 := w) w.heap.size rfl (.tmp 27) (.tmp 30) 23 3 (.int .i64 0) 8 rfl Try.underlying23 info3 rfl (by decide) (by omega) u5 x5_12 a0_3 [.int .i64 a0_3] (fun _ => True) (fun _ => False) rfl rfl ?aP (fun _ hk => hk.elim) ?aF ?aO ?aB ?aS ?aL ?_; (case aP => exact rfl); (case aB => exact (by repeat (first | (with_reducible first | exact HB.out | apply zAC | apply zAA | apply zAD | refine zAH ?_ GE109.out | refine zAH ?_ GE115.out) | exact HB.out))); (case aF => exact (fun _ _ => trivial)); (case aO => exact (by (with_reducible repeat (first | apply Kd.R_alloc | apply Kd.R_drewN | apply Kd.R_drew)); exact HO_5.out)); (case aS => exact (zAM (by repeat (first | (with_reducible first | exact HB.out | apply zAC | apply zAA | apply zAD | refine zAH ?_ GE109.out | refine zAH ?_ GE115.out) | exact HB.out)))); (case aL => have := LMc24.out; omega); intro v120 w29 ho hb hg hat; rw [← Ny119.out] at ho; have n0_ := Aside0.mk (zAW (g := gb109) (o := .cells #[.int .i64 a0_0, .int .i64 a0_1, .int .i64 a0_2, .int .i64 a0_3, .int .i64 a0_4, .slice A0_5 l0_5.length c0_5] 37 (0, 0)) (by (with_reducible repeat (first | refine zAI ?_ _ | refine zAJ ?_ | refine zAG ?_ _)); exact BK109.out) hg (Kd.R_ne HO_5.out BK109.out (by decide))); have n1_ := Aside0.mk (zAW (g := gb115) (o := .cells #[.bool t110, .bool t111, .bool t112, .bool t113] 66 (0, 0)) (by (with_reducible repeat (first | refine zAI ?_ _ | refine zAJ ?_ | refine zAG ?_ _)); exact BK115.out) hg (Kd.R_ne HO_5.out BK115.out (by decide))); have n2_ := Aside0.mk (hb); have n3_ := Aside0.mk (ho); clear BK109; clear BK115; clear HB; clear HO_5; have BK109 := n0_; have BK115 := n1_; have HB := n2_; have HO121 := n3_; clear n0_ n1_ n2_ n3_; clear ho hb hg hat; have hcz30_0 : w29.cell? ⟨gb109, 0, none⟩ = some (.int .i64 a0_0) := (zAE BK109.out 0).trans rfl; have hcz30_1 : w29.cell? ⟨gb109, 1, none⟩ = some (.int .i64 a0_1) := (zAE BK109.out 1).trans rfl; have hcz30_2 : w29.cell? ⟨gb109, 2, none⟩ = some (.int .i64 a0_2) := (zAE BK109.out 2).trans rfl; have hcz30_3 : w29.cell? ⟨gb109, 3, none⟩ = some (.int .i64 a0_3) := (zAE BK109.out 3).trans rfl; have hcz30_4 : w29.cell? ⟨gb109, 4, none⟩ = some (.int .i64 a0_4) := (zAE BK109.out 4).trans rfl; have hcz30_5 : w29.cell? ⟨gb109, 5, none⟩ = some (.slice A0_5 l0_5.length c0_5) := (zAE BK109.out 5).trans rfl; have hfz30_0 := zAB BK109.out 0; have hfz30_1 := zAB BK109.out 1; have hfz30_2 := zAB BK109.out 2; have hfz30_3 := zAB BK109.out 3; have hfz30_4 := zAB BK109.out 4; have hfz30_5 := zAB BK109.out 5) | ((with_reducible refine zBK (b := .append) (xs := #[.tmp 35, .tmp 37]) rfl ?_); at_builtin; refine Kd.R_append_rows (Kd.int .i64) (w0 := w) w.heap.size rfl (.tmp 35) (.tmp 37) 23 3 (.int .i64 0) 8 rfl Try.underlying23 info3 rfl (by decide) (by omega) v120 y119 l0_5 _ _ _ (fun _ => True) (fun _ => False) rfl rfl ?aO ?aR (fun _ _ h => h) (fun _ h => h.elim) ?aF ?aB ?aS ?aL ?_; (case aR => repeat (first | exact (Kd.C_below HR0_5.out HB.out) | (with_reducible refine Kd.C_alloc ?_ _) | (with_reducible refine Kd.C_drewN ?_ _) | (with_reducible refine Kd.C_drew ?_))); (case aB => exact (by repeat (first | (with_reducible first | exact HB.out | apply zAC | apply zAA | apply zAD | refine zAH ?_ GE109.out | refine zAH ?_ GE115.out) | exact HB.out))); (case aF => exact (fun _ _ => trivial)); (case aO => exact (by (with_reducible repeat (first | apply Kd.R_alloc | apply Kd.R_drewN | apply Kd.R_drew)); exact HO121.out)); (case aS => exact (zAM (by repeat (first | (with_reducible first | exact HB.out | apply zAC | apply zAA | apply zAD | refine zAH ?_ GE109.out | refine zAH ?_ GE115.out) | exact HB.out)))); (case aL => have := LMc26.out; omega); intro v123 w31 ho hb hg hat; rw [← Ny122.out] at ho; have n0_ := Aside0.mk (zAW (g := gb109) (o := .cells #[.int .i64 a0_0, .int .i64 a0_1, .int .i64 a0_2, .int .i64 a0_3, .int .i64 a0_4, .slice A0_5 l0_5.length c0_5] 37 (0, 0)) (by (with_reducible repeat (first | refine zAI ?_ _ | refine zAJ ?_ | refine zAG ?_ _)); exact BK109.out) hg (Kd.R_ne HO121.out BK109.out (by decide))); have n1_ := Aside0.mk (zAW (g := gb115) (o := .cells #[.bool t110, .bool t111, .bool t112, .bool t113] 66 (0, 0)) (by (with_reducible repeat (first | refine zAI ?_ _ | refine zAJ ?_ | refine zAG ?_ _)); exact BK115.out) hg (Kd.R_ne HO121.out BK115.out (by decide))); have n2_ := Aside0.mk (hb); have n3_ := Aside0.mk (ho); clear BK109; clear BK115; clear HB; clear HO121; have BK109 := n0_; have BK115 := n1_; have HB := n2_; have HO124 := n3_; clear n0_ n1_ n2_ n3_; clear ho hb hg hat))
           go_ret
           exact ⟨_, by first | rfl | (simp [zAO, zAN] <;> rfl) | (simp [*, zAO, zAN] <;> rfl), by (with_reducible repeat (first | apply Kd.R_alloc | apply Kd.R_drewN | apply Kd.R_drew)); exact HO124.out, by repeat (first | (with_reducible first | exact HB.out | apply zAC | apply zAA | apply zAD | refine zAH ?_ GE109.out | refine zAH ?_ GE115.out) | exact HB.out)⟩
          ·rw [if_neg c26] at H
           exact absurd H (by simp)
         ·rw [if_neg c25] at H
          have c25b0 : (a0_0 == 7) = false := beq_eq_false_iff_ne.mpr c25
          have c25b1 : (a0_0 != 7) = true := bne_iff_ne.mpr c25
          obtain rfl := Option.some.inj H
          have hnb32 := NB109_115.out
          have hnc32 := NB115_109.out
          have hcz33_0 : wc.cell? ⟨gb109, 0, none⟩ = some (.int .i64 a0_0) := (zAE BK109.out 0).trans rfl
          have hcz33_1 : wc.cell? ⟨gb109, 1, none⟩ = some (.int .i64 a0_1) := (zAE BK109.out 1).trans rfl
          have hcz33_2 : wc.cell? ⟨gb109, 2, none⟩ = some (.int .i64 a0_2) := (zAE BK109.out 2).trans rfl
          have hcz33_3 : wc.cell? ⟨gb109, 3, none⟩ = some (.int .i64 a0_3) := (zAE BK109.out 3).trans rfl
          have hcz33_4 : wc.cell? ⟨gb109, 4, none⟩ = some (.int .i64 a0_4) := (zAE BK109.out 4).trans rfl
          have hcz33_5 : wc.cell? ⟨gb109, 5, none⟩ = some (.slice A0_5 l0_5.length c0_5) := (zAE BK109.out 5).trans rfl
          have hfz33_0 := zAB BK109.out 0
          have hfz33_1 := zAB BK109.out 1
          have hfz33_2 := zAB BK109.out 2
          have hfz33_3 := zAB BK109.out 3
          have hfz33_4 := zAB BK109.out 4
          have hfz33_5 := zAB BK109.out 5
          go_wp2_with (first | ((with_reducible refine zBK (b := .append) (xs := #[.tmp 27, .tmp 30]) rfl ?_); at_builtin; refine Kd.R_append (Kd.int .i64) (w0 := w) w.heap.size rfl (.tmp 27) (.tmp 30) 23 3 (.int .i64 0) 8 rfl Try.underlying23 info3 rfl (by decide) (by omega) u5 x5_12 a0_3 [.int .i64 a0_3] (fun _ => True) (fun _ => False) rfl rfl ?aP (fun _ hk => hk.elim) ?aF ?aO ?aB ?aS ?aL ?_; (case aP => exact rfl); (case aB => exact (by repeat (first | (with_reducible first | exact HB.out | apply zAC | apply zAA | apply zAD | refine zAH ?_ GE109.out | refine zAH ?_ GE115.out) | exact HB.out))); (case aF => exact (fun _ _ => trivial)); (case aO => exact (by (with_reducible repeat (first | apply Kd.R_alloc | apply Kd.R_drewN | apply Kd.R_drew)); exact HO_5.out)); (case aS => exact (zAM (by repeat (first | (with_reducible first | exact HB.out | apply zAC | apply zAA | apply zAD | refine zAH ?_ GE109.out | refine zAH ?_ GE115.out) | exact HB.out)))); (case aL => have := LMc24.out; omega); intro v120 w34 ho hb hg hat; rw [← Ny119.out] at ho; have n0_ := Aside0.mk (zAW (g := gb109) (o := .cells #[.int .i64 a0_0, .int .i64 a0_1, .int .i64 a0_2, .int .i64 a0_3, .int .i64 a0_4, .slice A0_5 l0_5.length c0_5] 37 (0, 0)) (by (with_reducible repeat (first | refine zAI ?_ _ | refine zAJ ?_ | refine zAG ?_ _)); exact BK109.out) hg (Kd.R_ne HO_5.out BK109.out (by decide))); have n1_ := Aside0.mk (zAW (g := gb115) (o := .cells #[.bool t110, .bool t111, .bool t112, .bool t113] 66 (0, 0)) (by (with_reducible repeat (first | refine zAI ?_ _ | refine zAJ ?_ | refine zAG ?_ _)); exact BK115.out) hg (Kd.R_ne HO_5.out BK115.out (by decide))); have n2_ := Aside0.mk (hb); have n3_ := Aside0.mk (ho); clear BK109; clear BK115; clear HB; clear HO_5; have BK109 := n0_; have BK115 := n1_; have HB := n2_; have HO121 := n3_; clear n0_ n1_ n2_ n3_; clear ho hb hg hat; have hcz35_0 : w34.cell? ⟨gb109, 0, none⟩ = some (.int .i64 a0_0) := (zAE BK109.out 0).trans rfl; have hcz35_1 : w34.cell? ⟨gb109, 1, none⟩ = some (.int .i64 a0_1) := (zAE BK109.out 1).trans rfl; have hcz35_2 : w34.cell? ⟨gb109, 2, none⟩ = some (.int .i64 a0_2) := (zAE BK109.out 2).trans rfl; have hcz35_3 : w34.cell? ⟨gb109, 3, none⟩ = some (.int .i64 a0_3) := (zAE BK109.out 3).trans rfl; have hcz35_4 : w34.cell? ⟨gb109, 4, none⟩ = some (.int .i64 a0_4) := (zAE BK109.out 4).trans rfl; have hcz35_5 : w34.cell? ⟨gb109, 5, none⟩ = some (.slice A0_5 l0_5.length c0_5) := (zAE BK109.out 5).trans rfl; have hfz35_0 := zAB BK109.out 0; have hfz35_1 := zAB BK109.out 1; have hfz35_2 := zAB BK109.out 2; have hfz35_3 := zAB BK109.out 3; have hfz35_4 := zAB BK109.out 4; have hfz35_5 := zAB BK109.out 5))
          go_ret
          exact ⟨_, by first | rfl | (simp [zAO, zAN] <;> rfl) | (simp [*, zAO, zAN] <;> rfl), by (with_reducible repeat (first | apply Kd.R_alloc | apply Kd.R_drewN | apply Kd.R_drew)); exact HO121.out, by repeat (first | (with_reducible first | exact HB.out | apply zAC | apply zAA | apply zAD | refine zAH ?_ GE109.out | refine zAH ?_ GE115.out) | exact HB.out)⟩
        ·rw [if_neg c24] at H
         exact absurd H (by simp)
       ·replace c23 := Bool.eq_false_iff.mpr c23
        subst c23
        have H1 : (if a0_0 = 7 then (if x5_12.length + l0_5.length < 17592186044416 then (some (x5_12 ++ l0_5)) else (none)) else (some x5_12)) = some r := by rw [if_neg (show ¬ (false = true) by decide)] at H; exact H
        clear H
        have H := H1
        clear H1
        by_cases c36 : a0_0 = 7
        ·rw [if_pos c36] at H
         have c36b0 : (a0_0 == 7) = true := beq_iff_eq.mpr c36
         have c36b1 : (a0_0 != 7) = false := bne_eq_false_iff_eq.mpr c36
         clear c36
         by_cases c37 : x5_12.length + l0_5.length < 17592186044416
         ·rw [if_pos c37] at H
          have LMc37 := Aside0.mk c37
          clear c37
          obtain ⟨y125, hy125⟩ : ∃ y_ : List Int, y_ = (x5_12 ++ l0_5) := ⟨_, rfl⟩
          replace H : (some y125) = some r := by first | (rw [hy125]; with_reducible exact H) | (have H2_ := (Option.bind_some _ _).symm.trans H; rw [hy125]; with_reducible exact H2_) | (have H2_ := (Option.bind_some _ _).symm.trans H; with_reducible exact H2_) | with_reducible exact H | (rw [hy125]; exact H) | exact H
          have Ny125 := Aside0.mk hy125
          clear hy125
          obtain rfl := Option.some.inj H
          have hnb38 := NB109_115.out
          have hnc38 := NB115_109.out
          have hcz39_0 : wc.cell? ⟨gb109, 0, none⟩ = some (.int .i64 a0_0) := (zAE BK109.out 0).trans rfl
          have hcz39_1 : wc.cell? ⟨gb109, 1, none⟩ = some (.int .i64 a0_1) := (zAE BK109.out 1).trans rfl
          have hcz39_2 : wc.cell? ⟨gb109, 2, none⟩ = some (.int .i64 a0_2) := (zAE BK109.out 2).trans rfl
          have hcz39_3 : wc.cell? ⟨gb109, 3, none⟩ = some (.int .i64 a0_3) := (zAE BK109.out 3).trans rfl
          have hcz39_4 : wc.cell? ⟨gb109, 4, none⟩ = some (.int .i64 a0_4) := (zAE BK109.out 4).trans rfl
          have hcz39_5 : wc.cell? ⟨gb109, 5, none⟩ = some (.slice A0_5 l0_5.length c0_5) := (zAE BK109.out 5).trans rfl
          have hfz39_0 := zAB BK109.out 0
          have hfz39_1 := zAB BK109.out 1
          have hfz39_2 := zAB BK109.out 2
          have hfz39_3 := zAB BK109.out 3
          have hfz39_4 := zAB BK109.out 4
          have hfz39_5 := zAB BK109.out 5
          go_wp2_with (first | ((with_reducible refine zBK (b := .append) (xs := #[.tmp 35, .tmp 37]) rfl ?_); at_builtin; refine Kd.R_append_rows (Kd.int .i64) (w0 := w) w.heap.size rfl (.tmp 35) (.tmp 37) 23 3 (.int .i64 0) 8 rfl Try.underlying23 info3 rfl (by decide) (by omega) u5 x5_12 l0_5 _ _ _ (fun _ => True) (fun _ => False) rfl rfl ?aO ?aR (fun _ _ h => h) (fun _ h => h.elim) ?aF ?aB ?aS ?aL ?_; (case aR => repeat (first | exact (Kd.C_below HR0_5.out HB.out) | (with_reducible refine Kd.C_alloc ?_ _) | (with_reducible refine Kd.C_drewN ?_ _) | (with_reducible refine Kd.C_drew ?_))); (case aB => exact (by repeat (first | (with_reducible first | exact HB.out | apply zAC | apply zAA | apply zAD | refine zAH ?_ GE109.out | refine zAH ?_ GE115.out) | exact HB.out))); (case aF => exact (fun _ _ => trivial)); (case aO => exact (by (with_reducible repeat (first | apply Kd.R_alloc | apply Kd.R_drewN | apply Kd.R_drew)); exact HO_5.out)); (case aS => exact (zAM (by repeat (first | (with_reducible first | exact HB.out | apply zAC | apply zAA | apply zAD | refine zAH ?_ GE109.out | refine zAH ?_ GE115.out) | exact HB.out)))); (case aL => have := LMc37.out; omega); intro v126 w40 ho hb hg hat; rw [← Ny125.out] at ho; have n0_ := Aside0.mk (zAW (g := gb109) (o := .cells #[.int .i64 a0_0, .int .i64 a0_1, .int .i64 a0_2, .int .i64 a0_3, .int .i64 a0_4, .slice A0_5 l0_5.length c0_5] 37 (0, 0)) (by (with_reducible repeat (first | refine zAI ?_ _ | refine zAJ ?_ | refine zAG ?_ _)); exact BK109.out) hg (Kd.R_ne HO_5.out BK109.out (by decide))); have n1_ := Aside0.mk (zAW (g := gb115) (o := .cells #[.bool t110, .bool t111, .bool t112, .bool t113] 66 (0, 0)) (by (with_reducible repeat (first | refine zAI ?_ _ | refine zAJ ?_ | refine zAG ?_ _)); exact BK115.out) hg (Kd.R_ne HO_5.out BK115.out (by decide))); have n2_ := Aside0.mk (hb); have n3_ := Aside0.mk (ho); clear BK109; clear BK115; clear HB; clear HO_5; have BK109 := n0_; have BK115 := n1_; have HB := n2_; have HO127 := n3_; clear n0_ n1_ n2_ n3_; clear ho hb hg hat))
          go_ret
          exact ⟨_, by first | rfl | (simp [zAO, zAN] <;> rfl) | (simp [*, zAO, zAN] <;> rfl), by (with_reducible repeat (first | apply Kd.R_alloc | apply Kd.R_drewN | apply Kd.R_drew)); exact HO127.out, by repeat (first | (with_reducible first | exact HB.out | apply zAC | apply zAA | apply zAD | refine zAH ?_ GE109.out | refine zAH ?_ GE115.out) | exact HB.out)⟩
         ·rw [if_neg c37] at H
          exact absurd H (by simp)
        ·rw [if_neg c36] at H
         have c36b0 : (a0_0 == 7) = false := beq_eq_false_iff_ne.mpr c36
         have c36b1 : (a0_0 != 7) = true := bne_iff_ne.mpr c36
         obtain rfl := Option.some.inj H
         have hnb41 := NB109_115.out
         have hnc41 := NB115_109.out
         have hcz42_0 : wc.cell? ⟨gb109, 0, none⟩ = some (.int .i64 a0_0) := (zAE BK109.out 0).trans rfl
         have hcz42_1 : wc.cell? ⟨gb109, 1, none⟩ = some (.int .i64 a0_1) := (zAE BK109.out 1).trans rfl
         have hcz42_2 : wc.cell? ⟨gb109, 2, none⟩ = some (.int .i64 a0_2) := (zAE BK109.out 2).trans rfl
         have hcz42_3 : wc.cell? ⟨gb109, 3, none⟩ = some (.int .i64 a0_3) := (zAE BK109.out 3).trans rfl
         have hcz42_4 : wc.cell? ⟨gb109, 4, none⟩ = some (.int .i64 a0_4) := (zAE BK109.out 4).trans rfl
         have hcz42_5 : wc.cell? ⟨gb109, 5, none⟩ = some (.slice A0_5 l0_5.length c0_5) := (zAE BK109.out 5).trans rfl
         have hfz42_0 := zAB BK109.out 0
         have hfz42_1 := zAB BK109.out 1
         have hfz42_2 := zAB BK109.out 2
         have hfz42_3 := zAB BK109.out 3
         have hfz42_4 := zAB BK109.out 4
         have hfz42_5 := zAB BK109.out 5
         go_wp2
         go_ret
         exact ⟨_, by first | rfl | (simp [zAO, zAN] <;> rfl) | (simp [*, zAO, zAN] <;> rfl), by (with_reducible repeat (first | apply Kd.R_alloc | apply Kd.R_drewN | apply Kd.R_drew)); exact HO_5.out, by repeat (first | (with_reducible first | exact HB.out | apply zAC | apply zAA | apply zAD | refine zAH ?_ GE109.out | refine zAH ?_ GE115.out) | exact HB.out)⟩
end Go.Proofs.Ytphmlkbmnmicpaa.A
namespace Go.Proofs.Ytphmlkbmnmicpaa.A
open Go.RowKit Go.Proofs.YtphmlkbmnmicpaaW.PrintWords Go.Proofs.YtphmlkbmnmicpaaW.PrintLast Go.Proofs.YtphmlkbmnmicpaaW.PrintMore
attribute [local go_sem] max2_int zBH max_two zBL zBB zBA zBI zBG   -- for this text's walks alone
def sched_reads.f (k : Nat) (a0_0 : Int) (a0_1 : Int) (a0_2 : Int) (a0_3 : Int) (a0_4 : Int) (l0_5 : List Int) (a1 : Int) : Option (Bool) := if a1 = 0 then (some false) else ((code_Uses.f k a0_0 a0_1 a0_2 a0_3 a0_4 l0_5).bind fun t129 => ((slices_Contains_int_int.f k t129 a1).bind fun t132 => (some t132)))
set_option maxHeartbeats 8000000 in
set_option maxRecDepth 100000 in
theorem sched_reads.calls (k : Nat) (a0_0 : Int) (a0_1 : Int) (a0_2 : Int) (a0_3 : Int) (a0_4 : Int) (A0_5 : Option Addr) (c0_5 : Nat) (l0_5 : List Int) (a1 : Int) (r : Bool) (w : World) (hr0_5 : Kd.C (Kd.int .i64) w A0_5 l0_5.length l0_5) (hc0_5 : l0_5.length ≤ c0_5) (h : sched_reads.f k a0_0 a0_1 a0_2 a0_3 a0_4 l0_5 a1 = some r) :
  Calls Try.prog 42 #[.agg #[.int .i64 a0_0, .int .i64 a0_1, .int .i64 a0_2, .int .i64 a0_3, .int .i64 a0_4, .slice A0_5 l0_5.length c0_5], .int .i64 a1] w fun e w' => e = .returned (.bool r) ∧ Below w.heap.size w w' := by
 have hu37 := Try.underlying37
 have HR0_5 := Aside0.mk hr0_5
 have HC0_5 := Aside0.mk hc0_5
 clear hr0_5 hc0_5
 have HB := Aside0.mk (Below.refl w.heap.size w)
 have H : (if a1 = 0 then (some false) else ((code_Uses.f k a0_0 a0_1 a0_2 a0_3 a0_4 l0_5).bind fun t129 => ((slices_Contains_int_int.f k t129 a1).bind fun t132 => (some t132)))) = some r := h
 clear h
 by_cases c3 : a1 = 0
 ·rw [if_pos c3] at H
  have c3b0 : (a1 == 0) = true := beq_iff_eq.mpr c3
  have c3b1 : (a1 != 0) = false := bne_eq_false_iff_eq.mpr c3
  clear c3
  obtain rfl := Option.some.inj H
  go_enter Try.func42, Try.ntmps42
  go_wp2_with (first | ((with_reducible refine zAU (N := 2) rfl ?_); refine zAT ?hg (N := 2) ?hd (cs := #[.int .i64 a0_0, .int .i64 a0_1, .int .i64 a0_2, .int .i64 a0_3, .int .i64 a0_4, .slice A0_5 l0_5.length c0_5]) (t := 37) ?hr ?_; (case hd => rfl); (case hg => rfl); (case hr => first | (go_simp; done) | (go_simp; rfl)); intro gb128 hg w4 hbox hb; have n0_ := Aside0.mk (zAL (by repeat (first | (with_reducible first | exact HB.out | apply zAC | apply zAA | apply zAD) | exact HB.out)) hb); have n1_ := Aside0.mk (hbox); have n2_ := Aside0.mk ((by rw [hg]; exact (zAM (by repeat (first | (with_reducible first | exact HB.out | apply zAC | apply zAA | apply zAD) | exact HB.out))) : w.heap.size ≤ gb128)); have n3_ := Aside0.mk ((by rw [hg]; exact (zAM (by repeat (first | (with_reducible first | exact HB.out | apply zAC | apply zAA | apply zAD) | exact HB.out))) : w.heap.size ≤ gb128)); clear HB; have HB := n0_; have BK128 := n1_; have GW128 := n2_; have GE128 := n3_; clear n0_ n1_ n2_ n3_; clear hb hbox hg))
  go_ret
  exact ⟨by first | rfl | (simp [zAO, zAN] <;> rfl) | (simp [*, zAO, zAN] <;> rfl), by repeat (first | (with_reducible first | exact HB.out | apply zAC | apply zAA | apply zAD | refine zAH ?_ GE128.out) | exact HB.out)⟩
 ·rw [if_neg c3] at H
  have c3b0 : (a1 == 0) = false := beq_eq_false_iff_ne.mpr c3
  have c3b1 : (a1 != 0) = true := bne_iff_ne.mpr c3
  replace H := Option.bind_eq_some_iff.mp H
  obtain ⟨t129, A50, H⟩ := H
  replace H : ((slices_Contains_int_int.f k t129 a1).bind fun t132 => (some t132)) = some r := H
  have A5 := Aside0.mk A50
  clear A50
  replace H := Option.bind_eq_some_iff.mp H
  obtain ⟨t132, A60, H⟩ := H
  replace H : (some t132) = some r := H
  have A6 := Aside0.mk A60
  clear A60
  obtain rfl := Option.some.inj H
  go_enter Try.func42, Try.ntmps42
  go_wp2_with (first | ((with_reducible refine zAU (N := 2) rfl ?_); refine zAT ?hg (N := 2) ?hd (cs := #[.int .i64 a0_0, .int .i64 a0_1, .int .i64 a0_2, .int .i64 a0_3, .int .i64 a0_4, .slice A0_5 l0_5.length c0_5]) (t := 37) ?hr ?_; (case hd => rfl); (case hg => rfl); (case hr => first | (go_simp; done) | (go_simp; rfl)); intro gb128 hg w7 hbox hb; have n0_ := Aside0.mk (zAL (by repeat (first | (with_reducible first | exact HB.out | apply zAC | apply zAA | apply zAD) | exact HB.out)) hb); have n1_ := Aside0.mk (hbox); have n2_ := Aside0.mk ((by rw [hg]; exact (zAM (by repeat (first | (with_reducible first | exact HB.out | apply zAC | apply zAA | apply zAD) | exact HB.out))) : w.heap.size ≤ gb128)); have n3_ := Aside0.mk ((by rw [hg]; exact (zAM (by repeat (first | (with_reducible first | exact HB.out | apply zAC | apply zAA | apply zAD) | exact HB.out))) : w.heap.size ≤ gb128)); clear HB; have HB := n0_; have BK128 := n1_; have GW128 := n2_; have GE128 := n3_; clear n0_ n1_ n2_ n3_; clear hb hbox hg; have hcz8_0 : w7.cell? ⟨gb128, 0, none⟩ = some (.int .i64 a0_0) := (zAE BK128.out 0).trans rfl; have hcz8_1 : w7.cell? ⟨gb128, 1, none⟩ = some (.int .i64 a0_1) := (zAE BK128.out 1).trans rfl; have hcz8_2 : w7.cell? ⟨gb128, 2, none⟩ = some (.int .i64 a0_2) := (zAE BK128.out 2).trans rfl; have hcz8_3 : w7.cell? ⟨gb128, 3, none⟩ = some (.int .i64 a0_3) := (zAE BK128.out 3).trans rfl; have hcz8_4 : w7.cell? ⟨gb128, 4, none⟩ = some (.int .i64 a0_4) := (zAE BK128.out 4).trans rfl; have hcz8_5 : w7.cell? ⟨gb128, 5, none⟩ = some (.slice A0_5 l0_5.length c0_5) := (zAE BK128.out 5).trans rfl; have hfz8_0 := zAB BK128.out 0; have hfz8_1 := zAB BK128.out 1; have hfz8_2 := zAB BK128.out 2; have hfz8_3 := zAB BK128.out 3; have hfz8_4 := zAB BK128.out 4; have hfz8_5 := zAB BK128.out 5) | (go_at_call 52; (with_reducible refine (code_Uses.calls k a0_0 a0_1 a0_2 a0_3 a0_4 _ _ l0_5 t129 _ ?side1 ?side2 A5.out).mono ?_); (case side1 => repeat (first | exact (Kd.C_below HR0_5.out HB.out) | (with_reducible refine Kd.C_alloc ?_ _) | (with_reducible refine Kd.C_drewN ?_ _) | (with_reducible refine Kd.C_drew ?_))); (case side2 => exact HC0_5.out); rintro e w9 ⟨v130, rfl, ho0, hb⟩; have n0_ := Aside0.mk (Kd.R_lower ho0 (zAM (by repeat (first | (with_reducible first | exact HB.out | apply zAC | apply zAA | apply zAD | refine zAH ?_ GE128.out) | exact HB.out)))); have n1_ := Aside0.mk (zAP (g := gb128) (o := .cells #[.int .i64 a0_0, .int .i64 a0_1, .int .i64 a0_2, .int .i64 a0_3, .int .i64 a0_4, .slice A0_5 l0_5.length c0_5] 37 (0, 0)) (by (with_reducible repeat (first | refine zAI ?_ _ | refine zAJ ?_ | refine zAG ?_ _)); exact BK128.out) hb); have n2_ := Aside0.mk (zAL (by repeat (first | (with_reducible first | exact HB.out | apply zAC | apply zAA | apply zAD | refine zAH ?_ GE128.out) | exact HB.out)) hb); clear BK128; clear HB; have HO131 := n0_; have BK128 := n1_; have HB := n2_; clear n0_ n1_ n2_; (try clear hb); (try clear hb2); (try clear hk); (try clear hi); (try clear ho0); obtain ⟨Ao10, co10, eo10⟩ := Kd.R_slice HO131.out; subst eo10) | (go_at_call 47; (with_reducible refine (slices_Contains_int_int.calls k _ _ t129 a1 t132 _ ?side1 ?side2 A6.out).mono ?_); (case side1 => repeat (first | exact (Kd.R_reads' HO131.out).2.2 | (with_reducible refine Kd.C_alloc ?_ _) | (with_reducible refine Kd.C_drewN ?_ _) | (with_reducible refine Kd.C_drew ?_))); (case side2 => exact (Kd.R_reads' HO131.out).2.1); rintro e w' ⟨rfl, ⟨nd, rfl⟩⟩))
  go_ret
  exact ⟨by first | rfl | (simp [zAO, zAN] <;> rfl) | (simp [*, zAO, zAN] <;> rfl), by repeat (first | (with_reducible first | exact HB.out | apply zAC | apply zAA | apply zAD | refine zAH ?_ GE128.out) | exact HB.out)⟩
end Go.Proofs.Ytphmlkbmnmicpaa.A
namespace Go.Proofs.Ytphmlkbmnmicpaa.A
open Go.RowKit Go.Proofs.YtphmlkbmnmicpaaW.PrintWords Go.Proofs.YtphmlkbmnmicpaaW.PrintLast Go.Proofs.YtphmlkbmnmicpaaW.PrintMore
attribute [local go_sem] max2_int zBH max_two zBL zBB zBA zBI zBG   -- for this text's walks alone
def code_Sets.f (k : Nat) (a0_0 : Int) (a0_1 : Int) (a0_2 : Int) (a0_3 : Int) (a0_4 : Int) (l0_5 : List Int) : Option (Int) := (code_shapeOf.f k a0_0).bind fun bt134 => (if bt134.1 = true then (some a0_1) else (some 0))
set_option maxHeartbeats 8000000 in
set_option maxRecDepth 100000 in
theorem code_Sets.calls (k : Nat) (a0_0 : Int) (a0_1 : Int) (a0_2 : Int) (a0_3 : Int) (a0_4 : Int) (A0_5 : Option Addr) (c0_5 : Nat) (l0_5 : List Int) (r : Int) (w : World) (hr0_5 : Kd.C (Kd.int .i64) w A0_5 l0_5.length l0_5) (hc0_5 : l0_5.length ≤ c0_5) (h : code_Sets.f k a0_0 a0_1 a0_2 a0_3 a0_4 l0_5 = some r) :
  Calls Try.prog 43 #[.agg #[.int .i64 a0_0, .int .i64 a0_1, .int .i64 a0_2, .int .i64 a0_3, .int .i64 a0_4, .slice A0_5 l0_5.length c0_5]] w fun e w' => e = .returned (.int .i64 r) ∧ Below w.heap.size w w' := by
 have hu37 := Try.underlying37
 have hu66 := Try.underlying66
 have HR0_5 := Aside0.mk hr0_5
 have HC0_5 := Aside0.mk hc0_5
 clear hr0_5 hc0_5
 have HB := Aside0.mk (Below.refl w.heap.size w)
 have H : ((code_shapeOf.f k a0_0).bind fun bt134 => (if bt134.1 = true then (some a0_1) else (some 0))) = some r := h
 clear h
 replace H := Option.bind_eq_some_iff.mp H
 obtain ⟨⟨t134, t135, t136, t137, t138⟩, A20, H⟩ := H
 replace H : (if t134 = true then (some a0_1) else (some 0)) = some r := H
 have A2 := Aside0.mk A20
 clear A20
 by_cases c3 : t134 = true
 ·subst c3
  have H1 : (some a0_1) = some r := by rw [if_pos rfl] at H; exact H
  clear H
  have H := H1
  clear H1
  obtain rfl := Option.some.inj H
  go_enter Try.func43, Try.ntmps43
  go_wp2_with (first | ((with_reducible refine zAU (N := 1) rfl ?_); refine zAT ?hg (N := 1) ?hd (cs := #[.int .i64 a0_0, .int .i64 a0_1, .int .i64 a0_2, .int .i64 a0_3, .int .i64 a0_4, .slice A0_5 l0_5.length c0_5]) (t := 37) ?hr ?_; (case hd => rfl); (case hg => rfl); (case hr => first | (go_simp; done) | (go_simp; rfl)); intro gb133 hg w4 hbox hb; have n0_ := Aside0.mk (zAL (by repeat (first | (with_reducible first | exact HB.out | apply zAC | apply zAA | apply zAD) | exact HB.out)) hb); have n1_ := Aside0.mk (hbox); have n2_ := Aside0.mk ((by rw [hg]; exact (zAM (by repeat (first | (with_reducible first | exact HB.out | apply zAC | apply zAA | apply zAD) | exact HB.out))) : w.heap.size ≤ gb133)); have n3_ := Aside0.mk ((by rw [hg]; exact (zAM (by repeat (first | (with_reducible first | exact HB.out | apply zAC | apply zAA | apply zAD) | exact HB.out))) : w.heap.size ≤ gb133)); clear HB; have HB := n0_; have BK133 := n1_; have GW133 := n2_; have GE133 := n3_; clear n0_ n1_ n2_ n3_; clear hb hbox hg; have hcz5_0 : w4.cell? ⟨gb133, 0, none⟩ = some (.int .i64 a0_0) := (zAE BK133.out 0).trans rfl; have hcz5_1 : w4.cell? ⟨gb133, 1, none⟩ = some (.int .i64 a0_1) := (zAE BK133.out 1).trans rfl; have hcz5_2 : w4.cell? ⟨gb133, 2, none⟩ = some (.int .i64 a0_2) := (zAE BK133.out 2).trans rfl; have hcz5_3 : w4.cell? ⟨gb133, 3, none⟩ = some (.int .i64 a0_3) := (zAE BK133.out 3).trans rfl; have hcz5_4 : w4.cell? ⟨gb133, 4, none⟩ = some (.int .i64 a0_4) := (zAE BK133.out 4).trans rfl; have hcz5_5 : w4.cell? ⟨gb133, 5, none⟩ = some (.slice A0_5 l0_5.length c0_5) := (zAE BK133.out 5).trans rfl; have hfz5_0 := zAB BK133.out 0; have hfz5_1 := zAB BK133.out 1; have hfz5_2 := zAB BK133.out 2; have hfz5_3 := zAB BK133.out 3; have hfz5_4 := zAB BK133.out 4; have hfz5_5 := zAB BK133.out 5) | ((with_reducible refine zAV (f := 53) rfl ?_); refine zBO (some 8) rfl rfl Try.func53 (by kernel_rfl) rfl #[.int .i64 a0_0] rfl (by (try simp only [List.map_toArray, List.map_cons, List.map_nil]); first | done | rfl | (simp only [List.length_drop, List.length_take]; rfl)) ?_; (with_reducible refine (code_shapeOf.calls k a0_0 true t135 t136 t137 t138 _ A2.out).mono ?_); rintro e w6 ⟨rfl, hb⟩; refine ⟨_, rfl, ?_⟩; have n0_ := Aside0.mk (zAP (g := gb133) (o := .cells #[.int .i64 a0_0, .int .i64 a0_1, .int .i64 a0_2, .int .i64 a0_3, .int .i64 a0_4, .slice A0_5 l0_5.length c0_5] 37 (0, 0)) (by (with_reducible repeat (first | refine zAI ?_ _ | refine zAJ ?_ | refine zAG ?_ _)); exact BK133.out) hb); have n1_ := Aside0.mk (zAL (by repeat (first | (with_reducible first | exact HB.out | apply zAC | apply zAA | apply zAD | refine zAH ?_ GE133.out) | exact HB.out)) hb); clear BK133; clear HB; have BK133 := n0_; have HB := n1_; clear n0_ n1_; (try clear hb); (try clear hb2); (try clear hk); (try clear hi)) | ((with_reducible refine zAU (N := 3) rfl ?_); refine zAT ?hg (N := 3) ?hd (cs := #[.bool false, .bool false, .bool false, .bool false]) (t := 66) ?hr ?_; (case hd => rfl); (case hg => rfl); (case hr => first | (go_simp; done) | (go_simp; rfl)); intro gb139 hg w7 hbox hb; have n0_ := Aside0.mk (zAP (g := gb133) (o := .cells #[.int .i64 a0_0, .int .i64 a0_1, .int .i64 a0_2, .int .i64 a0_3, .int .i64 a0_4, .slice A0_5 l0_5.length c0_5] 37 (0, 0)) (by (with_reducible repeat (first | refine zAI ?_ _ | refine zAJ ?_ | refine zAG ?_ _)); exact BK133.out) hb); have n1_ := Aside0.mk (zAL (by repeat (first | (with_reducible first | exact HB.out | apply zAC | apply zAA | apply zAD | refine zAH ?_ GE133.out) | exact HB.out)) hb); have n2_ := Aside0.mk (hbox); have n3_ := Aside0.mk ((by rw [hg]; exact (zAM (by repeat (first | (with_reducible first | exact HB.out | apply zAC | apply zAA | apply zAD | refine zAH ?_ GE133.out) | exact HB.out))) : w.heap.size ≤ gb139)); have n4_ := Aside0.mk ((by rw [hg]; exact (zAM (by repeat (first | (with_reducible first | exact HB.out | apply zAC | apply zAA | apply zAD | refine zAH ?_ GE133.out) | exact HB.out))) : w.heap.size ≤ gb139)); have n5_ := Aside0.mk ((by rw [hg]; exact Nat.ne_of_lt (zBE (g := gb133) (o := .cells #[.int .i64 a0_0, .int .i64 a0_1, .int .i64 a0_2, .int .i64 a0_3, .int .i64 a0_4, .slice A0_5 l0_5.length c0_5] 37 (0, 0)) (by (with_reducible repeat (first | refine zAI ?_ _ | refine zAJ ?_ | refine zAG ?_ _)); exact BK133.out)) : gb133 ≠ gb139)); have n6_ := Aside0.mk ((by rw [hg]; exact Nat.ne_of_gt (zBE (g := gb133) (o := .cells #[.int .i64 a0_0, .int .i64 a0_1, .int .i64 a0_2, .int .i64 a0_3, .int .i64 a0_4, .slice A0_5 l0_5.length c0_5] 37 (0, 0)) (by (with_reducible repeat (first | refine zAI ?_ _ | refine zAJ ?_ | refine zAG ?_ _)); exact BK133.out)) : gb139 ≠ gb133)); clear BK133; clear HB; have BK133 := n0_; have HB := n1_; have BK139 := n2_; have GW139 := n3_; have GE139 := n4_; have NB133_139 := n5_; have NB139_133 := n6_; clear n0_ n1_ n2_ n3_ n4_ n5_ n6_; clear hb hbox hg; have hnb8 := NB139_133.out; have hnc8 := NB133_139.out; have hcz9_0 : w7.cell? ⟨gb139, 0, none⟩ = some (.bool false) := (zAE BK139.out 0).trans rfl; have hcz9_1 : w7.cell? ⟨gb139, 1, none⟩ = some (.bool false) := (zAE BK139.out 1).trans rfl; have hcz9_2 : w7.cell? ⟨gb139, 2, none⟩ = some (.bool false) := (zAE BK139.out 2).trans rfl; have hcz9_3 : w7.cell? ⟨gb139, 3, none⟩ = some (.bool false) := (zAE BK139.out 3).trans rfl; have hfz9_0 := zAB BK139.out 0; have hfz9_1 := zAB BK139.out 1; have hfz9_2 := zAB BK139.out 2; have hfz9_3 := zAB BK139.out 3; have hcz10_0 : w7.cell? ⟨gb133, 0, none⟩ = some (.int .i64 a0_0) := (zAE BK133.out 0).trans rfl; have hcz10_1 : w7.cell? ⟨gb133, 1, none⟩ = some (.int .i64 a0_1) := (zAE BK133.out 1).trans rfl; have hcz10_2 : w7.cell? ⟨gb133, 2, none⟩ = some (.int .i64 a0_2) := (zAE BK133.out 2).trans rfl; have hcz10_3 : w7.cell? ⟨gb133, 3, none⟩ = some (.int .i64 a0_3) := (zAE BK133.out 3).trans rfl; have hcz10_4 : w7.cell? ⟨gb133, 4, none⟩ = some (.int .i64 a0_4) := (zAE BK133.out 4).trans rfl; have hcz10_5 : w7.cell? ⟨gb133, 5, none⟩ = some (.slice A0_5 l0_5.length c0_5) := (zAE BK133.out 5).trans rfl; have hfz10_0 := zAB BK133.out 0; have hfz10_1 := zAB BK133.out 1; have hfz10_2 := zAB BK133.out 2; have hfz10_3 := zAB BK133.out 3; have hfz10_4 := zAB BK133.out 4; have hfz10_5 := zAB BK133.out 5))
  go_ret
  exact ⟨by first | rfl | (simp [zAO, zAN] <;> rfl) | (simp [*, zAO, zAN] <;> rfl), by repeat (first | (with_reducible first | exact HB.out | apply zAC | apply zAA | apply zAD | refine zAH ?_ GE133.out | refine zAH ?_ GE139.out) | exact HB.out)⟩
 ·replace c3 := Bool.eq_false_iff.mpr c3
  subst c3
  have H1 : (some 0) = some r := by rw [if_neg (show ¬ (false = true) by decide)] at H; exact H
  clear H
  have H := H1
  clear H1
  obtain rfl := Option.some.inj H
  go_enter Try.func43, Try.ntmps43
  go_wp2_with (first | ((with_reducible refine zAU (N := 1) rfl ?_); refine zAT ?hg (N := 1) ?hd (cs := #[.int .i64 a0_0, .int .i64 a0_1, .int .i64 a0_2, .int .i64 a0_3, .int .i64 a0_4, .slice A0_5 l0_5.length c0_5]) (t := 37) ?hr ?_; (case hd => rfl); (case hg => rfl); (case hr => first | (go_simp; done) | (go_simp; rfl)); intro gb133 hg w11 hbox hb; have n0_ := Aside0.mk (zAL (by repeat (first | (with_reducible first | exact HB.out | apply zAC | apply zAA | apply zAD) | exact HB.out)) hb); have n1_ := Aside0.mk (hbox); have n2_ := Aside0.mk ((by rw [hg]; exact (zAM (by repeat (first | (with_reducible first | exact HB.out | apply zAC | apply zAA | apply zAD) | exact HB.out))) : w.heap.size ≤ gb133)); have n3_ := Aside0.mk ((by rw [hg]; exact (zAM (by repeat (first | (with_reducible first | exact HB.out | apply zAC | apply zAA | apply zAD) | exact HB.out))) : w.heap.size ≤ gb133)); clear HB; have HB := n0_; have BK133 := n1_; have GW133 := n2_; have GE133 := n3_; clear n0_ n1_ n2_ n3_; clear hb hbox hg; have hcz12_0 : w11.cell? ⟨gb133, 0, none⟩ = some (.int .i64 a0_0) := (zAE BK133.out 0).trans rfl; have hcz12_1 : w11.cell? ⟨gb133, 1, none⟩ = some (.int .i64 a0_1) := (zAE BK133.out 1).trans rfl; have hcz12_2 : w11.cell? ⟨gb133, 2, none⟩ = some (.int .i64 a0_2) := (zAE BK133.out 2).trans rfl; have hcz12_3 : w11.cell? ⟨gb133, 3, none⟩ = some (.int .i64 a0_3) := (zAE BK133.out 3).trans rfl; have hcz12_4 : w11.cell? ⟨gb133, 4, none⟩ = some (.int .i64 a0_4) := (zAE BK133.out 4).trans rfl; have hcz12_5 : w11.cell? ⟨gb133, 5, none⟩ = some (.slice A0_5 l0_5.length c0_5) := (zAE BK133.out 5).trans rfl; have hfz12_0 := zAB BK133.out 0; have hfz12_1 := zAB BK133.out 1; have hfz12_2 := zAB BK133.out 2; have hfz12_3 := zAB BK133.out 3; have hfz12_4 := zAB BK133.out 4; have hfz12_5 := zAB BK133.out 5) | ((with_reducible refine zAV (f := 53) rfl ?_); refine zBO (some 8) rfl rfl Try.func53 (by kernel_rfl) rfl #[.int .i64 a0_0] rfl (by (try simp only [List.map_toArray, List.map_cons, List.map_nil]); first | done | rfl | (simp only [List.length_drop, List.length_take]; rfl)) ?_; (with_reducible refine (code_shapeOf.calls k a0_0 false t135 t136 t137 t138 _ A2.out).mono ?_); rintro e w13 ⟨rfl, hb⟩; refine ⟨_, rfl, ?_⟩; have n0_ := Aside0.mk (zAP (g := gb133) (o := .cells #[.int .i64 a0_0, .int .i64 a0_1, .int .i64 a0_2, .int .i64 a0_3, .int .i64 a0_4, .slice A0_5 l0_5.length c0_5] 37 (0, 0)) (by (with_reducible repeat (first | refine zAI ?_ _ | refine zAJ ?_ | refine zAG ?_ _)); exact BK133.out) hb); have n1_ := Aside0.mk (zAL (by repeat (first | (with_reducible first | exact HB.out | apply zAC | apply zAA | apply zAD | refine zAH ?_ GE133.out) | exact HB.out)) hb); clear BK133; clear HB; have BK133 := n0_; have HB := n1_; clear n0_ n1_; (try clear hb); (try clear hb2); (try clear hk); (try clear hi)) | ((with_reducible refine zAU (N := 3) rfl ?_); refine zAT ?hg (N := 3) ?hd (cs := #[.bool false, .bool false, .bool false, .bool false]) (t := 66) ?hr ?_; (case hd => rfl); (case hg => rfl); (case hr => first | (go_simp; done) | (go_simp; rfl)); intro gb139 hg w14 hbox hb; have n0_ := Aside0.mk (zAP (g := gb133) (o := .cells #[.int .i64 a0_0, .int .i64 a0_1, .int .i64 a0_2, .int .i64 a0_3, .int .i64 a0_4, .slice A0_5 l0_5.length c0_5] 37 (0, 0)) (by (with_reducible repeat (first | refine zAI ?_ _ | refine zAJ ?_ | refine zAG ?_ _)); exact BK133.out) hb); have n1_ := Aside0.mk (zAL (by repeat (first | (with_reducible first | exact HB.out | apply zAC | apply zAA | apply zAD | refine zAH ?_ GE133.out) | exact HB.out)) hb); have n2_ := Aside0.mk (hbox); have n3_ := Aside0.mk ((by rw [hg]; exact (zAM (by repeat (first | (with_reducible first | exact HB.out | apply zAC | apply zAA | apply zAD | refine zAH ?_ GE133.out) | exact HB.out))) : w.heap.size ≤ gb139)); have n4_ := Aside0.mk ((by rw [hg]; exact (zAM (by repeat (first | (with_reducible first | exact HB.out | apply zAC | apply zAA | apply zAD | refine zAH ?_ GE133.out) | exact HB.out))) : w.heap.size ≤ gb139)); have n5_ := Aside0.mk ((by rw [hg]; exact Nat.ne_of_lt (zBE (g := gb133) (o := .cells #[.int .i64 a0_0, .int .i64 a0_1, .int .i64 a0_2, .int .i64 a0_3, .int .i64 a0_4, .slice A0_5 l0_5.length c0_5] 37 (0, 0)) (by (with_reducible repeat (first | refine zAI ?_ _ | refine zAJ ?_ | refine zAG ?_ _)); exact BK133.out)) : gb133 ≠ gb139)); have n6_ := Aside0.mk ((by rw [hg]; exact Nat.ne_of_gt (zBE (g := gb133) (o := .cells #[.int .i64 a0_0, .int .i64 a0_1, .int .i64 a0_2, .int .i64 a0_3, .int .i64 a0_4, .slice A0_5 l0_5.length c0_5] 37 (0, 0)) (by (with_reducible repeat (first | refine zAI ?_ _ | refine zAJ ?_ | refine zAG ?_ _)); exact BK133.out)) : gb139 ≠ gb133)); clear BK133; clear HB; have BK133 := n0_; have HB := n1_; have BK139 := n2_; have GW139 := n3_; have GE139 := n4_; have NB133_139 := n5_; have NB139_133 := n6_; clear n0_ n1_ n2_ n3_ n4_ n5_ n6_; clear hb hbox hg; have hnb15 := NB139_133.out; have hnc15 := NB133_139.out; have hcz16_0 : w14.cell? ⟨gb139, 0, none⟩ = some (.bool false) := (zAE BK139.out 0).trans rfl; have hcz16_1 : w14.cell? ⟨gb139, 1, none⟩ = some (.bool false) := (zAE BK139.out 1).trans rfl; have hcz16_2 : w14.cell? ⟨gb139, 2, none⟩ = some (.bool false) := (zAE BK139.out 2).trans rfl; have hcz16_3 : w14.cell? ⟨gb139, 3, none⟩ = some (.bool false) := (zAE BK139.out 3).trans rfl; have hfz16_0 := zAB BK139.out 0; have hfz16_1 := zAB BK139.out 1; have hfz16_2 := zAB BK139.out 2; have hfz16_3 := zAB BK139.out 3))
  go_ret
  exact ⟨by first | rfl | (simp [zAO, zAN] <;> rfl) | (simp [*, zAO, zAN] <;> rfl), by repeat (first | (with_reducible first | exact HB.out | apply zAC | apply zAA | apply zAD | refine zAH ?_ GE133.out | refine zAH ?_ GE139.out) | exact HB.out)⟩
end Go.Proofs.Ytphmlkbmnmicpaa.A
namespace Go.Proofs.Ytphmlkbmnmicpaa.A
open Go.RowKit Go.Proofs.YtphmlkbmnmicpaaW.PrintWords Go.Proofs.YtphmlkbmnmicpaaW.PrintLast Go.Proofs.YtphmlkbmnmicpaaW.PrintMore
attribute [local go_sem] max2_int zBH max_two zBL zBB zBA zBI zBG   -- for this text's walks alone
mutual
def sched_after.j0 : Nat → Int → Int → Bool → Int → Int → Int → Int → Int → List Int → Int → Int → Int → Int → Int → List Int → Option (Bool)
 | 0, _, _, _, _, _, _, _, _, _, _, _, _, _, _, _ => none
 | k + 1, x5, x6, x11, x141000, x141001, x141002, x141003, x141004, x141005, x142000, x142001, x142002, x142003, x142004, x142005 => if x11 = true then (some true) else (if x5 = 0 then (sched_after.j1 k x5 x6 false x141000 x141001 x141002 x141003 x141004 x141005 x142000 x142001 x142002 x142003 x142004 x142005) else (sched_after.j1 k x5 x6 (x5 == x6) x141000 x141001 x141002 x141003 x141004 x141005 x142000 x142001 x142002 x142003 x142004 x142005))
def sched_after.j1 : Nat → Int → Int → Bool → Int → Int → Int → Int → Int → List Int → Int → Int → Int → Int → Int → List Int → Option (Bool)
 | 0, _, _, _, _, _, _, _, _, _, _, _, _, _, _, _ => none
 | k + 1, x5, x6, x20, x141000, x141001, x141002, x141003, x141004, x141005, x142000, x142001, x142002, x142003, x142004, x142005 => if x20 = true then (some true) else ((sched_reads.f k x141000 x141001 x141002 x141003 x141004 x141005 x5).bind fun t146 => (if t146 = true then (some true) else ((sched_reads.f k x142000 x142001 x142002 x142003 x142004 x142005 x6).bind fun t147 => (some t147))))
end
def sched_after.f (k : Nat) (a0_0 : Int) (a0_1 : Int) (a0_2 : Int) (a0_3 : Int) (a0_4 : Int) (l0_5 : List Int) (a1_0 : Int) (a1_1 : Int) (a1_2 : Int) (a1_3 : Int) (a1_4 : Int) (l1_5 : List Int) : Option (Bool) := (code_Sets.f k a1_0 a1_1 a1_2 a1_3 a1_4 l1_5).bind fun t142 => ((code_Sets.f k a0_0 a0_1 a0_2 a0_3 a0_4 l0_5).bind fun t143 => ((code_Pure.f k a1_0 a1_1 a1_2 a1_3 a1_4 l1_5).bind fun t144 => (if t144 = true then (sched_after.j0 k t142 t143 false a0_0 a0_1 a0_2 a0_3 a0_4 l0_5 a1_0 a1_1 a1_2 a1_3 a1_4 l1_5) else ((code_Pure.f k a0_0 a0_1 a0_2 a0_3 a0_4 l0_5).bind fun t145 => (sched_after.j0 k t142 t143 (!t145) a0_0 a0_1 a0_2 a0_3 a0_4 l0_5 a1_0 a1_1 a1_2 a1_3 a1_4 l1_5)))))
set_option maxHeartbeats 8000000 in
set_option maxRecDepth 100000 in
theorem sched_after.calls (k : Nat) (a0_0 : Int) (a0_1 : Int) (a0_2 : Int) (a0_3 : Int) (a0_4 : Int) (A0_5 : Option Addr) (c0_5 : Nat) (l0_5 : List Int) (a1_0 : Int) (a1_1 : Int) (a1_2 : Int) (a1_3 : Int) (a1_4 : Int) (A1_5 : Option Addr) (c1_5 : Nat) (l1_5 : List Int) (r : Bool) (w : World) (hr0_5 : Kd.C (Kd.int .i64) w A0_5 l0_5.length l0_5) (hc0_5 : l0_5.length ≤ c0_5) (hr1_5 : Kd.C (Kd.int .i64) w A1_5 l1_5.length l1_5) (hc1_5 : l1_5.length ≤ c1_5) (h : sched_after.f k a0_0 a0_1 a0_2 a0_3 a0_4 l0_5 a1_0 a1_1 a1_2 a1_3 a1_4 l1_5 = some r) :
  Calls Try.prog 32 #[.agg #[.int .i64 a0_0, .int .i64 a0_1, .int .i64 a0_2, .int .i64 a0_3, .int .i64 a0_4, .slice A0_5 l0_5.length c0_5], .agg #[.int .i64 a1_0, .int .i64 a1_1, .int .i64 a1_2, .int .i64 a1_3, .int .i64 a1_4, .slice A1_5 l1_5.length c1_5]] w fun e w' => e = .returned (.bool r) ∧ Below w.heap.size w w' := by
 have hu37 := Try.underlying37
 have HR0_5 := Aside0.mk hr0_5
 have HC0_5 := Aside0.mk hc0_5
 clear hr0_5 hc0_5
 have HR1_5 := Aside0.mk hr1_5
 have HC1_5 := Aside0.mk hc1_5
 clear hr1_5 hc1_5
 have HB := Aside0.mk (Below.refl w.heap.size w)
 have H : ((code_Sets.f k a1_0 a1_1 a1_2 a1_3 a1_4 l1_5).bind fun t142 => ((code_Sets.f k a0_0 a0_1 a0_2 a0_3 a0_4 l0_5).bind fun t143 => ((code_Pure.f k a1_0 a1_1 a1_2 a1_3 a1_4 l1_5).bind fun t144 => (if t144 = true then (sched_after.j0 k t142 t143 false a0_0 a0_1 a0_2 a0_3 a0_4 l0_5 a1_0 a1_1 a1_2 a1_3 a1_4 l1_5) else ((code_Pure.f k a0_0 a0_1 a0_2 a0_3 a0_4 l0_5).bind fun t145 => (sched_after.j0 k t142 t143 (!t145) a0_0 a0_1 a0_2 a0_3 a0_4 l0_5 a1_0 a1_1 a1_2 a1_3 a1_4 l1_5)))))) = some r := h
 clear h
 replace H := Option.bind_eq_some_iff.mp H
 obtain ⟨t142, A30, H⟩ := H
 replace H : ((code_Sets.f k a0_0 a0_1 a0_2 a0_3 a0_4 l0_5).bind fun t143 => ((code_Pure.f k a1_0 a1_1 a1_2 a1_3 a1_4 l1_5).bind fun t144 => (if t144 = true then (sched_after.j0 k t142 t143 false a0_0 a0_1 a0_2 a0_3 a0_4 l0_5 a1_0 a1_1 a1_2 a1_3 a1_4 l1_5) else ((code_Pure.f k a0_0 a0_1 a0_2 a0_3 a0_4 l0_5).bind fun t145 => (sched_after.j0 k t142 t143 (!t145) a0_0 a0_1 a0_2 a0_3 a0_4 l0_5 a1_0 a1_1 a1_2 a1_3 a1_4 l1_5))))) = some r := H
 have A3 := Aside0.mk A30
 clear A30
 replace H := Option.bind_eq_some_iff.mp H
 obtain ⟨t143, A40, H⟩ := H
 replace H : ((code_Pure.f k a1_0 a1_1 a1_2 a1_3 a1_4 l1_5).bind fun t144 => (if t144 = true then (sched_after.j0 k t142 t143 false a0_0 a0_1 a0_2 a0_3 a0_4 l0_5 a1_0 a1_1 a1_2 a1_3 a1_4 l1_5) else ((code_Pure.f k a0_0 a0_1 a0_2 a0_3 a0_4 l0_5).bind fun t145 => (sched_after.j0 k t142 t143 (!t145) a0_0 a0_1 a0_2 a0_3 a0_4 l0_5 a1_0 a1_1 a1_2 a1_3 a1_4 l1_5)))) = some r := H
 have A4 := Aside0.mk A40
 clear A40
 have HC5 := Aside0.mk H
 clear H
 go_enter Try.func32, Try.ntmps32
 try go_wp2_with (first | ((with_reducible refine zAU (N := 2) rfl ?_); refine zAT ?hg (N := 2) ?hd (cs := #[.int .i64 a0_0, .int .i64 a0_1, .int .i64 a0_2, .int .i64 a0_3, .int .i64 a0_4, .slice A0_5 l0_5.length c0_5]) (t := 37) ?hr ?_; (case hd => rfl); (case hg => rfl); (case hr => first | (go_simp; done) | (go_simp; rfl)); intro gb140 hg w6 hbox hb; have n0_ := Aside0.mk (zAL (by repeat (first | (with_reducible first | exact HB.out | apply zAC | apply zAA | apply zAD) | exact HB.out)) hb); have n1_ := Aside0.mk (hbox); have n2_ := Aside0.mk ((by rw [hg]; exact (zAM (by repeat (first | (with_reducible first | exact HB.out | apply zAC | apply zAA | apply zAD) | exact HB.out))) : w.heap.size ≤ gb140)); have n3_ := Aside0.mk ((by rw [hg]; exact (zAM (by repeat (first | (with_reducible first | exact HB.out | apply zAC | apply zAA | apply zAD) | exact HB.out))) : w.heap.size ≤ gb140)); clear HB; have HB := n0_; have BK140 := n1_; have GW140 := n2_; have GE140 := n3_; clear n0_ n1_ n2_ n3_; clear hb hbox hg) | ((with_reducible refine zAU (N := 3) rfl ?_); refine zAT ?hg (N := 3) ?hd (cs := #[.int .i64 a1_0, .int .i64 a1_1, .int .i64 a1_2, .int .i64 a1_3, .int .i64 a1_4, .slice A1_5 l1_5.length c1_5]) (t := 37) ?hr ?_; (case hd => rfl); (case hg => rfl); (case hr => first | (go_simp; done) | (go_simp; rfl)); intro gb141 hg w7 hbox hb; have n0_ := Aside0.mk (zAP (g := gb140) (o := .cells #[.int .i64 a0_0, .int .i64 a0_1, .int .i64 a0_2, .int .i64 a0_3, .int .i64 a0_4, .slice A0_5 l0_5.length c0_5] 37 (0, 0)) (by (with_reducible repeat (first | refine zAI ?_ _ | refine zAJ ?_ | refine zAG ?_ _)); exact BK140.out) hb); have n1_ := Aside0.mk (zAL (by repeat (first | (with_reducible first | exact HB.out | apply zAC | apply zAA | apply zAD | refine zAH ?_ GE140.out) | exact HB.out)) hb); have n2_ := Aside0.mk (hbox); have n3_ := Aside0.mk ((by rw [hg]; exact (zAM (by repeat (first | (with_reducible first | exact HB.out | apply zAC | apply zAA | apply zAD | refine zAH ?_ GE140.out) | exact HB.out))) : w.heap.size ≤ gb141)); have n4_ := Aside0.mk ((by rw [hg]; exact (zAM (by repeat (first | (with_reducible first | exact HB.out | apply zAC | apply zAA | apply zAD | refine zAH ?_ GE140.out) | exact HB.out))) : w.heap.size ≤ gb141)); have n5_ := Aside0.mk ((by rw [hg]; exact Nat.ne_of_lt (zBE (g := gb140) (o := .cells #[.int .i64 a0_0, .int .i64 a0_1, .int .i64 a0_2, .int .i64 a0_3, .int .i64 a0_4, .slice A0_5 l0_5.length c0_5] 37 (0, 0)) (by (with_reducible repeat (first | refine zAI ?_ _ | refine zAJ ?_ | refine zAG ?_ _)); exact BK140.out)) : gb140 ≠ gb141)); have n6_ := Aside0.mk ((by rw [hg]; exact Nat.ne_of_gt (zBE (g := gb140) (o := .cells #[.int .i64 a0_0, .int .i64 a0_1, .int .i64 a0_2, .int .i64 a0_3, .int .i64 a0_4, .slice A0_5 l0_5.length c0_5] 37 (0, 0)) (by (with_reducible repeat (first | refine zAI ?_ _ | refine zAJ ?_ | refine zAG ?_ _)); exact BK140.out)) : gb141 ≠ gb140)); clear BK140; clear HB; have BK140 := n0_; have HB := n1_; have BK141 := n2_; have GW141 := n3_; have GE141 := n4_; have NB140_141 := n5_; have NB141_140 := n6_; clear n0_ n1_ n2_ n3_ n4_ n5_ n6_; clear hb hbox hg))
 have n0_ := Aside0.mk (zAJ BK140.out)
 have n1_ := Aside0.mk (zAJ BK141.out)
 have n2_ := Aside0.mk (zAD HB.out)
 clear BK140
 clear BK141
 clear HB
 have BK140 := n0_
 have BK141 := n1_
 have HB := n2_
 clear n0_ n1_ n2_
 refine zCA (n := 6) (S := fun w' => w'.cell? ⟨gb141, 0, none⟩ = some (.int .i64 a1_0) ∧ w'.cell? ⟨gb141, 1, none⟩ = some (.int .i64 a1_1) ∧ w'.cell? ⟨gb141, 2, none⟩ = some (.int .i64 a1_2) ∧ w'.cell? ⟨gb141, 3, none⟩ = some (.int .i64 a1_3) ∧ w'.cell? ⟨gb141, 4, none⟩ = some (.int .i64 a1_4) ∧ w'.cell? ⟨gb141, 5, none⟩ = some (.slice A1_5 l1_5.length c1_5) ∧ w'.cell? ⟨gb140, 0, none⟩ = some (.int .i64 a0_0) ∧ w'.cell? ⟨gb140, 1, none⟩ = some (.int .i64 a0_1) ∧ w'.cell? ⟨gb140, 2, none⟩ = some (.int .i64 a0_2) ∧ w'.cell? ⟨gb140, 3, none⟩ = some (.int .i64 a0_3) ∧ w'.cell? ⟨gb140, 4, none⟩ = some (.int .i64 a0_4) ∧ w'.cell? ⟨gb140, 5, none⟩ = some (.slice A0_5 l0_5.length c0_5)) (ds := []) #[fF,fF,fF,fF,fF,fF] (by kernel_rfl) rfl rfl ⟨(zAE BK141.out 0).trans rfl, (zAE BK141.out 1).trans rfl, (zAE BK141.out 2).trans rfl, (zAE BK141.out 3).trans rfl, (zAE BK141.out 4).trans rfl, (zAE BK141.out 5).trans rfl, (zAE BK140.out 0).trans rfl, (zAE BK140.out 1).trans rfl, (zAE BK140.out 2).trans rfl, (zAE BK140.out 3).trans rfl, (zAE BK140.out 4).trans rfl, (zAE BK140.out 5).trans rfl⟩ (fun hHeld => ?_)
 generalize w7.drew = w8 at BK140 BK141 HB hHeld ⊢
 refine take_ (i := 0) (N := some 7) (v := ?_) (a' := ?_) #[tT,fF,fF,fF,fF,fF] rfl rfl (by kernel_rfl) (fun _ _ _ h => h) (Or.inl ⟨by rfl, ?_⟩) hHeld ?_ ?_
 rotate_left
 ·rintro w' ⟨s0, s1, s2, s3, s4, s5, s6, s7, s8, s9, s10, s11⟩
  go_simp
  with_reducible rfl
 rotate_left
 ·simp only [Act.put, List.setIfInBounds_toArray, List.set_cons_zero, List.set_cons_succ, i64_w, i32_w]
  rfl
 refine take_ (i := 2) (N := some 9) (v := ?_) (a' := ?_) #[tT,fF,tT,fF,fF,fF] rfl rfl (by kernel_rfl) (fun _ _ _ h => h) (Or.inl ⟨by rfl, ?_⟩) hHeld ?_ ?_
 rotate_left
 ·rintro w' ⟨s0, s1, s2, s3, s4, s5, s6, s7, s8, s9, s10, s11⟩
  go_simp
  with_reducible rfl
 rotate_left
 ·simp only [Act.put, List.setIfInBounds_toArray, List.set_cons_zero, List.set_cons_succ, i64_w, i32_w]
  rfl
 refine one_ (i := 1) (N := some 8) #[tT,tT,tT,fF,fF,fF] rfl rfl (by kernel_rfl) (by decide) (fun K hK => ?_)
 refine goes_ Try.func43 (by kernel_rfl) rfl #[.agg #[.int .i64 a1_0, .int .i64 a1_1, .int .i64 a1_2, .int .i64 a1_3, .int .i64 a1_4, .slice A1_5 l1_5.length c1_5]] (by rfl) rfl rfl (by (try simp only [List.map_toArray, List.map_cons, List.map_nil]); first | done | rfl | (simp only [List.length_drop, List.length_take]; rfl)) ?_
 with_reducible refine (code_Sets.calls k a1_0 a1_1 a1_2 a1_3 a1_4 _ _ l1_5 t142 _ ?side1 ?side2 A3.out).mono ?_
 (case side1 => repeat (first | exact (Kd.C_below HR1_5.out HB.out) | (with_reducible refine Kd.C_alloc ?_ _) | (with_reducible refine Kd.C_drewN ?_ _) | (with_reducible refine Kd.C_drew ?_)))
 (case side2 => exact HC1_5.out)
 rintro e w9 ⟨rfl, hb⟩
 refine ⟨_, rfl, ?_⟩
 have n0_ := Aside0.mk (zAP (g := gb140) (o := .cells #[.int .i64 a0_0, .int .i64 a0_1, .int .i64 a0_2, .int .i64 a0_3, .int .i64 a0_4, .slice A0_5 l0_5.length c0_5] 37 (0, 0)) (by (with_reducible repeat (first | refine zAI ?_ _ | refine zAJ ?_ | refine zAG ?_ _)); exact BK140.out) hb)
 have n1_ := Aside0.mk (zAP (g := gb141) (o := .cells #[.int .i64 a1_0, .int .i64 a1_1, .int .i64 a1_2, .int .i64 a1_3, .int .i64 a1_4, .slice A1_5 l1_5.length c1_5] 37 (0, 0)) (by (with_reducible repeat (first | refine zAI ?_ _ | refine zAJ ?_ | refine zAG ?_ _)); exact BK141.out) hb)
 have n2_ := Aside0.mk (zAL (by repeat (first | (with_reducible first | exact HB.out | apply zAC | apply zAA | apply zAD | refine zAH ?_ GE140.out | refine zAH ?_ GE141.out) | exact HB.out)) hb)
 clear BK140
 clear BK141
 clear HB
 have BK140 := n0_
 have BK141 := n1_
 have HB := n2_
 clear n0_ n1_ n2_
 (try clear hb)
 (try clear hb2)
 (try clear hk)
 (try clear hi)
 refine hK.out _ _ ⟨(zAE BK141.out 0).trans rfl, (zAE BK141.out 1).trans rfl, (zAE BK141.out 2).trans rfl, (zAE BK141.out 3).trans rfl, (zAE BK141.out 4).trans rfl, (zAE BK141.out 5).trans rfl, (zAE BK140.out 0).trans rfl, (zAE BK140.out 1).trans rfl, (zAE BK140.out 2).trans rfl, (zAE BK140.out 3).trans rfl, (zAE BK140.out 4).trans rfl, (zAE BK140.out 5).trans rfl⟩ (fun hHeld => ?_)
 clear hK K
 refine norm_ (a' := ?_) ?_ ?_
 rotate_left
 ·show Act.put _ (some 8) _ = _
  simp only [Act.put, List.setIfInBounds_toArray, List.set_cons_zero, List.set_cons_succ, i64_w, i32_w]
  rfl
 refine one_ (i := 3) (N := some 10) #[tT,tT,tT,tT,fF,fF] rfl rfl (by kernel_rfl) (by decide) (fun K hK => ?_)
 refine goes_ Try.func43 (by kernel_rfl) rfl #[.agg #[.int .i64 a0_0, .int .i64 a0_1, .int .i64 a0_2, .int .i64 a0_3, .int .i64 a0_4, .slice A0_5 l0_5.length c0_5]] (by rfl) rfl rfl (by (try simp only [List.map_toArray, List.map_cons, List.map_nil]); first | done | rfl | (simp only [List.length_drop, List.length_take]; rfl)) ?_
 with_reducible refine (code_Sets.calls k a0_0 a0_1 a0_2 a0_3 a0_4 _ _ l0_5 t143 _ ?side1 ?side2 A4.out).mono ?_
 (case side1 => repeat (first | exact (Kd.C_below HR0_5.out HB.out) | (with_reducible refine Kd.C_alloc ?_ _) | (with_reducible refine Kd.C_drewN ?_ _) | (with_reducible refine Kd.C_drew ?_)))
 (case side2 => exact HC0_5.out)
 rintro e w10 ⟨rfl, hb⟩
 refine ⟨_, rfl, ?_⟩
 have n0_ := Aside0.mk (zAP (g := gb140) (o := .cells #[.int .i64 a0_0, .int .i64 a0_1, .int .i64 a0_2, .int .i64 a0_3, .int .i64 a0_4, .slice A0_5 l0_5.length c0_5] 37 (0, 0)) (by (with_reducible repeat (first | refine zAI ?_ _ | refine zAJ ?_ | refine zAG ?_ _)); exact BK140.out) hb)
 have n1_ := Aside0.mk (zAP (g := gb141) (o := .cells #[.int .i64 a1_0, .int .i64 a1_1, .int .i64 a1_2, .int .i64 a1_3, .int .i64 a1_4, .slice A1_5 l1_5.length c1_5] 37 (0, 0)) (by (with_reducible repeat (first | refine zAI ?_ _ | refine zAJ ?_ | refine zAG ?_ _)); exact BK141.out) hb)
 have n2_ := Aside0.mk (zAL (by repeat (first | (with_reducible first | exact HB.out | apply zAC | apply zAA | apply zAD | refine zAH ?_ GE140.out | refine zAH ?_ GE141.out) | exact HB.out)) hb)
 clear BK140
 clear BK141
 clear HB
 have BK140 := n0_
 have BK141 := n1_
 have HB := n2_
 clear n0_ n1_ n2_
 (try clear hb)
 (try clear hb2)
 (try clear hk)
 (try clear hi)
 refine hK.out _ _ ⟨(zAE BK141.out 0).trans rfl, (zAE BK141.out 1).trans rfl, (zAE BK141.out 2).trans rfl, (zAE BK141.out 3).trans rfl, (zAE BK141.out 4).trans rfl, (zAE BK141.out 5).trans rfl, (zAE BK140.out 0).trans rfl, (zAE BK140.out 1).trans rfl, (zAE BK140.out 2).trans rfl, (zAE BK140.out 3).trans rfl, (zAE BK140.out 4).trans rfl, (zAE BK140.out 5).trans rfl⟩ (fun hHeld => ?_)
 clear hK K
 refine norm_ (a' := ?_) ?_ ?_
 rotate_left
 ·show Act.put _ (some 10) _ = _
  simp only [Act.put, List.setIfInBounds_toArray, List.set_cons_zero, List.set_cons_succ, i64_w, i32_w]
  rfl
 refine pure_ (i := 4) (N := some 5) (v := ?_) (a' := ?_) #[tT,tT,tT,tT,tT,fF] rfl rfl (by kernel_rfl) (fun _ _ _ h => h) (Or.inl ⟨by rfl, ?_⟩) ?_ ?_
 rotate_left
 ·intro w'
  go_simp
  with_reducible rfl
 rotate_left
 ·simp only [Act.put, List.setIfInBounds_toArray, List.set_cons_zero, List.set_cons_succ, i64_w, i32_w]
  rfl
 refine pure_ (i := 5) (N := some 6) (v := ?_) (a' := ?_) #[tT,tT,tT,tT,tT,tT] rfl rfl (by kernel_rfl) (fun _ _ _ h => h) (Or.inl ⟨by rfl, ?_⟩) ?_ ?_
 rotate_left
 ·intro w'
  go_simp
  with_reducible rfl
 rotate_left
 ·simp only [Act.put, List.setIfInBounds_toArray, List.set_cons_zero, List.set_cons_succ, i64_w, i32_w]
  rfl
 refine done_ (by kernel_rfl) ?_
 go_upto_region 2 with (fail)
 go_cut [11] (fun v11 wc => ∃ (kq : Nat) (x11_4 : Bool), v11 = .bool x11_4 ∧ Aside0 (sched_after.j0 kq t142 t143 x11_4 a0_0 a0_1 a0_2 a0_3 a0_4 l0_5 a1_0 a1_1 a1_2 a1_3 a1_4 l1_5 = some r) ∧ Aside0 (kq ≤ k) ∧ Aside0 (wc.heap[gb140]? = some (.cells #[.int .i64 a0_0, .int .i64 a0_1, .int .i64 a0_2, .int .i64 a0_3, .int .i64 a0_4, (.slice A0_5 l0_5.length c0_5)] 37 (0, 0))) ∧ Aside0 (wc.heap[gb141]? = some (.cells #[.int .i64 a1_0, .int .i64 a1_1, .int .i64 a1_2, .int .i64 a1_3, .int .i64 a1_4, (.slice A1_5 l1_5.length c1_5)] 37 (0, 0))) ∧ Aside0 (Below w.heap.size w wc))
 case first =>
  have H := HC5.out
  clear HC5
  replace H := Option.bind_eq_some_iff.mp H
  obtain ⟨t144, A110, H⟩ := H
  replace H : (if t144 = true then (sched_after.j0 k t142 t143 false a0_0 a0_1 a0_2 a0_3 a0_4 l0_5 a1_0 a1_1 a1_2 a1_3 a1_4 l1_5) else ((code_Pure.f k a0_0 a0_1 a0_2 a0_3 a0_4 l0_5).bind fun t145 => (sched_after.j0 k t142 t143 (!t145) a0_0 a0_1 a0_2 a0_3 a0_4 l0_5 a1_0 a1_1 a1_2 a1_3 a1_4 l1_5))) = some r := H
  have A11 := Aside0.mk A110
  clear A110
  by_cases c12 : t144 = true
  ·subst c12
   have H1 : (sched_after.j0 k t142 t143 false a0_0 a0_1 a0_2 a0_3 a0_4 l0_5 a1_0 a1_1 a1_2 a1_3 a1_4 l1_5) = some r := by rw [if_pos rfl] at H; exact H
   clear H
   have H := H1
   clear H1
   have H' := Aside0.mk H
   clear H
   have hnb13 := NB141_140.out
   have hnc13 := NB140_141.out
   have hcz14_0 : w10.cell? ⟨gb141, 0, none⟩ = some (.int .i64 a1_0) := (zAE BK141.out 0).trans rfl
   have hcz14_1 : w10.cell? ⟨gb141, 1, none⟩ = some (.int .i64 a1_1) := (zAE BK141.out 1).trans rfl
   have hcz14_2 : w10.cell? ⟨gb141, 2, none⟩ = some (.int .i64 a1_2) := (zAE BK141.out 2).trans rfl
   have hcz14_3 : w10.cell? ⟨gb141, 3, none⟩ = some (.int .i64 a1_3) := (zAE BK141.out 3).trans rfl
   have hcz14_4 : w10.cell? ⟨gb141, 4, none⟩ = some (.int .i64 a1_4) := (zAE BK141.out 4).trans rfl
   have hcz14_5 : w10.cell? ⟨gb141, 5, none⟩ = some (.slice A1_5 l1_5.length c1_5) := (zAE BK141.out 5).trans rfl
   have hfz14_0 := zAB BK141.out 0
   have hfz14_1 := zAB BK141.out 1
   have hfz14_2 := zAB BK141.out 2
   have hfz14_3 := zAB BK141.out 3
   have hfz14_4 := zAB BK141.out 4
   have hfz14_5 := zAB BK141.out 5
   go_wp2_with (first | ((with_reducible refine zAV (f := 28) rfl ?_); refine zBO (some 13) rfl rfl Try.func28 (by kernel_rfl) rfl #[.agg #[.int .i64 a1_0, .int .i64 a1_1, .int .i64 a1_2, .int .i64 a1_3, .int .i64 a1_4, .slice A1_5 l1_5.length c1_5]] rfl (by (try simp only [List.map_toArray, List.map_cons, List.map_nil]); first | done | rfl | (simp only [List.length_drop, List.length_take]; rfl)) ?_; (with_reducible refine (code_Pure.calls k a1_0 a1_1 a1_2 a1_3 a1_4 _ _ l1_5 true _ ?side1 ?side2 A11.out).mono ?_); (case side1 => repeat (first | exact (Kd.C_below HR1_5.out HB.out) | (with_reducible refine Kd.C_alloc ?_ _) | (with_reducible refine Kd.C_drewN ?_ _) | (with_reducible refine Kd.C_drew ?_))); (case side2 => exact HC1_5.out); rintro e w15 ⟨rfl, hb⟩; refine ⟨_, rfl, ?_⟩; have n0_ := Aside0.mk (zAP (g := gb140) (o := .cells #[.int .i64 a0_0, .int .i64 a0_1, .int .i64 a0_2, .int .i64 a0_3, .int .i64 a0_4, .slice A0_5 l0_5.length c0_5] 37 (0, 0)) (by (with_reducible repeat (first | refine zAI ?_ _ | refine zAJ ?_ | refine zAG ?_ _)); exact BK140.out) hb); have n1_ := Aside0.mk (zAP (g := gb141) (o := .cells #[.int .i64 a1_0, .int .i64 a1_1, .int .i64 a1_2, .int .i64 a1_3, .int .i64 a1_4, .slice A1_5 l1_5.length c1_5] 37 (0, 0)) (by (with_reducible repeat (first | refine zAI ?_ _ | refine zAJ ?_ | refine zAG ?_ _)); exact BK141.out) hb); have n2_ := Aside0.mk (zAL (by repeat (first | (with_reducible first | exact HB.out | apply zAC | apply zAA | apply zAD | refine zAH ?_ GE140.out | refine zAH ?_ GE141.out) | exact HB.out)) hb); clear BK140; clear BK141; clear HB; have BK140 := n0_; have BK141 := n1_; have HB := n2_; clear n0_ n1_ n2_; (try clear hb); (try clear hb2); (try clear hk); (try clear hi)))
   go_meet
   case rel => exact ⟨_, (false), (by first | rfl | (simp; done) | (simp [*]; done)), H', ⟨by first | omega | exact Nat.le_refl _⟩, ⟨by (with_reducible repeat (first | refine zAI ?_ _ | refine zAJ ?_ | refine zAG ?_ _)); exact BK140.out⟩, ⟨by (with_reducible repeat (first | refine zAI ?_ _ | refine zAJ ?_ | refine zAG ?_ _)); exact BK141.out⟩, ⟨by repeat (first | (with_reducible first | exact HB.out | apply zAC | apply zAA | apply zAD | refine zAH ?_ GE140.out | refine zAH ?_ GE141.out) | exact HB.out)⟩⟩
  ·replace c12 := Bool.eq_false_iff.mpr c12
   subst c12
   have H1 : ((code_Pure.f k a0_0 a0_1 a0_2 a0_3 a0_4 l0_5).bind fun t145 => (sched_after.j0 k t142 t143 (!t145) a0_0 a0_1 a0_2 a0_3 a0_4 l0_5 a1_0 a1_1 a1_2 a1_3 a1_4 l1_5)) = some r := by rw [if_neg (show ¬ (false = true) by decide)] at H; exact H
   clear H
   have H := H1
   clear H1
   replace H := Option.bind_eq_some_iff.mp H
   obtain ⟨t145, A160, H⟩ := H
   replace H : (sched_after.j0 k t142 t143 (!t145) a0_0 a0_1 a0_2 a0_3 a0_4 l0_5 a1_0 a1_1 a1_2 a1_3 a1_4 l1_5) = some r := H
   have A16 := Aside0.mk A160
   clear A160
   have H' := Aside0.mk H
   clear H
   have hnb17 := NB141_140.out
   have hnc17 := NB140_141.out
   have hcz18_0 : w10.cell? ⟨gb141, 0, none⟩ = some (.int .i64 a1_0) := (zAE BK141.out 0).trans rfl
   have hcz18_1 : w10.cell? ⟨gb141, 1, none⟩ = some (.int .i64 a1_1) := (zAE BK141.out 1).trans rfl
   have hcz18_2 : w10.cell? ⟨gb141, 2, none⟩ = some (.int .i64 a1_2) := (zAE BK141.out 2).trans rfl
   have hcz18_3 : w10.cell? ⟨gb141, 3, none⟩ = some (.int .i64 a1_3) := (zAE BK141.out 3).trans rfl
   have hcz18_4 : w10.cell? ⟨gb141, 4, none⟩ = some (.int .i64 a1_4) := (zAE BK141.out 4).trans rfl
   have hcz18_5 : w10.cell? ⟨gb141, 5, none⟩ = some (.slice A1_5 l1_5.length c1_5) := (zAE BK141.out 5).trans rfl
   have hfz18_0 := zAB BK141.out 0
   have hfz18_1 := zAB BK141.out 1
   have hfz18_2 := zAB BK141.out 2
   have hfz18_3 := zAB BK141.out 3
   have hfz18_4 := zAB BK141.out 4
   have hfz18_5 := zAB BK141.out 5
   go_wp2_with (first | ((with_reducible refine zAV (f := 28) rfl ?_); refine zBO (some 13) rfl rfl Try.func28 (by kernel_rfl) rfl #[.agg #[.int .i64 a1_0, .int .i64 a1_1, .int .i64 a1_2, .int .i64 a1_3, .int .i64 a1_4, .slice A1_5 l1_5.length c1_5]] rfl (by (try simp only [List.map_toArray, List.map_cons, List.map_nil]); first | done | rfl | (simp only [List.length_drop, List.length_take]; rfl)) ?_; (with_reducible refine (code_Pure.calls k a1_0 a1_1 a1_2 a1_3 a1_4 _ _ l1_5 false _ ?side1 ?side2 A11.out).mono ?_); (case side1 => repeat (first | exact (Kd.C_below HR1_5.out HB.out) | (with_reducible refine Kd.C_alloc ?_ _) | (with_reducible refine Kd.C_drewN ?_ _) | (with_reducible refine Kd.C_drew ?_))); (case side2 => exact HC1_5.out); rintro e w19 ⟨rfl, hb⟩; refine ⟨_, rfl, ?_⟩; have n0_ := Aside0.mk (zAP (g := gb140) (o := .cells #[.int .i64 a0_0, .int .i64 a0_1, .int .i64 a0_2, .int .i64 a0_3, .int .i64 a0_4, .slice A0_5 l0_5.length c0_5] 37 (0, 0)) (by (with_reducible repeat (first | refine zAI ?_ _ | refine zAJ ?_ | refine zAG ?_ _)); exact BK140.out) hb); have n1_ := Aside0.mk (zAP (g := gb141) (o := .cells #[.int .i64 a1_0, .int .i64 a1_1, .int .i64 a1_2, .int .i64 a1_3, .int .i64 a1_4, .slice A1_5 l1_5.length c1_5] 37 (0, 0)) (by (with_reducible repeat (first | refine zAI ?_ _ | refine zAJ ?_ | refine zAG ?_ _)); exact BK141.out) hb); have n2_ := Aside0.mk (zAL (by repeat (first | (with_reducible first | exact HB.out | apply zAC | apply zAA | apply zAD | refine zAH ?_ GE140.out | refine zAH ?_ GE141.out) | exact HB.out)) hb); clear BK140; clear BK141; clear HB; have BK140 := n0_; have BK141 := n1_; have HB := n2_; clear n0_ n1_ n2_; (try clear hb); (try clear hb2); (try clear hk); (try clear hi); have hcz20_0 : w19.cell? ⟨gb140, 0, none⟩ = some (.int .i64 a0_0) := (zAE BK140.out 0).trans rfl; have hcz20_1 : w19.cell? ⟨gb140, 1, none⟩ = some (.int .i64 a0_1) := (zAE BK140.out 1).trans rfl; have hcz20_2 : w19.cell? ⟨gb140, 2, none⟩ = some (.int .i64 a0_2) := (zAE BK140.out 2).trans rfl; have hcz20_3 : w19.cell? ⟨gb140, 3, none⟩ = some (.int .i64 a0_3) := (zAE BK140.out 3).trans rfl; have hcz20_4 : w19.cell? ⟨gb140, 4, none⟩ = some (.int .i64 a0_4) := (zAE BK140.out 4).trans rfl; have hcz20_5 : w19.cell? ⟨gb140, 5, none⟩ = some (.slice A0_5 l0_5.length c0_5) := (zAE BK140.out 5).trans rfl; have hfz20_0 := zAB BK140.out 0; have hfz20_1 := zAB BK140.out 1; have hfz20_2 := zAB BK140.out 2; have hfz20_3 := zAB BK140.out 3; have hfz20_4 := zAB BK140.out 4; have hfz20_5 := zAB BK140.out 5) | (go_at_call 28; (with_reducible refine (code_Pure.calls k a0_0 a0_1 a0_2 a0_3 a0_4 _ _ l0_5 t145 _ ?side1 ?side2 A16.out).mono ?_); (case side1 => repeat (first | exact (Kd.C_below HR0_5.out HB.out) | (with_reducible refine Kd.C_alloc ?_ _) | (with_reducible refine Kd.C_drewN ?_ _) | (with_reducible refine Kd.C_drew ?_))); (case side2 => exact HC0_5.out); rintro e w21 ⟨rfl, hb⟩; have n0_ := Aside0.mk (zAP (g := gb140) (o := .cells #[.int .i64 a0_0, .int .i64 a0_1, .int .i64 a0_2, .int .i64 a0_3, .int .i64 a0_4, .slice A0_5 l0_5.length c0_5] 37 (0, 0)) (by (with_reducible repeat (first | refine zAI ?_ _ | refine zAJ ?_ | refine zAG ?_ _)); exact BK140.out) hb); have n1_ := Aside0.mk (zAP (g := gb141) (o := .cells #[.int .i64 a1_0, .int .i64 a1_1, .int .i64 a1_2, .int .i64 a1_3, .int .i64 a1_4, .slice A1_5 l1_5.length c1_5] 37 (0, 0)) (by (with_reducible repeat (first | refine zAI ?_ _ | refine zAJ ?_ | refine zAG ?_ _)); exact BK141.out) hb); have n2_ := Aside0.mk (zAL (by repeat (first | (with_reducible first | exact HB.out | apply zAC | apply zAA | apply zAD | refine zAH ?_ GE140.out | refine zAH ?_ GE141.out) | exact HB.out)) hb); clear BK140; clear BK141; clear HB; have BK140 := n0_; have BK141 := n1_; have HB := n2_; clear n0_ n1_ n2_; (try clear hb); (try clear hb2); (try clear hk); (try clear hi)))
   go_meet
   case rel => exact ⟨_, (!t145), (by first | rfl | (simp; done) | (simp [*]; done)), H', ⟨by first | omega | exact Nat.le_refl _⟩, ⟨by (with_reducible repeat (first | refine zAI ?_ _ | refine zAJ ?_ | refine zAG ?_ _)); exact BK140.out⟩, ⟨by (with_reducible repeat (first | refine zAI ?_ _ | refine zAJ ?_ | refine zAG ?_ _)); exact BK141.out⟩, ⟨by repeat (first | (with_reducible first | exact HB.out | apply zAC | apply zAA | apply zAD | refine zAH ?_ GE140.out | refine zAH ?_ GE141.out) | exact HB.out)⟩⟩
 case rest =>
  clear HC5
  (try clear c1); (try clear c2); (try clear p2); (try clear c3); (try clear c4); (try clear c12); (try clear c13); (try clear c17); (try clear hcz14_0); (try clear hcz14_1); (try clear hcz14_2); (try clear hcz14_3); (try clear hcz14_4); (try clear hcz14_5); (try clear hcz18_0); (try clear hcz18_1); (try clear hcz18_2); (try clear hcz18_3); (try clear hcz18_4); (try clear hcz18_5); (try clear hcz20_0); (try clear hcz20_1); (try clear hcz20_2); (try clear hcz20_3); (try clear hcz20_4); (try clear hcz20_5); (try clear hfz14_0); (try clear hfz14_1); (try clear hfz14_2); (try clear hfz14_3); (try clear hfz14_4); (try clear hfz14_5); (try clear hfz18_0); (try clear hfz18_1); (try clear hfz18_2); (try clear hfz18_3); (try clear hfz18_4); (try clear hfz18_5); (try clear hfz20_0); (try clear hfz20_1); (try clear hfz20_2); (try clear hfz20_3); (try clear hfz20_4); (try clear hfz20_5)
  obtain ⟨kq, x11_4, rfl, HA, HJ4, BK140, BK141, HB⟩ := hcut
  cases kq with
  | zero => exact absurd HA.out (by simp [sched_after.j0])
  | succ kj4 =>
   have H := HA.out
   clear HA
   simp only [sched_after.j0] at H
   by_cases c22 : x11_4 = true
   ·subst c22
    have H1 : (some true) = some r := by rw [if_pos rfl] at H; exact H
    clear H
    have H := H1
    clear H1
    obtain rfl := Option.some.inj H
    go_wp2
    go_ret
    exact ⟨by first | rfl | (simp [zAO, zAN] <;> rfl) | (simp [*, zAO, zAN] <;> rfl), by repeat (first | (with_reducible first | exact HB.out | apply zAC | apply zAA | apply zAD | refine zAH ?_ GE140.out | refine zAH ?_ GE141.out) | exact HB.out)⟩
   ·replace c22 := Bool.eq_false_iff.mpr c22
    subst c22
    have H1 : (if t142 = 0 then (sched_after.j1 kj4 t142 t143 false a0_0 a0_1 a0_2 a0_3 a0_4 l0_5 a1_0 a1_1 a1_2 a1_3 a1_4 l1_5) else (sched_after.j1 kj4 t142 t143 (t142 == t143) a0_0 a0_1 a0_2 a0_3 a0_4 l0_5 a1_0 a1_1 a1_2 a1_3 a1_4 l1_5)) = some r := by rw [if_neg (show ¬ (false = true) by decide)] at H; exact H
    clear H
    have H := H1
    clear H1
    have HC23 := Aside0.mk H
    clear H
    go_upto_region 4 with (fail)
    go_cut [20] (fun v20 wc => ∃ (kq : Nat) (x20_22 : Bool), v20 = .bool x20_22 ∧ Aside0 (sched_after.j1 kq t142 t143 x20_22 a0_0 a0_1 a0_2 a0_3 a0_4 l0_5 a1_0 a1_1 a1_2 a1_3 a1_4 l1_5 = some r) ∧ Aside0 (kq ≤ kj4) ∧ Aside0 (wc.heap[gb140]? = some (.cells #[.int .i64 a0_0, .int .i64 a0_1, .int .i64 a0_2, .int .i64 a0_3, .int .i64 a0_4, (.slice A0_5 l0_5.length c0_5)] 37 (0, 0))) ∧ Aside0 (wc.heap[gb141]? = some (.cells #[.int .i64 a1_0, .int .i64 a1_1, .int .i64 a1_2, .int .i64 a1_3, .int .i64 a1_4, (.slice A1_5 l1_5.length c1_5)] 37 (0, 0))) ∧ Aside0 (Below w.heap.size w wc))
    case first =>
     have H := HC23.out
     clear HC23
     by_cases c24 : t142 = 0
     ·rw [if_pos c24] at H
      have c24b0 : (t142 == 0) = true := beq_iff_eq.mpr c24
      have c24b1 : (t142 != 0) = false := bne_eq_false_iff_eq.mpr c24
      clear c24
      (first | rw [c24b0] | (simp only [i64_w, i32_w]; rw [c24b0]) | skip)
      have H' := Aside0.mk H
      clear H
      go_wp2
      go_meet
      case rel => exact ⟨_, (false), (by first | rfl | (simp; done) | (simp [*]; done)), H', ⟨by have := HJ4.out; first | omega | exact Nat.le_refl _⟩, ⟨by (with_reducible repeat (first | refine zAI ?_ _ | refine zAJ ?_ | refine zAG ?_ _)); exact BK140.out⟩, ⟨by (with_reducible repeat (first | refine zAI ?_ _ | refine zAJ ?_ | refine zAG ?_ _)); exact BK141.out⟩, ⟨by repeat (first | (with_reducible first | exact HB.out | apply zAC | apply zAA | apply zAD | refine zAH ?_ GE140.out | refine zAH ?_ GE141.out) | exact HB.out)⟩⟩
     ·rw [if_neg c24] at H
      have c24b0 : (t142 == 0) = false := beq_eq_false_iff_ne.mpr c24
      have c24b1 : (t142 != 0) = true := bne_iff_ne.mpr c24
      (first | rw [c24b0] | (simp only [i64_w, i32_w]; rw [c24b0]) | skip)
      have H' := Aside0.mk H
      clear H
      go_wp2
      go_meet
      case rel => exact ⟨_, ((t142 == t143)), (by first | rfl | (simp; done) | (simp [*]; done)), H', ⟨by have := HJ4.out; first | omega | exact Nat.le_refl _⟩, ⟨by (with_reducible repeat (first | refine zAI ?_ _ | refine zAJ ?_ | refine zAG ?_ _)); exact BK140.out⟩, ⟨by (with_reducible repeat (first | refine zAI ?_ _ | refine zAJ ?_ | refine zAG ?_ _)); exact BK141.out⟩, ⟨by repeat (first | (with_reducible first | exact HB.out | apply zAC | apply zAA | apply zAD | refine zAH ?_ GE140.out | refine zAH ?_ GE141.out) | exact HB.out)⟩⟩
    case rest =>
     clear HC23
     (try clear c1); (try clear c2); (try clear p2); (try clear c3); (try clear c4); (try clear c12); (try clear c13); (try clear c17); (try clear c22); (try clear c24); (try clear c24b0); (try clear c24b1); (try clear hcz14_0); (try clear hcz14_1); (try clear hcz14_2); (try clear hcz14_3); (try clear hcz14_4); (try clear hcz14_5); (try clear hcz18_0); (try clear hcz18_1); (try clear hcz18_2); (try clear hcz18_3); (try clear hcz18_4); (try clear hcz18_5); (try clear hcz20_0); (try clear hcz20_1); (try clear hcz20_2); (try clear hcz20_3); (try clear hcz20_4); (try clear hcz20_5); (try clear hfz14_0); (try clear hfz14_1); (try clear hfz14_2); (try clear hfz14_3); (try clear hfz14_4); (try clear hfz14_5); (try clear hfz18_0); (try clear hfz18_1); (try clear hfz18_2); (try clear hfz18_3); (try clear hfz18_4); (try clear hfz18_5); (try clear hfz20_0); (try clear hfz20_1); (try clear hfz20_2); (try clear hfz20_3); (try clear hfz20_4); (try clear hfz20_5); (try clear p2)
     obtain ⟨kq, x20_22, rfl, HA, HJ22, BK140, BK141, HB⟩ := hcut
     cases kq with
     | zero => exact absurd HA.out (by simp [sched_after.j1])
     | succ kj22 =>
      have H := HA.out
      clear HA
      simp only [sched_after.j1] at H
      by_cases c25 : x20_22 = true
      ·subst c25
       have H1 : (some true) = some r := by rw [if_pos rfl] at H; exact H
       clear H
       have H := H1
       clear H1
       obtain rfl := Option.some.inj H
       go_wp2
       go_ret
       exact ⟨by first | rfl | (simp [zAO, zAN] <;> rfl) | (simp [*, zAO, zAN] <;> rfl), by repeat (first | (with_reducible first | exact HB.out | apply zAC | apply zAA | apply zAD | refine zAH ?_ GE140.out | refine zAH ?_ GE141.out) | exact HB.out)⟩
      ·replace c25 := Bool.eq_false_iff.mpr c25
       subst c25
       have H1 : ((sched_reads.f kj22 a0_0 a0_1 a0_2 a0_3 a0_4 l0_5 t142).bind fun t146 => (if t146 = true then (some true) else ((sched_reads.f kj22 a1_0 a1_1 a1_2 a1_3 a1_4 l1_5 t143).bind fun t147 => (some t147)))) = some r := by rw [if_neg (show ¬ (false = true) by decide)] at H; exact H
       clear H
       have H := H1
       clear H1
       replace H := Option.bind_eq_some_iff.mp H
       obtain ⟨t146, A260, H⟩ := H
       replace H : (if t146 = true then (some true) else ((sched_reads.f kj22 a1_0 a1_1 a1_2 a1_3 a1_4 l1_5 t143).bind fun t147 => (some t147))) = some r := H
       have A26 := Aside0.mk A260
       clear A260
       by_cases c27 : t146 = true
       ·subst c27
        have H1 : (some true) = some r := by rw [if_pos rfl] at H; exact H
        clear H
        have H := H1
        clear H1
        obtain rfl := Option.some.inj H
        have hnb28 := NB140_141.out
        have hnc28 := NB141_140.out
        have hcz29_0 : wc.cell? ⟨gb140, 0, none⟩ = some (.int .i64 a0_0) := (zAE BK140.out 0).trans rfl
        have hcz29_1 : wc.cell? ⟨gb140, 1, none⟩ = some (.int .i64 a0_1) := (zAE BK140.out 1).trans rfl
        have hcz29_2 : wc.cell? ⟨gb140, 2, none⟩ = some (.int .i64 a0_2) := (zAE BK140.out 2).trans rfl
        have hcz29_3 : wc.cell? ⟨gb140, 3, none⟩ = some (.int .i64 a0_3) := (zAE BK140.out 3).trans rfl
        have hcz29_4 : wc.cell? ⟨gb140, 4, none⟩ = some (.int .i64 a0_4) := (zAE BK140.out 4).trans rfl
        have hcz29_5 : wc.cell? ⟨gb140, 5, none⟩ = some (.slice A0_5 l0_5.length c0_5) := (zAE BK140.out 5).trans rfl
        have hfz29_0 := zAB BK140.out 0
        have hfz29_1 := zAB BK140.out 1
        have hfz29_2 := zAB BK140.out 2
        have hfz29_3 := zAB BK140.out 3
        have hfz29_4 := zAB BK140.out 4
        have hfz29_5 := zAB BK140.out 5
        go_wp2_with (first | ((with_reducible refine zAV (f := 42) rfl ?_); refine zBO (some 30) rfl rfl Try.func42 (by kernel_rfl) rfl #[.agg #[.int .i64 a0_0, .int .i64 a0_1, .int .i64 a0_2, .int .i64 a0_3, .int .i64 a0_4, .slice A0_5 l0_5.length c0_5], .int .i64 t142] rfl (by (try simp only [List.map_toArray, List.map_cons, List.map_nil]); first | done | rfl | (simp only [List.length_drop, List.length_take]; rfl)) ?_; (with_reducible refine (sched_reads.calls kj22 a0_0 a0_1 a0_2 a0_3 a0_4 _ _ l0_5 t142 true _ ?side1 ?side2 A26.out).mono ?_); (case side1 => repeat (first | exact (Kd.C_below HR0_5.out HB.out) | (with_reducible refine Kd.C_alloc ?_ _) | (with_reducible refine Kd.C_drewN ?_ _) | (with_reducible refine Kd.C_drew ?_))); (case side2 => exact HC0_5.out); rintro e w30 ⟨rfl, hb⟩; refine ⟨_, rfl, ?_⟩; have n0_ := Aside0.mk (zAP (g := gb140) (o := .cells #[.int .i64 a0_0, .int .i64 a0_1, .int .i64 a0_2, .int .i64 a0_3, .int .i64 a0_4, .slice A0_5 l0_5.length c0_5] 37 (0, 0)) (by (with_reducible repeat (first | refine zAI ?_ _ | refine zAJ ?_ | refine zAG ?_ _)); exact BK140.out) hb); have n1_ := Aside0.mk (zAP (g := gb141) (o := .cells #[.int .i64 a1_0, .int .i64 a1_1, .int .i64 a1_2, .int .i64 a1_3, .int .i64 a1_4, .slice A1_5 l1_5.length c1_5] 37 (0, 0)) (by (with_reducible repeat (first | refine zAI ?_ _ | refine zAJ ?_ | refine zAG ?_ _)); exact BK141.out) hb); have n2_ := Aside0.mk (zAL (by repeat (first | (with_reducible first | exact HB.out | apply zAC | apply zAA | apply zAD | refine zAH ?_ GE140.out | refine zAH ?_ GE141.out) | exact HB.out)) hb); clear BK140; clear BK141; clear HB; have BK140 := n0_; have BK141 := n1_; have HB := n2_; clear n0_ n1_ n2_; (try clear hb); (try clear hb2); (try clear hk); (try clear hi)))
        go_ret
        exact ⟨by first | rfl | (simp [zAO, zAN] <;> rfl) | (simp [*, zAO, zAN] <;> rfl), by repeat (first | (with_reducible first | exact HB.out | apply zAC | apply zAA | apply zAD | refine zAH ?_ GE140.out | refine zAH ?_ GE141.out) | exact HB.out)⟩
       ·replace c27 := Bool.eq_false_iff.mpr c27
        subst c27
        have H1 : ((sched_reads.f kj22 a1_0 a1_1 a1_2 a1_3 a1_4 l1_5 t143).bind fun t147 => (some t147)) = some r := by rw [if_neg (show ¬ (false = true) by decide)] at H; exact H
        clear H
        have H := H1
        clear H1
        replace H := Option.bind_eq_some_iff.mp H
        obtain ⟨t147, A310, H⟩ := H
        replace H : (some t147) = some r := H
        have A31 := Aside0.mk A310
        clear A310
        obtain rfl := Option.some.inj H
        have hnb32 := NB140_141.out
        have hnc32 := NB141_140.out
        have hcz33_0 : wc.cell? ⟨gb140, 0, none⟩ = some (.int .i64 a0_0) := (zAE BK140.out 0).trans rfl
        have hcz33_1 : wc.cell? ⟨gb140, 1, none⟩ = some (.int .i64 a0_1) := (zAE BK140.out 1).trans rfl
        have hcz33_2 : wc.cell? ⟨gb140, 2, none⟩ = some (.int .i64 a0_2) := (zAE BK140.out 2).trans rfl
        have hcz33_3 : wc.cell? ⟨gb140, 3, none⟩ = some (.int .i64 a0_3) := (zAE BK140.out 3).trans rfl
        have hcz33_4 : wc.cell? ⟨gb140, 4, none⟩ = some (.int .i64 a0_4) := (zAE BK140.out 4).trans rfl
        have hcz33_5 : wc.cell? ⟨gb140, 5, none⟩ = some (.slice A0_5 l0_5.length c0_5) := (zAE BK140.out 5).trans rfl
        have hfz33_0 := zAB BK140.out 0
        have hfz33_1 := zAB BK140.out 1
        have hfz33_2 := zAB BK140.out 2
        have hfz33_3 := zAB BK140.out 3
        have hfz33_4 := zAB BK140.out 4
        have hfz33_5 := zAB BK140.out 5
        go_wp2_with (first | ((with_reducible refine zAV (f := 42) rfl ?_); refine zBO (some 30) rfl rfl Try.func42 (by kernel_rfl) rfl #[.agg #[.int .i64 a0_0, .int .i64 a0_1, .int .i64 a0_2, .int .i64 a0_3, .int .i64 a0_4, .slice A0_5 l0_5.length c0_5], .int .i64 t142] rfl (by (try simp only [List.map_toArray, List.map_cons, List.map_nil]); first | done | rfl | (simp only [List.length_drop, List.length_take]; rfl)) ?_; (with_reducible refine (sched_reads.calls kj22 a0_0 a0_1 a0_2 a0_3 a0_4 _ _ l0_5 t142 false _ ?side1 ?side2 A26.out).mono ?_); (case side1 => repeat (first | exact (Kd.C_below HR0_5.out HB.out) | (with_reducible refine Kd.C_alloc ?_ _) | (with_reducible refine Kd.C_drewN ?_ _) | (with_reducible refine Kd.C_drew ?_))); (case side2 => exact HC0_5.out); rintro e w34 ⟨rfl, hb⟩; refine ⟨_, rfl, ?_⟩; have n0_ := Aside0.mk (zAP (g := gb140) (o := .cells #[.int .i64 a0_0, .int .i64 a0_1, .int .i64 a0_2, .int .i64 a0_3, .int .i64 a0_4, .slice A0_5 l0_5.length c0_5] 37 (0, 0)) (by (with_reducible repeat (first | refine zAI ?_ _ | refine zAJ ?_ | refine zAG ?_ _)); exact BK140.out) hb); have n1_ := Aside0.mk (zAP (g := gb141) (o := .cells #[.int .i64 a1_0, .int .i64 a1_1, .int .i64 a1_2, .int .i64 a1_3, .int .i64 a1_4, .slice A1_5 l1_5.length c1_5] 37 (0, 0)) (by (with_reducible repeat (first | refine zAI ?_ _ | refine zAJ ?_ | refine zAG ?_ _)); exact BK141.out) hb); have n2_ := Aside0.mk (zAL (by repeat (first | (with_reducible first | exact HB.out | apply zAC | apply zAA | apply zAD | refine zAH ?_ GE140.out | refine zAH ?_ GE141.out) | exact HB.out)) hb); clear BK140; clear BK141; clear HB; have BK140 := n0_; have BK141 := n1_; have HB := n2_; clear n0_ n1_ n2_; (try clear hb); (try clear hb2); (try clear hk); (try clear hi); have hcz35_0 : w34.cell? ⟨gb141, 0, none⟩ = some (.int .i64 a1_0) := (zAE BK141.out 0).trans rfl; have hcz35_1 : w34.cell? ⟨gb141, 1, none⟩ = some (.int .i64 a1_1) := (zAE BK141.out 1).trans rfl; have hcz35_2 : w34.cell? ⟨gb141, 2, none⟩ = some (.int .i64 a1_2) := (zAE BK141.out 2).trans rfl; have hcz35_3 : w34.cell? ⟨gb141, 3, none⟩ = some (.int .i64 a1_3) := (zAE BK141.out 3).trans rfl; have hcz35_4 : w34.cell? ⟨gb141, 4, none⟩ = some (.int .i64 a1_4) := (zAE BK141.out 4).trans rfl; have hcz35_5 : w34.cell? ⟨gb141, 5, none⟩ = some (.slice A1_5 l1_5.length c1_5) := (zAE BK141.out 5).trans rfl; have hfz35_0 := zAB BK141.out 0; have hfz35_1 := zAB BK141.out 1; have hfz35_2 := zAB BK141.out 2; have hfz35_3 := zAB BK141.out 3; have hfz35_4 := zAB BK141.out 4; have hfz35_5 := zAB BK141.out 5) | (go_at_call 42; (with_reducible refine (sched_reads.calls kj22 a1_0 a1_1 a1_2 a1_3 a1_4 _ _ l1_5 t143 t147 _ ?side1 ?side2 A31.out).mono ?_); (case side1 => repeat (first | exact (Kd.C_below HR1_5.out HB.out) | (with_reducible refine Kd.C_alloc ?_ _) | (with_reducible refine Kd.C_drewN ?_ _) | (with_reducible refine Kd.C_drew ?_))); (case side2 => exact HC1_5.out); rintro e w36 ⟨rfl, hb⟩; have n0_ := Aside0.mk (zAP (g := gb140) (o := .cells #[.int .i64 a0_0, .int .i64 a0_1, .int .i64 a0_2, .int .i64 a0_3, .int .i64 a0_4, .slice A0_5 l0_5.length c0_5] 37 (0, 0)) (by (with_reducible repeat (first | refine zAI ?_ _ | refine zAJ ?_ | refine zAG ?_ _)); exact BK140.out) hb); have n1_ := Aside0.mk (zAP (g := gb141) (o := .cells #[.int .i64 a1_0, .int .i64 a1_1, .int .i64 a1_2, .int .i64 a1_3, .int .i64 a1_4, .slice A1_5 l1_5.length c1_5] 37 (0, 0)) (by (with_reducible repeat (first | refine zAI ?_ _ | refine zAJ ?_ | refine zAG ?_ _)); exact BK141.out) hb); have n2_ := Aside0.mk (zAL (by repeat (first | (with_reducible first | exact HB.out | apply zAC | apply zAA | apply zAD | refine zAH ?_ GE140.out | refine zAH ?_ GE141.out) | exact HB.out)) hb); clear BK140; clear BK141; clear HB; have BK140 := n0_; have BK141 := n1_; have HB := n2_; clear n0_ n1_ n2_; (try clear hb); (try clear hb2); (try clear hk); (try clear hi)))
        go_ret
        exact ⟨by first | rfl | (simp [zAO, zAN] <;> rfl) | (simp [*, zAO, zAN] <;> rfl), by repeat (first | (with_reducible first | exact HB.out | apply zAC | apply zAA | apply zAD | refine zAH ?_ GE140.out | refine zAH ?_ GE141.out) | exact HB.out)⟩
end Go.Proofs.Ytphmlkbmnmicpaa.A
