/- Parts of the proof, in the order in which they rest on one another. -/
import Derived.Test.YtkmbhknmjnbanaaMCloses3
import Derived.Below
import Derived.Deep.Draws
import Derived.Deep.AppendLies
import Derived.Maps.AppendAt
import Derived.OwnWalk
import Derived.Laws.BytesArg
import Derived.Laws.MakeOwn
import Derived.Laws.OwnMore
import Derived.Deep.OwnRows
import Derived.Tactics
import Derived.Lib.ConvBytes
import Derived.Laws.Slices
import Derived.WalkKit
import Derived.KernelRfl
import Derived.RowKit3
import Derived.Deep.LoopGhost
import Derived.Deep.QuietTactic
import Derived.BigQuiet
import Derived.WideLaws
import Derived.Deep.DeepCutAuto
import Derived.Deep.CutBlock
import Derived.Deep.RegionHeld3
import Derived.Laws.Rows
import Derived.Lib.AppendStr
import Derived.ArgAppend
import Derived.Laws.IdiomCopy
import Derived.RowKit
import Derived.OrdersHeld
import Derived.Laws.BitsLemmas
import Derived.Laws.StructEq
import Derived.Test.YtkmbhknmjnbanaaProg
import Derived.Shelf.Abstract
import Derived.Lib.Walk
import Derived.RangeFuncWrites
import Derived.RangeFuncNested
import Derived.RangeFuncBound
import Derived.RangeFuncCalls
import Derived.RangeFuncLeaves
import Derived.Shelf.RegionOpen
import Derived.OwnWalkIn
import Derived.TacticsInMore
import Derived.LoopNIn
import Derived.LoopIn
import Derived.Laws.EntriesVeiled
import Derived.RangeFuncBox
import Derived.Laws.CopyOwn
import Derived.Deep.RegionLaw
import Derived.BigRegion
import Derived.WalkSpells
import Derived.Shelf.SlIterI.Nil
import Derived.Shelf.SortM.Plain
import Derived.Shelf.SortM.SortNone
import Derived.Ground.GgzProg
import Derived.Ground.SlgmProg
import Derived.Shelf.SlGeneric
import Derived.Maps.Own
import Derived.Maps.OwnOps
import Derived.Maps.OwnSet
import Derived.Maps.Views
import Derived.RangeFuncRecord
import Derived.Deep.RegionLawGrows
import Derived.Deep.Upon
import Derived.Maps.OwnRows
import Derived.Maps.GroupsBeside
import Derived.Deep.RegionWith
import Derived.Deep.CutRange
import Derived.Maps.OwnIn
import Derived.Lib.SliceRun
import Derived.Outline
import Derived.OpenShut
import Derived.Deep.Slices
import Derived.ChangeArms
namespace Go.Proofs.Ytkmbhknmjnbanaa.A
open Go.RowKit Go.Proofs.YtkmbhknmjnbanaaW.PrintWords Go.Proofs.YtkmbhknmjnbanaaW.PrintLast Go.Proofs.YtkmbhknmjnbanaaW.PrintMore
attribute [local go_sem] max2_int min2_int max_two min_two max_three min_three max_four min_four   -- for this text's walks alone
set_option linter.unusedVariables false
set_option linter.unusedSimpArgs false

mutual
def swagelaw07_DomCloses.j0 : Nat → List (List Int) → Int → Bool → Bool → Option (Bool)
  | 0, _, _, _, _ => none
  | k + 1, x0, x1, x5, x32 => if x32 = true then (some x5) else ((dom_Idom.f k x0).bind fun t315 => ((swageref06_Copy.f k x0).bind fun t318 => (if 0 ≤ x1 then (if x1 < (t318.length : Int) then ((graph_Reach.f x0 0).bind fun t322 => ((graph_Reach.f (t318.set (x1 : Int).toNat ([] : List Int)) 0).bind fun t325 => (if (t322.length : Int) = (x0.length : Int) then (if (t325.length : Int) = (x0.length : Int) then (swagelaw07_DomCloses.j1 k x0 x1 x5 t315 t322 t325 ((t315.length : Int) != (x0.length : Int))) else (swagelaw07_DomCloses.j1 k x0 x1 x5 t315 t322 t325 true)) else (swagelaw07_DomCloses.j1 k x0 x1 x5 t315 t322 t325 true)))) else (none)) else (none))))
def swagelaw07_DomCloses.j1 : Nat → List (List Int) → Int → Bool → List Int → List Bool → List Bool → Bool → Option (Bool)
  | 0, _, _, _, _, _, _, _ => none
  | k + 1, x0, x1, x5, x7, x9, x10, x63 => if x63 = true then (some false) else (swagelaw07_DomCloses.l0 k x0 x1 x5 x7 x9 x10 0)
def swagelaw07_DomCloses.l0 : Nat → List (List Int) → Int → Bool → List Int → List Bool → List Bool → Int → Option (Bool)
  | 0, _, _, _, _, _, _, _ => none
  | k + 1, x0, x1, x5, x7, x9, x10, x11 => if x11 < (x0.length : Int) then ((dom_Dominates.f x7 x1 x11).bind fun t329 => (if t329 = true then (if 0 ≤ x11 then (if x11 < (x9.length : Int) then (if rdOf false x9 x11 = true then (if 0 ≤ x1 then (if x1 < (x9.length : Int) then (if rdOf false x9 x1 = true then (if x11 = x1 then (swagelaw07_DomCloses.j3 k x0 x1 x5 x7 x9 x10 x11 false) else (if x11 < (x10.length : Int) then (swagelaw07_DomCloses.j3 k x0 x1 x5 x7 x9 x10 x11 (t329 == (rdOf false x10 x11))) else (none))) else (swagelaw07_DomCloses.j3 k x0 x1 x5 x7 x9 x10 x11 false)) else (none)) else (none)) else (swagelaw07_DomCloses.j3 k x0 x1 x5 x7 x9 x10 x11 true)) else (none)) else (none)) else (if 0 ≤ x1 then (if x1 < (x9.length : Int) then (if rdOf false x9 x1 = true then (if 0 ≤ x11 then (if x11 < (x9.length : Int) then (if rdOf false x9 x11 = true then (if x11 = x1 then (swagelaw07_DomCloses.j3 k x0 x1 x5 x7 x9 x10 x11 false) else (if x11 < (x10.length : Int) then (swagelaw07_DomCloses.j3 k x0 x1 x5 x7 x9 x10 x11 (t329 == (rdOf false x10 x11))) else (none))) else (swagelaw07_DomCloses.j3 k x0 x1 x5 x7 x9 x10 x11 false)) else (none)) else (none)) else (swagelaw07_DomCloses.j3 k x0 x1 x5 x7 x9 x10 x11 false)) else (none)) else (none)))) else (if x5 = true then (if 0 < (x7.length : Int) then (some ((rd x7 0) == (-1))) else (none)) else (some false))
def swagelaw07_DomCloses.j3 : Nat → List (List Int) → Int → Bool → List Int → List Bool → List Bool → Int → Bool → Option (Bool)
  | 0, _, _, _, _, _, _, _, _ => none
  | k + 1, x0, x1, x5, x7, x9, x10, x11, x106 => if x106 = true then (some false) else (if x11 > 0 then (if 0 ≤ x11 then (if x11 < (x9.length : Int) then (if rdOf false x9 x11 = true then (if x11 < (x7.length : Int) then (if (rd x7 x11) < 0 then (some false) else ((dom_Dominates.f x7 (rd x7 x11) x11).bind fun t340 => (if t340 = true then (swagelaw07_DomCloses.l0 k x0 x1 x5 x7 x9 x10 (wrap64 (x11 + 1))) else (some false)))) else (none)) else (if x11 < (x7.length : Int) then (if (rd x7 x11) = (-1) then (swagelaw07_DomCloses.l0 k x0 x1 x5 x7 x9 x10 (wrap64 (x11 + 1))) else (some false)) else (none))) else (none)) else (none)) else (if 0 ≤ x11 then (if x11 < (x9.length : Int) then (if rdOf false x9 x11 = true then (swagelaw07_DomCloses.l0 k x0 x1 x5 x7 x9 x10 (wrap64 (x11 + 1))) else (if x11 < (x7.length : Int) then (if (rd x7 x11) = (-1) then (swagelaw07_DomCloses.l0 k x0 x1 x5 x7 x9 x10 (wrap64 (x11 + 1))) else (some false)) else (none))) else (none)) else (none)))
end
def swagelaw07_DomCloses.f (k : Nat) (l0 : List (List Int)) (a1 : Int) : Option (Bool) := (swagelaw07_small.f).bind fun t312 => ((swagelaw07_Few.f k l0).bind fun t313 => (if t313 = true then ((graph_Right.f l0).bind fun t314 => (if t314 = true then (if a1 < 1 then (swagelaw07_DomCloses.j0 k l0 a1 t312 true) else (swagelaw07_DomCloses.j0 k l0 a1 t312 (decide (a1 ≥ (l0.length : Int))))) else (swagelaw07_DomCloses.j0 k l0 a1 t312 true))) else (swagelaw07_DomCloses.j0 k l0 a1 t312 true)))
set_option maxHeartbeats 8000000 in
set_option maxRecDepth 100000 in
theorem swagelaw07_DomCloses.calls (k : Nat) (A0 : Option Addr) (c0 : Nat) (l0 : List (List Int)) (a1 : Int) (r : Bool) (w : World) (hr0 : Kd.C (Kd.slice 3 (Kd.int .i64)) w A0 l0.length l0) (hc0 : l0.length ≤ c0) (h : swagelaw07_DomCloses.f k l0 a1 = some r) :
    Calls Try.prog 11 #[.slice A0 l0.length c0, .int .i64 a1] w fun e w' => e = .returned (.bool r) ∧ Below w.heap.size w w' := by
  have HR0 := Aside0.mk hr0
  have HC0 := Aside0.mk hc0
  clear hr0 hc0
  have HB := Aside0.mk (Below.refl w.heap.size w)
  have H : ((swagelaw07_small.f).bind fun t312 => ((swagelaw07_Few.f k l0).bind fun t313 => (if t313 = true then ((graph_Right.f l0).bind fun t314 => (if t314 = true then (if a1 < 1 then (swagelaw07_DomCloses.j0 k l0 a1 t312 true) else (swagelaw07_DomCloses.j0 k l0 a1 t312 (decide (a1 ≥ (l0.length : Int))))) else (swagelaw07_DomCloses.j0 k l0 a1 t312 true))) else (swagelaw07_DomCloses.j0 k l0 a1 t312 true)))) = some r := h
  clear h
  replace H := Option.bind_eq_some_iff.mp H
  obtain ⟨t312, A30, H⟩ := H
  replace H : ((swagelaw07_Few.f k l0).bind fun t313 => (if t313 = true then ((graph_Right.f l0).bind fun t314 => (if t314 = true then (if a1 < 1 then (swagelaw07_DomCloses.j0 k l0 a1 t312 true) else (swagelaw07_DomCloses.j0 k l0 a1 t312 (decide (a1 ≥ (l0.length : Int))))) else (swagelaw07_DomCloses.j0 k l0 a1 t312 true))) else (swagelaw07_DomCloses.j0 k l0 a1 t312 true))) = some r := H
  have A3 := Aside0.mk A30
  clear A30
  replace H := Option.bind_eq_some_iff.mp H
  obtain ⟨t313, A40, H⟩ := H
  replace H : (if t313 = true then ((graph_Right.f l0).bind fun t314 => (if t314 = true then (if a1 < 1 then (swagelaw07_DomCloses.j0 k l0 a1 t312 true) else (swagelaw07_DomCloses.j0 k l0 a1 t312 (decide (a1 ≥ (l0.length : Int))))) else (swagelaw07_DomCloses.j0 k l0 a1 t312 true))) else (swagelaw07_DomCloses.j0 k l0 a1 t312 true)) = some r := H
  have A4 := Aside0.mk A40
  clear A40
  have HC5 := Aside0.mk H
  clear H
  go_enter Try.func11, Try.ntmps11
  go_upto_region 3 with (first | ((with_reducible refine gate_callee (f := 34) rfl ?_); refine goesL_ (some 13) rfl rfl Try.func34 (by kernel_rfl) rfl #[] rfl (by (try simp only [List.map_toArray, List.map_cons, List.map_nil]); first | done | rfl | (simp only [List.length_drop, List.length_take]; rfl)) ?_; (with_reducible refine (swagelaw07_small.calls  t312 _ A3.out).mono ?_); rintro e w6 ⟨rfl, hb⟩; refine ⟨_, rfl, ?_⟩; have n0_ := Aside0.mk (below_step (by repeat (first | (with_reducible first | exact HB.out | apply below_alloc | apply pw_below_drewN | apply below_drew1) | exact HB.out)) hb); clear HB; have HB := n0_; clear n0_; (try clear hb); (try clear hb2); (try clear hk); (try clear hi)) | ((with_reducible refine gate_callee (f := 35) rfl ?_); refine goesL_ (some 15) rfl rfl Try.func35 (by kernel_rfl) rfl #[.slice A0 l0.length c0] rfl (by (try simp only [List.map_toArray, List.map_cons, List.map_nil]); first | done | rfl | (simp only [List.length_drop, List.length_take]; rfl)) ?_; (with_reducible refine (swagelaw07_Few.calls k _ _ l0 t313 _ ?side1 ?side2 A4.out).mono ?_); (case side1 => repeat (first | exact (Kd.C_below HR0.out HB.out) | (with_reducible refine Kd.C_alloc ?_ _) | (with_reducible refine Kd.C_drewN ?_ _) | (with_reducible refine Kd.C_drew ?_))); (case side2 => exact HC0.out); rintro e w' ⟨rfl, ⟨nd, rfl⟩⟩; refine ⟨_, rfl, ?_⟩))
  (try simp only [Act.put, List.setIfInBounds_toArray, List.set_cons_zero, List.set_cons_succ])
  go_cut [32] (fun v32 wc => ∃ (kq : Nat) (x32_4 : Bool), v32 = .bool x32_4 ∧ Aside0 (swagelaw07_DomCloses.j0 kq l0 a1 t312 x32_4 = some r) ∧ Aside0 (kq ≤ k) ∧ Aside0 (Below w.heap.size w wc))
  case first =>
    have H := HC5.out
    clear HC5
    by_cases c7 : t313 = true
    · subst c7
      have H1 : ((graph_Right.f l0).bind fun t314 => (if t314 = true then (if a1 < 1 then (swagelaw07_DomCloses.j0 k l0 a1 t312 true) else (swagelaw07_DomCloses.j0 k l0 a1 t312 (decide (a1 ≥ (l0.length : Int))))) else (swagelaw07_DomCloses.j0 k l0 a1 t312 true))) = some r := by rw [if_pos rfl] at H; exact H
      clear H
      have H := H1
      clear H1
      replace H := Option.bind_eq_some_iff.mp H
      obtain ⟨t314, A80, H⟩ := H
      replace H : (if t314 = true then (if a1 < 1 then (swagelaw07_DomCloses.j0 k l0 a1 t312 true) else (swagelaw07_DomCloses.j0 k l0 a1 t312 (decide (a1 ≥ (l0.length : Int))))) else (swagelaw07_DomCloses.j0 k l0 a1 t312 true)) = some r := H
      have A8 := Aside0.mk A80
      clear A80
      by_cases c9 : t314 = true
      · subst c9
        have H1 : (if a1 < 1 then (swagelaw07_DomCloses.j0 k l0 a1 t312 true) else (swagelaw07_DomCloses.j0 k l0 a1 t312 (decide (a1 ≥ (l0.length : Int))))) = some r := by rw [if_pos rfl] at H; exact H
        clear H
        have H := H1
        clear H1
        by_cases c10 : a1 < 1
        · rw [if_pos c10] at H
          have c10b0 : decide (a1 < 1) = true := decide_eq_true c10
          clear c10
          (first | rw [c10b0] | (simp only [i64_w, i32_w]; rw [c10b0]) | skip)
          have H' := Aside0.mk H
          clear H
          go_wp2_with (first | (go_at_call 19; (with_reducible refine (graph_Right.calls _ _ l0 true _ ?side1 ?side2 A8.out).mono ?_); (case side1 => repeat (first | exact (Kd.C_below HR0.out HB.out) | (with_reducible refine Kd.C_alloc ?_ _) | (with_reducible refine Kd.C_drewN ?_ _) | (with_reducible refine Kd.C_drew ?_))); (case side2 => exact HC0.out); rintro e w11 ⟨rfl, hb⟩; have n0_ := Aside0.mk (below_step (by repeat (first | (with_reducible first | exact HB.out | apply below_alloc | apply pw_below_drewN | apply below_drew1) | exact HB.out)) hb); clear HB; have HB := n0_; clear n0_; (try clear hb); (try clear hb2); (try clear hk); (try clear hi)))
          go_meet
          case rel => exact ⟨_, (true), (by first | rfl | (simp; done) | (simp [*]; done)), H', ⟨by first | omega | exact Nat.le_refl _⟩, ⟨by repeat (first | (with_reducible first | exact HB.out | apply below_alloc | apply pw_below_drewN | apply below_drew1) | exact HB.out)⟩⟩
        · rw [if_neg c10] at H
          have c10b0 : decide (a1 < 1) = false := decide_eq_false c10
          clear c10
          (first | rw [c10b0] | (simp only [i64_w, i32_w]; rw [c10b0]) | skip)
          have H' := Aside0.mk H
          clear H
          go_wp2_with (first | (go_at_call 19; (with_reducible refine (graph_Right.calls _ _ l0 true _ ?side1 ?side2 A8.out).mono ?_); (case side1 => repeat (first | exact (Kd.C_below HR0.out HB.out) | (with_reducible refine Kd.C_alloc ?_ _) | (with_reducible refine Kd.C_drewN ?_ _) | (with_reducible refine Kd.C_drew ?_))); (case side2 => exact HC0.out); rintro e w12 ⟨rfl, hb⟩; have n0_ := Aside0.mk (below_step (by repeat (first | (with_reducible first | exact HB.out | apply below_alloc | apply pw_below_drewN | apply below_drew1) | exact HB.out)) hb); clear HB; have HB := n0_; clear n0_; (try clear hb); (try clear hb2); (try clear hk); (try clear hi)))
          go_meet
          case rel => exact ⟨_, (decide (a1 ≥ (l0.length : Int))), (by first | rfl | (simp; done) | (simp [*]; done)), H', ⟨by first | omega | exact Nat.le_refl _⟩, ⟨by repeat (first | (with_reducible first | exact HB.out | apply below_alloc | apply pw_below_drewN | apply below_drew1) | exact HB.out)⟩⟩
      · replace c9 := Bool.eq_false_iff.mpr c9
        subst c9
        have H1 : (swagelaw07_DomCloses.j0 k l0 a1 t312 true) = some r := by rw [if_neg (show ¬ (false = true) by decide)] at H; exact H
        clear H
        have H := H1
        clear H1
        have H' := Aside0.mk H
        clear H
        go_wp2_with (first | (go_at_call 19; (with_reducible refine (graph_Right.calls _ _ l0 false _ ?side1 ?side2 A8.out).mono ?_); (case side1 => repeat (first | exact (Kd.C_below HR0.out HB.out) | (with_reducible refine Kd.C_alloc ?_ _) | (with_reducible refine Kd.C_drewN ?_ _) | (with_reducible refine Kd.C_drew ?_))); (case side2 => exact HC0.out); rintro e w13 ⟨rfl, hb⟩; have n0_ := Aside0.mk (below_step (by repeat (first | (with_reducible first | exact HB.out | apply below_alloc | apply pw_below_drewN | apply below_drew1) | exact HB.out)) hb); clear HB; have HB := n0_; clear n0_; (try clear hb); (try clear hb2); (try clear hk); (try clear hi)))
        go_meet
        case rel => exact ⟨_, (true), (by first | rfl | (simp; done) | (simp [*]; done)), H', ⟨by first | omega | exact Nat.le_refl _⟩, ⟨by repeat (first | (with_reducible first | exact HB.out | apply below_alloc | apply pw_below_drewN | apply below_drew1) | exact HB.out)⟩⟩
    · replace c7 := Bool.eq_false_iff.mpr c7
      subst c7
      have H1 : (swagelaw07_DomCloses.j0 k l0 a1 t312 true) = some r := by rw [if_neg (show ¬ (false = true) by decide)] at H; exact H
      clear H
      have H := H1
      clear H1
      have H' := Aside0.mk H
      clear H
      go_wp2
      go_meet
      case rel => exact ⟨_, (true), (by first | rfl | (simp; done) | (simp [*]; done)), H', ⟨by first | omega | exact Nat.le_refl _⟩, ⟨by repeat (first | (with_reducible first | exact HB.out | apply below_alloc | apply pw_below_drewN | apply below_drew1) | exact HB.out)⟩⟩
  case rest =>
    clear HC5
    try clear c1
    try clear p2
    try clear c3
    try clear c7
    try clear c9
    try clear c10
    try clear c10b0
    try clear c11
    obtain ⟨kq, x32_4, rfl, HA, HJ4, HB⟩ := hcut
    cases kq with
    | zero => exact absurd HA.out (by simp [swagelaw07_DomCloses.j0])
    | succ kj4 =>
      have H := HA.out
      clear HA
      simp only [swagelaw07_DomCloses.j0] at H
      by_cases c14 : x32_4 = true
      · subst c14
        have H1 : (some t312) = some r := by rw [if_pos rfl] at H; exact H
        clear H
        have H := H1
        clear H1
        obtain rfl := Option.some.inj H
        go_wp2
        go_ret
        exact ⟨by first | rfl | (simp [errW_none, errW_some] <;> rfl) | (simp [*, errW_none, errW_some] <;> rfl), by repeat (first | (with_reducible first | exact HB.out | apply below_alloc | apply pw_below_drewN | apply below_drew1) | exact HB.out)⟩
      · replace c14 := Bool.eq_false_iff.mpr c14
        subst c14
        have H1 : ((dom_Idom.f kj4 l0).bind fun t315 => ((swageref06_Copy.f kj4 l0).bind fun t318 => (if 0 ≤ a1 then (if a1 < (t318.length : Int) then ((graph_Reach.f l0 0).bind fun t322 => ((graph_Reach.f (t318.set (a1 : Int).toNat ([] : List Int)) 0).bind fun t325 => (if (t322.length : Int) = (l0.length : Int) then (if (t325.length : Int) = (l0.length : Int) then (swagelaw07_DomCloses.j1 kj4 l0 a1 t312 t315 t322 t325 ((t315.length : Int) != (l0.length : Int))) else (swagelaw07_DomCloses.j1 kj4 l0 a1 t312 t315 t322 t325 true)) else (swagelaw07_DomCloses.j1 kj4 l0 a1 t312 t315 t322 t325 true)))) else (none)) else (none)))) = some r := by rw [if_neg (show ¬ (false = true) by decide)] at H; exact H
        clear H
        have H := H1
        clear H1
        replace H := Option.bind_eq_some_iff.mp H
        obtain ⟨t315, A150, H⟩ := H
        replace H : ((swageref06_Copy.f kj4 l0).bind fun t318 => (if 0 ≤ a1 then (if a1 < (t318.length : Int) then ((graph_Reach.f l0 0).bind fun t322 => ((graph_Reach.f (t318.set (a1 : Int).toNat ([] : List Int)) 0).bind fun t325 => (if (t322.length : Int) = (l0.length : Int) then (if (t325.length : Int) = (l0.length : Int) then (swagelaw07_DomCloses.j1 kj4 l0 a1 t312 t315 t322 t325 ((t315.length : Int) != (l0.length : Int))) else (swagelaw07_DomCloses.j1 kj4 l0 a1 t312 t315 t322 t325 true)) else (swagelaw07_DomCloses.j1 kj4 l0 a1 t312 t315 t322 t325 true)))) else (none)) else (none))) = some r := H
        have A15 := Aside0.mk A150
        clear A150
        replace H := Option.bind_eq_some_iff.mp H
        obtain ⟨t318, A160, H⟩ := H
        replace H : (if 0 ≤ a1 then (if a1 < (t318.length : Int) then ((graph_Reach.f l0 0).bind fun t322 => ((graph_Reach.f (t318.set (a1 : Int).toNat ([] : List Int)) 0).bind fun t325 => (if (t322.length : Int) = (l0.length : Int) then (if (t325.length : Int) = (l0.length : Int) then (swagelaw07_DomCloses.j1 kj4 l0 a1 t312 t315 t322 t325 ((t315.length : Int) != (l0.length : Int))) else (swagelaw07_DomCloses.j1 kj4 l0 a1 t312 t315 t322 t325 true)) else (swagelaw07_DomCloses.j1 kj4 l0 a1 t312 t315 t322 t325 true)))) else (none)) else (none)) = some r := H
        have A16 := Aside0.mk A160
        clear A160
        by_cases c17 : 0 ≤ a1
        · rw [if_pos c17] at H
          have c17b0 : decide (0 ≤ a1) = true := decide_eq_true c17
          clear c17
          by_cases c18 : a1 < (t318.length : Int)
          · rw [if_pos c18] at H
            have c18b0 : decide (a1 < (t318.length : Int)) = true := decide_eq_true c18
            clear c18
            obtain ⟨y321, hy321⟩ : ∃ y_ : List (List Int), y_ = (t318.set (a1 : Int).toNat ([] : List Int)) := ⟨_, rfl⟩
            replace H : ((graph_Reach.f l0 0).bind fun t322 => ((graph_Reach.f y321 0).bind fun t325 => (if (t322.length : Int) = (l0.length : Int) then (if (t325.length : Int) = (l0.length : Int) then (swagelaw07_DomCloses.j1 kj4 l0 a1 t312 t315 t322 t325 ((t315.length : Int) != (l0.length : Int))) else (swagelaw07_DomCloses.j1 kj4 l0 a1 t312 t315 t322 t325 true)) else (swagelaw07_DomCloses.j1 kj4 l0 a1 t312 t315 t322 t325 true)))) = some r := by first | (rw [hy321]; with_reducible exact H) | (have H2_ := (Option.bind_some _ _).symm.trans H; rw [hy321]; with_reducible exact H2_) | (have H2_ := (Option.bind_some _ _).symm.trans H; with_reducible exact H2_) | with_reducible exact H | (rw [hy321]; exact H) | exact H
            have Ny321 := Aside0.mk hy321
            clear hy321
            replace H := Option.bind_eq_some_iff.mp H
            obtain ⟨t322, A200, H⟩ := H
            replace H : ((graph_Reach.f y321 0).bind fun t325 => (if (t322.length : Int) = (l0.length : Int) then (if (t325.length : Int) = (l0.length : Int) then (swagelaw07_DomCloses.j1 kj4 l0 a1 t312 t315 t322 t325 ((t315.length : Int) != (l0.length : Int))) else (swagelaw07_DomCloses.j1 kj4 l0 a1 t312 t315 t322 t325 true)) else (swagelaw07_DomCloses.j1 kj4 l0 a1 t312 t315 t322 t325 true))) = some r := H
            have A20 := Aside0.mk A200
            clear A200
            replace H := Option.bind_eq_some_iff.mp H
            obtain ⟨t325, A210, H⟩ := H
            replace H : (if (t322.length : Int) = (l0.length : Int) then (if (t325.length : Int) = (l0.length : Int) then (swagelaw07_DomCloses.j1 kj4 l0 a1 t312 t315 t322 t325 ((t315.length : Int) != (l0.length : Int))) else (swagelaw07_DomCloses.j1 kj4 l0 a1 t312 t315 t322 t325 true)) else (swagelaw07_DomCloses.j1 kj4 l0 a1 t312 t315 t322 t325 true)) = some r := H
            have A21 := Aside0.mk A210
            clear A210
            have HC22 := Aside0.mk H
            clear H
            go_upto_region 10 with (first | ((with_reducible refine gate_callee (f := 36) rfl ?_); refine goesL_ (some 35) rfl rfl Try.func36 (by kernel_rfl) rfl #[.slice A0 l0.length c0] rfl (by (try simp only [List.map_toArray, List.map_cons, List.map_nil]); first | done | rfl | (simp only [List.length_drop, List.length_take]; rfl)) ?_; (with_reducible refine (dom_Idom.calls kj4 _ _ l0 t315 _ ?side1 ?side2 A15.out).mono ?_); (case side1 => repeat (first | exact (Kd.C_below HR0.out HB.out) | (with_reducible refine Kd.C_alloc ?_ _) | (with_reducible refine Kd.C_drewN ?_ _) | (with_reducible refine Kd.C_drew ?_))); (case side2 => exact HC0.out); rintro e w23 ⟨v316, rfl, ho0, hb⟩; refine ⟨_, rfl, ?_⟩; have n0_ := Aside0.mk (Kd.R_lower ho0 (below_size (by repeat (first | (with_reducible first | exact HB.out | apply below_alloc | apply pw_below_drewN | apply below_drew1) | exact HB.out)))); have n1_ := Aside0.mk (below_step (by repeat (first | (with_reducible first | exact HB.out | apply below_alloc | apply pw_below_drewN | apply below_drew1) | exact HB.out)) hb); clear HB; have HO317 := n0_; have HB := n1_; clear n0_ n1_; (try clear hb); (try clear hb2); (try clear hk); (try clear hi); (try clear ho0)) | ((with_reducible refine gate_callee (f := 15) rfl ?_); refine goesL_ (some 37) rfl rfl Try.func15 (by kernel_rfl) rfl #[.slice A0 l0.length c0] rfl (by (try simp only [List.map_toArray, List.map_cons, List.map_nil]); first | done | rfl | (simp only [List.length_drop, List.length_take]; rfl)) ?_; (with_reducible refine (swageref06_Copy.calls kj4 _ _ l0 t318 _ ?side1 ?side2 A16.out).mono ?_); (case side1 => repeat (first | exact (Kd.C_below HR0.out HB.out) | (with_reducible refine Kd.C_alloc ?_ _) | (with_reducible refine Kd.C_drewN ?_ _) | (with_reducible refine Kd.C_drew ?_))); (case side2 => exact HC0.out); rintro e w24 ⟨v319, rfl, ho0, hb⟩; refine ⟨_, rfl, ?_⟩; have n0_ := Aside0.mk (Kd.R_below (by (with_reducible repeat (first | apply Kd.R_alloc | apply Kd.R_drewN | apply Kd.R_drew)); exact HO317.out) hb); have n1_ := Aside0.mk (Kd.S_lower (Kd.S_new' ho0 (Kd.R_lt (by (with_reducible repeat (first | apply Kd.R_alloc | apply Kd.R_drewN | apply Kd.R_drew)); exact HO317.out))) (below_size (by repeat (first | (with_reducible first | exact HB.out | apply below_alloc | apply pw_below_drewN | apply below_drew1) | exact HB.out)))); have n2_ := Aside0.mk (below_step (by repeat (first | (with_reducible first | exact HB.out | apply below_alloc | apply pw_below_drewN | apply below_drew1) | exact HB.out)) hb); clear HO317; clear HB; have HO317 := n0_; have HO320 := n1_; have HB := n2_; clear n0_ n1_ n2_; (try clear hb); (try clear hb2); (try clear hk); (try clear hi); (try clear ho0); have p19 : 0 ≤ (a1 : Int) := of_decide_eq_true (by first | (with_reducible assumption) | assumption); have q19 : (a1 : Int) < ((t318.length : Int) : Int) := of_decide_eq_true (by first | (with_reducible assumption) | assumption); obtain ⟨go19, co19, eo19, gb19, gl19, cl19, HG19⟩ := Kd.S_form HO320.out (by omega); (first | cases eo19 | (injection eo19 with ea_ en_ ec_; (first | subst ea_ | (injection ea_ with ea_; subst ea_)); subst ec_; clear en_)); have GB19 := Aside0.mk gb19; have GG19 := Aside0.mk HG19; clear gb19 gl19 HG19; obtain ⟨_, ce19, hcl19, hM19, hcc19, hfr19, _, _⟩ := Kd.S_elem HO320.out [] (a1 : Int) p19 q19; obtain ⟨ve19_0, rfl, ge19_0⟩ := hM19; have hx19_0 := hcc19 0 _ rfl; have hf19_0 := hfr19 0; (try simp only [show ((Kd.slice 3 (Kd.int .i64))).sz = 1 from rfl, Nat.mul_one, Nat.add_zero] at hx19_0); (try simp only [show ((Kd.slice 3 (Kd.int .i64))).sz = 1 from rfl, Nat.mul_one, Nat.add_zero] at hf19_0); (try clear hcl19); (try clear hcc19); (try clear hfr19); (try clear hM19); replace p19 := eq_true p19; replace q19 := eq_true q19; have n_ := Aside0.mk (Kd.S_mono (ok' := (fun k_ => some k_ ≠ (v316 : Value).ownBlock)) HO320.out (fun k_ hk => hk.2)); clear HO320; have HO320 := n_; clear n_; have HX25 := Aside0.mk (show Kd.S (Kd.slice 3 (Kd.int .i64)) 27 w24 w.heap.size (fun k_ => ((fun k_ => some k_ ≠ (v316 : Value).ownBlock)) k_ ∧ ¬ ((fun _ => False)) k_) (.slice (some ⟨go19, 0, none⟩) t318.length co19) t318 from (by (with_reducible repeat (first | apply Kd.S_alloc | apply Kd.S_drewN | apply Kd.S_drew)); exact Kd.S_mono HO320.out (fun k_ hk => ⟨hk, fun e_ => e_⟩))); obtain ⟨oki25, ce25, hcl25, hM25, hcc25, hfr25, hoki25, hH25⟩ := Kd.S_elem HX25.out [] (a1 : Int) (of_decide_eq_true (by first | (with_reducible assumption) | assumption)) (by have h_ : (a1 : Int) < ((t318.length : Int) : Int) := of_decide_eq_true (by first | (with_reducible assumption) | assumption); first | exact h_ | (have e_ := (Kd.S_reads' HO320.out).1; omega) | simpa using h_); obtain ⟨ve25_0, rfl, ge25_0⟩ := hM25; have HP25 := Kd.S_seg hH25 (of_decide_eq_true (by first | (with_reducible assumption) | assumption)) (by have h_ : (a1 : Int) < ((t318.length : Int) : Int) := of_decide_eq_true (by first | (with_reducible assumption) | assumption); first | exact h_ | (have e_ := (Kd.S_reads' HO320.out).1; omega) | simpa using h_) (seg := [.slice none 0 0]) (j := 0) (show 1 ≤ 1 from by decide) (x' := ([] : List Int)) (Kd.M_row (Kd.R_nil _ _ _ _ _)) (fun _ hk => hk) (fun k_ hk_ => hk_.elim); have hx25_0 := hcc25 0 _ rfl; (try simp only [show ((Kd.slice 3 (Kd.int .i64))).sz = 1 from rfl, Nat.mul_one, Nat.add_zero] at hx25_0); have hf25_0 := hfr25 0; (try simp only [show ((Kd.slice 3 (Kd.int .i64))).sz = 1 from rfl, Nat.mul_one, Nat.add_zero] at hf25_0); (try clear hcl25); (try clear hcc25); (try clear hfr25); (try clear hM25); (try clear hoki25); (try clear hH25); (try simp only [show ((Kd.slice 3 (Kd.int .i64))).sz = 1 from rfl, Nat.mul_one, Nat.add_zero] at HP25)) | ((with_reducible refine gate_store (t := 27) (p := 40) rfl ?_); refine store_event (t := 27) (p := 40) (v := ?vo_w26) (w1 := (w24.setCell ⟨go19, (a1 : Int).toNat, none⟩ (.slice none 0 0))) ?hg ?ho ?hn ?hr ?_; (case ho => rfl); (case hg => rfl); (case hn => rfl); (case hr => first | (go_simp; done) | (go_simp; rfl)); intro w26 hw; have hg : w24.grownBy w26 (some go19) := (by rw [hw]; exact HP25.2); have hp_ : Kd.S (Kd.slice 3 (Kd.int .i64)) 27 w26 w.heap.size (fun k_ => some k_ ≠ (v316 : Value).ownBlock) (.slice (some ⟨go19, 0, none⟩) t318.length co19) y321 := (by rw [hw, Ny321.out]; exact HP25.1); clear HP25; have n0_ := Aside0.mk (Kd.R_over' (v := (.slice (some ⟨go19, 0, none⟩) t318.length co19)) (by (with_reducible repeat (first | apply Kd.R_alloc | apply Kd.R_drewN | apply Kd.R_drew)); exact HO317.out) (Kd.S_typed HO320.out) (by decide) hg); have n1_ := Aside0.mk (hp_); have n2_ := Aside0.mk ((by rw [hw]; exact below_set (HB.out) GB19.out : Below w.heap.size w w26)); clear HO317; clear HO320; clear HB; have HO317 := n0_; have HO320 := n1_; have HB := n2_; clear n0_ n1_ n2_; clear hg hw hp_) | ((with_reducible refine gate_callee (f := 22) rfl ?_); refine goesL_ (some 42) rfl rfl Try.func22 (by kernel_rfl) rfl #[.slice A0 l0.length c0, .int .i64 0] rfl (by (try simp only [List.map_toArray, List.map_cons, List.map_nil]); first | done | rfl | (simp only [List.length_drop, List.length_take]; rfl)) ?_; (with_reducible refine (graph_Reach.calls _ _ l0 0 t322 _ ?side1 ?side2 A20.out).mono ?_); (case side1 => repeat (first | exact (Kd.C_below HR0.out HB.out) | (with_reducible refine Kd.C_alloc ?_ _) | (with_reducible refine Kd.C_drewN ?_ _) | (with_reducible refine Kd.C_drew ?_))); (case side2 => exact HC0.out); rintro e w27 ⟨v323, rfl, ho0, hb⟩; refine ⟨_, rfl, ?_⟩; have n0_ := Aside0.mk (Kd.R_below (by (with_reducible repeat (first | apply Kd.R_alloc | apply Kd.R_drewN | apply Kd.R_drew)); exact HO317.out) hb); have n1_ := Aside0.mk (Kd.S_below (by (with_reducible repeat (first | apply Kd.S_alloc | apply Kd.S_drewN | apply Kd.S_drew)); exact HO320.out) hb); have n2_ := Aside0.mk (Kd.R_lower ho0 (below_size (by repeat (first | (with_reducible first | exact HB.out | apply below_alloc | apply pw_below_drewN | apply below_drew1) | exact HB.out)))); have n3_ := Aside0.mk (below_step (by repeat (first | (with_reducible first | exact HB.out | apply below_alloc | apply pw_below_drewN | apply below_drew1) | exact HB.out)) hb); clear HO317; clear HO320; clear HB; have HO317 := n0_; have HO320 := n1_; have HO324 := n2_; have HB := n3_; clear n0_ n1_ n2_ n3_; (try clear hb); (try clear hb2); (try clear hk); (try clear hi); (try clear ho0)) | ((with_reducible refine gate_callee (f := 22) rfl ?_); refine goesL_ (some 44) rfl rfl Try.func22 (by kernel_rfl) rfl #[.slice (some ⟨go19, 0, none⟩) y321.length co19, .int .i64 0] rfl (by (try simp only [List.map_toArray, List.map_cons, List.map_nil]); first | done | (rw [show y321.length = t318.length from (Kd.S_reads' HO320.out).1.symm] <;> rfl) | rfl | (simp only [List.length_drop, List.length_take]; rfl)) ?_; (with_reducible refine (graph_Reach.calls _ _ y321 0 t325 _ ?side1 ?side2 A21.out).mono ?_); (case side1 => repeat (first | exact (Kd.S_reads' HO320.out).2.2 | (with_reducible refine Kd.C_alloc ?_ _) | (with_reducible refine Kd.C_drewN ?_ _) | (with_reducible refine Kd.C_drew ?_))); (case side2 => rw [show y321.length = t318.length from (Kd.S_reads' HO320.out).1.symm]; exact (Kd.S_reads' HO320.out).2.1); rintro e w28 ⟨v326, rfl, ho0, hb⟩; refine ⟨_, rfl, ?_⟩; have n0_ := Aside0.mk (Kd.R_below (by (with_reducible repeat (first | apply Kd.R_alloc | apply Kd.R_drewN | apply Kd.R_drew)); exact HO317.out) hb); have n1_ := Aside0.mk (Kd.S_below (by (with_reducible repeat (first | apply Kd.S_alloc | apply Kd.S_drewN | apply Kd.S_drew)); exact HO320.out) hb); have n2_ := Aside0.mk (Kd.R_elder' (by (with_reducible repeat (first | apply Kd.R_alloc | apply Kd.R_drewN | apply Kd.R_drew)); exact HO324.out) (Kd.R_base ho0) hb); have n3_ := Aside0.mk (Kd.R_lower (Kd.R_new' ho0 (Kd.R_lt (by (with_reducible repeat (first | apply Kd.R_alloc | apply Kd.R_drewN | apply Kd.R_drew)); exact HO324.out))) (below_size (by repeat (first | (with_reducible first | exact HB.out | apply below_alloc | apply pw_below_drewN | apply below_drew1) | exact HB.out)))); have n4_ := Aside0.mk (below_step (by repeat (first | (with_reducible first | exact HB.out | apply below_alloc | apply pw_below_drewN | apply below_drew1) | exact HB.out)) hb); clear HO317; clear HO320; clear HO324; clear HB; have HO317 := n0_; have HO320 := n1_; have HO324 := n2_; have HO327 := n3_; have HB := n4_; clear n0_ n1_ n2_ n3_ n4_; (try clear hb); (try clear hb2); (try clear hk); (try clear hi); (try clear ho0)))
            (try simp only [Act.put, List.setIfInBounds_toArray, List.set_cons_zero, List.set_cons_succ])
            go_cut [63] (fun v63 wc => ∃ (kq : Nat) (x63_21 : Bool), v63 = .bool x63_21 ∧ Aside0 (swagelaw07_DomCloses.j1 kq l0 a1 t312 t315 t322 t325 x63_21 = some r) ∧ Aside0 (kq ≤ kj4) ∧ Aside0 (Kd.R (Kd.int .i64) 3 wc w.heap.size (fun _ => True) v316 t315) ∧ Aside0 (Kd.R Kd.bool 4 wc w.heap.size (fun k_ => some k_ ≠ (v326 : Value).ownBlock) v323 t322) ∧ Aside0 (Kd.R Kd.bool 4 wc w.heap.size (fun k_ => some k_ ≠ (v323 : Value).ownBlock) v326 t325) ∧ Aside0 (Below w.heap.size w wc))
            case first =>
              have H := HC22.out
              clear HC22
              by_cases c29 : (t322.length : Int) = (l0.length : Int)
              · rw [if_pos c29] at H
                have c29b0 : ((t322.length : Int) == (l0.length : Int)) = true := beq_iff_eq.mpr c29
                have c29b1 : ((t322.length : Int) != (l0.length : Int)) = false := bne_eq_false_iff_eq.mpr c29
                have c29b2 : (t322.length == l0.length) = true := by first | simpa using c29 | (simp at c29 ⊢; omega)
                clear c29
                (first | rw [c29b0] | (simp only [i64_w, i32_w]; rw [c29b0]) | skip)
                by_cases c30 : (t325.length : Int) = (l0.length : Int)
                · rw [if_pos c30] at H
                  have c30b0 : ((t325.length : Int) == (l0.length : Int)) = true := beq_iff_eq.mpr c30
                  have c30b1 : ((t325.length : Int) != (l0.length : Int)) = false := bne_eq_false_iff_eq.mpr c30
                  have c30b2 : (t325.length == l0.length) = true := by first | simpa using c30 | (simp at c30 ⊢; omega)
                  clear c30
                  have H' := Aside0.mk H
                  clear H
                  obtain ⟨Ao31, co31, eo31⟩ := Kd.R_slice HO324.out
                  subst eo31
                  obtain ⟨Ao32, co32, eo32⟩ := Kd.R_slice HO327.out
                  subst eo32
                  obtain ⟨Ao33, co33, eo33⟩ := Kd.R_slice HO317.out
                  subst eo33
                  go_wp2
                  go_meet
                  case rel => exact ⟨_, (((t315.length : Int) != (l0.length : Int))), (by first | rfl | (simp; done) | (simp [*]; done)), H', ⟨by have := HJ4.out; first | omega | exact Nat.le_refl _⟩, ⟨by (with_reducible repeat (first | apply Kd.R_alloc | apply Kd.R_drewN | apply Kd.R_drew)); exact HO317.out⟩, ⟨by (with_reducible repeat (first | apply Kd.R_alloc | apply Kd.R_drewN | apply Kd.R_drew)); exact Kd.R_mono HO324.out (fun _ hk => hk.2)⟩, ⟨by (with_reducible repeat (first | apply Kd.R_alloc | apply Kd.R_drewN | apply Kd.R_drew)); exact Kd.R_mono HO327.out (fun _ hk => hk.2)⟩, ⟨by repeat (first | (with_reducible first | exact HB.out | apply below_alloc | apply pw_below_drewN | apply below_drew1) | exact HB.out)⟩⟩
                · rw [if_neg c30] at H
                  have c30b0 : ((t325.length : Int) == (l0.length : Int)) = false := beq_eq_false_iff_ne.mpr c30
                  have c30b1 : ((t325.length : Int) != (l0.length : Int)) = true := bne_iff_ne.mpr c30
                  have c30b2 : (t325.length == l0.length) = false := by first | simpa using c30 | (simp at c30 ⊢; omega)
                  have H' := Aside0.mk H
                  clear H
                  obtain ⟨Ao34, co34, eo34⟩ := Kd.R_slice HO324.out
                  subst eo34
                  obtain ⟨Ao35, co35, eo35⟩ := Kd.R_slice HO327.out
                  subst eo35
                  go_wp2
                  go_meet
                  case rel => exact ⟨_, (true), (by first | rfl | (simp; done) | (simp [*]; done)), H', ⟨by have := HJ4.out; first | omega | exact Nat.le_refl _⟩, ⟨by (with_reducible repeat (first | apply Kd.R_alloc | apply Kd.R_drewN | apply Kd.R_drew)); exact HO317.out⟩, ⟨by (with_reducible repeat (first | apply Kd.R_alloc | apply Kd.R_drewN | apply Kd.R_drew)); exact Kd.R_mono HO324.out (fun _ hk => hk.2)⟩, ⟨by (with_reducible repeat (first | apply Kd.R_alloc | apply Kd.R_drewN | apply Kd.R_drew)); exact Kd.R_mono HO327.out (fun _ hk => hk.2)⟩, ⟨by repeat (first | (with_reducible first | exact HB.out | apply below_alloc | apply pw_below_drewN | apply below_drew1) | exact HB.out)⟩⟩
              · rw [if_neg c29] at H
                have c29b0 : ((t322.length : Int) == (l0.length : Int)) = false := beq_eq_false_iff_ne.mpr c29
                have c29b1 : ((t322.length : Int) != (l0.length : Int)) = true := bne_iff_ne.mpr c29
                have c29b2 : (t322.length == l0.length) = false := by first | simpa using c29 | (simp at c29 ⊢; omega)
                (first | rw [c29b0] | (simp only [i64_w, i32_w]; rw [c29b0]) | skip)
                have H' := Aside0.mk H
                clear H
                obtain ⟨Ao36, co36, eo36⟩ := Kd.R_slice HO324.out
                subst eo36
                go_wp2
                go_meet
                case rel => exact ⟨_, (true), (by first | rfl | (simp; done) | (simp [*]; done)), H', ⟨by have := HJ4.out; first | omega | exact Nat.le_refl _⟩, ⟨by (with_reducible repeat (first | apply Kd.R_alloc | apply Kd.R_drewN | apply Kd.R_drew)); exact HO317.out⟩, ⟨by (with_reducible repeat (first | apply Kd.R_alloc | apply Kd.R_drewN | apply Kd.R_drew)); exact Kd.R_mono HO324.out (fun _ hk => hk.2)⟩, ⟨by (with_reducible repeat (first | apply Kd.R_alloc | apply Kd.R_drewN | apply Kd.R_drew)); exact Kd.R_mono HO327.out (fun _ hk => hk.2)⟩, ⟨by repeat (first | (with_reducible first | exact HB.out | apply below_alloc | apply pw_below_drewN | apply below_drew1) | exact HB.out)⟩⟩
            case rest =>
              clear HC22
              try clear c1
              try clear p1
              try clear q1
              try clear hx1
              try clear c2
              try clear p2
              try clear hx2
              try clear hf2
              try clear c3
              try clear c7
              try clear c9
              try clear c10
              try clear c10b0
              try clear c11
              try clear c14
              try clear c15
              try clear c17
              try clear c17b0
              try clear c18
              try clear c18b0
              try clear c19
              try clear p19
              try clear q19
              try clear hx19
              try clear hf19
              try clear c22
              try clear c25
              try clear hx25
              try clear hf25
              try clear c29
              try clear c29b0
              try clear c29b1
              try clear c29b2
              try clear c30
              try clear c30b0
              try clear c30b1
              try clear c30b2
              try clear c34
              try clear c35
              try clear c36
              try clear hx19_0
              try clear hx25_0
              try clear p19
              try clear p2
              try clear q19
              obtain ⟨kq, x63_21, rfl, HA, HJ21, HO_7, HO_9, HO_10, HB⟩ := hcut
              cases kq with
              | zero => exact absurd HA.out (by simp [swagelaw07_DomCloses.j1])
              | succ kj21 =>
                have H := HA.out
                clear HA
                simp only [swagelaw07_DomCloses.j1] at H
                by_cases c37 : x63_21 = true
                · subst c37
                  have H1 : (some false) = some r := by rw [if_pos rfl] at H; exact H
                  clear H
                  have H := H1
                  clear H1
                  obtain rfl := Option.some.inj H
                  go_wp2
                  go_ret
                  exact ⟨by first | rfl | (simp [errW_none, errW_some] <;> rfl) | (simp [*, errW_none, errW_some] <;> rfl), by repeat (first | (with_reducible first | exact HB.out | apply below_alloc | apply pw_below_drewN | apply below_drew1) | exact HB.out)⟩
                · replace c37 := Bool.eq_false_iff.mpr c37
                  subst c37
                  have H1 : (swagelaw07_DomCloses.l0 kj21 l0 a1 t312 t315 t322 t325 0) = some r := by rw [if_neg (show ¬ (false = true) by decide)] at H; exact H
                  clear H
                  have H := H1
                  clear H1
                  have H' := Aside0.mk H
                  clear H
                  go_wp2
                  go_loopg [11] kj21 (fun kq v11 w' => ∃ (x11_3 : Int), v11 = .int .i64 x11_3 ∧ Aside0 (swagelaw07_DomCloses.l0 kq l0 a1 t312 t315 t322 t325 x11_3 = some r) ∧ Aside0 (kq ≤ kj21) ∧ Aside0 (Kd.R (Kd.int .i64) 3 w' w.heap.size (fun _ => True) v316 t315) ∧ Aside0 (Kd.R Kd.bool 4 w' w.heap.size (fun k_ => some k_ ≠ (v326 : Value).ownBlock) v323 t322) ∧ Aside0 (Kd.R Kd.bool 4 w' w.heap.size (fun k_ => some k_ ≠ (v323 : Value).ownBlock) v326 t325) ∧ Aside0 (Below w.heap.size w w'))
                  case atStart => exact ⟨(0), (by first | rfl | (simp; done) | (simp [*]; done)), H', ⟨Nat.le_refl _⟩, ⟨by (with_reducible repeat (first | apply Kd.R_alloc | apply Kd.R_drewN | apply Kd.R_drew)); exact HO_7.out⟩, ⟨by (with_reducible repeat (first | apply Kd.R_alloc | apply Kd.R_drewN | apply Kd.R_drew)); exact HO_9.out⟩, ⟨by (with_reducible repeat (first | apply Kd.R_alloc | apply Kd.R_drewN | apply Kd.R_drew)); exact HO_10.out⟩, ⟨by repeat (first | (with_reducible first | exact HB.out | apply below_alloc | apply pw_below_drewN | apply below_drew1) | exact HB.out)⟩⟩
                  case round =>
                    clear H'
                    try clear c1
                    try clear p1
                    try clear q1
                    try clear hx1
                    try clear c2
                    try clear p2
                    try clear hx2
                    try clear hf2
                    try clear c3
                    try clear c7
                    try clear c9
                    try clear c10
                    try clear c10b0
                    try clear c11
                    try clear c14
                    try clear c15
                    try clear c17
                    try clear c17b0
                    try clear c18
                    try clear c18b0
                    try clear c19
                    try clear p19
                    try clear q19
                    try clear hx19
                    try clear hf19
                    try clear c22
                    try clear c25
                    try clear hx25
                    try clear hf25
                    try clear c29
                    try clear c29b0
                    try clear c29b1
                    try clear c29b2
                    try clear c30
                    try clear c30b0
                    try clear c30b1
                    try clear c30b2
                    try clear c34
                    try clear c35
                    try clear c36
                    try clear c37
                    try clear hx19_0
                    try clear hx25_0
                    try clear p1
                    try clear p19
                    try clear p2
                    try clear q1
                    try clear q19
                    obtain ⟨x11_3, rfl, HA, HK3, HO_7, HO_9, HO_10, HB⟩ := hrel
                    cases gk with
                    | zero => exact absurd HA.out (by simp [swagelaw07_DomCloses.l0])
                    | succ k3 =>
                      have H := HA.out
                      clear HA
                      simp only [swagelaw07_DomCloses.l0] at H
                      by_cases c38 : x11_3 < (l0.length : Int)
                      · rw [if_pos c38] at H
                        have c38b0 : decide (x11_3 < (l0.length : Int)) = true := decide_eq_true c38
                        clear c38
                        replace H := Option.bind_eq_some_iff.mp H
                        obtain ⟨t329, A390, H⟩ := H
                        replace H : (if t329 = true then (if 0 ≤ x11_3 then (if x11_3 < (t322.length : Int) then (if rdOf false t322 x11_3 = true then (if 0 ≤ a1 then (if a1 < (t322.length : Int) then (if rdOf false t322 a1 = true then (if x11_3 = a1 then (swagelaw07_DomCloses.j3 k3 l0 a1 t312 t315 t322 t325 x11_3 false) else (if x11_3 < (t325.length : Int) then (swagelaw07_DomCloses.j3 k3 l0 a1 t312 t315 t322 t325 x11_3 (t329 == (rdOf false t325 x11_3))) else (none))) else (swagelaw07_DomCloses.j3 k3 l0 a1 t312 t315 t322 t325 x11_3 false)) else (none)) else (none)) else (swagelaw07_DomCloses.j3 k3 l0 a1 t312 t315 t322 t325 x11_3 true)) else (none)) else (none)) else (if 0 ≤ a1 then (if a1 < (t322.length : Int) then (if rdOf false t322 a1 = true then (if 0 ≤ x11_3 then (if x11_3 < (t322.length : Int) then (if rdOf false t322 x11_3 = true then (if x11_3 = a1 then (swagelaw07_DomCloses.j3 k3 l0 a1 t312 t315 t322 t325 x11_3 false) else (if x11_3 < (t325.length : Int) then (swagelaw07_DomCloses.j3 k3 l0 a1 t312 t315 t322 t325 x11_3 (t329 == (rdOf false t325 x11_3))) else (none))) else (swagelaw07_DomCloses.j3 k3 l0 a1 t312 t315 t322 t325 x11_3 false)) else (none)) else (none)) else (swagelaw07_DomCloses.j3 k3 l0 a1 t312 t315 t322 t325 x11_3 false)) else (none)) else (none))) = some r := H
                        have A39 := Aside0.mk A390
                        clear A390
                        have HC40 := Aside0.mk H
                        clear H
                        obtain ⟨Ao41, co41, eo41⟩ := Kd.R_slice HO_7.out
                        subst eo41
                        go_upto_region 16 with (first | ((with_reducible refine gate_callee (f := 37) rfl ?_); refine goesL_ (some 73) rfl rfl Try.func37 (by kernel_rfl) rfl #[.slice Ao41 t315.length co41, .int .i64 a1, .int .i64 x11_3] rfl (by (try simp only [List.map_toArray, List.map_cons, List.map_nil]); first | done | rfl | (simp only [List.length_drop, List.length_take]; rfl)) ?_; (with_reducible refine (dom_Dominates.calls _ _ t315 a1 x11_3 t329 _ ?side1 ?side2 A39.out).mono ?_); (case side1 => repeat (first | exact (Kd.R_reads' HO_7.out).2.2 | (with_reducible refine Kd.C_alloc ?_ _) | (with_reducible refine Kd.C_drewN ?_ _) | (with_reducible refine Kd.C_drew ?_))); (case side2 => exact (Kd.R_reads' HO_7.out).2.1); rintro e w42 ⟨rfl, hb⟩; refine ⟨_, rfl, ?_⟩; have n0_ := Aside0.mk (Kd.R_below (by (with_reducible repeat (first | apply Kd.R_alloc | apply Kd.R_drewN | apply Kd.R_drew)); exact HO_7.out) hb); have n1_ := Aside0.mk (Kd.R_below (by (with_reducible repeat (first | apply Kd.R_alloc | apply Kd.R_drewN | apply Kd.R_drew)); exact HO_9.out) hb); have n2_ := Aside0.mk (Kd.R_below (by (with_reducible repeat (first | apply Kd.R_alloc | apply Kd.R_drewN | apply Kd.R_drew)); exact HO_10.out) hb); have n3_ := Aside0.mk (below_step (by repeat (first | (with_reducible first | exact HB.out | apply below_alloc | apply pw_below_drewN | apply below_drew1) | exact HB.out)) hb); clear HO_7; clear HO_9; clear HO_10; clear HB; have HO_7 := n0_; have HO_9 := n1_; have HO_10 := n2_; have HB := n3_; clear n0_ n1_ n2_ n3_; (try clear hb); (try clear hb2); (try clear hk); (try clear hi)))
                        (try simp only [Act.put, List.setIfInBounds_toArray, List.set_cons_zero, List.set_cons_succ])
                        go_cut [106] (fun v106 wc => ∃ (kq : Nat) (x106_39 : Bool), v106 = .bool x106_39 ∧ Aside0 (swagelaw07_DomCloses.j3 kq l0 a1 t312 t315 t322 t325 x11_3 x106_39 = some r) ∧ Aside0 (kq ≤ k3) ∧ Aside0 (Kd.R (Kd.int .i64) 3 wc w.heap.size (fun _ => True) (.slice Ao41 t315.length co41) t315) ∧ Aside0 (Kd.R Kd.bool 4 wc w.heap.size (fun k_ => some k_ ≠ (v326 : Value).ownBlock) v323 t322) ∧ Aside0 (Kd.R Kd.bool 4 wc w.heap.size (fun k_ => some k_ ≠ (v323 : Value).ownBlock) v326 t325) ∧ Aside0 (Below w.heap.size w wc))
                        case first =>
                          have H := HC40.out
                          clear HC40
                          by_cases c43 : t329 = true
                          · subst c43
                            have H1 : (if 0 ≤ x11_3 then (if x11_3 < (t322.length : Int) then (if rdOf false t322 x11_3 = true then (if 0 ≤ a1 then (if a1 < (t322.length : Int) then (if rdOf false t322 a1 = true then (if x11_3 = a1 then (swagelaw07_DomCloses.j3 k3 l0 a1 t312 t315 t322 t325 x11_3 false) else (if x11_3 < (t325.length : Int) then (swagelaw07_DomCloses.j3 k3 l0 a1 t312 t315 t322 t325 x11_3 (true == (rdOf false t325 x11_3))) else (none))) else (swagelaw07_DomCloses.j3 k3 l0 a1 t312 t315 t322 t325 x11_3 false)) else (none)) else (none)) else (swagelaw07_DomCloses.j3 k3 l0 a1 t312 t315 t322 t325 x11_3 true)) else (none)) else (none)) = some r := by rw [if_pos rfl] at H; exact H
                            clear H
                            have H := H1
                            clear H1
                            by_cases c44 : 0 ≤ x11_3
                            · rw [if_pos c44] at H
                              have c44b0 : decide (0 ≤ x11_3) = true := decide_eq_true c44
                              clear c44
                              (first | rw [c44b0] | (simp only [i64_w, i32_w]; rw [c44b0]) | skip)
                              by_cases c45 : x11_3 < (t322.length : Int)
                              · rw [if_pos c45] at H
                                have c45b0 : decide (x11_3 < (t322.length : Int)) = true := decide_eq_true c45
                                clear c45
                                obtain ⟨bq46, hbq46⟩ : ∃ b_ : Bool, b_ = (rdOf false t322 x11_3) := ⟨_, rfl⟩
                                replace H : (if bq46 = true then (if 0 ≤ a1 then (if a1 < (t322.length : Int) then (if rdOf false t322 a1 = true then (if x11_3 = a1 then (swagelaw07_DomCloses.j3 k3 l0 a1 t312 t315 t322 t325 x11_3 false) else (if x11_3 < (t325.length : Int) then (swagelaw07_DomCloses.j3 k3 l0 a1 t312 t315 t322 t325 x11_3 (true == (rdOf false t325 x11_3))) else (none))) else (swagelaw07_DomCloses.j3 k3 l0 a1 t312 t315 t322 t325 x11_3 false)) else (none)) else (none)) else (swagelaw07_DomCloses.j3 k3 l0 a1 t312 t315 t322 t325 x11_3 true)) = some r := by rw [← hbq46] at H; exact H
                                have Nbq46 := Aside0.mk hbq46
                                clear hbq46
                                by_cases c47 : bq46 = true
                                · subst c47
                                  have H1 : (if 0 ≤ a1 then (if a1 < (t322.length : Int) then (if rdOf false t322 a1 = true then (if x11_3 = a1 then (swagelaw07_DomCloses.j3 k3 l0 a1 t312 t315 t322 t325 x11_3 false) else (if x11_3 < (t325.length : Int) then (swagelaw07_DomCloses.j3 k3 l0 a1 t312 t315 t322 t325 x11_3 (true == (rdOf false t325 x11_3))) else (none))) else (swagelaw07_DomCloses.j3 k3 l0 a1 t312 t315 t322 t325 x11_3 false)) else (none)) else (none)) = some r := by rw [if_pos rfl] at H; exact H
                                  clear H
                                  have H := H1
                                  clear H1
                                  by_cases c48 : 0 ≤ a1
                                  · rw [if_pos c48] at H
                                    have c48b0 : decide (0 ≤ a1) = true := decide_eq_true c48
                                    clear c48
                                    by_cases c49 : a1 < (t322.length : Int)
                                    · rw [if_pos c49] at H
                                      have c49b0 : decide (a1 < (t322.length : Int)) = true := decide_eq_true c49
                                      clear c49
                                      obtain ⟨bq50, hbq50⟩ : ∃ b_ : Bool, b_ = (rdOf false t322 a1) := ⟨_, rfl⟩
                                      replace H : (if bq50 = true then (if x11_3 = a1 then (swagelaw07_DomCloses.j3 k3 l0 a1 t312 t315 t322 t325 x11_3 false) else (if x11_3 < (t325.length : Int) then (swagelaw07_DomCloses.j3 k3 l0 a1 t312 t315 t322 t325 x11_3 (true == (rdOf false t325 x11_3))) else (none))) else (swagelaw07_DomCloses.j3 k3 l0 a1 t312 t315 t322 t325 x11_3 false)) = some r := by rw [← hbq50] at H; exact H
                                      have Nbq50 := Aside0.mk hbq50
                                      clear hbq50
                                      by_cases c51 : bq50 = true
                                      · subst c51
                                        have H1 : (if x11_3 = a1 then (swagelaw07_DomCloses.j3 k3 l0 a1 t312 t315 t322 t325 x11_3 false) else (if x11_3 < (t325.length : Int) then (swagelaw07_DomCloses.j3 k3 l0 a1 t312 t315 t322 t325 x11_3 (true == (rdOf false t325 x11_3))) else (none))) = some r := by rw [if_pos rfl] at H; exact H
                                        clear H
                                        have H := H1
                                        clear H1
                                        by_cases c52 : x11_3 = a1
                                        · rw [if_pos c52] at H
                                          have c52b0 : (x11_3 == a1) = true := beq_iff_eq.mpr c52
                                          have c52b1 : (x11_3 != a1) = false := bne_eq_false_iff_eq.mpr c52
                                          clear c52
                                          have H' := Aside0.mk H
                                          clear H
                                          obtain ⟨Ao53, co53, eo53⟩ := Kd.R_slice HO_9.out
                                          subst eo53
                                          have p330 : 0 ≤ (x11_3 : Int) := of_decide_eq_true (by first | (with_reducible assumption) | assumption)
                                          have q330 : x11_3 < (t322.length : Int) := of_decide_eq_true (by first | (with_reducible assumption) | assumption)
                                          obtain ⟨ad330, e330, hx330_0⟩ := Kd.at_bool (Kd.R_reads' HO_9.out).2.2 x11_3 p330 q330
                                          (try rw [← Nbq46.out] at hx330_0)
                                          (try rw [← Nbq50.out] at hx330_0)
                                          cases e330
                                          replace p330 := eq_true p330
                                          replace q330 := eq_true q330
                                          have p331 : 0 ≤ (a1 : Int) := of_decide_eq_true (by first | (with_reducible assumption) | assumption)
                                          have q331 : a1 < (t322.length : Int) := of_decide_eq_true (by first | (with_reducible assumption) | assumption)
                                          obtain ⟨ad331, e331, hx331_0⟩ := Kd.at_bool (Kd.R_reads' HO_9.out).2.2 a1 p331 q331
                                          (try rw [← Nbq46.out] at hx331_0)
                                          (try rw [← Nbq50.out] at hx331_0)
                                          obtain rfl : ad330 = ad331 := (by injection e331)
                                          replace p331 := eq_true p331
                                          replace q331 := eq_true q331
                                          have p332 : 0 ≤ (x11_3 : Int) := of_decide_eq_true (by first | (with_reducible assumption) | assumption)
                                          have q332 : x11_3 < (t322.length : Int) := of_decide_eq_true (by first | (with_reducible assumption) | assumption)
                                          obtain ⟨ad332, e332, hx332_0⟩ := Kd.at_bool (Kd.R_reads' HO_9.out).2.2 x11_3 p332 q332
                                          (try rw [← Nbq46.out] at hx332_0)
                                          (try rw [← Nbq50.out] at hx332_0)
                                          obtain rfl : ad330 = ad332 := (by injection e332)
                                          replace p332 := eq_true p332
                                          replace q332 := eq_true q332
                                          go_wp2
                                          go_meet
                                          case rel => exact ⟨_, (false), (by first | rfl | (simp; done) | (simp [*]; done)), H', ⟨by have := HJ4.out; have := HJ21.out; have := HK3.out; first | omega | exact Nat.le_refl _⟩, ⟨by (with_reducible repeat (first | apply Kd.R_alloc | apply Kd.R_drewN | apply Kd.R_drew)); exact HO_7.out⟩, ⟨by (with_reducible repeat (first | apply Kd.R_alloc | apply Kd.R_drewN | apply Kd.R_drew)); exact HO_9.out⟩, ⟨by (with_reducible repeat (first | apply Kd.R_alloc | apply Kd.R_drewN | apply Kd.R_drew)); exact HO_10.out⟩, ⟨by repeat (first | (with_reducible first | exact HB.out | apply below_alloc | apply pw_below_drewN | apply below_drew1) | exact HB.out)⟩⟩
                                        · rw [if_neg c52] at H
                                          have c52b0 : (x11_3 == a1) = false := beq_eq_false_iff_ne.mpr c52
                                          have c52b1 : (x11_3 != a1) = true := bne_iff_ne.mpr c52
                                          by_cases c54 : x11_3 < (t325.length : Int)
                                          · rw [if_pos c54] at H
                                            have c54b0 : decide (x11_3 < (t325.length : Int)) = true := decide_eq_true c54
                                            clear c54
                                            have H' := Aside0.mk H
                                            clear H
                                            obtain ⟨Ao55, co55, eo55⟩ := Kd.R_slice HO_9.out
                                            subst eo55
                                            have p330 : 0 ≤ (x11_3 : Int) := of_decide_eq_true (by first | (with_reducible assumption) | assumption)
                                            have q330 : x11_3 < (t322.length : Int) := of_decide_eq_true (by first | (with_reducible assumption) | assumption)
                                            obtain ⟨ad330, e330, hx330_0⟩ := Kd.at_bool (Kd.R_reads' HO_9.out).2.2 x11_3 p330 q330
                                            (try rw [← Nbq46.out] at hx330_0)
                                            (try rw [← Nbq50.out] at hx330_0)
                                            cases e330
                                            replace p330 := eq_true p330
                                            replace q330 := eq_true q330
                                            have p331 : 0 ≤ (a1 : Int) := of_decide_eq_true (by first | (with_reducible assumption) | assumption)
                                            have q331 : a1 < (t322.length : Int) := of_decide_eq_true (by first | (with_reducible assumption) | assumption)
                                            obtain ⟨ad331, e331, hx331_0⟩ := Kd.at_bool (Kd.R_reads' HO_9.out).2.2 a1 p331 q331
                                            (try rw [← Nbq46.out] at hx331_0)
                                            (try rw [← Nbq50.out] at hx331_0)
                                            obtain rfl : ad330 = ad331 := (by injection e331)
                                            replace p331 := eq_true p331
                                            replace q331 := eq_true q331
                                            have p332 : 0 ≤ (x11_3 : Int) := of_decide_eq_true (by first | (with_reducible assumption) | assumption)
                                            have q332 : x11_3 < (t322.length : Int) := of_decide_eq_true (by first | (with_reducible assumption) | assumption)
                                            obtain ⟨ad332, e332, hx332_0⟩ := Kd.at_bool (Kd.R_reads' HO_9.out).2.2 x11_3 p332 q332
                                            (try rw [← Nbq46.out] at hx332_0)
                                            (try rw [← Nbq50.out] at hx332_0)
                                            obtain rfl : ad330 = ad332 := (by injection e332)
                                            replace p332 := eq_true p332
                                            replace q332 := eq_true q332
                                            obtain ⟨Ao56, co56, eo56⟩ := Kd.R_slice HO_10.out
                                            subst eo56
                                            have p333 : 0 ≤ (x11_3 : Int) := of_decide_eq_true (by first | (with_reducible assumption) | assumption)
                                            have q333 : x11_3 < (t325.length : Int) := of_decide_eq_true (by first | (with_reducible assumption) | assumption)
                                            obtain ⟨ad333, e333, hx333_0⟩ := Kd.at_bool (Kd.R_reads' HO_10.out).2.2 x11_3 p333 q333
                                            (try rw [← Nbq46.out] at hx333_0)
                                            (try rw [← Nbq50.out] at hx333_0)
                                            cases e333
                                            replace p333 := eq_true p333
                                            replace q333 := eq_true q333
                                            go_wp2
                                            go_meet
                                            case rel => exact ⟨_, ((true == (rdOf false t325 x11_3))), (by first | rfl | (simp; done) | (simp [*]; done)), H', ⟨by have := HJ4.out; have := HJ21.out; have := HK3.out; first | omega | exact Nat.le_refl _⟩, ⟨by (with_reducible repeat (first | apply Kd.R_alloc | apply Kd.R_drewN | apply Kd.R_drew)); exact HO_7.out⟩, ⟨by (with_reducible repeat (first | apply Kd.R_alloc | apply Kd.R_drewN | apply Kd.R_drew)); exact HO_9.out⟩, ⟨by (with_reducible repeat (first | apply Kd.R_alloc | apply Kd.R_drewN | apply Kd.R_drew)); exact HO_10.out⟩, ⟨by repeat (first | (with_reducible first | exact HB.out | apply below_alloc | apply pw_below_drewN | apply below_drew1) | exact HB.out)⟩⟩
                                          · rw [if_neg c54] at H
                                            exact absurd H (by simp)
                                      · replace c51 := Bool.eq_false_iff.mpr c51
                                        subst c51
                                        have H1 : (swagelaw07_DomCloses.j3 k3 l0 a1 t312 t315 t322 t325 x11_3 false) = some r := by rw [if_neg (show ¬ (false = true) by decide)] at H; exact H
                                        clear H
                                        have H := H1
                                        clear H1
                                        have H' := Aside0.mk H
                                        clear H
                                        obtain ⟨Ao57, co57, eo57⟩ := Kd.R_slice HO_9.out
                                        subst eo57
                                        have p330 : 0 ≤ (x11_3 : Int) := of_decide_eq_true (by first | (with_reducible assumption) | assumption)
                                        have q330 : x11_3 < (t322.length : Int) := of_decide_eq_true (by first | (with_reducible assumption) | assumption)
                                        obtain ⟨ad330, e330, hx330_0⟩ := Kd.at_bool (Kd.R_reads' HO_9.out).2.2 x11_3 p330 q330
                                        (try rw [← Nbq46.out] at hx330_0)
                                        (try rw [← Nbq50.out] at hx330_0)
                                        cases e330
                                        replace p330 := eq_true p330
                                        replace q330 := eq_true q330
                                        have p331 : 0 ≤ (a1 : Int) := of_decide_eq_true (by first | (with_reducible assumption) | assumption)
                                        have q331 : a1 < (t322.length : Int) := of_decide_eq_true (by first | (with_reducible assumption) | assumption)
                                        obtain ⟨ad331, e331, hx331_0⟩ := Kd.at_bool (Kd.R_reads' HO_9.out).2.2 a1 p331 q331
                                        (try rw [← Nbq46.out] at hx331_0)
                                        (try rw [← Nbq50.out] at hx331_0)
                                        obtain rfl : ad330 = ad331 := (by injection e331)
                                        replace p331 := eq_true p331
                                        replace q331 := eq_true q331
                                        go_wp2
                                        go_meet
                                        case rel => exact ⟨_, (false), (by first | rfl | (simp; done) | (simp [*]; done)), H', ⟨by have := HJ4.out; have := HJ21.out; have := HK3.out; first | omega | exact Nat.le_refl _⟩, ⟨by (with_reducible repeat (first | apply Kd.R_alloc | apply Kd.R_drewN | apply Kd.R_drew)); exact HO_7.out⟩, ⟨by (with_reducible repeat (first | apply Kd.R_alloc | apply Kd.R_drewN | apply Kd.R_drew)); exact HO_9.out⟩, ⟨by (with_reducible repeat (first | apply Kd.R_alloc | apply Kd.R_drewN | apply Kd.R_drew)); exact HO_10.out⟩, ⟨by repeat (first | (with_reducible first | exact HB.out | apply below_alloc | apply pw_below_drewN | apply below_drew1) | exact HB.out)⟩⟩
                                    · rw [if_neg c49] at H
                                      exact absurd H (by simp)
                                  · rw [if_neg c48] at H
                                    exact absurd H (by simp)
                                · replace c47 := Bool.eq_false_iff.mpr c47
                                  subst c47
                                  have H1 : (swagelaw07_DomCloses.j3 k3 l0 a1 t312 t315 t322 t325 x11_3 true) = some r := by rw [if_neg (show ¬ (false = true) by decide)] at H; exact H
                                  clear H
                                  have H := H1
                                  clear H1
                                  have H' := Aside0.mk H
                                  clear H
                                  obtain ⟨Ao58, co58, eo58⟩ := Kd.R_slice HO_9.out
                                  subst eo58
                                  have p330 : 0 ≤ (x11_3 : Int) := of_decide_eq_true (by first | (with_reducible assumption) | assumption)
                                  have q330 : x11_3 < (t322.length : Int) := of_decide_eq_true (by first | (with_reducible assumption) | assumption)
                                  obtain ⟨ad330, e330, hx330_0⟩ := Kd.at_bool (Kd.R_reads' HO_9.out).2.2 x11_3 p330 q330
                                  (try rw [← Nbq46.out] at hx330_0)
                                  cases e330
                                  replace p330 := eq_true p330
                                  replace q330 := eq_true q330
                                  go_wp2
                                  go_meet
                                  case rel => exact ⟨_, (true), (by first | rfl | (simp; done) | (simp [*]; done)), H', ⟨by have := HJ4.out; have := HJ21.out; have := HK3.out; first | omega | exact Nat.le_refl _⟩, ⟨by (with_reducible repeat (first | apply Kd.R_alloc | apply Kd.R_drewN | apply Kd.R_drew)); exact HO_7.out⟩, ⟨by (with_reducible repeat (first | apply Kd.R_alloc | apply Kd.R_drewN | apply Kd.R_drew)); exact HO_9.out⟩, ⟨by (with_reducible repeat (first | apply Kd.R_alloc | apply Kd.R_drewN | apply Kd.R_drew)); exact HO_10.out⟩, ⟨by repeat (first | (with_reducible first | exact HB.out | apply below_alloc | apply pw_below_drewN | apply below_drew1) | exact HB.out)⟩⟩
                              · rw [if_neg c45] at H
                                exact absurd H (by simp)
                            · rw [if_neg c44] at H
                              exact absurd H (by simp)
                          · replace c43 := Bool.eq_false_iff.mpr c43
                            subst c43
                            have H1 : (if 0 ≤ a1 then (if a1 < (t322.length : Int) then (if rdOf false t322 a1 = true then (if 0 ≤ x11_3 then (if x11_3 < (t322.length : Int) then (if rdOf false t322 x11_3 = true then (if x11_3 = a1 then (swagelaw07_DomCloses.j3 k3 l0 a1 t312 t315 t322 t325 x11_3 false) else (if x11_3 < (t325.length : Int) then (swagelaw07_DomCloses.j3 k3 l0 a1 t312 t315 t322 t325 x11_3 (false == (rdOf false t325 x11_3))) else (none))) else (swagelaw07_DomCloses.j3 k3 l0 a1 t312 t315 t322 t325 x11_3 false)) else (none)) else (none)) else (swagelaw07_DomCloses.j3 k3 l0 a1 t312 t315 t322 t325 x11_3 false)) else (none)) else (none)) = some r := by rw [if_neg (show ¬ (false = true) by decide)] at H; exact H
                            clear H
                            have H := H1
                            clear H1
                            by_cases c59 : 0 ≤ a1
                            · rw [if_pos c59] at H
                              have c59b0 : decide (0 ≤ a1) = true := decide_eq_true c59
                              clear c59
                              by_cases c60 : a1 < (t322.length : Int)
                              · rw [if_pos c60] at H
                                have c60b0 : decide (a1 < (t322.length : Int)) = true := decide_eq_true c60
                                clear c60
                                obtain ⟨bq61, hbq61⟩ : ∃ b_ : Bool, b_ = (rdOf false t322 a1) := ⟨_, rfl⟩
                                replace H : (if bq61 = true then (if 0 ≤ x11_3 then (if x11_3 < (t322.length : Int) then (if rdOf false t322 x11_3 = true then (if x11_3 = a1 then (swagelaw07_DomCloses.j3 k3 l0 a1 t312 t315 t322 t325 x11_3 false) else (if x11_3 < (t325.length : Int) then (swagelaw07_DomCloses.j3 k3 l0 a1 t312 t315 t322 t325 x11_3 (false == (rdOf false t325 x11_3))) else (none))) else (swagelaw07_DomCloses.j3 k3 l0 a1 t312 t315 t322 t325 x11_3 false)) else (none)) else (none)) else (swagelaw07_DomCloses.j3 k3 l0 a1 t312 t315 t322 t325 x11_3 false)) = some r := by rw [← hbq61] at H; exact H
                                have Nbq61 := Aside0.mk hbq61
                                clear hbq61
                                by_cases c62 : bq61 = true
                                · subst c62
                                  have H1 : (if 0 ≤ x11_3 then (if x11_3 < (t322.length : Int) then (if rdOf false t322 x11_3 = true then (if x11_3 = a1 then (swagelaw07_DomCloses.j3 k3 l0 a1 t312 t315 t322 t325 x11_3 false) else (if x11_3 < (t325.length : Int) then (swagelaw07_DomCloses.j3 k3 l0 a1 t312 t315 t322 t325 x11_3 (false == (rdOf false t325 x11_3))) else (none))) else (swagelaw07_DomCloses.j3 k3 l0 a1 t312 t315 t322 t325 x11_3 false)) else (none)) else (none)) = some r := by rw [if_pos rfl] at H; exact H
                                  clear H
                                  have H := H1
                                  clear H1
                                  by_cases c63 : 0 ≤ x11_3
                                  · rw [if_pos c63] at H
                                    have c63b0 : decide (0 ≤ x11_3) = true := decide_eq_true c63
                                    clear c63
                                    by_cases c64 : x11_3 < (t322.length : Int)
                                    · rw [if_pos c64] at H
                                      have c64b0 : decide (x11_3 < (t322.length : Int)) = true := decide_eq_true c64
                                      clear c64
                                      obtain ⟨bq65, hbq65⟩ : ∃ b_ : Bool, b_ = (rdOf false t322 x11_3) := ⟨_, rfl⟩
                                      replace H : (if bq65 = true then (if x11_3 = a1 then (swagelaw07_DomCloses.j3 k3 l0 a1 t312 t315 t322 t325 x11_3 false) else (if x11_3 < (t325.length : Int) then (swagelaw07_DomCloses.j3 k3 l0 a1 t312 t315 t322 t325 x11_3 (false == (rdOf false t325 x11_3))) else (none))) else (swagelaw07_DomCloses.j3 k3 l0 a1 t312 t315 t322 t325 x11_3 false)) = some r := by rw [← hbq65] at H; exact H
                                      have Nbq65 := Aside0.mk hbq65
                                      clear hbq65
                                      by_cases c66 : bq65 = true
                                      · subst c66
                                        have H1 : (if x11_3 = a1 then (swagelaw07_DomCloses.j3 k3 l0 a1 t312 t315 t322 t325 x11_3 false) else (if x11_3 < (t325.length : Int) then (swagelaw07_DomCloses.j3 k3 l0 a1 t312 t315 t322 t325 x11_3 (false == (rdOf false t325 x11_3))) else (none))) = some r := by rw [if_pos rfl] at H; exact H
                                        clear H
                                        have H := H1
                                        clear H1
                                        by_cases c67 : x11_3 = a1
                                        · rw [if_pos c67] at H
                                          have c67b0 : (x11_3 == a1) = true := beq_iff_eq.mpr c67
                                          have c67b1 : (x11_3 != a1) = false := bne_eq_false_iff_eq.mpr c67
                                          clear c67
                                          have H' := Aside0.mk H
                                          clear H
                                          obtain ⟨Ao68, co68, eo68⟩ := Kd.R_slice HO_9.out
                                          subst eo68
                                          have p334 : 0 ≤ (a1 : Int) := of_decide_eq_true (by first | (with_reducible assumption) | assumption)
                                          have q334 : a1 < (t322.length : Int) := of_decide_eq_true (by first | (with_reducible assumption) | assumption)
                                          obtain ⟨ad334, e334, hx334_0⟩ := Kd.at_bool (Kd.R_reads' HO_9.out).2.2 a1 p334 q334
                                          (try rw [← Nbq61.out] at hx334_0)
                                          (try rw [← Nbq65.out] at hx334_0)
                                          cases e334
                                          replace p334 := eq_true p334
                                          replace q334 := eq_true q334
                                          have p335 : 0 ≤ (x11_3 : Int) := of_decide_eq_true (by first | (with_reducible assumption) | assumption)
                                          have q335 : x11_3 < (t322.length : Int) := of_decide_eq_true (by first | (with_reducible assumption) | assumption)
                                          obtain ⟨ad335, e335, hx335_0⟩ := Kd.at_bool (Kd.R_reads' HO_9.out).2.2 x11_3 p335 q335
                                          (try rw [← Nbq61.out] at hx335_0)
                                          (try rw [← Nbq65.out] at hx335_0)
                                          obtain rfl : ad334 = ad335 := (by injection e335)
                                          replace p335 := eq_true p335
                                          replace q335 := eq_true q335
                                          go_wp2
                                          go_meet
                                          case rel => exact ⟨_, (false), (by first | rfl | (simp; done) | (simp [*]; done)), H', ⟨by have := HJ4.out; have := HJ21.out; have := HK3.out; first | omega | exact Nat.le_refl _⟩, ⟨by (with_reducible repeat (first | apply Kd.R_alloc | apply Kd.R_drewN | apply Kd.R_drew)); exact HO_7.out⟩, ⟨by (with_reducible repeat (first | apply Kd.R_alloc | apply Kd.R_drewN | apply Kd.R_drew)); exact HO_9.out⟩, ⟨by (with_reducible repeat (first | apply Kd.R_alloc | apply Kd.R_drewN | apply Kd.R_drew)); exact HO_10.out⟩, ⟨by repeat (first | (with_reducible first | exact HB.out | apply below_alloc | apply pw_below_drewN | apply below_drew1) | exact HB.out)⟩⟩
                                        · rw [if_neg c67] at H
                                          have c67b0 : (x11_3 == a1) = false := beq_eq_false_iff_ne.mpr c67
                                          have c67b1 : (x11_3 != a1) = true := bne_iff_ne.mpr c67
                                          by_cases c69 : x11_3 < (t325.length : Int)
                                          · rw [if_pos c69] at H
                                            have c69b0 : decide (x11_3 < (t325.length : Int)) = true := decide_eq_true c69
                                            clear c69
                                            have H' := Aside0.mk H
                                            clear H
                                            obtain ⟨Ao70, co70, eo70⟩ := Kd.R_slice HO_9.out
                                            subst eo70
                                            have p334 : 0 ≤ (a1 : Int) := of_decide_eq_true (by first | (with_reducible assumption) | assumption)
                                            have q334 : a1 < (t322.length : Int) := of_decide_eq_true (by first | (with_reducible assumption) | assumption)
                                            obtain ⟨ad334, e334, hx334_0⟩ := Kd.at_bool (Kd.R_reads' HO_9.out).2.2 a1 p334 q334
                                            (try rw [← Nbq61.out] at hx334_0)
                                            (try rw [← Nbq65.out] at hx334_0)
                                            cases e334
                                            replace p334 := eq_true p334
                                            replace q334 := eq_true q334
                                            have p335 : 0 ≤ (x11_3 : Int) := of_decide_eq_true (by first | (with_reducible assumption) | assumption)
                                            have q335 : x11_3 < (t322.length : Int) := of_decide_eq_true (by first | (with_reducible assumption) | assumption)
                                            obtain ⟨ad335, e335, hx335_0⟩ := Kd.at_bool (Kd.R_reads' HO_9.out).2.2 x11_3 p335 q335
                                            (try rw [← Nbq61.out] at hx335_0)
                                            (try rw [← Nbq65.out] at hx335_0)
                                            obtain rfl : ad334 = ad335 := (by injection e335)
                                            replace p335 := eq_true p335
                                            replace q335 := eq_true q335
                                            obtain ⟨Ao71, co71, eo71⟩ := Kd.R_slice HO_10.out
                                            subst eo71
                                            have p336 : 0 ≤ (x11_3 : Int) := of_decide_eq_true (by first | (with_reducible assumption) | assumption)
                                            have q336 : x11_3 < (t325.length : Int) := of_decide_eq_true (by first | (with_reducible assumption) | assumption)
                                            obtain ⟨ad336, e336, hx336_0⟩ := Kd.at_bool (Kd.R_reads' HO_10.out).2.2 x11_3 p336 q336
                                            (try rw [← Nbq61.out] at hx336_0)
                                            (try rw [← Nbq65.out] at hx336_0)
                                            cases e336
                                            replace p336 := eq_true p336
                                            replace q336 := eq_true q336
                                            go_wp2
                                            go_meet
                                            case rel => exact ⟨_, ((false == (rdOf false t325 x11_3))), (by first | rfl | (simp; done) | (simp [*]; done)), H', ⟨by have := HJ4.out; have := HJ21.out; have := HK3.out; first | omega | exact Nat.le_refl _⟩, ⟨by (with_reducible repeat (first | apply Kd.R_alloc | apply Kd.R_drewN | apply Kd.R_drew)); exact HO_7.out⟩, ⟨by (with_reducible repeat (first | apply Kd.R_alloc | apply Kd.R_drewN | apply Kd.R_drew)); exact HO_9.out⟩, ⟨by (with_reducible repeat (first | apply Kd.R_alloc | apply Kd.R_drewN | apply Kd.R_drew)); exact HO_10.out⟩, ⟨by repeat (first | (with_reducible first | exact HB.out | apply below_alloc | apply pw_below_drewN | apply below_drew1) | exact HB.out)⟩⟩
                                          · rw [if_neg c69] at H
                                            exact absurd H (by simp)
                                      · replace c66 := Bool.eq_false_iff.mpr c66
                                        subst c66
                                        have H1 : (swagelaw07_DomCloses.j3 k3 l0 a1 t312 t315 t322 t325 x11_3 false) = some r := by rw [if_neg (show ¬ (false = true) by decide)] at H; exact H
                                        clear H
                                        have H := H1
                                        clear H1
                                        have H' := Aside0.mk H
                                        clear H
                                        obtain ⟨Ao72, co72, eo72⟩ := Kd.R_slice HO_9.out
                                        subst eo72
                                        have p334 : 0 ≤ (a1 : Int) := of_decide_eq_true (by first | (with_reducible assumption) | assumption)
                                        have q334 : a1 < (t322.length : Int) := of_decide_eq_true (by first | (with_reducible assumption) | assumption)
                                        obtain ⟨ad334, e334, hx334_0⟩ := Kd.at_bool (Kd.R_reads' HO_9.out).2.2 a1 p334 q334
                                        (try rw [← Nbq61.out] at hx334_0)
                                        (try rw [← Nbq65.out] at hx334_0)
                                        cases e334
                                        replace p334 := eq_true p334
                                        replace q334 := eq_true q334
                                        have p335 : 0 ≤ (x11_3 : Int) := of_decide_eq_true (by first | (with_reducible assumption) | assumption)
                                        have q335 : x11_3 < (t322.length : Int) := of_decide_eq_true (by first | (with_reducible assumption) | assumption)
                                        obtain ⟨ad335, e335, hx335_0⟩ := Kd.at_bool (Kd.R_reads' HO_9.out).2.2 x11_3 p335 q335
                                        (try rw [← Nbq61.out] at hx335_0)
                                        (try rw [← Nbq65.out] at hx335_0)
                                        obtain rfl : ad334 = ad335 := (by injection e335)
                                        replace p335 := eq_true p335
                                        replace q335 := eq_true q335
                                        go_wp2
                                        go_meet
                                        case rel => exact ⟨_, (false), (by first | rfl | (simp; done) | (simp [*]; done)), H', ⟨by have := HJ4.out; have := HJ21.out; have := HK3.out; first | omega | exact Nat.le_refl _⟩, ⟨by (with_reducible repeat (first | apply Kd.R_alloc | apply Kd.R_drewN | apply Kd.R_drew)); exact HO_7.out⟩, ⟨by (with_reducible repeat (first | apply Kd.R_alloc | apply Kd.R_drewN | apply Kd.R_drew)); exact HO_9.out⟩, ⟨by (with_reducible repeat (first | apply Kd.R_alloc | apply Kd.R_drewN | apply Kd.R_drew)); exact HO_10.out⟩, ⟨by repeat (first | (with_reducible first | exact HB.out | apply below_alloc | apply pw_below_drewN | apply below_drew1) | exact HB.out)⟩⟩
                                    · rw [if_neg c64] at H
                                      exact absurd H (by simp)
                                  · rw [if_neg c63] at H
                                    exact absurd H (by simp)
                                · replace c62 := Bool.eq_false_iff.mpr c62
                                  subst c62
                                  have H1 : (swagelaw07_DomCloses.j3 k3 l0 a1 t312 t315 t322 t325 x11_3 false) = some r := by rw [if_neg (show ¬ (false = true) by decide)] at H; exact H
                                  clear H
                                  have H := H1
                                  clear H1
                                  have H' := Aside0.mk H
                                  clear H
                                  obtain ⟨Ao73, co73, eo73⟩ := Kd.R_slice HO_9.out
                                  subst eo73
                                  have p334 : 0 ≤ (a1 : Int) := of_decide_eq_true (by first | (with_reducible assumption) | assumption)
                                  have q334 : a1 < (t322.length : Int) := of_decide_eq_true (by first | (with_reducible assumption) | assumption)
                                  obtain ⟨ad334, e334, hx334_0⟩ := Kd.at_bool (Kd.R_reads' HO_9.out).2.2 a1 p334 q334
                                  (try rw [← Nbq61.out] at hx334_0)
                                  cases e334
                                  replace p334 := eq_true p334
                                  replace q334 := eq_true q334
                                  go_wp2
                                  go_meet
                                  case rel => exact ⟨_, (false), (by first | rfl | (simp; done) | (simp [*]; done)), H', ⟨by have := HJ4.out; have := HJ21.out; have := HK3.out; first | omega | exact Nat.le_refl _⟩, ⟨by (with_reducible repeat (first | apply Kd.R_alloc | apply Kd.R_drewN | apply Kd.R_drew)); exact HO_7.out⟩, ⟨by (with_reducible repeat (first | apply Kd.R_alloc | apply Kd.R_drewN | apply Kd.R_drew)); exact HO_9.out⟩, ⟨by (with_reducible repeat (first | apply Kd.R_alloc | apply Kd.R_drewN | apply Kd.R_drew)); exact HO_10.out⟩, ⟨by repeat (first | (with_reducible first | exact HB.out | apply below_alloc | apply pw_below_drewN | apply below_drew1) | exact HB.out)⟩⟩
                              · rw [if_neg c60] at H
                                exact absurd H (by simp)
                            · rw [if_neg c59] at H
                              exact absurd H (by simp)
                        case rest =>
                          clear HC40
                          try clear c1
                          try clear p1
                          try clear q1
                          try clear hx1
                          try clear c2
                          try clear p2
                          try clear hx2
                          try clear hf2
                          try clear c3
                          try clear p3
                          try clear q3
                          try clear hx3
                          try clear c4
                          try clear q4
                          try clear c5
                          try clear q5
                          try clear c6
                          try clear q6
                          try clear c7
                          try clear c9
                          try clear c10
                          try clear c10b0
                          try clear c11
                          try clear c14
                          try clear c15
                          try clear c17
                          try clear c17b0
                          try clear c18
                          try clear c18b0
                          try clear c19
                          try clear p19
                          try clear q19
                          try clear hx19
                          try clear hf19
                          try clear c22
                          try clear c25
                          try clear hx25
                          try clear hf25
                          try clear c29
                          try clear c29b0
                          try clear c29b1
                          try clear c29b2
                          try clear c30
                          try clear c30b0
                          try clear c30b1
                          try clear c30b2
                          try clear p33
                          try clear q33
                          try clear hx33
                          try clear c34
                          try clear c35
                          try clear c36
                          try clear c37
                          try clear c38
                          try clear c38b0
                          try clear c43
                          try clear c44
                          try clear c44b0
                          try clear c45
                          try clear c45b0
                          try clear q46
                          try clear c47
                          try clear c48
                          try clear c48b0
                          try clear c49
                          try clear c49b0
                          try clear q50
                          try clear c51
                          try clear c52
                          try clear c52b0
                          try clear c52b1
                          try clear c54
                          try clear c54b0
                          try clear c59
                          try clear c59b0
                          try clear c60
                          try clear c60b0
                          try clear q61
                          try clear c62
                          try clear c63
                          try clear c63b0
                          try clear c64
                          try clear c64b0
                          try clear q65
                          try clear c66
                          try clear c67
                          try clear c67b0
                          try clear c67b1
                          try clear c69
                          try clear c69b0
                          try clear hx19_0
                          try clear hx25_0
                          try clear hx330_0
                          try clear hx331_0
                          try clear hx332_0
                          try clear hx333_0
                          try clear hx334_0
                          try clear hx335_0
                          try clear hx336_0
                          try clear p1
                          try clear p19
                          try clear p2
                          try clear p330
                          try clear p331
                          try clear p332
                          try clear p333
                          try clear p334
                          try clear p335
                          try clear p336
                          try clear q1
                          try clear q19
                          try clear q330
                          try clear q331
                          try clear q332
                          try clear q333
                          try clear q334
                          try clear q335
                          try clear q336
                          obtain ⟨kq, x106_39, rfl, HA, HJ39, HO_7, HO_9, HO_10, HB⟩ := hcut
                          cases kq with
                          | zero => exact absurd HA.out (by simp [swagelaw07_DomCloses.j3])
                          | succ kj39 =>
                            have H := HA.out
                            clear HA
                            simp only [swagelaw07_DomCloses.j3] at H
                            by_cases c74 : x106_39 = true
                            · subst c74
                              have H1 : (some false) = some r := by rw [if_pos rfl] at H; exact H
                              clear H
                              have H := H1
                              clear H1
                              obtain rfl := Option.some.inj H
                              go_wp2
                              go_ret
                              exact ⟨by first | rfl | (simp [errW_none, errW_some] <;> rfl) | (simp [*, errW_none, errW_some] <;> rfl), by repeat (first | (with_reducible first | exact HB.out | apply below_alloc | apply pw_below_drewN | apply below_drew1) | exact HB.out)⟩
                            · replace c74 := Bool.eq_false_iff.mpr c74
                              subst c74
                              have H1 : (if x11_3 > 0 then (if 0 ≤ x11_3 then (if x11_3 < (t322.length : Int) then (if rdOf false t322 x11_3 = true then (if x11_3 < (t315.length : Int) then (if (rd t315 x11_3) < 0 then (some false) else ((dom_Dominates.f t315 (rd t315 x11_3) x11_3).bind fun t340 => (if t340 = true then (swagelaw07_DomCloses.l0 kj39 l0 a1 t312 t315 t322 t325 (wrap64 (x11_3 + 1))) else (some false)))) else (none)) else (if x11_3 < (t315.length : Int) then (if (rd t315 x11_3) = (-1) then (swagelaw07_DomCloses.l0 kj39 l0 a1 t312 t315 t322 t325 (wrap64 (x11_3 + 1))) else (some false)) else (none))) else (none)) else (none)) else (if 0 ≤ x11_3 then (if x11_3 < (t322.length : Int) then (if rdOf false t322 x11_3 = true then (swagelaw07_DomCloses.l0 kj39 l0 a1 t312 t315 t322 t325 (wrap64 (x11_3 + 1))) else (if x11_3 < (t315.length : Int) then (if (rd t315 x11_3) = (-1) then (swagelaw07_DomCloses.l0 kj39 l0 a1 t312 t315 t322 t325 (wrap64 (x11_3 + 1))) else (some false)) else (none))) else (none)) else (none))) = some r := by rw [if_neg (show ¬ (false = true) by decide)] at H; exact H
                              clear H
                              have H := H1
                              clear H1
                              by_cases c75 : x11_3 > 0
                              · rw [if_pos c75] at H
                                have c75b0 : decide (0 < x11_3) = true := decide_eq_true c75
                                clear c75
                                by_cases c76 : 0 ≤ x11_3
                                · rw [if_pos c76] at H
                                  have c76b0 : decide (0 ≤ x11_3) = true := decide_eq_true c76
                                  clear c76
                                  by_cases c77 : x11_3 < (t322.length : Int)
                                  · rw [if_pos c77] at H
                                    have c77b0 : decide (x11_3 < (t322.length : Int)) = true := decide_eq_true c77
                                    clear c77
                                    obtain ⟨bq78, hbq78⟩ : ∃ b_ : Bool, b_ = (rdOf false t322 x11_3) := ⟨_, rfl⟩
                                    replace H : (if bq78 = true then (if x11_3 < (t315.length : Int) then (if (rd t315 x11_3) < 0 then (some false) else ((dom_Dominates.f t315 (rd t315 x11_3) x11_3).bind fun t340 => (if t340 = true then (swagelaw07_DomCloses.l0 kj39 l0 a1 t312 t315 t322 t325 (wrap64 (x11_3 + 1))) else (some false)))) else (none)) else (if x11_3 < (t315.length : Int) then (if (rd t315 x11_3) = (-1) then (swagelaw07_DomCloses.l0 kj39 l0 a1 t312 t315 t322 t325 (wrap64 (x11_3 + 1))) else (some false)) else (none))) = some r := by rw [← hbq78] at H; exact H
                                    have Nbq78 := Aside0.mk hbq78
                                    clear hbq78
                                    by_cases c79 : bq78 = true
                                    · subst c79
                                      have H1 : (if x11_3 < (t315.length : Int) then (if (rd t315 x11_3) < 0 then (some false) else ((dom_Dominates.f t315 (rd t315 x11_3) x11_3).bind fun t340 => (if t340 = true then (swagelaw07_DomCloses.l0 kj39 l0 a1 t312 t315 t322 t325 (wrap64 (x11_3 + 1))) else (some false)))) else (none)) = some r := by rw [if_pos rfl] at H; exact H
                                      clear H
                                      have H := H1
                                      clear H1
                                      by_cases c80 : x11_3 < (t315.length : Int)
                                      · rw [if_pos c80] at H
                                        have c80b0 : decide (x11_3 < (t315.length : Int)) = true := decide_eq_true c80
                                        clear c80
                                        by_cases c81 : (rd t315 x11_3) < 0
                                        · rw [if_pos c81] at H
                                          have c81b0 : decide ((rd t315 x11_3) < 0) = true := decide_eq_true c81
                                          clear c81
                                          obtain rfl := Option.some.inj H
                                          obtain ⟨Ao82, co82, eo82⟩ := Kd.R_slice HO_9.out
                                          subst eo82
                                          have p337 : 0 ≤ (x11_3 : Int) := of_decide_eq_true (by first | (with_reducible assumption) | assumption)
                                          have q337 : x11_3 < (t322.length : Int) := of_decide_eq_true (by first | (with_reducible assumption) | assumption)
                                          obtain ⟨ad337, e337, hx337_0⟩ := Kd.at_bool (Kd.R_reads' HO_9.out).2.2 x11_3 p337 q337
                                          (try rw [← Nbq78.out] at hx337_0)
                                          cases e337
                                          replace p337 := eq_true p337
                                          replace q337 := eq_true q337
                                          have p338 : 0 ≤ (x11_3 : Int) := of_decide_eq_true (by first | (with_reducible assumption) | assumption)
                                          have q338 : x11_3 < (t315.length : Int) := of_decide_eq_true (by first | (with_reducible assumption) | assumption)
                                          obtain ⟨ad338, e338, hx338_0⟩ := Kd.at_int (Kd.R_reads' HO_7.out).2.2 x11_3 p338 q338
                                          cases e338
                                          replace p338 := eq_true p338
                                          replace q338 := eq_true q338
                                          go_wp2
                                          go_ret
                                          exact ⟨by first | rfl | (simp [errW_none, errW_some] <;> rfl) | (simp [*, errW_none, errW_some] <;> rfl), by repeat (first | (with_reducible first | exact HB.out | apply below_alloc | apply pw_below_drewN | apply below_drew1) | exact HB.out)⟩
                                        · rw [if_neg c81] at H
                                          have c81b0 : decide ((rd t315 x11_3) < 0) = false := decide_eq_false c81
                                          clear c81
                                          replace H := Option.bind_eq_some_iff.mp H
                                          obtain ⟨t340, A830, H⟩ := H
                                          replace H : (if t340 = true then (swagelaw07_DomCloses.l0 kj39 l0 a1 t312 t315 t322 t325 (wrap64 (x11_3 + 1))) else (some false)) = some r := H
                                          have A83 := Aside0.mk A830
                                          clear A830
                                          by_cases c84 : t340 = true
                                          · subst c84
                                            have H1 : (swagelaw07_DomCloses.l0 kj39 l0 a1 t312 t315 t322 t325 (wrap64 (x11_3 + 1))) = some r := by rw [if_pos rfl] at H; exact H
                                            clear H
                                            have H := H1
                                            clear H1
                                            have H' := Aside0.mk H
                                            clear H
                                            obtain ⟨Ao85, co85, eo85⟩ := Kd.R_slice HO_9.out
                                            subst eo85
                                            have p337 : 0 ≤ (x11_3 : Int) := of_decide_eq_true (by first | (with_reducible assumption) | assumption)
                                            have q337 : x11_3 < (t322.length : Int) := of_decide_eq_true (by first | (with_reducible assumption) | assumption)
                                            obtain ⟨ad337, e337, hx337_0⟩ := Kd.at_bool (Kd.R_reads' HO_9.out).2.2 x11_3 p337 q337
                                            (try rw [← Nbq78.out] at hx337_0)
                                            cases e337
                                            replace p337 := eq_true p337
                                            replace q337 := eq_true q337
                                            have p338 : 0 ≤ (x11_3 : Int) := of_decide_eq_true (by first | (with_reducible assumption) | assumption)
                                            have q338 : x11_3 < (t315.length : Int) := of_decide_eq_true (by first | (with_reducible assumption) | assumption)
                                            obtain ⟨ad338, e338, hx338_0⟩ := Kd.at_int (Kd.R_reads' HO_7.out).2.2 x11_3 p338 q338
                                            cases e338
                                            replace p338 := eq_true p338
                                            replace q338 := eq_true q338
                                            have p339 : 0 ≤ (x11_3 : Int) := of_decide_eq_true (by first | (with_reducible assumption) | assumption)
                                            have q339 : x11_3 < (t315.length : Int) := of_decide_eq_true (by first | (with_reducible assumption) | assumption)
                                            obtain ⟨ad339, e339, hx339_0⟩ := Kd.at_int (Kd.R_reads' HO_7.out).2.2 x11_3 p339 q339
                                            obtain rfl : ad338 = ad339 := (by injection e339)
                                            replace p339 := eq_true p339
                                            replace q339 := eq_true q339
                                            go_wp2_with (first | (go_at_call 37; (with_reducible refine (dom_Dominates.calls _ _ t315 (rd t315 x11_3) x11_3 true _ ?side1 ?side2 A83.out).mono ?_); (case side1 => repeat (first | exact (Kd.R_reads' HO_7.out).2.2 | (with_reducible refine Kd.C_alloc ?_ _) | (with_reducible refine Kd.C_drewN ?_ _) | (with_reducible refine Kd.C_drew ?_))); (case side2 => exact (Kd.R_reads' HO_7.out).2.1); rintro e w86 ⟨rfl, hb⟩; have n0_ := Aside0.mk (Kd.R_below (by (with_reducible repeat (first | apply Kd.R_alloc | apply Kd.R_drewN | apply Kd.R_drew)); exact HO_7.out) hb); have n1_ := Aside0.mk (Kd.R_below (by (with_reducible repeat (first | apply Kd.R_alloc | apply Kd.R_drewN | apply Kd.R_drew)); exact HO_9.out) hb); have n2_ := Aside0.mk (Kd.R_below (by (with_reducible repeat (first | apply Kd.R_alloc | apply Kd.R_drewN | apply Kd.R_drew)); exact HO_10.out) hb); have n3_ := Aside0.mk (below_step (by repeat (first | (with_reducible first | exact HB.out | apply below_alloc | apply pw_below_drewN | apply below_drew1) | exact HB.out)) hb); clear HO_7; clear HO_9; clear HO_10; clear HB; have HO_7 := n0_; have HO_9 := n1_; have HO_10 := n2_; have HB := n3_; clear n0_ n1_ n2_ n3_; (try clear hb); (try clear hb2); (try clear hk); (try clear hi); have p341 : 0 ≤ (x11_3 : Int) := of_decide_eq_true (by first | (with_reducible assumption) | assumption); have q341 : x11_3 < (t322.length : Int) := of_decide_eq_true (by first | (with_reducible assumption) | assumption); obtain ⟨ad341, e341, hx341_0⟩ := Kd.at_bool (Kd.R_reads' HO_9.out).2.2 x11_3 p341 q341; (try rw [← Nbq78.out] at hx341_0); obtain rfl : ad337 = ad341 := (by injection e341); replace p341 := eq_true p341; replace q341 := eq_true q341))
                                            go_roundg kj39
                                            case measure => have := HJ4.out; have := HJ21.out; have := HK3.out; have := HJ39.out; omega
                                            case rel => exact ⟨(wrap64 (x11_3 + 1)), (by first | rfl | (simp; done) | (simp [*]; done)), H', ⟨by have := HJ4.out; have := HJ21.out; have := HK3.out; have := HJ39.out; omega⟩, ⟨by (with_reducible repeat (first | apply Kd.R_alloc | apply Kd.R_drewN | apply Kd.R_drew)); exact HO_7.out⟩, ⟨by (with_reducible repeat (first | apply Kd.R_alloc | apply Kd.R_drewN | apply Kd.R_drew)); exact HO_9.out⟩, ⟨by (with_reducible repeat (first | apply Kd.R_alloc | apply Kd.R_drewN | apply Kd.R_drew)); exact HO_10.out⟩, ⟨by repeat (first | (with_reducible first | exact HB.out | apply below_alloc | apply pw_below_drewN | apply below_drew1) | exact HB.out)⟩⟩
                                          · replace c84 := Bool.eq_false_iff.mpr c84
                                            subst c84
                                            have H1 : (some false) = some r := by rw [if_neg (show ¬ (false = true) by decide)] at H; exact H
                                            clear H
                                            have H := H1
                                            clear H1
                                            obtain rfl := Option.some.inj H
                                            obtain ⟨Ao87, co87, eo87⟩ := Kd.R_slice HO_9.out
                                            subst eo87
                                            have p337 : 0 ≤ (x11_3 : Int) := of_decide_eq_true (by first | (with_reducible assumption) | assumption)
                                            have q337 : x11_3 < (t322.length : Int) := of_decide_eq_true (by first | (with_reducible assumption) | assumption)
                                            obtain ⟨ad337, e337, hx337_0⟩ := Kd.at_bool (Kd.R_reads' HO_9.out).2.2 x11_3 p337 q337
                                            (try rw [← Nbq78.out] at hx337_0)
                                            cases e337
                                            replace p337 := eq_true p337
                                            replace q337 := eq_true q337
                                            have p338 : 0 ≤ (x11_3 : Int) := of_decide_eq_true (by first | (with_reducible assumption) | assumption)
                                            have q338 : x11_3 < (t315.length : Int) := of_decide_eq_true (by first | (with_reducible assumption) | assumption)
                                            obtain ⟨ad338, e338, hx338_0⟩ := Kd.at_int (Kd.R_reads' HO_7.out).2.2 x11_3 p338 q338
                                            cases e338
                                            replace p338 := eq_true p338
                                            replace q338 := eq_true q338
                                            have p339 : 0 ≤ (x11_3 : Int) := of_decide_eq_true (by first | (with_reducible assumption) | assumption)
                                            have q339 : x11_3 < (t315.length : Int) := of_decide_eq_true (by first | (with_reducible assumption) | assumption)
                                            obtain ⟨ad339, e339, hx339_0⟩ := Kd.at_int (Kd.R_reads' HO_7.out).2.2 x11_3 p339 q339
                                            obtain rfl : ad338 = ad339 := (by injection e339)
                                            replace p339 := eq_true p339
                                            replace q339 := eq_true q339
                                            go_wp2_with (first | (go_at_call 37; (with_reducible refine (dom_Dominates.calls _ _ t315 (rd t315 x11_3) x11_3 false _ ?side1 ?side2 A83.out).mono ?_); (case side1 => repeat (first | exact (Kd.R_reads' HO_7.out).2.2 | (with_reducible refine Kd.C_alloc ?_ _) | (with_reducible refine Kd.C_drewN ?_ _) | (with_reducible refine Kd.C_drew ?_))); (case side2 => exact (Kd.R_reads' HO_7.out).2.1); rintro e w88 ⟨rfl, hb⟩; have n0_ := Aside0.mk (Kd.R_below (by (with_reducible repeat (first | apply Kd.R_alloc | apply Kd.R_drewN | apply Kd.R_drew)); exact HO_7.out) hb); have n1_ := Aside0.mk (Kd.R_below (by (with_reducible repeat (first | apply Kd.R_alloc | apply Kd.R_drewN | apply Kd.R_drew)); exact HO_9.out) hb); have n2_ := Aside0.mk (Kd.R_below (by (with_reducible repeat (first | apply Kd.R_alloc | apply Kd.R_drewN | apply Kd.R_drew)); exact HO_10.out) hb); have n3_ := Aside0.mk (below_step (by repeat (first | (with_reducible first | exact HB.out | apply below_alloc | apply pw_below_drewN | apply below_drew1) | exact HB.out)) hb); clear HO_7; clear HO_9; clear HO_10; clear HB; have HO_7 := n0_; have HO_9 := n1_; have HO_10 := n2_; have HB := n3_; clear n0_ n1_ n2_ n3_; (try clear hb); (try clear hb2); (try clear hk); (try clear hi)))
                                            go_ret
                                            exact ⟨by first | rfl | (simp [errW_none, errW_some] <;> rfl) | (simp [*, errW_none, errW_some] <;> rfl), by repeat (first | (with_reducible first | exact HB.out | apply below_alloc | apply pw_below_drewN | apply below_drew1) | exact HB.out)⟩
                                      · rw [if_neg c80] at H
                                        exact absurd H (by simp)
                                    · replace c79 := Bool.eq_false_iff.mpr c79
                                      subst c79
                                      have H1 : (if x11_3 < (t315.length : Int) then (if (rd t315 x11_3) = (-1) then (swagelaw07_DomCloses.l0 kj39 l0 a1 t312 t315 t322 t325 (wrap64 (x11_3 + 1))) else (some false)) else (none)) = some r := by rw [if_neg (show ¬ (false = true) by decide)] at H; exact H
                                      clear H
                                      have H := H1
                                      clear H1
                                      by_cases c89 : x11_3 < (t315.length : Int)
                                      · rw [if_pos c89] at H
                                        have c89b0 : decide (x11_3 < (t315.length : Int)) = true := decide_eq_true c89
                                        clear c89
                                        by_cases c90 : (rd t315 x11_3) = (-1)
                                        · rw [if_pos c90] at H
                                          have c90b0 : ((rd t315 x11_3) == (-1)) = true := beq_iff_eq.mpr c90
                                          have c90b1 : ((rd t315 x11_3) != (-1)) = false := bne_eq_false_iff_eq.mpr c90
                                          clear c90
                                          have H' := Aside0.mk H
                                          clear H
                                          obtain ⟨Ao91, co91, eo91⟩ := Kd.R_slice HO_9.out
                                          subst eo91
                                          have p337 : 0 ≤ (x11_3 : Int) := of_decide_eq_true (by first | (with_reducible assumption) | assumption)
                                          have q337 : x11_3 < (t322.length : Int) := of_decide_eq_true (by first | (with_reducible assumption) | assumption)
                                          obtain ⟨ad337, e337, hx337_0⟩ := Kd.at_bool (Kd.R_reads' HO_9.out).2.2 x11_3 p337 q337
                                          (try rw [← Nbq78.out] at hx337_0)
                                          cases e337
                                          replace p337 := eq_true p337
                                          replace q337 := eq_true q337
                                          have p342 : 0 ≤ (x11_3 : Int) := of_decide_eq_true (by first | (with_reducible assumption) | assumption)
                                          have q342 : x11_3 < (t322.length : Int) := of_decide_eq_true (by first | (with_reducible assumption) | assumption)
                                          obtain ⟨ad342, e342, hx342_0⟩ := Kd.at_bool (Kd.R_reads' HO_9.out).2.2 x11_3 p342 q342
                                          (try rw [← Nbq78.out] at hx342_0)
                                          obtain rfl : ad337 = ad342 := (by injection e342)
                                          replace p342 := eq_true p342
                                          replace q342 := eq_true q342
                                          have p343 : 0 ≤ (x11_3 : Int) := of_decide_eq_true (by first | (with_reducible assumption) | assumption)
                                          have q343 : x11_3 < (t315.length : Int) := of_decide_eq_true (by first | (with_reducible assumption) | assumption)
                                          obtain ⟨ad343, e343, hx343_0⟩ := Kd.at_int (Kd.R_reads' HO_7.out).2.2 x11_3 p343 q343
                                          cases e343
                                          replace p343 := eq_true p343
                                          replace q343 := eq_true q343
                                          go_wp2
                                          go_roundg kj39
                                          case measure => have := HJ4.out; have := HJ21.out; have := HK3.out; have := HJ39.out; omega
                                          case rel => exact ⟨(wrap64 (x11_3 + 1)), (by first | rfl | (simp; done) | (simp [*]; done)), H', ⟨by have := HJ4.out; have := HJ21.out; have := HK3.out; have := HJ39.out; omega⟩, ⟨by (with_reducible repeat (first | apply Kd.R_alloc | apply Kd.R_drewN | apply Kd.R_drew)); exact HO_7.out⟩, ⟨by (with_reducible repeat (first | apply Kd.R_alloc | apply Kd.R_drewN | apply Kd.R_drew)); exact HO_9.out⟩, ⟨by (with_reducible repeat (first | apply Kd.R_alloc | apply Kd.R_drewN | apply Kd.R_drew)); exact HO_10.out⟩, ⟨by repeat (first | (with_reducible first | exact HB.out | apply below_alloc | apply pw_below_drewN | apply below_drew1) | exact HB.out)⟩⟩
                                        · rw [if_neg c90] at H
                                          have c90b0 : ((rd t315 x11_3) == (-1)) = false := beq_eq_false_iff_ne.mpr c90
                                          have c90b1 : ((rd t315 x11_3) != (-1)) = true := bne_iff_ne.mpr c90
                                          obtain rfl := Option.some.inj H
                                          obtain ⟨Ao92, co92, eo92⟩ := Kd.R_slice HO_9.out
                                          subst eo92
                                          have p337 : 0 ≤ (x11_3 : Int) := of_decide_eq_true (by first | (with_reducible assumption) | assumption)
                                          have q337 : x11_3 < (t322.length : Int) := of_decide_eq_true (by first | (with_reducible assumption) | assumption)
                                          obtain ⟨ad337, e337, hx337_0⟩ := Kd.at_bool (Kd.R_reads' HO_9.out).2.2 x11_3 p337 q337
                                          (try rw [← Nbq78.out] at hx337_0)
                                          cases e337
                                          replace p337 := eq_true p337
                                          replace q337 := eq_true q337
                                          have p342 : 0 ≤ (x11_3 : Int) := of_decide_eq_true (by first | (with_reducible assumption) | assumption)
                                          have q342 : x11_3 < (t322.length : Int) := of_decide_eq_true (by first | (with_reducible assumption) | assumption)
                                          obtain ⟨ad342, e342, hx342_0⟩ := Kd.at_bool (Kd.R_reads' HO_9.out).2.2 x11_3 p342 q342
                                          (try rw [← Nbq78.out] at hx342_0)
                                          obtain rfl : ad337 = ad342 := (by injection e342)
                                          replace p342 := eq_true p342
                                          replace q342 := eq_true q342
                                          have p343 : 0 ≤ (x11_3 : Int) := of_decide_eq_true (by first | (with_reducible assumption) | assumption)
                                          have q343 : x11_3 < (t315.length : Int) := of_decide_eq_true (by first | (with_reducible assumption) | assumption)
                                          obtain ⟨ad343, e343, hx343_0⟩ := Kd.at_int (Kd.R_reads' HO_7.out).2.2 x11_3 p343 q343
                                          cases e343
                                          replace p343 := eq_true p343
                                          replace q343 := eq_true q343
                                          go_wp2
                                          go_ret
                                          exact ⟨by first | rfl | (simp [errW_none, errW_some] <;> rfl) | (simp [*, errW_none, errW_some] <;> rfl), by repeat (first | (with_reducible first | exact HB.out | apply below_alloc | apply pw_below_drewN | apply below_drew1) | exact HB.out)⟩
                                      · rw [if_neg c89] at H
                                        exact absurd H (by simp)
                                  · rw [if_neg c77] at H
                                    exact absurd H (by simp)
                                · rw [if_neg c76] at H
                                  exact absurd H (by simp)
                              · rw [if_neg c75] at H
                                have c75b0 : decide (0 < x11_3) = false := decide_eq_false c75
                                clear c75
                                by_cases c93 : 0 ≤ x11_3
                                · rw [if_pos c93] at H
                                  have c93b0 : decide (0 ≤ x11_3) = true := decide_eq_true c93
                                  clear c93
                                  by_cases c94 : x11_3 < (t322.length : Int)
                                  · rw [if_pos c94] at H
                                    have c94b0 : decide (x11_3 < (t322.length : Int)) = true := decide_eq_true c94
                                    clear c94
                                    obtain ⟨bq95, hbq95⟩ : ∃ b_ : Bool, b_ = (rdOf false t322 x11_3) := ⟨_, rfl⟩
                                    replace H : (if bq95 = true then (swagelaw07_DomCloses.l0 kj39 l0 a1 t312 t315 t322 t325 (wrap64 (x11_3 + 1))) else (if x11_3 < (t315.length : Int) then (if (rd t315 x11_3) = (-1) then (swagelaw07_DomCloses.l0 kj39 l0 a1 t312 t315 t322 t325 (wrap64 (x11_3 + 1))) else (some false)) else (none))) = some r := by rw [← hbq95] at H; exact H
                                    have Nbq95 := Aside0.mk hbq95
                                    clear hbq95
                                    by_cases c96 : bq95 = true
                                    · subst c96
                                      have H1 : (swagelaw07_DomCloses.l0 kj39 l0 a1 t312 t315 t322 t325 (wrap64 (x11_3 + 1))) = some r := by rw [if_pos rfl] at H; exact H
                                      clear H
                                      have H := H1
                                      clear H1
                                      have H' := Aside0.mk H
                                      clear H
                                      obtain ⟨Ao97, co97, eo97⟩ := Kd.R_slice HO_9.out
                                      subst eo97
                                      have p344 : 0 ≤ (x11_3 : Int) := of_decide_eq_true (by first | (with_reducible assumption) | assumption)
                                      have q344 : x11_3 < (t322.length : Int) := of_decide_eq_true (by first | (with_reducible assumption) | assumption)
                                      obtain ⟨ad344, e344, hx344_0⟩ := Kd.at_bool (Kd.R_reads' HO_9.out).2.2 x11_3 p344 q344
                                      (try rw [← Nbq95.out] at hx344_0)
                                      cases e344
                                      replace p344 := eq_true p344
                                      replace q344 := eq_true q344
                                      go_wp2
                                      go_roundg kj39
                                      case measure => have := HJ4.out; have := HJ21.out; have := HK3.out; have := HJ39.out; omega
                                      case rel => exact ⟨(wrap64 (x11_3 + 1)), (by first | rfl | (simp; done) | (simp [*]; done)), H', ⟨by have := HJ4.out; have := HJ21.out; have := HK3.out; have := HJ39.out; omega⟩, ⟨by (with_reducible repeat (first | apply Kd.R_alloc | apply Kd.R_drewN | apply Kd.R_drew)); exact HO_7.out⟩, ⟨by (with_reducible repeat (first | apply Kd.R_alloc | apply Kd.R_drewN | apply Kd.R_drew)); exact HO_9.out⟩, ⟨by (with_reducible repeat (first | apply Kd.R_alloc | apply Kd.R_drewN | apply Kd.R_drew)); exact HO_10.out⟩, ⟨by repeat (first | (with_reducible first | exact HB.out | apply below_alloc | apply pw_below_drewN | apply below_drew1) | exact HB.out)⟩⟩
                                    · replace c96 := Bool.eq_false_iff.mpr c96
                                      subst c96
                                      have H1 : (if x11_3 < (t315.length : Int) then (if (rd t315 x11_3) = (-1) then (swagelaw07_DomCloses.l0 kj39 l0 a1 t312 t315 t322 t325 (wrap64 (x11_3 + 1))) else (some false)) else (none)) = some r := by rw [if_neg (show ¬ (false = true) by decide)] at H; exact H
                                      clear H
                                      have H := H1
                                      clear H1
                                      by_cases c98 : x11_3 < (t315.length : Int)
                                      · rw [if_pos c98] at H
                                        have c98b0 : decide (x11_3 < (t315.length : Int)) = true := decide_eq_true c98
                                        clear c98
                                        by_cases c99 : (rd t315 x11_3) = (-1)
                                        · rw [if_pos c99] at H
                                          have c99b0 : ((rd t315 x11_3) == (-1)) = true := beq_iff_eq.mpr c99
                                          have c99b1 : ((rd t315 x11_3) != (-1)) = false := bne_eq_false_iff_eq.mpr c99
                                          clear c99
                                          have H' := Aside0.mk H
                                          clear H
                                          obtain ⟨Ao100, co100, eo100⟩ := Kd.R_slice HO_9.out
                                          subst eo100
                                          have p344 : 0 ≤ (x11_3 : Int) := of_decide_eq_true (by first | (with_reducible assumption) | assumption)
                                          have q344 : x11_3 < (t322.length : Int) := of_decide_eq_true (by first | (with_reducible assumption) | assumption)
                                          obtain ⟨ad344, e344, hx344_0⟩ := Kd.at_bool (Kd.R_reads' HO_9.out).2.2 x11_3 p344 q344
                                          (try rw [← Nbq95.out] at hx344_0)
                                          cases e344
                                          replace p344 := eq_true p344
                                          replace q344 := eq_true q344
                                          have p345 : 0 ≤ (x11_3 : Int) := of_decide_eq_true (by first | (with_reducible assumption) | assumption)
                                          have q345 : x11_3 < (t315.length : Int) := of_decide_eq_true (by first | (with_reducible assumption) | assumption)
                                          obtain ⟨ad345, e345, hx345_0⟩ := Kd.at_int (Kd.R_reads' HO_7.out).2.2 x11_3 p345 q345
                                          cases e345
                                          replace p345 := eq_true p345
                                          replace q345 := eq_true q345
                                          go_wp2
                                          go_roundg kj39
                                          case measure => have := HJ4.out; have := HJ21.out; have := HK3.out; have := HJ39.out; omega
                                          case rel => exact ⟨(wrap64 (x11_3 + 1)), (by first | rfl | (simp; done) | (simp [*]; done)), H', ⟨by have := HJ4.out; have := HJ21.out; have := HK3.out; have := HJ39.out; omega⟩, ⟨by (with_reducible repeat (first | apply Kd.R_alloc | apply Kd.R_drewN | apply Kd.R_drew)); exact HO_7.out⟩, ⟨by (with_reducible repeat (first | apply Kd.R_alloc | apply Kd.R_drewN | apply Kd.R_drew)); exact HO_9.out⟩, ⟨by (with_reducible repeat (first | apply Kd.R_alloc | apply Kd.R_drewN | apply Kd.R_drew)); exact HO_10.out⟩, ⟨by repeat (first | (with_reducible first | exact HB.out | apply below_alloc | apply pw_below_drewN | apply below_drew1) | exact HB.out)⟩⟩
                                        · rw [if_neg c99] at H
                                          have c99b0 : ((rd t315 x11_3) == (-1)) = false := beq_eq_false_iff_ne.mpr c99
                                          have c99b1 : ((rd t315 x11_3) != (-1)) = true := bne_iff_ne.mpr c99
                                          obtain rfl := Option.some.inj H
                                          obtain ⟨Ao101, co101, eo101⟩ := Kd.R_slice HO_9.out
                                          subst eo101
                                          have p344 : 0 ≤ (x11_3 : Int) := of_decide_eq_true (by first | (with_reducible assumption) | assumption)
                                          have q344 : x11_3 < (t322.length : Int) := of_decide_eq_true (by first | (with_reducible assumption) | assumption)
                                          obtain ⟨ad344, e344, hx344_0⟩ := Kd.at_bool (Kd.R_reads' HO_9.out).2.2 x11_3 p344 q344
                                          (try rw [← Nbq95.out] at hx344_0)
                                          cases e344
                                          replace p344 := eq_true p344
                                          replace q344 := eq_true q344
                                          have p345 : 0 ≤ (x11_3 : Int) := of_decide_eq_true (by first | (with_reducible assumption) | assumption)
                                          have q345 : x11_3 < (t315.length : Int) := of_decide_eq_true (by first | (with_reducible assumption) | assumption)
                                          obtain ⟨ad345, e345, hx345_0⟩ := Kd.at_int (Kd.R_reads' HO_7.out).2.2 x11_3 p345 q345
                                          cases e345
                                          replace p345 := eq_true p345
                                          replace q345 := eq_true q345
                                          go_wp2
                                          go_ret
                                          exact ⟨by first | rfl | (simp [errW_none, errW_some] <;> rfl) | (simp [*, errW_none, errW_some] <;> rfl), by repeat (first | (with_reducible first | exact HB.out | apply below_alloc | apply pw_below_drewN | apply below_drew1) | exact HB.out)⟩
                                      · rw [if_neg c98] at H
                                        exact absurd H (by simp)
                                  · rw [if_neg c94] at H
                                    exact absurd H (by simp)
                                · rw [if_neg c93] at H
                                  exact absurd H (by simp)
                      · rw [if_neg c38] at H
                        have c38b0 : decide (x11_3 < (l0.length : Int)) = false := decide_eq_false c38
                        clear c38
                        by_cases c102 : t312 = true
                        · subst c102
                          have H1 : (if 0 < (t315.length : Int) then (some ((rd t315 0) == (-1))) else (none)) = some r := by rw [if_pos rfl] at H; exact H
                          clear H
                          have H := H1
                          clear H1
                          by_cases c103 : 0 < (t315.length : Int)
                          · rw [if_pos c103] at H
                            have c103b0 : decide (0 < (t315.length : Int)) = true := decide_eq_true c103
                            have c103b1 : decide (0 < t315.length) = true := decide_eq_true (by omega)
                            clear c103
                            obtain rfl := Option.some.inj H
                            obtain ⟨Ao104, co104, eo104⟩ := Kd.R_slice HO_7.out
                            subst eo104
                            have p328 : 0 ≤ (0 : Int) := (by omega)
                            have q328 : 0 < (t315.length : Int) := of_decide_eq_true (by first | (with_reducible assumption) | assumption)
                            obtain ⟨ad328, e328, hx328_0⟩ := Kd.at_int (Kd.R_reads' HO_7.out).2.2 0 p328 q328
                            cases e328
                            have qi328 : (0 < t315.length) = True := eq_true (by omega)
                            (try rw [show ((0 : Int)).toNat = 0 from rfl] at hx328_0)
                            (try rw [Addr.add_zero'] at hx328_0)
                            replace p328 := eq_true p328
                            replace q328 := eq_true q328
                            go_wp2
                            go_ret
                            exact ⟨by first | rfl | (simp [errW_none, errW_some] <;> rfl) | (simp [*, errW_none, errW_some] <;> rfl), by repeat (first | (with_reducible first | exact HB.out | apply below_alloc | apply pw_below_drewN | apply below_drew1) | exact HB.out)⟩
                          · rw [if_neg c103] at H
                            exact absurd H (by simp)
                        · replace c102 := Bool.eq_false_iff.mpr c102
                          subst c102
                          have H1 : (some false) = some r := by rw [if_neg (show ¬ (false = true) by decide)] at H; exact H
                          clear H
                          have H := H1
                          clear H1
                          obtain rfl := Option.some.inj H
                          go_wp2
                          go_ret
                          exact ⟨by first | rfl | (simp [errW_none, errW_some] <;> rfl) | (simp [*, errW_none, errW_some] <;> rfl), by repeat (first | (with_reducible first | exact HB.out | apply below_alloc | apply pw_below_drewN | apply below_drew1) | exact HB.out)⟩
          · rw [if_neg c18] at H
            exact absurd H (by simp)
        · rw [if_neg c17] at H
          exact absurd H (by simp)

end Go.Proofs.Ytkmbhknmjnbanaa.A


namespace Go.Proofs.Ytkmbhknmjnbanaa.A
open Go.RowKit Go.Proofs.YtkmbhknmjnbanaaW.PrintWords Go.Proofs.YtkmbhknmjnbanaaW.PrintLast Go.Shelf
set_option linter.unusedVariables false
set_option linter.unusedSimpArgs false

theorem few7_ev2 (g : List (List Int)) : ∃ r, Evt (fun k => swagelaw07_Few.f k g) r ∧ (r = true → g.length ≤ 24) := by
  obtain ⟨r, hf, hr⟩ := few_ev g
  cases r with
  | false => exact ⟨false, by unfold swagelaw07_Few.f; exact Evt.bind hf (Evt.const rfl), by simp⟩
  | true => exact ⟨decide ((g.length : Int) ≤ 24), by unfold swagelaw07_Few.f; exact Evt.bind hf (Evt.const rfl), fun h => by have := of_decide_eq_true h; omega⟩
theorem right_cut {g : List (List Int)} (hr : rightB g = true) (a : Nat) : rightB (g.set a []) = true := by
  unfold rightB at hr ⊢
  rw [List.length_set]
  simp only [Bool.and_eq_true, Bool.not_eq_true', List.any_eq_false] at hr ⊢
  refine ⟨hr.1, fun l hl => ?_⟩
  rcases List.mem_or_eq_of_mem_set hl with h | h
  · exact hr.2 l h
  · subst h; simp [badL]
theorem row_cut {g : List (List Int)} {a : Nat} (b : Nat) : rowOf (g.set a []) b = if b = a then [] else rowOf g b := by
  unfold rowOf
  rw [List.getD_eq_getElem?_getD, List.getD_eq_getElem?_getD, List.getElem?_set]
  by_cases e : a = b
  · subst e
    rw [if_pos rfl, if_pos rfl]
    split <;> rfl
  · rw [if_neg e, if_neg (fun h => e h.symm)]
theorem way_cut {g : List (List Int)} {a v : Nat} (ha : a ≠ 0) (hv : v ≠ a) : Way (g.set a []) 0 v ↔ ∃ k, AWN g a k v := by
  constructor
  · intro h
    have H : v = a ∨ ∃ k, AWN g a k v := by
      clear hv
      induction h with
      | refl => exact .inr ⟨0, .zero ha⟩
      | @step b c h e ih =>
        unfold Edge at e
        rw [row_cut] at e
        by_cases hb : b = a
        · rw [if_pos hb] at e; simp at e
        · rw [if_neg hb] at e
          rcases ih with ih | ⟨k, ih⟩
          · exact absurd ih hb
          · by_cases hc : c = a
            · exact .inl hc
            · exact .inr ⟨k + 1, ih.step e hc⟩
    exact H.resolve_left hv
  · rintro ⟨k, h⟩
    clear hv
    induction h with
    | zero _ => exact .refl _
    | @step k v w h e hn ih =>
      refine ih.step ?_
      unfold Edge
      rw [row_cut, if_neg h.ne]
      exact e
section
variable {g : List (List Int)} {D : List Int} {mk st : List Bool} {a : Nat}
theorem dc_l0 (hr : rightB g = true) (hn : g.length ≤ 24) (hD : DRow g D) (ha0 : a ≠ 0) (ha : a < g.length) (hml : mk.length = g.length) (hm : ∀ i, i < g.length → (rdOf false mk (i : Int) = true ↔ Way g 0 i)) (hsl : st.length = g.length) (hs : ∀ i, i < g.length → (rdOf false st (i : Int) = true ↔ Way (g.set a []) 0 i)) :
    ∀ (d i : Nat), i + d = g.length → Evt (fun k => swagelaw07_DomCloses.l0 k g a true D mk st i) true := by
  obtain ⟨h1, h2, hg⟩ := right_rows hr
  have hl := hD.len
  intro d
  induction d with
  | zero =>
    intro i hi
    refine Evt.step (Evt.const rfl) fun k => ?_
    rw [swagelaw07_DomCloses.l0, if_neg (by omega), if_pos rfl, if_pos (by omega), show (0 : Int) = ((0 : Nat) : Int) from rfl, rdN, hD.root]
    rfl
  | succ d ih =>
    intro i hi
    have hi' : i < g.length := by omega
    have ih := ih (i + 1) (by omega)
    have hj3 : Evt (fun k => swagelaw07_DomCloses.j3 k g a true D mk st i false) true := by
      by_cases hw : Way g 0 i
      · have hmi := (hm i hi').2 hw
        by_cases h0 : i = 0
        · subst h0
          refine Evt.step ih fun k => ?_
          rw [swagelaw07_DomCloses.j3, if_neg (by simp), if_neg (by omega), if_pos (by omega), if_pos (by omega), if_pos hmi, wsucc (by omega)]
        · obtain ⟨b, eb, ib⟩ := hD.yes i hw h0
          have hb := reach_lt hr ib.way
          have hd : domB D (b : Int) (i : Int) = true := (dom_iff hr hD hb hi').2 ⟨ib.way, hw, ib.dom⟩
          refine Evt.step ih fun k => ?_
          rw [swagelaw07_DomCloses.j3, if_neg (by simp), if_pos (by omega), if_pos (by omega), if_pos (by omega), if_pos hmi, if_pos (by omega), rdN, eb, if_neg (by omega)]
          unfold dom_Dominates.f
          rw [if_pos (by omega), Option.bind_some, if_pos hd, wsucc (by omega)]
      · have hmi : ¬ rdOf false mk (i : Int) = true := fun h => hw ((hm i hi').1 h)
        have h0 : i ≠ 0 := fun e => hw (by rw [e]; exact .refl 0)
        refine Evt.step ih fun k => ?_
        rw [swagelaw07_DomCloses.j3, if_neg (by simp), if_pos (by omega), if_pos (by omega), if_pos (by omega), if_neg hmi, if_pos (by omega), rdN, hD.no i hi' hw, if_pos rfl, wsucc (by omega)]
    have hdo := dom_iff hr hD ha hi'
    by_cases hd : domB D (a : Int) (i : Int) = true
    · obtain ⟨hwa, hwi, hdd⟩ := hdo.1 hd
      have hmi := (hm i hi').2 hwi
      have hma := (hm a ha).2 hwa
      by_cases e : i = a
      · refine Evt.step hj3 fun k => ?_
        rw [swagelaw07_DomCloses.l0, if_pos (by omega)]
        unfold dom_Dominates.f
        rw [if_pos (by omega), Option.bind_some, if_pos hd, if_pos (by omega), if_pos (by omega), if_pos hmi, if_pos (by omega), if_pos (by omega), if_pos hma, if_pos (by omega)]
      · have hst : rdOf false st (i : Int) = false := by
          have : ¬ rdOf false st (i : Int) = true := fun h => by
            obtain ⟨k, hk⟩ := (way_cut ha0 e).1 ((hs i hi').1 h)
            exact hdd k hk
          simpa using this
        refine Evt.step hj3 fun k => ?_
        rw [swagelaw07_DomCloses.l0, if_pos (by omega)]
        unfold dom_Dominates.f
        rw [if_pos (by omega), Option.bind_some, if_pos hd, if_pos (by omega), if_pos (by omega), if_pos hmi, if_pos (by omega), if_pos (by omega), if_pos hma, if_neg (by omega), if_pos (by omega), hd, hst]
        rfl
    · by_cases hwa : Way g 0 a
      · have hma := (hm a ha).2 hwa
        by_cases hwi : Way g 0 i
        · have hmi := (hm i hi').2 hwi
          by_cases e : i = a
          · exact absurd (hdo.2 ⟨hwa, hwi, by rw [e]; exact Dom.self g a⟩) hd
          · have hst : rdOf false st (i : Int) = true := (hs i hi').2 ((way_cut ha0 e).2 (Classical.byContradiction fun hno => hd (hdo.2 ⟨hwa, hwi, fun k hk => hno ⟨k, hk⟩⟩)))
            have hdf : domB D (a : Int) (i : Int) = false := by simpa using hd
            refine Evt.step hj3 fun k => ?_
            rw [swagelaw07_DomCloses.l0, if_pos (by omega)]
            unfold dom_Dominates.f
            rw [if_pos (by omega), Option.bind_some, if_neg hd, if_pos (by omega), if_pos (by omega), if_pos hma, if_pos (by omega), if_pos (by omega), if_pos hmi, if_neg (by omega), if_pos (by omega), hdf, hst]
            rfl
        · have hmi : ¬ rdOf false mk (i : Int) = true := fun h => hwi ((hm i hi').1 h)
          refine Evt.step hj3 fun k => ?_
          rw [swagelaw07_DomCloses.l0, if_pos (by omega)]
          unfold dom_Dominates.f
          rw [if_pos (by omega), Option.bind_some, if_neg hd, if_pos (by omega), if_pos (by omega), if_pos hma, if_pos (by omega), if_pos (by omega), if_neg hmi]
      · have hma : ¬ rdOf false mk (a : Int) = true := fun h => hwa ((hm a ha).1 h)
        refine Evt.step hj3 fun k => ?_
        rw [swagelaw07_DomCloses.l0, if_pos (by omega)]
        unfold dom_Dominates.f
        rw [if_pos (by omega), Option.bind_some, if_neg hd, if_pos (by omega), if_pos (by omega), if_neg hma]
end
theorem dcloses_pure (g : List (List Int)) (a : Int) : ∃ k, swagelaw07_DomCloses.f k g a = some true := by
  obtain ⟨r, hf, hr⟩ := few7_ev2 g
  suffices H : Evt (fun k => swagelaw07_DomCloses.f k g a) true from H.get
  unfold swagelaw07_DomCloses.f swagelaw07_small.f
  simp only [Option.bind_some]
  have hno : Evt (fun k => swagelaw07_DomCloses.j0 k g a true true) true := Evt.step (Evt.const rfl) fun k => by rw [swagelaw07_DomCloses.j0, if_pos rfl]
  refine Evt.bind hf ?_
  cases r with
  | false => exact Evt.congr hno fun k => by rw [if_neg (by simp)]
  | true =>
    have hn : g.length ≤ 24 := hr rfl
    simp only [if_true]
    unfold graph_Right.f
    simp only [Option.bind_some]
    cases hrt : rightB g with
    | false => exact Evt.congr hno fun k => by rw [if_neg (by simp)]
    | true =>
      simp only [if_true]
      by_cases ha1 : a < 1
      · exact Evt.congr hno fun k => by rw [if_pos ha1]
      · by_cases ha2 : a ≥ (g.length : Int)
        · exact Evt.congr hno fun k => by rw [if_neg ha1, decide_eq_true ha2]
        · obtain ⟨n, rfl⟩ := Int.eq_ofNat_of_zero_le (show 0 ≤ a by omega)
          obtain ⟨e1, e2, hg⟩ := right_rows hrt
          obtain ⟨D, hid, hD⟩ := drow_ev hrt
          have hDl := hD.len
          have hrc := right_cut hrt n
          obtain ⟨_, _, hgc⟩ := right_rows hrc
          have hcl : (g.set n []).length = g.length := List.length_set
          have hcp := copy_ev g (by omega) (fun l hl => by have := right_8 hrt l hl; omega)
          have hml : (marks g.length (walkOf g 0)).length = g.length := marks_len _ _
          have hm : ∀ i, i < g.length → (rdOf false (marks g.length (walkOf g 0)) (i : Int) = true ↔ Way g 0 i) := fun i hi => (mk_rd (by omega)).trans ((mk_marks hi).trans (walk_mem hg (by omega) i))
          have hsl : (marks g.length (walkOf (g.set n []) 0)).length = g.length := marks_len _ _
          have hs : ∀ i, i < g.length → (rdOf false (marks g.length (walkOf (g.set n []) 0)) (i : Int) = true ↔ Way (g.set n []) 0 i) := fun i hi => (mk_rd (by omega)).trans ((mk_marks hi).trans (walk_mem hgc (by omega) i))
          have er : reachRes g 0 = marks g.length (walkOf g 0) := by unfold reachRes; rw [if_pos ⟨hrt, by omega, by omega⟩]; rfl
          have es : reachRes (g.set n []) 0 = marks g.length (walkOf (g.set n []) 0) := by unfold reachRes; rw [if_pos ⟨hrc, by omega, by omega⟩, hcl]; rfl
          have h0 := dc_l0 hrt hn hD (a := n) (by omega) (by omega) hml hm hsl hs g.length 0 (by omega)
          have hj1 : Evt (fun k => swagelaw07_DomCloses.j1 k g n true D (marks g.length (walkOf g 0)) (marks g.length (walkOf (g.set n []) 0)) false) true :=
            Evt.step h0 fun k => by rw [swagelaw07_DomCloses.j1, if_neg (by simp)]; rfl
          refine Evt.step (g := fun k => (dom_Idom.f k g).bind fun t315 => ((swageref06_Copy.f k g).bind fun t318 => (if 0 ≤ (n : Int) then (if (n : Int) < (t318.length : Int) then ((graph_Reach.f g 0).bind fun t322 => ((graph_Reach.f (t318.set (n : Int).toNat ([] : List Int)) 0).bind fun t325 => (if (t322.length : Int) = (g.length : Int) then (if (t325.length : Int) = (g.length : Int) then (swagelaw07_DomCloses.j1 k g n true t315 t322 t325 ((t315.length : Int) != (g.length : Int))) else (swagelaw07_DomCloses.j1 k g n true t315 t322 t325 true)) else (swagelaw07_DomCloses.j1 k g n true t315 t322 t325 true)))) else (none)) else (none))))
            (Evt.bind hid (Evt.bind hcp ?_)) fun k => by rw [if_neg ha1, decide_eq_false ha2, swagelaw07_DomCloses.j0, if_neg (by simp)]
          unfold graph_Reach.f
          simp only [Option.bind_some, Int.toNat_natCast, er, es]
          refine Evt.congr hj1 fun k => ?_
          rw [if_pos (by omega), if_pos (by omega), if_pos (by omega), if_pos (by omega), hDl]
          simp
theorem law_dcloses (A : Option Addr) (c : Nat) (g : List (List Int)) (a : Int) (w : World) (hC : Kd.C (Kd.slice 3 (Kd.int .i64)) w A g.length g) (hc : g.length ≤ c) (hp : ∀ x ∈ g, ∀ y ∈ x, (Lit.int .i64 y).wf = true) (ha : (Lit.int .i64 a).wf = true) :
    Calls Try.prog 11 #[.slice A g.length c, .int .i64 a] w fun e w' => e = .returned (.bool true) ∧ Below w.heap.size w w' := by
  obtain ⟨k, hk⟩ := dcloses_pure g a
  exact swagelaw07_DomCloses.calls k A c g a true w hC hc hk
end Go.Proofs.Ytkmbhknmjnbanaa.A


namespace Go.Proofs.Ytkmbhknmjnbanaa.A
open Go.Deep Go.RowKit Go.Proofs.YtkmbhknmjnbanaaW.PrintWords Go.Proofs.YtkmbhknmjnbanaaW.PrintLast
set_option linter.unusedVariables false
set_option linter.unusedSimpArgs false

section
variable {H : Type} {enc : TypeId × Value → H} {P : Program} {w : World} {base : Nat} {α : Type} [Inhabited α]

def Opens (enc : TypeId × Value → H) (P : Program) (w : World) (base : Nat) (t : TypeId) (d : Kd α) (p : α → Prop) : Prop :=
  ∀ fuel cs x, DataW.trod enc P w base (fun _ => true) true fuel t cs = some x → ∃ y, d.K w y cs ∧ p y

theorem opens_int {t : TypeId} {k : IntKind} (ht : P.underlying t = some (.int k)) : Opens enc P w base t (Kd.int k) (fun n => (Lit.int k n).wf = true) := by
  intro fuel cs x h
  obtain ⟨n, rfl, _, hw⟩ := DataW.trod_int ht h
  exact ⟨n, rfl, hw⟩

theorem opens_slice {t e : TypeId} {d : Kd α} {p : α → Prop} (ht : P.underlying t = some (.slice e)) (hc : P.cellsOf e = d.sz) (ho : Opens enc P w base e d p) : Opens enc P w base t (Kd.slice e d) (fun xs => ∀ x ∈ xs, p x) := by
  intro fuel cs x h
  rcases open_slice ht h with ⟨rfl, _⟩ | ⟨a, len, cap, m, n, D, Pl, rfl, hb, hl, hm, hmm, _, hx⟩
  · exact ⟨[], ⟨none, 0, rfl, Nat.le_refl _, rfl, by simp, fun h => by simp at h⟩, fun x hx => by simp at hx⟩
  · simp only [if_true] at hmm
    obtain ⟨Y, hY⟩ := choose_lt (α := α) (n := len) (p := fun i y => p y ∧ ∃ c, d.K w y c ∧ ∀ j u, c[j]? = some u → w.cell? (a.add (i * d.sz + j)) = some u) (fun i hi => by
      obtain ⟨cs', h1, h2⟩ := hx i (by omega)
      obtain ⟨y, hy, hp⟩ := ho _ _ _ h2
      obtain ⟨_, hlen, hcell⟩ := World.cells?_some h1
      refine ⟨y, hp, cs', hy, fun j u hj => ?_⟩
      have hj' : j < cs'.length := (List.getElem?_eq_some_iff.1 hj).1
      have := hcell j (by omega)
      rw [hj, hc] at this
      rwa [Addr.add_add] at this)
    have hlen : ((List.range len).map Y).length = len := by simp
    refine ⟨(List.range len).map Y, ⟨some a, cap, by rw [hlen], by rw [hlen]; exact hl, hlen.trans hlen.symm, by rw [hlen]; unfold maxLen at hm; omega, fun _ => ⟨a, rfl, fun j y hj => ?_⟩⟩, fun y hy => ?_⟩
    · have hjl : j < len := by have := (List.getElem?_eq_some_iff.1 hj).1; omega
      rw [List.getElem?_map, List.getElem?_range hjl] at hj
      obtain rfl := Option.some.inj hj
      obtain ⟨_, c, hk, hcell⟩ := hY j hjl
      exact ⟨c, d.K_len hk, hk, hcell⟩
    · obtain ⟨i, hi, rfl⟩ := List.mem_map.1 hy
      exact (hY i (List.mem_range.1 hi)).1
omit [Inhabited α] in
/-- of a parameter: a slice -/
theorem opens_param {t e : TypeId} {d : Kd α} {p : List α → Prop} (ho : Opens enc P w base t (Kd.slice e d) p) {A : Option Addr} {len cap : Nat} {x : DataW H} {ps : List MemPlace} (h : DataW.Trod enc P w base (fun _ => true) true t (.slice A len cap) x ps) :
    ∃ xs : List α, len = xs.length ∧ xs.length ≤ cap ∧ d.C w A xs.length xs ∧ p xs := by
  obtain ⟨fuel, hf⟩ := h
  obtain ⟨xs, ⟨A', c', he, hl, hC⟩, hp⟩ := ho _ _ _ hf
  simp [Value.cells] at he
  obtain ⟨rfl, rfl, rfl⟩ := he
  exact ⟨xs, rfl, hl, hC, hp⟩
end

theorem opens_graph {H : Type} {enc : TypeId × Value → H} {w : World} {base : Nat} : Opens enc Try.prog w base 22 (Kd.slice 27 (Kd.slice 3 (Kd.int .i64))) (fun xs => ∀ x ∈ xs, ∀ y ∈ x, (Lit.int .i64 y).wf = true) :=
  opens_slice Try.underlying22 (by kernel_rfl) (opens_slice Try.underlying27 (by kernel_rfl) (opens_int Try.underlying3))
end Go.Proofs.Ytkmbhknmjnbanaa.A

