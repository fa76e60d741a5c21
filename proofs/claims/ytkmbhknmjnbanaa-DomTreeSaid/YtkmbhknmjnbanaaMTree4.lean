/- Parts of the proof, in the order in which they rest on one another. -/
import Derived.Test.YtkmbhknmjnbanaaMTree3
import Derived.Below
import Derived.Deep.Draws
import Derived.Deep.AppendLies
import Derived.Maps.AppendAt
import Derived.OwnWalk
import Derived.Laws.BytesArg
import Derived.Laws.MakeOwn
import Derived.Laws.OwnMore
import Derived.Deep.OwnRows
import Derived.Tactics
import Derived.Lib.ConvBytes
import Derived.Laws.Slices
import Derived.WalkKit
import Derived.KernelRfl
import Derived.RowKit3
import Derived.Deep.LoopGhost
import Derived.Deep.QuietTactic
import Derived.BigQuiet
import Derived.WideLaws
import Derived.Deep.DeepCutAuto
import Derived.Deep.CutBlock
import Derived.Deep.RegionHeld3
import Derived.Laws.Rows
import Derived.Lib.AppendStr
import Derived.ArgAppend
import Derived.Laws.IdiomCopy
import Derived.RowKit
import Derived.OrdersHeld
import Derived.Laws.BitsLemmas
import Derived.Laws.StructEq
import Derived.Test.YtkmbhknmjnbanaaProg
import Derived.Shelf.Abstract
import Derived.Lib.Walk
import Derived.RangeFuncWrites
import Derived.RangeFuncNested
import Derived.RangeFuncBound
import Derived.RangeFuncCalls
import Derived.RangeFuncLeaves
import Derived.Shelf.RegionOpen
import Derived.OwnWalkIn
import Derived.TacticsInMore
import Derived.LoopNIn
import Derived.LoopIn
import Derived.Laws.EntriesVeiled
import Derived.RangeFuncBox
import Derived.Laws.CopyOwn
import Derived.Deep.RegionLaw
import Derived.BigRegion
import Derived.WalkSpells
import Derived.Shelf.SlIterI.Nil
import Derived.Shelf.SortM.Plain
import Derived.Shelf.SortM.SortNone
import Derived.Ground.GgzProg
import Derived.Ground.SlgmProg
import Derived.Shelf.SlGeneric
import Derived.Maps.Own
import Derived.Maps.OwnOps
import Derived.Maps.OwnSet
import Derived.Maps.Views
import Derived.RangeFuncRecord
import Derived.Deep.RegionLawGrows
import Derived.Deep.Upon
import Derived.Maps.OwnRows
import Derived.Maps.GroupsBeside
import Derived.Deep.RegionWith
import Derived.Deep.CutRange
import Derived.Maps.OwnIn
import Derived.Lib.SliceRun
import Derived.Outline
import Derived.OpenShut
import Derived.Deep.Slices
import Derived.ChangeArms
namespace Go.Proofs.Ytkmbhknmjnbanaa.A
open Go.RowKit Go.Proofs.YtkmbhknmjnbanaaW.PrintWords Go.Proofs.YtkmbhknmjnbanaaW.PrintLast Go.Proofs.YtkmbhknmjnbanaaW.PrintMore
attribute [local go_sem] max2_int min2_int max_two min_two max_three min_three max_four min_four   -- for this text's walks alone
set_option linter.unusedVariables false
set_option linter.unusedSimpArgs false

mutual
def swagelaw07_DomTree.j0 : Nat → List (List Int) → Bool → Bool → Option (Bool)
  | 0, _, _, _ => none
  | k + 1, x0, x3, x22 => if x22 = true then (some x3) else ((dom_Idom.f k x0).bind fun t349 => ((dom_Kids.f k t349).bind fun t352 => ((dom_Depth.f t349).bind fun t355 => ((graph_Reach.f x0 0).bind fun t358 => (if (t349.length : Int) = (x0.length : Int) then (if (t352.length : Int) = (x0.length : Int) then (if (t355.length : Int) = (x0.length : Int) then (swagelaw07_DomTree.j1 k x0 x3 t349 t352 t355 t358 ((t358.length : Int) != (x0.length : Int))) else (swagelaw07_DomTree.j1 k x0 x3 t349 t352 t355 t358 true)) else (swagelaw07_DomTree.j1 k x0 x3 t349 t352 t355 t358 true)) else (swagelaw07_DomTree.j1 k x0 x3 t349 t352 t355 t358 true))))))
def swagelaw07_DomTree.j1 : Nat → List (List Int) → Bool → List Int → List (List Int) → List Int → List Bool → Bool → Option (Bool)
  | 0, _, _, _, _, _, _, _ => none
  | k + 1, x0, x3, x5, x6, x7, x8, x57 => if x57 = true then (some false) else (swagelaw07_DomTree.l0 k x0 x3 x5 x6 x7 x8 0 0)
def swagelaw07_DomTree.l0 : Nat → List (List Int) → Bool → List Int → List (List Int) → List Int → List Bool → Int → Int → Option (Bool)
  | 0, _, _, _, _, _, _, _, _ => none
  | k + 1, x0, x3, x5, x6, x7, x8, x9, x10 => if x10 < (x0.length : Int) then (if 0 ≤ x10 then (if x10 < (x6.length : Int) then (swagelaw07_DomTree.l1 k x0 x3 x5 x6 x7 x8 (wrap64 (x9 + ((rd_L1 x6 x10).length : Int))) x10 0) else (none)) else (none)) else (if x3 = true then (if x9 = (-1) then (if 0 < (x7.length : Int) then (some ((rd x7 0) == 0)) else (none)) else (some false)) else (some false))
def swagelaw07_DomTree.l1 : Nat → List (List Int) → Bool → List Int → List (List Int) → List Int → List Bool → Int → Int → Int → Option (Bool)
  | 0, _, _, _, _, _, _, _, _, _ => none
  | k + 1, x0, x3, x5, x6, x7, x8, x9, x10, x11 => if 0 ≤ x10 then (if x10 < (x6.length : Int) then (if x11 < ((rd_L1 x6 x10).length : Int) then (if 0 ≤ x11 then (if (rd (rd_L1 x6 x10) x11) < 1 then (some false) else (if (rd (rd_L1 x6 x10) x11) ≥ (x0.length : Int) then (some false) else (if 0 ≤ (rd (rd_L1 x6 x10) x11) then (if (rd (rd_L1 x6 x10) x11) < (x5.length : Int) then (if (rd x5 (rd (rd_L1 x6 x10) x11)) = x10 then (if (rd (rd_L1 x6 x10) x11) < (x7.length : Int) then (if x10 < (x7.length : Int) then (if (rd x7 (rd (rd_L1 x6 x10) x11)) = (wrap64 ((rd x7 x10) + 1)) then (swagelaw07_DomTree.l1 k x0 x3 x5 x6 x7 x8 x9 x10 (wrap64 (x11 + 1))) else (some false)) else (none)) else (none)) else (some false)) else (none)) else (none)))) else (none)) else (if x10 < (x8.length : Int) then (if x10 < (x7.length : Int) then (if ((rdOf false x8 x10) != (decide ((rd x7 x10) ≥ 0))) = true then (some false) else (if rdOf false x8 x10 = true then (swagelaw07_DomTree.l0 k x0 x3 x5 x6 x7 x8 (wrap64 (x9 - 1)) (wrap64 (x10 + 1))) else (swagelaw07_DomTree.l0 k x0 x3 x5 x6 x7 x8 x9 (wrap64 (x10 + 1))))) else (none)) else (none))) else (none)) else (none)
end
def swagelaw07_DomTree.f (k : Nat) (l0 : List (List Int)) : Option (Bool) := (swagelaw07_small.f).bind fun t346 => ((swagelaw07_Few.f k l0).bind fun t347 => (if t347 = true then ((graph_Right.f l0).bind fun t348 => (swagelaw07_DomTree.j0 k l0 t346 (!t348))) else (swagelaw07_DomTree.j0 k l0 t346 true)))
set_option maxHeartbeats 8000000 in
set_option maxRecDepth 100000 in
theorem swagelaw07_DomTree.calls (k : Nat) (A0 : Option Addr) (c0 : Nat) (l0 : List (List Int)) (r : Bool) (w : World) (hr0 : Kd.C (Kd.slice 3 (Kd.int .i64)) w A0 l0.length l0) (hc0 : l0.length ≤ c0) (h : swagelaw07_DomTree.f k l0 = some r) :
    Calls Try.prog 12 #[.slice A0 l0.length c0] w fun e w' => e = .returned (.bool r) ∧ Below w.heap.size w w' := by
  have HR0 := Aside0.mk hr0
  have HC0 := Aside0.mk hc0
  clear hr0 hc0
  have HB := Aside0.mk (Below.refl w.heap.size w)
  have H : ((swagelaw07_small.f).bind fun t346 => ((swagelaw07_Few.f k l0).bind fun t347 => (if t347 = true then ((graph_Right.f l0).bind fun t348 => (swagelaw07_DomTree.j0 k l0 t346 (!t348))) else (swagelaw07_DomTree.j0 k l0 t346 true)))) = some r := h
  clear h
  replace H := Option.bind_eq_some_iff.mp H
  obtain ⟨t346, A20, H⟩ := H
  replace H : ((swagelaw07_Few.f k l0).bind fun t347 => (if t347 = true then ((graph_Right.f l0).bind fun t348 => (swagelaw07_DomTree.j0 k l0 t346 (!t348))) else (swagelaw07_DomTree.j0 k l0 t346 true))) = some r := H
  have A2 := Aside0.mk A20
  clear A20
  replace H := Option.bind_eq_some_iff.mp H
  obtain ⟨t347, A30, H⟩ := H
  replace H : (if t347 = true then ((graph_Right.f l0).bind fun t348 => (swagelaw07_DomTree.j0 k l0 t346 (!t348))) else (swagelaw07_DomTree.j0 k l0 t346 true)) = some r := H
  have A3 := Aside0.mk A30
  clear A30
  have HC4 := Aside0.mk H
  clear H
  go_enter Try.func12, Try.ntmps12
  go_upto_region 3 with (first | (go_at_call 34; (with_reducible refine (swagelaw07_small.calls  t346 _ A2.out).mono ?_); rintro e w5 ⟨rfl, hb⟩; have n0_ := Aside0.mk (below_step (by repeat (first | (with_reducible first | exact HB.out | apply below_alloc | apply pw_below_drewN | apply below_drew1) | exact HB.out)) hb); clear HB; have HB := n0_; clear n0_; (try clear hb); (try clear hb2); (try clear hk); (try clear hi)) | (go_at_call 35; (with_reducible refine (swagelaw07_Few.calls k _ _ l0 t347 _ ?side1 ?side2 A3.out).mono ?_); (case side1 => repeat (first | exact (Kd.C_below HR0.out HB.out) | (with_reducible refine Kd.C_alloc ?_ _) | (with_reducible refine Kd.C_drewN ?_ _) | (with_reducible refine Kd.C_drew ?_))); (case side2 => exact HC0.out); rintro e w' ⟨rfl, ⟨nd, rfl⟩⟩; (try first | exact ⟨rfl, _, World.drewN_drewN _ _ _⟩ | exact ⟨rfl, _, Eq.trans (World.drewN_drewN _ _ _) (congrArg (World.drewN _) (Nat.add_assoc _ _ _))⟩)))
  repeat (go_quiet (first | (go_at_call 34; (with_reducible refine (swagelaw07_small.calls  t346 _ A2.out).mono ?_); rintro e w5 ⟨rfl, hb⟩; have n0_ := Aside0.mk (below_step (by repeat (first | (with_reducible first | exact HB.out | apply below_alloc | apply pw_below_drewN | apply below_drew1) | exact HB.out)) hb); clear HB; have HB := n0_; clear n0_; (try clear hb); (try clear hb2); (try clear hk); (try clear hi)) | (go_at_call 35; (with_reducible refine (swagelaw07_Few.calls k _ _ l0 t347 _ ?side1 ?side2 A3.out).mono ?_); (case side1 => repeat (first | exact (Kd.C_below HR0.out HB.out) | (with_reducible refine Kd.C_alloc ?_ _) | (with_reducible refine Kd.C_drewN ?_ _) | (with_reducible refine Kd.C_drew ?_))); (case side2 => exact HC0.out); rintro e w' ⟨rfl, ⟨nd, rfl⟩⟩; (try first | exact ⟨rfl, _, World.drewN_drewN _ _ _⟩ | exact ⟨rfl, _, Eq.trans (World.drewN_drewN _ _ _) (congrArg (World.drewN _) (Nat.add_assoc _ _ _))⟩))); go_upto_region 3 with (first | (go_at_call 34; (with_reducible refine (swagelaw07_small.calls  t346 _ A2.out).mono ?_); rintro e w5 ⟨rfl, hb⟩; have n0_ := Aside0.mk (below_step (by repeat (first | (with_reducible first | exact HB.out | apply below_alloc | apply pw_below_drewN | apply below_drew1) | exact HB.out)) hb); clear HB; have HB := n0_; clear n0_; (try clear hb); (try clear hb2); (try clear hk); (try clear hi)) | (go_at_call 35; (with_reducible refine (swagelaw07_Few.calls k _ _ l0 t347 _ ?side1 ?side2 A3.out).mono ?_); (case side1 => repeat (first | exact (Kd.C_below HR0.out HB.out) | (with_reducible refine Kd.C_alloc ?_ _) | (with_reducible refine Kd.C_drewN ?_ _) | (with_reducible refine Kd.C_drew ?_))); (case side2 => exact HC0.out); rintro e w' ⟨rfl, ⟨nd, rfl⟩⟩; (try first | exact ⟨rfl, _, World.drewN_drewN _ _ _⟩ | exact ⟨rfl, _, Eq.trans (World.drewN_drewN _ _ _) (congrArg (World.drewN _) (Nat.add_assoc _ _ _))⟩))))
  (try simp only [Act.put, List.setIfInBounds_toArray, List.set_cons_zero, List.set_cons_succ])
  go_cut [22] (fun v22 wc => ∃ (kq : Nat) (x22_3 : Bool), v22 = .bool x22_3 ∧ Aside0 (swagelaw07_DomTree.j0 kq l0 t346 x22_3 = some r) ∧ Aside0 (kq ≤ k) ∧ Aside0 (Below w.heap.size w wc))
  case first =>
    have H := HC4.out
    clear HC4
    by_cases c6 : t347 = true
    · subst c6
      have H1 : ((graph_Right.f l0).bind fun t348 => (swagelaw07_DomTree.j0 k l0 t346 (!t348))) = some r := by rw [if_pos rfl] at H; exact H
      clear H
      have H := H1
      clear H1
      replace H := Option.bind_eq_some_iff.mp H
      obtain ⟨t348, A70, H⟩ := H
      replace H : (swagelaw07_DomTree.j0 k l0 t346 (!t348)) = some r := H
      have A7 := Aside0.mk A70
      clear A70
      have H' := Aside0.mk H
      clear H
      go_wp2_with (first | (go_at_call 19; (with_reducible refine (graph_Right.calls _ _ l0 t348 _ ?side1 ?side2 A7.out).mono ?_); (case side1 => repeat (first | exact (Kd.C_below HR0.out HB.out) | (with_reducible refine Kd.C_alloc ?_ _) | (with_reducible refine Kd.C_drewN ?_ _) | (with_reducible refine Kd.C_drew ?_))); (case side2 => exact HC0.out); rintro e w8 ⟨rfl, hb⟩; have n0_ := Aside0.mk (below_step (by repeat (first | (with_reducible first | exact HB.out | apply below_alloc | apply pw_below_drewN | apply below_drew1) | exact HB.out)) hb); clear HB; have HB := n0_; clear n0_; (try clear hb); (try clear hb2); (try clear hk); (try clear hi)))
      repeat (go_quiet (first | (go_at_call 19; (with_reducible refine (graph_Right.calls _ _ l0 t348 _ ?side1 ?side2 A7.out).mono ?_); (case side1 => repeat (first | exact (Kd.C_below HR0.out HB.out) | (with_reducible refine Kd.C_alloc ?_ _) | (with_reducible refine Kd.C_drewN ?_ _) | (with_reducible refine Kd.C_drew ?_))); (case side2 => exact HC0.out); rintro e w8 ⟨rfl, hb⟩; have n0_ := Aside0.mk (below_step (by repeat (first | (with_reducible first | exact HB.out | apply below_alloc | apply pw_below_drewN | apply below_drew1) | exact HB.out)) hb); clear HB; have HB := n0_; clear n0_; (try clear hb); (try clear hb2); (try clear hk); (try clear hi))); try go_wp2_with (first | (go_at_call 19; (with_reducible refine (graph_Right.calls _ _ l0 t348 _ ?side1 ?side2 A7.out).mono ?_); (case side1 => repeat (first | exact (Kd.C_below HR0.out HB.out) | (with_reducible refine Kd.C_alloc ?_ _) | (with_reducible refine Kd.C_drewN ?_ _) | (with_reducible refine Kd.C_drew ?_))); (case side2 => exact HC0.out); rintro e w8 ⟨rfl, hb⟩; have n0_ := Aside0.mk (below_step (by repeat (first | (with_reducible first | exact HB.out | apply below_alloc | apply pw_below_drewN | apply below_drew1) | exact HB.out)) hb); clear HB; have HB := n0_; clear n0_; (try clear hb); (try clear hb2); (try clear hk); (try clear hi))))
      go_meet
      case rel => exact ⟨_, (!t348), (by first | rfl | (simp; done) | (simp [*]; done)), H', ⟨by first | omega | exact Nat.le_refl _⟩, ⟨by repeat (first | (with_reducible first | exact HB.out | apply below_alloc | apply pw_below_drewN | apply below_drew1) | exact HB.out)⟩⟩
    · replace c6 := Bool.eq_false_iff.mpr c6
      subst c6
      have H1 : (swagelaw07_DomTree.j0 k l0 t346 true) = some r := by rw [if_neg (show ¬ (false = true) by decide)] at H; exact H
      clear H
      have H := H1
      clear H1
      have H' := Aside0.mk H
      clear H
      go_wp2
      repeat (go_quiet (fail); try go_wp2)
      go_meet
      case rel => exact ⟨_, (true), (by first | rfl | (simp; done) | (simp [*]; done)), H', ⟨by first | omega | exact Nat.le_refl _⟩, ⟨by repeat (first | (with_reducible first | exact HB.out | apply below_alloc | apply pw_below_drewN | apply below_drew1) | exact HB.out)⟩⟩
  case rest =>
    clear HC4
    try clear c1
    try clear p2
    try clear c6
    obtain ⟨kq, x22_3, rfl, HA, HJ3, HB⟩ := hcut
    cases kq with
    | zero => exact absurd HA.out (by simp [swagelaw07_DomTree.j0])
    | succ kj3 =>
      have H := HA.out
      clear HA
      simp only [swagelaw07_DomTree.j0] at H
      by_cases c9 : x22_3 = true
      · subst c9
        have H1 : (some t346) = some r := by rw [if_pos rfl] at H; exact H
        clear H
        have H := H1
        clear H1
        obtain rfl := Option.some.inj H
        go_wp2
        repeat (go_quiet (fail); try go_wp2)
        go_ret
        exact ⟨by first | rfl | (simp [errW_none, errW_some] <;> rfl) | (simp [*, errW_none, errW_some] <;> rfl), by repeat (first | (with_reducible first | exact HB.out | apply below_alloc | apply pw_below_drewN | apply below_drew1) | exact HB.out)⟩
      · replace c9 := Bool.eq_false_iff.mpr c9
        subst c9
        have H1 : ((dom_Idom.f kj3 l0).bind fun t349 => ((dom_Kids.f kj3 t349).bind fun t352 => ((dom_Depth.f t349).bind fun t355 => ((graph_Reach.f l0 0).bind fun t358 => (if (t349.length : Int) = (l0.length : Int) then (if (t352.length : Int) = (l0.length : Int) then (if (t355.length : Int) = (l0.length : Int) then (swagelaw07_DomTree.j1 kj3 l0 t346 t349 t352 t355 t358 ((t358.length : Int) != (l0.length : Int))) else (swagelaw07_DomTree.j1 kj3 l0 t346 t349 t352 t355 t358 true)) else (swagelaw07_DomTree.j1 kj3 l0 t346 t349 t352 t355 t358 true)) else (swagelaw07_DomTree.j1 kj3 l0 t346 t349 t352 t355 t358 true)))))) = some r := by rw [if_neg (show ¬ (false = true) by decide)] at H; exact H
        clear H
        have H := H1
        clear H1
        replace H := Option.bind_eq_some_iff.mp H
        obtain ⟨t349, A100, H⟩ := H
        replace H : ((dom_Kids.f kj3 t349).bind fun t352 => ((dom_Depth.f t349).bind fun t355 => ((graph_Reach.f l0 0).bind fun t358 => (if (t349.length : Int) = (l0.length : Int) then (if (t352.length : Int) = (l0.length : Int) then (if (t355.length : Int) = (l0.length : Int) then (swagelaw07_DomTree.j1 kj3 l0 t346 t349 t352 t355 t358 ((t358.length : Int) != (l0.length : Int))) else (swagelaw07_DomTree.j1 kj3 l0 t346 t349 t352 t355 t358 true)) else (swagelaw07_DomTree.j1 kj3 l0 t346 t349 t352 t355 t358 true)) else (swagelaw07_DomTree.j1 kj3 l0 t346 t349 t352 t355 t358 true))))) = some r := H
        have A10 := Aside0.mk A100
        clear A100
        replace H := Option.bind_eq_some_iff.mp H
        obtain ⟨t352, A110, H⟩ := H
        replace H : ((dom_Depth.f t349).bind fun t355 => ((graph_Reach.f l0 0).bind fun t358 => (if (t349.length : Int) = (l0.length : Int) then (if (t352.length : Int) = (l0.length : Int) then (if (t355.length : Int) = (l0.length : Int) then (swagelaw07_DomTree.j1 kj3 l0 t346 t349 t352 t355 t358 ((t358.length : Int) != (l0.length : Int))) else (swagelaw07_DomTree.j1 kj3 l0 t346 t349 t352 t355 t358 true)) else (swagelaw07_DomTree.j1 kj3 l0 t346 t349 t352 t355 t358 true)) else (swagelaw07_DomTree.j1 kj3 l0 t346 t349 t352 t355 t358 true)))) = some r := H
        have A11 := Aside0.mk A110
        clear A110
        replace H := Option.bind_eq_some_iff.mp H
        obtain ⟨t355, A120, H⟩ := H
        replace H : ((graph_Reach.f l0 0).bind fun t358 => (if (t349.length : Int) = (l0.length : Int) then (if (t352.length : Int) = (l0.length : Int) then (if (t355.length : Int) = (l0.length : Int) then (swagelaw07_DomTree.j1 kj3 l0 t346 t349 t352 t355 t358 ((t358.length : Int) != (l0.length : Int))) else (swagelaw07_DomTree.j1 kj3 l0 t346 t349 t352 t355 t358 true)) else (swagelaw07_DomTree.j1 kj3 l0 t346 t349 t352 t355 t358 true)) else (swagelaw07_DomTree.j1 kj3 l0 t346 t349 t352 t355 t358 true))) = some r := H
        have A12 := Aside0.mk A120
        clear A120
        replace H := Option.bind_eq_some_iff.mp H
        obtain ⟨t358, A130, H⟩ := H
        replace H : (if (t349.length : Int) = (l0.length : Int) then (if (t352.length : Int) = (l0.length : Int) then (if (t355.length : Int) = (l0.length : Int) then (swagelaw07_DomTree.j1 kj3 l0 t346 t349 t352 t355 t358 ((t358.length : Int) != (l0.length : Int))) else (swagelaw07_DomTree.j1 kj3 l0 t346 t349 t352 t355 t358 true)) else (swagelaw07_DomTree.j1 kj3 l0 t346 t349 t352 t355 t358 true)) else (swagelaw07_DomTree.j1 kj3 l0 t346 t349 t352 t355 t358 true)) = some r := H
        have A13 := Aside0.mk A130
        clear A130
        have HC14 := Aside0.mk H
        clear H
        go_upto_region 9 with (first | (go_at_call 36; (with_reducible refine (dom_Idom.calls kj3 _ _ l0 t349 _ ?side1 ?side2 A10.out).mono ?_); (case side1 => repeat (first | exact (Kd.C_below HR0.out HB.out) | (with_reducible refine Kd.C_alloc ?_ _) | (with_reducible refine Kd.C_drewN ?_ _) | (with_reducible refine Kd.C_drew ?_))); (case side2 => exact HC0.out); rintro e w15 ⟨v350, rfl, ho0, hb⟩; have n0_ := Aside0.mk (Kd.R_lower ho0 (below_size (by repeat (first | (with_reducible first | exact HB.out | apply below_alloc | apply pw_below_drewN | apply below_drew1) | exact HB.out)))); have n1_ := Aside0.mk (below_step (by repeat (first | (with_reducible first | exact HB.out | apply below_alloc | apply pw_below_drewN | apply below_drew1) | exact HB.out)) hb); clear HB; have HO351 := n0_; have HB := n1_; clear n0_ n1_; (try clear hb); (try clear hb2); (try clear hk); (try clear hi); (try clear ho0); obtain ⟨Ao16, co16, eo16⟩ := Kd.R_slice HO351.out; subst eo16) | (go_at_call 40; (with_reducible refine (dom_Kids.calls kj3 _ _ t349 t352 _ ?side1 ?side2 A11.out).mono ?_); (case side1 => repeat (first | exact (Kd.R_reads' HO351.out).2.2 | (with_reducible refine Kd.C_alloc ?_ _) | (with_reducible refine Kd.C_drewN ?_ _) | (with_reducible refine Kd.C_drew ?_))); (case side2 => exact (Kd.R_reads' HO351.out).2.1); rintro e w17 ⟨v353, rfl, ho0, hb⟩; have n0_ := Aside0.mk (Kd.R_below (by (with_reducible repeat (first | apply Kd.R_alloc | apply Kd.R_drewN | apply Kd.R_drew)); exact HO351.out) hb); have n1_ := Aside0.mk (Kd.S_lower (Kd.S_new' ho0 (Kd.R_lt (by (with_reducible repeat (first | apply Kd.R_alloc | apply Kd.R_drewN | apply Kd.R_drew)); exact HO351.out))) (below_size (by repeat (first | (with_reducible first | exact HB.out | apply below_alloc | apply pw_below_drewN | apply below_drew1) | exact HB.out)))); have n2_ := Aside0.mk (below_step (by repeat (first | (with_reducible first | exact HB.out | apply below_alloc | apply pw_below_drewN | apply below_drew1) | exact HB.out)) hb); clear HO351; clear HB; have HO351 := n0_; have HO354 := n1_; have HB := n2_; clear n0_ n1_ n2_; (try clear hb); (try clear hb2); (try clear hk); (try clear hi); (try clear ho0)) | (go_at_call 42; (with_reducible refine (dom_Depth.calls _ _ t349 t355 _ ?side1 ?side2 A12.out).mono ?_); (case side1 => repeat (first | exact (Kd.R_reads' HO351.out).2.2 | (with_reducible refine Kd.C_alloc ?_ _) | (with_reducible refine Kd.C_drewN ?_ _) | (with_reducible refine Kd.C_drew ?_))); (case side2 => exact (Kd.R_reads' HO351.out).2.1); rintro e w18 ⟨v356, rfl, ho0, hb⟩; have n0_ := Aside0.mk (Kd.R_elder' (by (with_reducible repeat (first | apply Kd.R_alloc | apply Kd.R_drewN | apply Kd.R_drew)); exact HO351.out) (Kd.R_base ho0) hb); have n1_ := Aside0.mk (Kd.S_elder' (by (with_reducible repeat (first | apply Kd.S_alloc | apply Kd.S_drewN | apply Kd.S_drew)); exact HO354.out) (Kd.R_base ho0) hb); have n2_ := Aside0.mk (Kd.R_lower (Kd.R_new' ho0 (Kd.R_lt (by (with_reducible repeat (first | apply Kd.R_alloc | apply Kd.R_drewN | apply Kd.R_drew)); exact HO351.out))) (below_size (by repeat (first | (with_reducible first | exact HB.out | apply below_alloc | apply pw_below_drewN | apply below_drew1) | exact HB.out)))); have n3_ := Aside0.mk (below_step (by repeat (first | (with_reducible first | exact HB.out | apply below_alloc | apply pw_below_drewN | apply below_drew1) | exact HB.out)) hb); clear HO351; clear HO354; clear HB; have HO351 := n0_; have HO354 := n1_; have HO357 := n2_; have HB := n3_; clear n0_ n1_ n2_ n3_; (try clear hb); (try clear hb2); (try clear hk); (try clear hi); (try clear ho0)) | (go_at_call 22; (with_reducible refine (graph_Reach.calls _ _ l0 0 t358 _ ?side1 ?side2 A13.out).mono ?_); (case side1 => repeat (first | exact (Kd.C_below HR0.out HB.out) | (with_reducible refine Kd.C_alloc ?_ _) | (with_reducible refine Kd.C_drewN ?_ _) | (with_reducible refine Kd.C_drew ?_))); (case side2 => exact HC0.out); rintro e w19 ⟨v359, rfl, ho0, hb⟩; have n0_ := Aside0.mk (Kd.R_below (by (with_reducible repeat (first | apply Kd.R_alloc | apply Kd.R_drewN | apply Kd.R_drew)); exact HO351.out) hb); have n1_ := Aside0.mk (Kd.S_below (by (with_reducible repeat (first | apply Kd.S_alloc | apply Kd.S_drewN | apply Kd.S_drew)); exact HO354.out) hb); have n2_ := Aside0.mk (Kd.R_below (by (with_reducible repeat (first | apply Kd.R_alloc | apply Kd.R_drewN | apply Kd.R_drew)); exact HO357.out) hb); have n3_ := Aside0.mk (Kd.R_lower ho0 (below_size (by repeat (first | (with_reducible first | exact HB.out | apply below_alloc | apply pw_below_drewN | apply below_drew1) | exact HB.out)))); have n4_ := Aside0.mk (below_step (by repeat (first | (with_reducible first | exact HB.out | apply below_alloc | apply pw_below_drewN | apply below_drew1) | exact HB.out)) hb); clear HO351; clear HO354; clear HO357; clear HB; have HO351 := n0_; have HO354 := n1_; have HO357 := n2_; have HO360 := n3_; have HB := n4_; clear n0_ n1_ n2_ n3_ n4_; (try clear hb); (try clear hb2); (try clear hk); (try clear hi); (try clear ho0)))
        repeat (go_quiet (first | (go_at_call 36; (with_reducible refine (dom_Idom.calls kj3 _ _ l0 t349 _ ?side1 ?side2 A10.out).mono ?_); (case side1 => repeat (first | exact (Kd.C_below HR0.out HB.out) | (with_reducible refine Kd.C_alloc ?_ _) | (with_reducible refine Kd.C_drewN ?_ _) | (with_reducible refine Kd.C_drew ?_))); (case side2 => exact HC0.out); rintro e w15 ⟨v350, rfl, ho0, hb⟩; have n0_ := Aside0.mk (Kd.R_lower ho0 (below_size (by repeat (first | (with_reducible first | exact HB.out | apply below_alloc | apply pw_below_drewN | apply below_drew1) | exact HB.out)))); have n1_ := Aside0.mk (below_step (by repeat (first | (with_reducible first | exact HB.out | apply below_alloc | apply pw_below_drewN | apply below_drew1) | exact HB.out)) hb); clear HB; have HO351 := n0_; have HB := n1_; clear n0_ n1_; (try clear hb); (try clear hb2); (try clear hk); (try clear hi); (try clear ho0); obtain ⟨Ao16, co16, eo16⟩ := Kd.R_slice HO351.out; subst eo16) | (go_at_call 40; (with_reducible refine (dom_Kids.calls kj3 _ _ t349 t352 _ ?side1 ?side2 A11.out).mono ?_); (case side1 => repeat (first | exact (Kd.R_reads' HO351.out).2.2 | (with_reducible refine Kd.C_alloc ?_ _) | (with_reducible refine Kd.C_drewN ?_ _) | (with_reducible refine Kd.C_drew ?_))); (case side2 => exact (Kd.R_reads' HO351.out).2.1); rintro e w17 ⟨v353, rfl, ho0, hb⟩; have n0_ := Aside0.mk (Kd.R_below (by (with_reducible repeat (first | apply Kd.R_alloc | apply Kd.R_drewN | apply Kd.R_drew)); exact HO351.out) hb); have n1_ := Aside0.mk (Kd.S_lower (Kd.S_new' ho0 (Kd.R_lt (by (with_reducible repeat (first | apply Kd.R_alloc | apply Kd.R_drewN | apply Kd.R_drew)); exact HO351.out))) (below_size (by repeat (first | (with_reducible first | exact HB.out | apply below_alloc | apply pw_below_drewN | apply below_drew1) | exact HB.out)))); have n2_ := Aside0.mk (below_step (by repeat (first | (with_reducible first | exact HB.out | apply below_alloc | apply pw_below_drewN | apply below_drew1) | exact HB.out)) hb); clear HO351; clear HB; have HO351 := n0_; have HO354 := n1_; have HB := n2_; clear n0_ n1_ n2_; (try clear hb); (try clear hb2); (try clear hk); (try clear hi); (try clear ho0)) | (go_at_call 42; (with_reducible refine (dom_Depth.calls _ _ t349 t355 _ ?side1 ?side2 A12.out).mono ?_); (case side1 => repeat (first | exact (Kd.R_reads' HO351.out).2.2 | (with_reducible refine Kd.C_alloc ?_ _) | (with_reducible refine Kd.C_drewN ?_ _) | (with_reducible refine Kd.C_drew ?_))); (case side2 => exact (Kd.R_reads' HO351.out).2.1); rintro e w18 ⟨v356, rfl, ho0, hb⟩; have n0_ := Aside0.mk (Kd.R_elder' (by (with_reducible repeat (first | apply Kd.R_alloc | apply Kd.R_drewN | apply Kd.R_drew)); exact HO351.out) (Kd.R_base ho0) hb); have n1_ := Aside0.mk (Kd.S_elder' (by (with_reducible repeat (first | apply Kd.S_alloc | apply Kd.S_drewN | apply Kd.S_drew)); exact HO354.out) (Kd.R_base ho0) hb); have n2_ := Aside0.mk (Kd.R_lower (Kd.R_new' ho0 (Kd.R_lt (by (with_reducible repeat (first | apply Kd.R_alloc | apply Kd.R_drewN | apply Kd.R_drew)); exact HO351.out))) (below_size (by repeat (first | (with_reducible first | exact HB.out | apply below_alloc | apply pw_below_drewN | apply below_drew1) | exact HB.out)))); have n3_ := Aside0.mk (below_step (by repeat (first | (with_reducible first | exact HB.out | apply below_alloc | apply pw_below_drewN | apply below_drew1) | exact HB.out)) hb); clear HO351; clear HO354; clear HB; have HO351 := n0_; have HO354 := n1_; have HO357 := n2_; have HB := n3_; clear n0_ n1_ n2_ n3_; (try clear hb); (try clear hb2); (try clear hk); (try clear hi); (try clear ho0)) | (go_at_call 22; (with_reducible refine (graph_Reach.calls _ _ l0 0 t358 _ ?side1 ?side2 A13.out).mono ?_); (case side1 => repeat (first | exact (Kd.C_below HR0.out HB.out) | (with_reducible refine Kd.C_alloc ?_ _) | (with_reducible refine Kd.C_drewN ?_ _) | (with_reducible refine Kd.C_drew ?_))); (case side2 => exact HC0.out); rintro e w19 ⟨v359, rfl, ho0, hb⟩; have n0_ := Aside0.mk (Kd.R_below (by (with_reducible repeat (first | apply Kd.R_alloc | apply Kd.R_drewN | apply Kd.R_drew)); exact HO351.out) hb); have n1_ := Aside0.mk (Kd.S_below (by (with_reducible repeat (first | apply Kd.S_alloc | apply Kd.S_drewN | apply Kd.S_drew)); exact HO354.out) hb); have n2_ := Aside0.mk (Kd.R_below (by (with_reducible repeat (first | apply Kd.R_alloc | apply Kd.R_drewN | apply Kd.R_drew)); exact HO357.out) hb); have n3_ := Aside0.mk (Kd.R_lower ho0 (below_size (by repeat (first | (with_reducible first | exact HB.out | apply below_alloc | apply pw_below_drewN | apply below_drew1) | exact HB.out)))); have n4_ := Aside0.mk (below_step (by repeat (first | (with_reducible first | exact HB.out | apply below_alloc | apply pw_below_drewN | apply below_drew1) | exact HB.out)) hb); clear HO351; clear HO354; clear HO357; clear HB; have HO351 := n0_; have HO354 := n1_; have HO357 := n2_; have HO360 := n3_; have HB := n4_; clear n0_ n1_ n2_ n3_ n4_; (try clear hb); (try clear hb2); (try clear hk); (try clear hi); (try clear ho0))); go_upto_region 9 with (first | (go_at_call 36; (with_reducible refine (dom_Idom.calls kj3 _ _ l0 t349 _ ?side1 ?side2 A10.out).mono ?_); (case side1 => repeat (first | exact (Kd.C_below HR0.out HB.out) | (with_reducible refine Kd.C_alloc ?_ _) | (with_reducible refine Kd.C_drewN ?_ _) | (with_reducible refine Kd.C_drew ?_))); (case side2 => exact HC0.out); rintro e w15 ⟨v350, rfl, ho0, hb⟩; have n0_ := Aside0.mk (Kd.R_lower ho0 (below_size (by repeat (first | (with_reducible first | exact HB.out | apply below_alloc | apply pw_below_drewN | apply below_drew1) | exact HB.out)))); have n1_ := Aside0.mk (below_step (by repeat (first | (with_reducible first | exact HB.out | apply below_alloc | apply pw_below_drewN | apply below_drew1) | exact HB.out)) hb); clear HB; have HO351 := n0_; have HB := n1_; clear n0_ n1_; (try clear hb); (try clear hb2); (try clear hk); (try clear hi); (try clear ho0); obtain ⟨Ao16, co16, eo16⟩ := Kd.R_slice HO351.out; subst eo16) | (go_at_call 40; (with_reducible refine (dom_Kids.calls kj3 _ _ t349 t352 _ ?side1 ?side2 A11.out).mono ?_); (case side1 => repeat (first | exact (Kd.R_reads' HO351.out).2.2 | (with_reducible refine Kd.C_alloc ?_ _) | (with_reducible refine Kd.C_drewN ?_ _) | (with_reducible refine Kd.C_drew ?_))); (case side2 => exact (Kd.R_reads' HO351.out).2.1); rintro e w17 ⟨v353, rfl, ho0, hb⟩; have n0_ := Aside0.mk (Kd.R_below (by (with_reducible repeat (first | apply Kd.R_alloc | apply Kd.R_drewN | apply Kd.R_drew)); exact HO351.out) hb); have n1_ := Aside0.mk (Kd.S_lower (Kd.S_new' ho0 (Kd.R_lt (by (with_reducible repeat (first | apply Kd.R_alloc | apply Kd.R_drewN | apply Kd.R_drew)); exact HO351.out))) (below_size (by repeat (first | (with_reducible first | exact HB.out | apply below_alloc | apply pw_below_drewN | apply below_drew1) | exact HB.out)))); have n2_ := Aside0.mk (below_step (by repeat (first | (with_reducible first | exact HB.out | apply below_alloc | apply pw_below_drewN | apply below_drew1) | exact HB.out)) hb); clear HO351; clear HB; have HO351 := n0_; have HO354 := n1_; have HB := n2_; clear n0_ n1_ n2_; (try clear hb); (try clear hb2); (try clear hk); (try clear hi); (try clear ho0)) | (go_at_call 42; (with_reducible refine (dom_Depth.calls _ _ t349 t355 _ ?side1 ?side2 A12.out).mono ?_); (case side1 => repeat (first | exact (Kd.R_reads' HO351.out).2.2 | (with_reducible refine Kd.C_alloc ?_ _) | (with_reducible refine Kd.C_drewN ?_ _) | (with_reducible refine Kd.C_drew ?_))); (case side2 => exact (Kd.R_reads' HO351.out).2.1); rintro e w18 ⟨v356, rfl, ho0, hb⟩; have n0_ := Aside0.mk (Kd.R_elder' (by (with_reducible repeat (first | apply Kd.R_alloc | apply Kd.R_drewN | apply Kd.R_drew)); exact HO351.out) (Kd.R_base ho0) hb); have n1_ := Aside0.mk (Kd.S_elder' (by (with_reducible repeat (first | apply Kd.S_alloc | apply Kd.S_drewN | apply Kd.S_drew)); exact HO354.out) (Kd.R_base ho0) hb); have n2_ := Aside0.mk (Kd.R_lower (Kd.R_new' ho0 (Kd.R_lt (by (with_reducible repeat (first | apply Kd.R_alloc | apply Kd.R_drewN | apply Kd.R_drew)); exact HO351.out))) (below_size (by repeat (first | (with_reducible first | exact HB.out | apply below_alloc | apply pw_below_drewN | apply below_drew1) | exact HB.out)))); have n3_ := Aside0.mk (below_step (by repeat (first | (with_reducible first | exact HB.out | apply below_alloc | apply pw_below_drewN | apply below_drew1) | exact HB.out)) hb); clear HO351; clear HO354; clear HB; have HO351 := n0_; have HO354 := n1_; have HO357 := n2_; have HB := n3_; clear n0_ n1_ n2_ n3_; (try clear hb); (try clear hb2); (try clear hk); (try clear hi); (try clear ho0)) | (go_at_call 22; (with_reducible refine (graph_Reach.calls _ _ l0 0 t358 _ ?side1 ?side2 A13.out).mono ?_); (case side1 => repeat (first | exact (Kd.C_below HR0.out HB.out) | (with_reducible refine Kd.C_alloc ?_ _) | (with_reducible refine Kd.C_drewN ?_ _) | (with_reducible refine Kd.C_drew ?_))); (case side2 => exact HC0.out); rintro e w19 ⟨v359, rfl, ho0, hb⟩; have n0_ := Aside0.mk (Kd.R_below (by (with_reducible repeat (first | apply Kd.R_alloc | apply Kd.R_drewN | apply Kd.R_drew)); exact HO351.out) hb); have n1_ := Aside0.mk (Kd.S_below (by (with_reducible repeat (first | apply Kd.S_alloc | apply Kd.S_drewN | apply Kd.S_drew)); exact HO354.out) hb); have n2_ := Aside0.mk (Kd.R_below (by (with_reducible repeat (first | apply Kd.R_alloc | apply Kd.R_drewN | apply Kd.R_drew)); exact HO357.out) hb); have n3_ := Aside0.mk (Kd.R_lower ho0 (below_size (by repeat (first | (with_reducible first | exact HB.out | apply below_alloc | apply pw_below_drewN | apply below_drew1) | exact HB.out)))); have n4_ := Aside0.mk (below_step (by repeat (first | (with_reducible first | exact HB.out | apply below_alloc | apply pw_below_drewN | apply below_drew1) | exact HB.out)) hb); clear HO351; clear HO354; clear HO357; clear HB; have HO351 := n0_; have HO354 := n1_; have HO357 := n2_; have HO360 := n3_; have HB := n4_; clear n0_ n1_ n2_ n3_ n4_; (try clear hb); (try clear hb2); (try clear hk); (try clear hi); (try clear ho0))))
        (try simp only [Act.put, List.setIfInBounds_toArray, List.set_cons_zero, List.set_cons_succ])
        go_cut [57] (fun v57 wc => ∃ (kq : Nat) (x57_13 : Bool), v57 = .bool x57_13 ∧ Aside0 (swagelaw07_DomTree.j1 kq l0 t346 t349 t352 t355 t358 x57_13 = some r) ∧ Aside0 (kq ≤ kj3) ∧ Aside0 (Kd.R (Kd.int .i64) 3 wc w.heap.size (fun k_ => some k_ ≠ (v356 : Value).ownBlock) (.slice Ao16 t349.length co16) t349) ∧ Aside0 (Kd.S (Kd.slice 3 (Kd.int .i64)) 27 wc w.heap.size (fun k_ => some k_ ≠ ((.slice Ao16 t349.length co16) : Value).ownBlock ∧ some k_ ≠ (v356 : Value).ownBlock) v353 t352) ∧ Aside0 (Kd.R (Kd.int .i64) 3 wc w.heap.size (fun k_ => some k_ ≠ ((.slice Ao16 t349.length co16) : Value).ownBlock) v356 t355) ∧ Aside0 (Kd.R Kd.bool 4 wc w.heap.size (fun _ => True) v359 t358) ∧ Aside0 (Below w.heap.size w wc))
        case first =>
          have H := HC14.out
          clear HC14
          by_cases c20 : (t349.length : Int) = (l0.length : Int)
          · rw [if_pos c20] at H
            have c20b0 : ((t349.length : Int) == (l0.length : Int)) = true := beq_iff_eq.mpr c20
            have c20b1 : ((t349.length : Int) != (l0.length : Int)) = false := bne_eq_false_iff_eq.mpr c20
            have c20b2 : (t349.length == l0.length) = true := by first | simpa using c20 | (simp at c20 ⊢; omega)
            clear c20
            (first | rw [c20b0] | (simp only [i64_w, i32_w]; rw [c20b0]) | skip)
            by_cases c21 : (t352.length : Int) = (l0.length : Int)
            · rw [if_pos c21] at H
              have c21b0 : ((t352.length : Int) == (l0.length : Int)) = true := beq_iff_eq.mpr c21
              have c21b1 : ((t352.length : Int) != (l0.length : Int)) = false := bne_eq_false_iff_eq.mpr c21
              have c21b2 : (t352.length == l0.length) = true := by first | simpa using c21 | (simp at c21 ⊢; omega)
              clear c21
              by_cases c22 : (t355.length : Int) = (l0.length : Int)
              · rw [if_pos c22] at H
                have c22b0 : ((t355.length : Int) == (l0.length : Int)) = true := beq_iff_eq.mpr c22
                have c22b1 : ((t355.length : Int) != (l0.length : Int)) = false := bne_eq_false_iff_eq.mpr c22
                have c22b2 : (t355.length == l0.length) = true := by first | simpa using c22 | (simp at c22 ⊢; omega)
                clear c22
                have H' := Aside0.mk H
                clear H
                obtain ⟨Ao23, co23, eo23⟩ := Kd.S_slice HO354.out
                subst eo23
                obtain ⟨Ao24, co24, eo24⟩ := Kd.R_slice HO357.out
                subst eo24
                obtain ⟨Ao25, co25, eo25⟩ := Kd.R_slice HO360.out
                subst eo25
                go_wp2
                repeat (go_quiet (fail); try go_wp2)
                go_meet
                case rel => exact ⟨_, (((t358.length : Int) != (l0.length : Int))), (by first | rfl | (simp; done) | (simp [*]; done)), H', ⟨by have := HJ3.out; first | omega | exact Nat.le_refl _⟩, ⟨by (with_reducible repeat (first | apply Kd.R_alloc | apply Kd.R_drewN | apply Kd.R_drew)); exact Kd.R_mono HO351.out (fun _ hk => hk.2)⟩, ⟨by (with_reducible repeat (first | apply Kd.S_alloc | apply Kd.S_drewN | apply Kd.S_drew)); exact Kd.S_mono HO354.out (fun _ hk => ⟨hk.1.2, hk.2⟩)⟩, ⟨by (with_reducible repeat (first | apply Kd.R_alloc | apply Kd.R_drewN | apply Kd.R_drew)); exact Kd.R_mono HO357.out (fun _ hk => hk.2)⟩, ⟨by (with_reducible repeat (first | apply Kd.R_alloc | apply Kd.R_drewN | apply Kd.R_drew)); exact HO360.out⟩, ⟨by repeat (first | (with_reducible first | exact HB.out | apply below_alloc | apply pw_below_drewN | apply below_drew1) | exact HB.out)⟩⟩
              · rw [if_neg c22] at H
                have c22b0 : ((t355.length : Int) == (l0.length : Int)) = false := beq_eq_false_iff_ne.mpr c22
                have c22b1 : ((t355.length : Int) != (l0.length : Int)) = true := bne_iff_ne.mpr c22
                have c22b2 : (t355.length == l0.length) = false := by first | simpa using c22 | (simp at c22 ⊢; omega)
                have H' := Aside0.mk H
                clear H
                obtain ⟨Ao26, co26, eo26⟩ := Kd.S_slice HO354.out
                subst eo26
                obtain ⟨Ao27, co27, eo27⟩ := Kd.R_slice HO357.out
                subst eo27
                go_wp2
                repeat (go_quiet (fail); try go_wp2)
                go_meet
                case rel => exact ⟨_, (true), (by first | rfl | (simp; done) | (simp [*]; done)), H', ⟨by have := HJ3.out; first | omega | exact Nat.le_refl _⟩, ⟨by (with_reducible repeat (first | apply Kd.R_alloc | apply Kd.R_drewN | apply Kd.R_drew)); exact Kd.R_mono HO351.out (fun _ hk => hk.2)⟩, ⟨by (with_reducible repeat (first | apply Kd.S_alloc | apply Kd.S_drewN | apply Kd.S_drew)); exact Kd.S_mono HO354.out (fun _ hk => ⟨hk.1.2, hk.2⟩)⟩, ⟨by (with_reducible repeat (first | apply Kd.R_alloc | apply Kd.R_drewN | apply Kd.R_drew)); exact Kd.R_mono HO357.out (fun _ hk => hk.2)⟩, ⟨by (with_reducible repeat (first | apply Kd.R_alloc | apply Kd.R_drewN | apply Kd.R_drew)); exact HO360.out⟩, ⟨by repeat (first | (with_reducible first | exact HB.out | apply below_alloc | apply pw_below_drewN | apply below_drew1) | exact HB.out)⟩⟩
            · rw [if_neg c21] at H
              have c21b0 : ((t352.length : Int) == (l0.length : Int)) = false := beq_eq_false_iff_ne.mpr c21
              have c21b1 : ((t352.length : Int) != (l0.length : Int)) = true := bne_iff_ne.mpr c21
              have c21b2 : (t352.length == l0.length) = false := by first | simpa using c21 | (simp at c21 ⊢; omega)
              have H' := Aside0.mk H
              clear H
              obtain ⟨Ao28, co28, eo28⟩ := Kd.S_slice HO354.out
              subst eo28
              go_wp2
              repeat (go_quiet (fail); try go_wp2)
              go_meet
              case rel => exact ⟨_, (true), (by first | rfl | (simp; done) | (simp [*]; done)), H', ⟨by have := HJ3.out; first | omega | exact Nat.le_refl _⟩, ⟨by (with_reducible repeat (first | apply Kd.R_alloc | apply Kd.R_drewN | apply Kd.R_drew)); exact Kd.R_mono HO351.out (fun _ hk => hk.2)⟩, ⟨by (with_reducible repeat (first | apply Kd.S_alloc | apply Kd.S_drewN | apply Kd.S_drew)); exact Kd.S_mono HO354.out (fun _ hk => ⟨hk.1.2, hk.2⟩)⟩, ⟨by (with_reducible repeat (first | apply Kd.R_alloc | apply Kd.R_drewN | apply Kd.R_drew)); exact Kd.R_mono HO357.out (fun _ hk => hk.2)⟩, ⟨by (with_reducible repeat (first | apply Kd.R_alloc | apply Kd.R_drewN | apply Kd.R_drew)); exact HO360.out⟩, ⟨by repeat (first | (with_reducible first | exact HB.out | apply below_alloc | apply pw_below_drewN | apply below_drew1) | exact HB.out)⟩⟩
          · rw [if_neg c20] at H
            have c20b0 : ((t349.length : Int) == (l0.length : Int)) = false := beq_eq_false_iff_ne.mpr c20
            have c20b1 : ((t349.length : Int) != (l0.length : Int)) = true := bne_iff_ne.mpr c20
            have c20b2 : (t349.length == l0.length) = false := by first | simpa using c20 | (simp at c20 ⊢; omega)
            (first | rw [c20b0] | (simp only [i64_w, i32_w]; rw [c20b0]) | skip)
            have H' := Aside0.mk H
            clear H
            go_wp2
            repeat (go_quiet (fail); try go_wp2)
            go_meet
            case rel => exact ⟨_, (true), (by first | rfl | (simp; done) | (simp [*]; done)), H', ⟨by have := HJ3.out; first | omega | exact Nat.le_refl _⟩, ⟨by (with_reducible repeat (first | apply Kd.R_alloc | apply Kd.R_drewN | apply Kd.R_drew)); exact Kd.R_mono HO351.out (fun _ hk => hk.2)⟩, ⟨by (with_reducible repeat (first | apply Kd.S_alloc | apply Kd.S_drewN | apply Kd.S_drew)); exact Kd.S_mono HO354.out (fun _ hk => ⟨hk.1.2, hk.2⟩)⟩, ⟨by (with_reducible repeat (first | apply Kd.R_alloc | apply Kd.R_drewN | apply Kd.R_drew)); exact Kd.R_mono HO357.out (fun _ hk => hk.2)⟩, ⟨by (with_reducible repeat (first | apply Kd.R_alloc | apply Kd.R_drewN | apply Kd.R_drew)); exact HO360.out⟩, ⟨by repeat (first | (with_reducible first | exact HB.out | apply below_alloc | apply pw_below_drewN | apply below_drew1) | exact HB.out)⟩⟩
        case rest =>
          clear HC14
          try clear c1
          try clear c2
          try clear p2
          try clear c6
          try clear c9
          try clear c12
          try clear c20
          try clear c20b0
          try clear c20b1
          try clear c20b2
          try clear c21
          try clear c21b0
          try clear c21b1
          try clear c21b2
          try clear c22
          try clear c22b0
          try clear c22b1
          try clear c22b2
          try clear p2
          obtain ⟨kq, x57_13, rfl, HA, HJ13, HO_5, HO_6, HO_7, HO_8, HB⟩ := hcut
          cases kq with
          | zero => exact absurd HA.out (by simp [swagelaw07_DomTree.j1])
          | succ kj13 =>
            have H := HA.out
            clear HA
            simp only [swagelaw07_DomTree.j1] at H
            by_cases c29 : x57_13 = true
            · subst c29
              have H1 : (some false) = some r := by rw [if_pos rfl] at H; exact H
              clear H
              have H := H1
              clear H1
              obtain rfl := Option.some.inj H
              go_wp2
              repeat (go_quiet (fail); try go_wp2)
              go_ret
              exact ⟨by first | rfl | (simp [errW_none, errW_some] <;> rfl) | (simp [*, errW_none, errW_some] <;> rfl), by repeat (first | (with_reducible first | exact HB.out | apply below_alloc | apply pw_below_drewN | apply below_drew1) | exact HB.out)⟩
            · replace c29 := Bool.eq_false_iff.mpr c29
              subst c29
              have H1 : (swagelaw07_DomTree.l0 kj13 l0 t346 t349 t352 t355 t358 0 0) = some r := by rw [if_neg (show ¬ (false = true) by decide)] at H; exact H
              clear H
              have H := H1
              clear H1
              have H' := Aside0.mk H
              clear H
              go_wp2
              repeat (go_quiet (fail); try go_wp2)
              go_loopg [9, 10] kj13 (fun kq v9 v10 w' => ∃ (x9_3 : Int) (x10_3 : Int), v9 = .int .i64 x9_3 ∧ v10 = .int .i64 x10_3 ∧ Aside0 (swagelaw07_DomTree.l0 kq l0 t346 t349 t352 t355 t358 x9_3 x10_3 = some r) ∧ Aside0 (kq ≤ kj13) ∧ Aside0 (Kd.R (Kd.int .i64) 3 w' w.heap.size (fun k_ => some k_ ≠ (v356 : Value).ownBlock) (.slice Ao16 t349.length co16) t349) ∧ Aside0 (Kd.S (Kd.slice 3 (Kd.int .i64)) 27 w' w.heap.size (fun k_ => some k_ ≠ ((.slice Ao16 t349.length co16) : Value).ownBlock ∧ some k_ ≠ (v356 : Value).ownBlock) v353 t352) ∧ Aside0 (Kd.R (Kd.int .i64) 3 w' w.heap.size (fun k_ => some k_ ≠ ((.slice Ao16 t349.length co16) : Value).ownBlock) v356 t355) ∧ Aside0 (Kd.R Kd.bool 4 w' w.heap.size (fun _ => True) v359 t358) ∧ Aside0 (Below w.heap.size w w'))
              case atStart => exact ⟨(0), (0), (by first | rfl | (simp; done) | (simp [*]; done)), (by first | rfl | (simp; done) | (simp [*]; done)), H', ⟨Nat.le_refl _⟩, ⟨by (with_reducible repeat (first | apply Kd.R_alloc | apply Kd.R_drewN | apply Kd.R_drew)); exact HO_5.out⟩, ⟨by (with_reducible repeat (first | apply Kd.S_alloc | apply Kd.S_drewN | apply Kd.S_drew)); exact HO_6.out⟩, ⟨by (with_reducible repeat (first | apply Kd.R_alloc | apply Kd.R_drewN | apply Kd.R_drew)); exact HO_7.out⟩, ⟨by (with_reducible repeat (first | apply Kd.R_alloc | apply Kd.R_drewN | apply Kd.R_drew)); exact HO_8.out⟩, ⟨by repeat (first | (with_reducible first | exact HB.out | apply below_alloc | apply pw_below_drewN | apply below_drew1) | exact HB.out)⟩⟩
              case round =>
                clear H'
                try clear c1
                try clear c2
                try clear p2
                try clear c6
                try clear c9
                try clear c12
                try clear c20
                try clear c20b0
                try clear c20b1
                try clear c20b2
                try clear c21
                try clear c21b0
                try clear c21b1
                try clear c21b2
                try clear c22
                try clear c22b0
                try clear c22b1
                try clear c22b2
                try clear c29
                try clear p2
                obtain ⟨x9_3, x10_3, rfl, rfl, HA, HK3, HO_5, HO_6, HO_7, HO_8, HB⟩ := hrel
                cases gk with
                | zero => exact absurd HA.out (by simp [swagelaw07_DomTree.l0])
                | succ k3 =>
                  have H := HA.out
                  clear HA
                  simp only [swagelaw07_DomTree.l0] at H
                  by_cases c30 : x10_3 < (l0.length : Int)
                  · rw [if_pos c30] at H
                    have c30b0 : decide (x10_3 < (l0.length : Int)) = true := decide_eq_true c30
                    clear c30
                    by_cases c31 : 0 ≤ x10_3
                    · rw [if_pos c31] at H
                      have c31b0 : decide (0 ≤ x10_3) = true := decide_eq_true c31
                      clear c31
                      by_cases c32 : x10_3 < (t352.length : Int)
                      · rw [if_pos c32] at H
                        have c32b0 : decide (x10_3 < (t352.length : Int)) = true := decide_eq_true c32
                        clear c32
                        have H' := Aside0.mk H
                        clear H
                        obtain ⟨Ao33, co33, eo33⟩ := Kd.S_slice HO_6.out
                        subst eo33
                        have p362 : 0 ≤ (x10_3 : Int) := of_decide_eq_true (by first | (with_reducible assumption) | assumption)
                        have q362 : x10_3 < (t352.length : Int) := of_decide_eq_true (by first | (with_reducible assumption) | assumption)
                        obtain ⟨ad362, A362_0, c362_0, e362, hx362_0, hl362_0, hi362_0⟩ := at_L1 (Kd.S_reads' HO_6.out).2.2 x10_3 p362 q362
                        cases e362
                        obtain ⟨ce362, hce362, hMe362, hcc362⟩ := Kd.S_get HO_6.out [] x10_3 p362 (by first | exact q362 | exact of_decide_eq_true (by first | (with_reducible assumption) | assumption) | (have e_ := (Kd.S_reads' HO_6.out).1; omega))
                        obtain ⟨ve362_0, rfl, ge362_0⟩ := hMe362
                        have hv362_0 := hcc362 0 _ rfl
                        rw [Nat.add_zero, show ((Kd.slice 3 (Kd.int .i64))).sz = 1 from rfl, Nat.mul_one] at hv362_0
                        replace hv362_0 := Option.some.inj (hv362_0.symm.trans hx362_0)
                        rw [hv362_0] at ge362_0
                        have HL362_0 := Aside0.mk (show Kd.R (Kd.int .i64) 3 _ _ _ _ (rd_L1 t352 x10_3) from ge362_0)
                        clear hv362_0 ge362_0
                        clear hcc362 hce362
                        have HR362_0 := Aside0.mk hi362_0
                        have HC362_0 := Aside0.mk hl362_0
                        clear hi362_0 hl362_0
                        replace p362 := eq_true p362
                        replace q362 := eq_true q362
                        go_wp2
                        repeat (go_quiet (fail); try go_wp2)
                        go_loopg [11] k3 (fun kq v11 w' => ∃ (x11_4 : Int), v11 = .int .i64 x11_4 ∧ Aside0 (swagelaw07_DomTree.l1 kq l0 t346 t349 t352 t355 t358 (wrap64 (x9_3 + ((rd_L1 t352 x10_3).length : Int))) x10_3 x11_4 = some r) ∧ Aside0 (kq ≤ k3) ∧ Aside0 (Kd.R (Kd.int .i64) 3 w' w.heap.size (fun k_ => some k_ ≠ (v356 : Value).ownBlock) (.slice Ao16 t349.length co16) t349) ∧ Aside0 (Kd.S (Kd.slice 3 (Kd.int .i64)) 27 w' w.heap.size (fun k_ => some k_ ≠ ((.slice Ao16 t349.length co16) : Value).ownBlock ∧ some k_ ≠ (v356 : Value).ownBlock) (.slice (some ad362) t352.length co33) t352) ∧ Aside0 (Kd.R (Kd.int .i64) 3 w' w.heap.size (fun k_ => some k_ ≠ ((.slice Ao16 t349.length co16) : Value).ownBlock) v356 t355) ∧ Aside0 (Kd.R Kd.bool 4 w' w.heap.size (fun _ => True) v359 t358) ∧ Aside0 (Kd.C (Kd.int .i64) w' A362_0 (rd_L1 t352 x10_3).length (rd_L1 t352 x10_3)) ∧ Aside0 (Below w.heap.size w w'))
                        case atStart => exact ⟨(0), (by first | rfl | (simp; done) | (simp [*]; done)), H', ⟨Nat.le_refl _⟩, ⟨by (with_reducible repeat (first | apply Kd.R_alloc | apply Kd.R_drewN | apply Kd.R_drew)); exact HO_5.out⟩, ⟨by (with_reducible repeat (first | apply Kd.S_alloc | apply Kd.S_drewN | apply Kd.S_drew)); exact HO_6.out⟩, ⟨by (with_reducible repeat (first | apply Kd.R_alloc | apply Kd.R_drewN | apply Kd.R_drew)); exact HO_7.out⟩, ⟨by (with_reducible repeat (first | apply Kd.R_alloc | apply Kd.R_drewN | apply Kd.R_drew)); exact HO_8.out⟩, ⟨by repeat (first | (with_reducible exact HR362_0.out) | (with_reducible refine Kd.C_alloc ?_ _) | (with_reducible refine Kd.C_drewN ?_ _) | (with_reducible refine Kd.C_drew ?_) | exact HR362_0.out)⟩, ⟨by repeat (first | (with_reducible first | exact HB.out | apply below_alloc | apply pw_below_drewN | apply below_drew1) | exact HB.out)⟩⟩
                        case round =>
                          clear H'
                          try clear c1
                          try clear c2
                          try clear p2
                          try clear c3
                          try clear p3
                          try clear q3
                          try clear hx3
                          try clear c6
                          try clear p6
                          try clear c9
                          try clear c12
                          try clear c20
                          try clear c20b0
                          try clear c20b1
                          try clear c20b2
                          try clear c21
                          try clear c21b0
                          try clear c21b1
                          try clear c21b2
                          try clear c22
                          try clear c22b0
                          try clear c22b1
                          try clear c22b2
                          try clear c29
                          try clear c30
                          try clear c30b0
                          try clear c31
                          try clear c31b0
                          try clear c32
                          try clear c32b0
                          try clear hx362_0
                          try clear p2
                          try clear p362
                          try clear q362
                          obtain ⟨x11_4, rfl, HA, HK4, HO_5, HO_6, HO_7, HO_8, HR362_0, HB⟩ := hrel
                          cases gk with
                          | zero => exact absurd HA.out (by simp [swagelaw07_DomTree.l1])
                          | succ k4 =>
                            have H := HA.out
                            clear HA
                            simp only [swagelaw07_DomTree.l1] at H
                            by_cases c34 : 0 ≤ x10_3
                            · rw [if_pos c34] at H
                              have c34b0 : decide (0 ≤ x10_3) = true := decide_eq_true c34
                              clear c34
                              by_cases c35 : x10_3 < (t352.length : Int)
                              · rw [if_pos c35] at H
                                have c35b0 : decide (x10_3 < (t352.length : Int)) = true := decide_eq_true c35
                                clear c35
                                by_cases c36 : x11_4 < ((rd_L1 t352 x10_3).length : Int)
                                · rw [if_pos c36] at H
                                  have c36b0 : decide (x11_4 < ((rd_L1 t352 x10_3).length : Int)) = true := decide_eq_true c36
                                  clear c36
                                  by_cases c37 : 0 ≤ x11_4
                                  · rw [if_pos c37] at H
                                    have c37b0 : decide (0 ≤ x11_4) = true := decide_eq_true c37
                                    clear c37
                                    by_cases c38 : (rd (rd_L1 t352 x10_3) x11_4) < 1
                                    · rw [if_pos c38] at H
                                      have c38b0 : decide ((rd (rd_L1 t352 x10_3) x11_4) < 1) = true := decide_eq_true c38
                                      clear c38
                                      obtain rfl := Option.some.inj H
                                      have p363 : 0 ≤ (x10_3 : Int) := of_decide_eq_true (by first | (with_reducible assumption) | assumption)
                                      have q363 : x10_3 < (t352.length : Int) := of_decide_eq_true (by first | (with_reducible assumption) | assumption)
                                      obtain ⟨ad363, A363_0, c363_0, e363, hx363_0, hl363_0, hi363_0⟩ := at_L1 (Kd.S_reads' HO_6.out).2.2 x10_3 p363 q363
                                      obtain rfl : ad362 = ad363 := (by injection e363)
                                      obtain ⟨ce363, hce363, hMe363, hcc363⟩ := Kd.S_get HO_6.out [] x10_3 p363 (by first | exact q363 | exact of_decide_eq_true (by first | (with_reducible assumption) | assumption) | (have e_ := (Kd.S_reads' HO_6.out).1; omega))
                                      obtain ⟨ve363_0, rfl, ge363_0⟩ := hMe363
                                      have hv363_0 := hcc363 0 _ rfl
                                      rw [Nat.add_zero, show ((Kd.slice 3 (Kd.int .i64))).sz = 1 from rfl, Nat.mul_one] at hv363_0
                                      replace hv363_0 := Option.some.inj (hv363_0.symm.trans hx363_0)
                                      rw [hv363_0] at ge363_0
                                      have HL363_0 := Aside0.mk (show Kd.R (Kd.int .i64) 3 _ _ _ _ (rd_L1 t352 x10_3) from ge363_0)
                                      clear hv363_0 ge363_0
                                      clear hcc363 hce363
                                      have HR363_0 := Aside0.mk hi363_0
                                      have HC363_0 := Aside0.mk hl363_0
                                      clear hi363_0 hl363_0
                                      replace p363 := eq_true p363
                                      replace q363 := eq_true q363
                                      have p364 : 0 ≤ (x10_3 : Int) := of_decide_eq_true (by first | (with_reducible assumption) | assumption)
                                      have q364 : x10_3 < (t352.length : Int) := of_decide_eq_true (by first | (with_reducible assumption) | assumption)
                                      obtain ⟨ad364, A364_0, c364_0, e364, hx364_0, hl364_0, hi364_0⟩ := at_L1 (Kd.S_reads' HO_6.out).2.2 x10_3 p364 q364
                                      obtain rfl : ad362 = ad364 := (by injection e364)
                                      obtain ⟨ce364, hce364, hMe364, hcc364⟩ := Kd.S_get HO_6.out [] x10_3 p364 (by first | exact q364 | exact of_decide_eq_true (by first | (with_reducible assumption) | assumption) | (have e_ := (Kd.S_reads' HO_6.out).1; omega))
                                      obtain ⟨ve364_0, rfl, ge364_0⟩ := hMe364
                                      have hv364_0 := hcc364 0 _ rfl
                                      rw [Nat.add_zero, show ((Kd.slice 3 (Kd.int .i64))).sz = 1 from rfl, Nat.mul_one] at hv364_0
                                      replace hv364_0 := Option.some.inj (hv364_0.symm.trans hx364_0)
                                      rw [hv364_0] at ge364_0
                                      have HL364_0 := Aside0.mk (show Kd.R (Kd.int .i64) 3 _ _ _ _ (rd_L1 t352 x10_3) from ge364_0)
                                      clear hv364_0 ge364_0
                                      clear hcc364 hce364
                                      have HR364_0 := Aside0.mk hi364_0
                                      have HC364_0 := Aside0.mk hl364_0
                                      clear hi364_0 hl364_0
                                      replace p364 := eq_true p364
                                      replace q364 := eq_true q364
                                      have ea_ := Option.some.inj (hx363_0.symm.trans hx364_0)
                                      injection ea_ with ea_ en_ ec_
                                      subst ea_
                                      subst ec_
                                      clear en_
                                      have p365 : 0 ≤ (x11_4 : Int) := of_decide_eq_true (by first | (with_reducible assumption) | assumption)
                                      have q365 : x11_4 < ((rd_L1 t352 x10_3).length : Int) := of_decide_eq_true (by first | (with_reducible assumption) | assumption)
                                      obtain ⟨ad365, e365, hx365_0⟩ := Kd.at_int (by repeat (first | (with_reducible exact HR364_0.out) | (with_reducible refine Kd.C_alloc ?_ _) | (with_reducible refine Kd.C_drewN ?_ _) | (with_reducible refine Kd.C_drew ?_) | exact HR364_0.out)) x11_4 p365 q365
                                      cases e365
                                      replace p365 := eq_true p365
                                      replace q365 := eq_true q365
                                      go_wp2
                                      repeat (go_quiet (fail); try go_wp2)
                                      go_ret
                                      exact ⟨by first | rfl | (simp [errW_none, errW_some] <;> rfl) | (simp [*, errW_none, errW_some] <;> rfl), by repeat (first | (with_reducible first | exact HB.out | apply below_alloc | apply pw_below_drewN | apply below_drew1) | exact HB.out)⟩
                                    · rw [if_neg c38] at H
                                      have c38b0 : decide ((rd (rd_L1 t352 x10_3) x11_4) < 1) = false := decide_eq_false c38
                                      clear c38
                                      by_cases c39 : (rd (rd_L1 t352 x10_3) x11_4) ≥ (l0.length : Int)
                                      · rw [if_pos c39] at H
                                        have c39b0 : decide ((l0.length : Int) ≤ (rd (rd_L1 t352 x10_3) x11_4)) = true := decide_eq_true c39
                                        clear c39
                                        obtain rfl := Option.some.inj H
                                        have p363 : 0 ≤ (x10_3 : Int) := of_decide_eq_true (by first | (with_reducible assumption) | assumption)
                                        have q363 : x10_3 < (t352.length : Int) := of_decide_eq_true (by first | (with_reducible assumption) | assumption)
                                        obtain ⟨ad363, A363_0, c363_0, e363, hx363_0, hl363_0, hi363_0⟩ := at_L1 (Kd.S_reads' HO_6.out).2.2 x10_3 p363 q363
                                        obtain rfl : ad362 = ad363 := (by injection e363)
                                        obtain ⟨ce363, hce363, hMe363, hcc363⟩ := Kd.S_get HO_6.out [] x10_3 p363 (by first | exact q363 | exact of_decide_eq_true (by first | (with_reducible assumption) | assumption) | (have e_ := (Kd.S_reads' HO_6.out).1; omega))
                                        obtain ⟨ve363_0, rfl, ge363_0⟩ := hMe363
                                        have hv363_0 := hcc363 0 _ rfl
                                        rw [Nat.add_zero, show ((Kd.slice 3 (Kd.int .i64))).sz = 1 from rfl, Nat.mul_one] at hv363_0
                                        replace hv363_0 := Option.some.inj (hv363_0.symm.trans hx363_0)
                                        rw [hv363_0] at ge363_0
                                        have HL363_0 := Aside0.mk (show Kd.R (Kd.int .i64) 3 _ _ _ _ (rd_L1 t352 x10_3) from ge363_0)
                                        clear hv363_0 ge363_0
                                        clear hcc363 hce363
                                        have HR363_0 := Aside0.mk hi363_0
                                        have HC363_0 := Aside0.mk hl363_0
                                        clear hi363_0 hl363_0
                                        replace p363 := eq_true p363
                                        replace q363 := eq_true q363
                                        have p364 : 0 ≤ (x10_3 : Int) := of_decide_eq_true (by first | (with_reducible assumption) | assumption)
                                        have q364 : x10_3 < (t352.length : Int) := of_decide_eq_true (by first | (with_reducible assumption) | assumption)
                                        obtain ⟨ad364, A364_0, c364_0, e364, hx364_0, hl364_0, hi364_0⟩ := at_L1 (Kd.S_reads' HO_6.out).2.2 x10_3 p364 q364
                                        obtain rfl : ad362 = ad364 := (by injection e364)
                                        obtain ⟨ce364, hce364, hMe364, hcc364⟩ := Kd.S_get HO_6.out [] x10_3 p364 (by first | exact q364 | exact of_decide_eq_true (by first | (with_reducible assumption) | assumption) | (have e_ := (Kd.S_reads' HO_6.out).1; omega))
                                        obtain ⟨ve364_0, rfl, ge364_0⟩ := hMe364
                                        have hv364_0 := hcc364 0 _ rfl
                                        rw [Nat.add_zero, show ((Kd.slice 3 (Kd.int .i64))).sz = 1 from rfl, Nat.mul_one] at hv364_0
                                        replace hv364_0 := Option.some.inj (hv364_0.symm.trans hx364_0)
                                        rw [hv364_0] at ge364_0
                                        have HL364_0 := Aside0.mk (show Kd.R (Kd.int .i64) 3 _ _ _ _ (rd_L1 t352 x10_3) from ge364_0)
                                        clear hv364_0 ge364_0
                                        clear hcc364 hce364
                                        have HR364_0 := Aside0.mk hi364_0
                                        have HC364_0 := Aside0.mk hl364_0
                                        clear hi364_0 hl364_0
                                        replace p364 := eq_true p364
                                        replace q364 := eq_true q364
                                        have ea_ := Option.some.inj (hx363_0.symm.trans hx364_0)
                                        injection ea_ with ea_ en_ ec_
                                        subst ea_
                                        subst ec_
                                        clear en_
                                        have p365 : 0 ≤ (x11_4 : Int) := of_decide_eq_true (by first | (with_reducible assumption) | assumption)
                                        have q365 : x11_4 < ((rd_L1 t352 x10_3).length : Int) := of_decide_eq_true (by first | (with_reducible assumption) | assumption)
                                        obtain ⟨ad365, e365, hx365_0⟩ := Kd.at_int (by repeat (first | (with_reducible exact HR364_0.out) | (with_reducible refine Kd.C_alloc ?_ _) | (with_reducible refine Kd.C_drewN ?_ _) | (with_reducible refine Kd.C_drew ?_) | exact HR364_0.out)) x11_4 p365 q365
                                        cases e365
                                        replace p365 := eq_true p365
                                        replace q365 := eq_true q365
                                        go_wp2
                                        repeat (go_quiet (fail); try go_wp2)
                                        go_ret
                                        exact ⟨by first | rfl | (simp [errW_none, errW_some] <;> rfl) | (simp [*, errW_none, errW_some] <;> rfl), by repeat (first | (with_reducible first | exact HB.out | apply below_alloc | apply pw_below_drewN | apply below_drew1) | exact HB.out)⟩
                                      · rw [if_neg c39] at H
                                        have c39b0 : decide ((l0.length : Int) ≤ (rd (rd_L1 t352 x10_3) x11_4)) = false := decide_eq_false c39
                                        clear c39
                                        by_cases c40 : 0 ≤ (rd (rd_L1 t352 x10_3) x11_4)
                                        · rw [if_pos c40] at H
                                          have c40b0 : decide (0 ≤ (rd (rd_L1 t352 x10_3) x11_4)) = true := decide_eq_true c40
                                          clear c40
                                          by_cases c41 : (rd (rd_L1 t352 x10_3) x11_4) < (t349.length : Int)
                                          · rw [if_pos c41] at H
                                            have c41b0 : decide ((rd (rd_L1 t352 x10_3) x11_4) < (t349.length : Int)) = true := decide_eq_true c41
                                            clear c41
                                            by_cases c42 : (rd t349 (rd (rd_L1 t352 x10_3) x11_4)) = x10_3
                                            · rw [if_pos c42] at H
                                              have c42b0 : ((rd t349 (rd (rd_L1 t352 x10_3) x11_4)) == x10_3) = true := beq_iff_eq.mpr c42
                                              have c42b1 : ((rd t349 (rd (rd_L1 t352 x10_3) x11_4)) != x10_3) = false := bne_eq_false_iff_eq.mpr c42
                                              clear c42
                                              by_cases c43 : (rd (rd_L1 t352 x10_3) x11_4) < (t355.length : Int)
                                              · rw [if_pos c43] at H
                                                have c43b0 : decide ((rd (rd_L1 t352 x10_3) x11_4) < (t355.length : Int)) = true := decide_eq_true c43
                                                clear c43
                                                by_cases c44 : x10_3 < (t355.length : Int)
                                                · rw [if_pos c44] at H
                                                  have c44b0 : decide (x10_3 < (t355.length : Int)) = true := decide_eq_true c44
                                                  clear c44
                                                  by_cases c45 : (rd t355 (rd (rd_L1 t352 x10_3) x11_4)) = (wrap64 ((rd t355 x10_3) + 1))
                                                  · rw [if_pos c45] at H
                                                    have c45b0 : ((rd t355 (rd (rd_L1 t352 x10_3) x11_4)) == (wrap64 ((rd t355 x10_3) + 1))) = true := beq_iff_eq.mpr c45
                                                    have c45b1 : ((rd t355 (rd (rd_L1 t352 x10_3) x11_4)) != (wrap64 ((rd t355 x10_3) + 1))) = false := bne_eq_false_iff_eq.mpr c45
                                                    clear c45
                                                    have H' := Aside0.mk H
                                                    clear H
                                                    have p363 : 0 ≤ (x10_3 : Int) := of_decide_eq_true (by first | (with_reducible assumption) | assumption)
                                                    have q363 : x10_3 < (t352.length : Int) := of_decide_eq_true (by first | (with_reducible assumption) | assumption)
                                                    obtain ⟨ad363, A363_0, c363_0, e363, hx363_0, hl363_0, hi363_0⟩ := at_L1 (Kd.S_reads' HO_6.out).2.2 x10_3 p363 q363
                                                    obtain rfl : ad362 = ad363 := (by injection e363)
                                                    obtain ⟨ce363, hce363, hMe363, hcc363⟩ := Kd.S_get HO_6.out [] x10_3 p363 (by first | exact q363 | exact of_decide_eq_true (by first | (with_reducible assumption) | assumption) | (have e_ := (Kd.S_reads' HO_6.out).1; omega))
                                                    obtain ⟨ve363_0, rfl, ge363_0⟩ := hMe363
                                                    have hv363_0 := hcc363 0 _ rfl
                                                    rw [Nat.add_zero, show ((Kd.slice 3 (Kd.int .i64))).sz = 1 from rfl, Nat.mul_one] at hv363_0
                                                    replace hv363_0 := Option.some.inj (hv363_0.symm.trans hx363_0)
                                                    rw [hv363_0] at ge363_0
                                                    have HL363_0 := Aside0.mk (show Kd.R (Kd.int .i64) 3 _ _ _ _ (rd_L1 t352 x10_3) from ge363_0)
                                                    clear hv363_0 ge363_0
                                                    clear hcc363 hce363
                                                    have HR363_0 := Aside0.mk hi363_0
                                                    have HC363_0 := Aside0.mk hl363_0
                                                    clear hi363_0 hl363_0
                                                    replace p363 := eq_true p363
                                                    replace q363 := eq_true q363
                                                    have p364 : 0 ≤ (x10_3 : Int) := of_decide_eq_true (by first | (with_reducible assumption) | assumption)
                                                    have q364 : x10_3 < (t352.length : Int) := of_decide_eq_true (by first | (with_reducible assumption) | assumption)
                                                    obtain ⟨ad364, A364_0, c364_0, e364, hx364_0, hl364_0, hi364_0⟩ := at_L1 (Kd.S_reads' HO_6.out).2.2 x10_3 p364 q364
                                                    obtain rfl : ad362 = ad364 := (by injection e364)
                                                    obtain ⟨ce364, hce364, hMe364, hcc364⟩ := Kd.S_get HO_6.out [] x10_3 p364 (by first | exact q364 | exact of_decide_eq_true (by first | (with_reducible assumption) | assumption) | (have e_ := (Kd.S_reads' HO_6.out).1; omega))
                                                    obtain ⟨ve364_0, rfl, ge364_0⟩ := hMe364
                                                    have hv364_0 := hcc364 0 _ rfl
                                                    rw [Nat.add_zero, show ((Kd.slice 3 (Kd.int .i64))).sz = 1 from rfl, Nat.mul_one] at hv364_0
                                                    replace hv364_0 := Option.some.inj (hv364_0.symm.trans hx364_0)
                                                    rw [hv364_0] at ge364_0
                                                    have HL364_0 := Aside0.mk (show Kd.R (Kd.int .i64) 3 _ _ _ _ (rd_L1 t352 x10_3) from ge364_0)
                                                    clear hv364_0 ge364_0
                                                    clear hcc364 hce364
                                                    have HR364_0 := Aside0.mk hi364_0
                                                    have HC364_0 := Aside0.mk hl364_0
                                                    clear hi364_0 hl364_0
                                                    replace p364 := eq_true p364
                                                    replace q364 := eq_true q364
                                                    have ea_ := Option.some.inj (hx363_0.symm.trans hx364_0)
                                                    injection ea_ with ea_ en_ ec_
                                                    subst ea_
                                                    subst ec_
                                                    clear en_
                                                    have p365 : 0 ≤ (x11_4 : Int) := of_decide_eq_true (by first | (with_reducible assumption) | assumption)
                                                    have q365 : x11_4 < ((rd_L1 t352 x10_3).length : Int) := of_decide_eq_true (by first | (with_reducible assumption) | assumption)
                                                    obtain ⟨ad365, e365, hx365_0⟩ := Kd.at_int (by repeat (first | (with_reducible exact HR364_0.out) | (with_reducible refine Kd.C_alloc ?_ _) | (with_reducible refine Kd.C_drewN ?_ _) | (with_reducible refine Kd.C_drew ?_) | exact HR364_0.out)) x11_4 p365 q365
                                                    cases e365
                                                    replace p365 := eq_true p365
                                                    replace q365 := eq_true q365
                                                    have p366 : 0 ≤ ((rd (rd_L1 t352 x10_3) x11_4) : Int) := of_decide_eq_true (by first | (with_reducible assumption) | assumption)
                                                    have q366 : (rd (rd_L1 t352 x10_3) x11_4) < (t349.length : Int) := of_decide_eq_true (by first | (with_reducible assumption) | assumption)
                                                    obtain ⟨ad366, e366, hx366_0⟩ := Kd.at_int (Kd.R_reads' HO_5.out).2.2 (rd (rd_L1 t352 x10_3) x11_4) p366 q366
                                                    cases e366
                                                    replace p366 := eq_true p366
                                                    replace q366 := eq_true q366
                                                    obtain ⟨Ao46, co46, eo46⟩ := Kd.R_slice HO_7.out
                                                    subst eo46
                                                    have p367 : 0 ≤ ((rd (rd_L1 t352 x10_3) x11_4) : Int) := of_decide_eq_true (by first | (with_reducible assumption) | assumption)
                                                    have q367 : (rd (rd_L1 t352 x10_3) x11_4) < (t355.length : Int) := of_decide_eq_true (by first | (with_reducible assumption) | assumption)
                                                    obtain ⟨ad367, e367, hx367_0⟩ := Kd.at_int (Kd.R_reads' HO_7.out).2.2 (rd (rd_L1 t352 x10_3) x11_4) p367 q367
                                                    cases e367
                                                    replace p367 := eq_true p367
                                                    replace q367 := eq_true q367
                                                    have p368 : 0 ≤ (x10_3 : Int) := of_decide_eq_true (by first | (with_reducible assumption) | assumption)
                                                    have q368 : x10_3 < (t355.length : Int) := of_decide_eq_true (by first | (with_reducible assumption) | assumption)
                                                    obtain ⟨ad368, e368, hx368_0⟩ := Kd.at_int (Kd.R_reads' HO_7.out).2.2 x10_3 p368 q368
                                                    obtain rfl : ad367 = ad368 := (by injection e368)
                                                    replace p368 := eq_true p368
                                                    replace q368 := eq_true q368
                                                    go_wp2
                                                    repeat (go_quiet (fail); try go_wp2)
                                                    go_roundg k4
                                                    case measure => have := HJ3.out; have := HJ13.out; have := HK3.out; have := HK4.out; omega
                                                    case rel => exact ⟨(wrap64 (x11_4 + 1)), (by first | rfl | (simp; done) | (simp [*]; done)), H', ⟨by have := HJ3.out; have := HJ13.out; have := HK3.out; have := HK4.out; omega⟩, ⟨by (with_reducible repeat (first | apply Kd.R_alloc | apply Kd.R_drewN | apply Kd.R_drew)); exact HO_5.out⟩, ⟨by (with_reducible repeat (first | apply Kd.S_alloc | apply Kd.S_drewN | apply Kd.S_drew)); exact HO_6.out⟩, ⟨by (with_reducible repeat (first | apply Kd.R_alloc | apply Kd.R_drewN | apply Kd.R_drew)); exact HO_7.out⟩, ⟨by (with_reducible repeat (first | apply Kd.R_alloc | apply Kd.R_drewN | apply Kd.R_drew)); exact HO_8.out⟩, ⟨by repeat (first | (with_reducible exact HR362_0.out) | (with_reducible refine Kd.C_alloc ?_ _) | (with_reducible refine Kd.C_drewN ?_ _) | (with_reducible refine Kd.C_drew ?_) | exact HR362_0.out)⟩, ⟨by repeat (first | (with_reducible first | exact HB.out | apply below_alloc | apply pw_below_drewN | apply below_drew1) | exact HB.out)⟩⟩
                                                  · rw [if_neg c45] at H
                                                    have c45b0 : ((rd t355 (rd (rd_L1 t352 x10_3) x11_4)) == (wrap64 ((rd t355 x10_3) + 1))) = false := beq_eq_false_iff_ne.mpr c45
                                                    have c45b1 : ((rd t355 (rd (rd_L1 t352 x10_3) x11_4)) != (wrap64 ((rd t355 x10_3) + 1))) = true := bne_iff_ne.mpr c45
                                                    obtain rfl := Option.some.inj H
                                                    have p363 : 0 ≤ (x10_3 : Int) := of_decide_eq_true (by first | (with_reducible assumption) | assumption)
                                                    have q363 : x10_3 < (t352.length : Int) := of_decide_eq_true (by first | (with_reducible assumption) | assumption)
                                                    obtain ⟨ad363, A363_0, c363_0, e363, hx363_0, hl363_0, hi363_0⟩ := at_L1 (Kd.S_reads' HO_6.out).2.2 x10_3 p363 q363
                                                    obtain rfl : ad362 = ad363 := (by injection e363)
                                                    obtain ⟨ce363, hce363, hMe363, hcc363⟩ := Kd.S_get HO_6.out [] x10_3 p363 (by first | exact q363 | exact of_decide_eq_true (by first | (with_reducible assumption) | assumption) | (have e_ := (Kd.S_reads' HO_6.out).1; omega))
                                                    obtain ⟨ve363_0, rfl, ge363_0⟩ := hMe363
                                                    have hv363_0 := hcc363 0 _ rfl
                                                    rw [Nat.add_zero, show ((Kd.slice 3 (Kd.int .i64))).sz = 1 from rfl, Nat.mul_one] at hv363_0
                                                    replace hv363_0 := Option.some.inj (hv363_0.symm.trans hx363_0)
                                                    rw [hv363_0] at ge363_0
                                                    have HL363_0 := Aside0.mk (show Kd.R (Kd.int .i64) 3 _ _ _ _ (rd_L1 t352 x10_3) from ge363_0)
                                                    clear hv363_0 ge363_0
                                                    clear hcc363 hce363
                                                    have HR363_0 := Aside0.mk hi363_0
                                                    have HC363_0 := Aside0.mk hl363_0
                                                    clear hi363_0 hl363_0
                                                    replace p363 := eq_true p363
                                                    replace q363 := eq_true q363
                                                    have p364 : 0 ≤ (x10_3 : Int) := of_decide_eq_true (by first | (with_reducible assumption) | assumption)
                                                    have q364 : x10_3 < (t352.length : Int) := of_decide_eq_true (by first | (with_reducible assumption) | assumption)
                                                    obtain ⟨ad364, A364_0, c364_0, e364, hx364_0, hl364_0, hi364_0⟩ := at_L1 (Kd.S_reads' HO_6.out).2.2 x10_3 p364 q364
                                                    obtain rfl : ad362 = ad364 := (by injection e364)
                                                    obtain ⟨ce364, hce364, hMe364, hcc364⟩ := Kd.S_get HO_6.out [] x10_3 p364 (by first | exact q364 | exact of_decide_eq_true (by first | (with_reducible assumption) | assumption) | (have e_ := (Kd.S_reads' HO_6.out).1; omega))
                                                    obtain ⟨ve364_0, rfl, ge364_0⟩ := hMe364
                                                    have hv364_0 := hcc364 0 _ rfl
                                                    rw [Nat.add_zero, show ((Kd.slice 3 (Kd.int .i64))).sz = 1 from rfl, Nat.mul_one] at hv364_0
                                                    replace hv364_0 := Option.some.inj (hv364_0.symm.trans hx364_0)
                                                    rw [hv364_0] at ge364_0
                                                    have HL364_0 := Aside0.mk (show Kd.R (Kd.int .i64) 3 _ _ _ _ (rd_L1 t352 x10_3) from ge364_0)
                                                    clear hv364_0 ge364_0
                                                    clear hcc364 hce364
                                                    have HR364_0 := Aside0.mk hi364_0
                                                    have HC364_0 := Aside0.mk hl364_0
                                                    clear hi364_0 hl364_0
                                                    replace p364 := eq_true p364
                                                    replace q364 := eq_true q364
                                                    have ea_ := Option.some.inj (hx363_0.symm.trans hx364_0)
                                                    injection ea_ with ea_ en_ ec_
                                                    subst ea_
                                                    subst ec_
                                                    clear en_
                                                    have p365 : 0 ≤ (x11_4 : Int) := of_decide_eq_true (by first | (with_reducible assumption) | assumption)
                                                    have q365 : x11_4 < ((rd_L1 t352 x10_3).length : Int) := of_decide_eq_true (by first | (with_reducible assumption) | assumption)
                                                    obtain ⟨ad365, e365, hx365_0⟩ := Kd.at_int (by repeat (first | (with_reducible exact HR364_0.out) | (with_reducible refine Kd.C_alloc ?_ _) | (with_reducible refine Kd.C_drewN ?_ _) | (with_reducible refine Kd.C_drew ?_) | exact HR364_0.out)) x11_4 p365 q365
                                                    cases e365
                                                    replace p365 := eq_true p365
                                                    replace q365 := eq_true q365
                                                    have p366 : 0 ≤ ((rd (rd_L1 t352 x10_3) x11_4) : Int) := of_decide_eq_true (by first | (with_reducible assumption) | assumption)
                                                    have q366 : (rd (rd_L1 t352 x10_3) x11_4) < (t349.length : Int) := of_decide_eq_true (by first | (with_reducible assumption) | assumption)
                                                    obtain ⟨ad366, e366, hx366_0⟩ := Kd.at_int (Kd.R_reads' HO_5.out).2.2 (rd (rd_L1 t352 x10_3) x11_4) p366 q366
                                                    cases e366
                                                    replace p366 := eq_true p366
                                                    replace q366 := eq_true q366
                                                    obtain ⟨Ao47, co47, eo47⟩ := Kd.R_slice HO_7.out
                                                    subst eo47
                                                    have p367 : 0 ≤ ((rd (rd_L1 t352 x10_3) x11_4) : Int) := of_decide_eq_true (by first | (with_reducible assumption) | assumption)
                                                    have q367 : (rd (rd_L1 t352 x10_3) x11_4) < (t355.length : Int) := of_decide_eq_true (by first | (with_reducible assumption) | assumption)
                                                    obtain ⟨ad367, e367, hx367_0⟩ := Kd.at_int (Kd.R_reads' HO_7.out).2.2 (rd (rd_L1 t352 x10_3) x11_4) p367 q367
                                                    cases e367
                                                    replace p367 := eq_true p367
                                                    replace q367 := eq_true q367
                                                    have p368 : 0 ≤ (x10_3 : Int) := of_decide_eq_true (by first | (with_reducible assumption) | assumption)
                                                    have q368 : x10_3 < (t355.length : Int) := of_decide_eq_true (by first | (with_reducible assumption) | assumption)
                                                    obtain ⟨ad368, e368, hx368_0⟩ := Kd.at_int (Kd.R_reads' HO_7.out).2.2 x10_3 p368 q368
                                                    obtain rfl : ad367 = ad368 := (by injection e368)
                                                    replace p368 := eq_true p368
                                                    replace q368 := eq_true q368
                                                    go_wp2
                                                    repeat (go_quiet (fail); try go_wp2)
                                                    go_ret
                                                    exact ⟨by first | rfl | (simp [errW_none, errW_some] <;> rfl) | (simp [*, errW_none, errW_some] <;> rfl), by repeat (first | (with_reducible first | exact HB.out | apply below_alloc | apply pw_below_drewN | apply below_drew1) | exact HB.out)⟩
                                                · rw [if_neg c44] at H
                                                  exact absurd H (by simp)
                                              · rw [if_neg c43] at H
                                                exact absurd H (by simp)
                                            · rw [if_neg c42] at H
                                              have c42b0 : ((rd t349 (rd (rd_L1 t352 x10_3) x11_4)) == x10_3) = false := beq_eq_false_iff_ne.mpr c42
                                              have c42b1 : ((rd t349 (rd (rd_L1 t352 x10_3) x11_4)) != x10_3) = true := bne_iff_ne.mpr c42
                                              obtain rfl := Option.some.inj H
                                              have p363 : 0 ≤ (x10_3 : Int) := of_decide_eq_true (by first | (with_reducible assumption) | assumption)
                                              have q363 : x10_3 < (t352.length : Int) := of_decide_eq_true (by first | (with_reducible assumption) | assumption)
                                              obtain ⟨ad363, A363_0, c363_0, e363, hx363_0, hl363_0, hi363_0⟩ := at_L1 (Kd.S_reads' HO_6.out).2.2 x10_3 p363 q363
                                              obtain rfl : ad362 = ad363 := (by injection e363)
                                              obtain ⟨ce363, hce363, hMe363, hcc363⟩ := Kd.S_get HO_6.out [] x10_3 p363 (by first | exact q363 | exact of_decide_eq_true (by first | (with_reducible assumption) | assumption) | (have e_ := (Kd.S_reads' HO_6.out).1; omega))
                                              obtain ⟨ve363_0, rfl, ge363_0⟩ := hMe363
                                              have hv363_0 := hcc363 0 _ rfl
                                              rw [Nat.add_zero, show ((Kd.slice 3 (Kd.int .i64))).sz = 1 from rfl, Nat.mul_one] at hv363_0
                                              replace hv363_0 := Option.some.inj (hv363_0.symm.trans hx363_0)
                                              rw [hv363_0] at ge363_0
                                              have HL363_0 := Aside0.mk (show Kd.R (Kd.int .i64) 3 _ _ _ _ (rd_L1 t352 x10_3) from ge363_0)
                                              clear hv363_0 ge363_0
                                              clear hcc363 hce363
                                              have HR363_0 := Aside0.mk hi363_0
                                              have HC363_0 := Aside0.mk hl363_0
                                              clear hi363_0 hl363_0
                                              replace p363 := eq_true p363
                                              replace q363 := eq_true q363
                                              have p364 : 0 ≤ (x10_3 : Int) := of_decide_eq_true (by first | (with_reducible assumption) | assumption)
                                              have q364 : x10_3 < (t352.length : Int) := of_decide_eq_true (by first | (with_reducible assumption) | assumption)
                                              obtain ⟨ad364, A364_0, c364_0, e364, hx364_0, hl364_0, hi364_0⟩ := at_L1 (Kd.S_reads' HO_6.out).2.2 x10_3 p364 q364
                                              obtain rfl : ad362 = ad364 := (by injection e364)
                                              obtain ⟨ce364, hce364, hMe364, hcc364⟩ := Kd.S_get HO_6.out [] x10_3 p364 (by first | exact q364 | exact of_decide_eq_true (by first | (with_reducible assumption) | assumption) | (have e_ := (Kd.S_reads' HO_6.out).1; omega))
                                              obtain ⟨ve364_0, rfl, ge364_0⟩ := hMe364
                                              have hv364_0 := hcc364 0 _ rfl
                                              rw [Nat.add_zero, show ((Kd.slice 3 (Kd.int .i64))).sz = 1 from rfl, Nat.mul_one] at hv364_0
                                              replace hv364_0 := Option.some.inj (hv364_0.symm.trans hx364_0)
                                              rw [hv364_0] at ge364_0
                                              have HL364_0 := Aside0.mk (show Kd.R (Kd.int .i64) 3 _ _ _ _ (rd_L1 t352 x10_3) from ge364_0)
                                              clear hv364_0 ge364_0
                                              clear hcc364 hce364
                                              have HR364_0 := Aside0.mk hi364_0
                                              have HC364_0 := Aside0.mk hl364_0
                                              clear hi364_0 hl364_0
                                              replace p364 := eq_true p364
                                              replace q364 := eq_true q364
                                              have ea_ := Option.some.inj (hx363_0.symm.trans hx364_0)
                                              injection ea_ with ea_ en_ ec_
                                              subst ea_
                                              subst ec_
                                              clear en_
                                              have p365 : 0 ≤ (x11_4 : Int) := of_decide_eq_true (by first | (with_reducible assumption) | assumption)
                                              have q365 : x11_4 < ((rd_L1 t352 x10_3).length : Int) := of_decide_eq_true (by first | (with_reducible assumption) | assumption)
                                              obtain ⟨ad365, e365, hx365_0⟩ := Kd.at_int (by repeat (first | (with_reducible exact HR364_0.out) | (with_reducible refine Kd.C_alloc ?_ _) | (with_reducible refine Kd.C_drewN ?_ _) | (with_reducible refine Kd.C_drew ?_) | exact HR364_0.out)) x11_4 p365 q365
                                              cases e365
                                              replace p365 := eq_true p365
                                              replace q365 := eq_true q365
                                              have p366 : 0 ≤ ((rd (rd_L1 t352 x10_3) x11_4) : Int) := of_decide_eq_true (by first | (with_reducible assumption) | assumption)
                                              have q366 : (rd (rd_L1 t352 x10_3) x11_4) < (t349.length : Int) := of_decide_eq_true (by first | (with_reducible assumption) | assumption)
                                              obtain ⟨ad366, e366, hx366_0⟩ := Kd.at_int (Kd.R_reads' HO_5.out).2.2 (rd (rd_L1 t352 x10_3) x11_4) p366 q366
                                              cases e366
                                              replace p366 := eq_true p366
                                              replace q366 := eq_true q366
                                              go_wp2
                                              repeat (go_quiet (fail); try go_wp2)
                                              go_ret
                                              exact ⟨by first | rfl | (simp [errW_none, errW_some] <;> rfl) | (simp [*, errW_none, errW_some] <;> rfl), by repeat (first | (with_reducible first | exact HB.out | apply below_alloc | apply pw_below_drewN | apply below_drew1) | exact HB.out)⟩
                                          · rw [if_neg c41] at H
                                            exact absurd H (by simp)
                                        · rw [if_neg c40] at H
                                          exact absurd H (by simp)
                                  · rw [if_neg c37] at H
                                    exact absurd H (by simp)
                                · rw [if_neg c36] at H
                                  have c36b0 : decide (x11_4 < ((rd_L1 t352 x10_3).length : Int)) = false := decide_eq_false c36
                                  clear c36
                                  by_cases c48 : x10_3 < (t358.length : Int)
                                  · rw [if_pos c48] at H
                                    have c48b0 : decide (x10_3 < (t358.length : Int)) = true := decide_eq_true c48
                                    clear c48
                                    by_cases c49 : x10_3 < (t355.length : Int)
                                    · rw [if_pos c49] at H
                                      have c49b0 : decide (x10_3 < (t355.length : Int)) = true := decide_eq_true c49
                                      clear c49
                                      by_cases c50 : ((rdOf false t358 x10_3) != (decide ((rd t355 x10_3) ≥ 0))) = true
                                      · rw [if_pos c50] at H
                                        have c50b0 : ((rdOf false t358 x10_3) != (decide ((rd t355 x10_3) ≥ 0))) = true := c50
                                        (try (have c50b1 : decide ((rdOf false t358 x10_3) = (decide ((rd t355 x10_3) ≥ 0))) = false := by simpa using c50))
                                        (try (have c50b2 : ((rdOf false t358 x10_3) == (decide ((rd t355 x10_3) ≥ 0))) = false := by simpa using c50))
                                        (try (have c50b3 : ¬ ((rdOf false t358 x10_3) = (decide ((rd t355 x10_3) ≥ 0))) := by simpa using c50))
                                        clear c50
                                        obtain rfl := Option.some.inj H
                                        have p363 : 0 ≤ (x10_3 : Int) := of_decide_eq_true (by first | (with_reducible assumption) | assumption)
                                        have q363 : x10_3 < (t352.length : Int) := of_decide_eq_true (by first | (with_reducible assumption) | assumption)
                                        obtain ⟨ad363, A363_0, c363_0, e363, hx363_0, hl363_0, hi363_0⟩ := at_L1 (Kd.S_reads' HO_6.out).2.2 x10_3 p363 q363
                                        obtain rfl : ad362 = ad363 := (by injection e363)
                                        obtain ⟨ce363, hce363, hMe363, hcc363⟩ := Kd.S_get HO_6.out [] x10_3 p363 (by first | exact q363 | exact of_decide_eq_true (by first | (with_reducible assumption) | assumption) | (have e_ := (Kd.S_reads' HO_6.out).1; omega))
                                        obtain ⟨ve363_0, rfl, ge363_0⟩ := hMe363
                                        have hv363_0 := hcc363 0 _ rfl
                                        rw [Nat.add_zero, show ((Kd.slice 3 (Kd.int .i64))).sz = 1 from rfl, Nat.mul_one] at hv363_0
                                        replace hv363_0 := Option.some.inj (hv363_0.symm.trans hx363_0)
                                        rw [hv363_0] at ge363_0
                                        have HL363_0 := Aside0.mk (show Kd.R (Kd.int .i64) 3 _ _ _ _ (rd_L1 t352 x10_3) from ge363_0)
                                        clear hv363_0 ge363_0
                                        clear hcc363 hce363
                                        have HR363_0 := Aside0.mk hi363_0
                                        have HC363_0 := Aside0.mk hl363_0
                                        clear hi363_0 hl363_0
                                        replace p363 := eq_true p363
                                        replace q363 := eq_true q363
                                        obtain ⟨Ao51, co51, eo51⟩ := Kd.R_slice HO_8.out
                                        subst eo51
                                        have p369 : 0 ≤ (x10_3 : Int) := of_decide_eq_true (by first | (with_reducible assumption) | assumption)
                                        have q369 : x10_3 < (t358.length : Int) := of_decide_eq_true (by first | (with_reducible assumption) | assumption)
                                        obtain ⟨ad369, e369, hx369_0⟩ := Kd.at_bool (Kd.R_reads' HO_8.out).2.2 x10_3 p369 q369
                                        cases e369
                                        replace p369 := eq_true p369
                                        replace q369 := eq_true q369
                                        obtain ⟨Ao52, co52, eo52⟩ := Kd.R_slice HO_7.out
                                        subst eo52
                                        have p370 : 0 ≤ (x10_3 : Int) := of_decide_eq_true (by first | (with_reducible assumption) | assumption)
                                        have q370 : x10_3 < (t355.length : Int) := of_decide_eq_true (by first | (with_reducible assumption) | assumption)
                                        obtain ⟨ad370, e370, hx370_0⟩ := Kd.at_int (Kd.R_reads' HO_7.out).2.2 x10_3 p370 q370
                                        cases e370
                                        replace p370 := eq_true p370
                                        replace q370 := eq_true q370
                                        go_wp2
                                        repeat (go_quiet (fail); try go_wp2)
                                        go_ret
                                        exact ⟨by first | rfl | (simp [errW_none, errW_some] <;> rfl) | (simp [*, errW_none, errW_some] <;> rfl), by repeat (first | (with_reducible first | exact HB.out | apply below_alloc | apply pw_below_drewN | apply below_drew1) | exact HB.out)⟩
                                      · rw [if_neg c50] at H
                                        have c50b0 : ((rdOf false t358 x10_3) != (decide ((rd t355 x10_3) ≥ 0))) = false := by simpa using c50
                                        (try (have c50b1 : decide ((rdOf false t358 x10_3) = (decide ((rd t355 x10_3) ≥ 0))) = true := by simpa using c50))
                                        (try (have c50b2 : ((rdOf false t358 x10_3) == (decide ((rd t355 x10_3) ≥ 0))) = true := by simpa using c50))
                                        clear c50
                                        obtain ⟨bq53, hbq53⟩ : ∃ b_ : Bool, b_ = (rdOf false t358 x10_3) := ⟨_, rfl⟩
                                        replace H : (if bq53 = true then (swagelaw07_DomTree.l0 k4 l0 t346 t349 t352 t355 t358 (wrap64 ((wrap64 (x9_3 + ((rd_L1 t352 x10_3).length : Int))) - 1)) (wrap64 (x10_3 + 1))) else (swagelaw07_DomTree.l0 k4 l0 t346 t349 t352 t355 t358 (wrap64 (x9_3 + ((rd_L1 t352 x10_3).length : Int))) (wrap64 (x10_3 + 1)))) = some r := by rw [← hbq53] at H; exact H
                                        have Nbq53 := Aside0.mk hbq53
                                        clear hbq53
                                        by_cases c54 : bq53 = true
                                        · subst c54
                                          have H1 : (swagelaw07_DomTree.l0 k4 l0 t346 t349 t352 t355 t358 (wrap64 ((wrap64 (x9_3 + ((rd_L1 t352 x10_3).length : Int))) - 1)) (wrap64 (x10_3 + 1))) = some r := by rw [if_pos rfl] at H; exact H
                                          clear H
                                          have H := H1
                                          clear H1
                                          have H' := Aside0.mk H
                                          clear H
                                          have p363 : 0 ≤ (x10_3 : Int) := of_decide_eq_true (by first | (with_reducible assumption) | assumption)
                                          have q363 : x10_3 < (t352.length : Int) := of_decide_eq_true (by first | (with_reducible assumption) | assumption)
                                          obtain ⟨ad363, A363_0, c363_0, e363, hx363_0, hl363_0, hi363_0⟩ := at_L1 (Kd.S_reads' HO_6.out).2.2 x10_3 p363 q363
                                          obtain rfl : ad362 = ad363 := (by injection e363)
                                          obtain ⟨ce363, hce363, hMe363, hcc363⟩ := Kd.S_get HO_6.out [] x10_3 p363 (by first | exact q363 | exact of_decide_eq_true (by first | (with_reducible assumption) | assumption) | (have e_ := (Kd.S_reads' HO_6.out).1; omega))
                                          obtain ⟨ve363_0, rfl, ge363_0⟩ := hMe363
                                          have hv363_0 := hcc363 0 _ rfl
                                          rw [Nat.add_zero, show ((Kd.slice 3 (Kd.int .i64))).sz = 1 from rfl, Nat.mul_one] at hv363_0
                                          replace hv363_0 := Option.some.inj (hv363_0.symm.trans hx363_0)
                                          rw [hv363_0] at ge363_0
                                          have HL363_0 := Aside0.mk (show Kd.R (Kd.int .i64) 3 _ _ _ _ (rd_L1 t352 x10_3) from ge363_0)
                                          clear hv363_0 ge363_0
                                          clear hcc363 hce363
                                          have HR363_0 := Aside0.mk hi363_0
                                          have HC363_0 := Aside0.mk hl363_0
                                          clear hi363_0 hl363_0
                                          replace p363 := eq_true p363
                                          replace q363 := eq_true q363
                                          obtain ⟨Ao55, co55, eo55⟩ := Kd.R_slice HO_8.out
                                          subst eo55
                                          have p369 : 0 ≤ (x10_3 : Int) := of_decide_eq_true (by first | (with_reducible assumption) | assumption)
                                          have q369 : x10_3 < (t358.length : Int) := of_decide_eq_true (by first | (with_reducible assumption) | assumption)
                                          obtain ⟨ad369, e369, hx369_0⟩ := Kd.at_bool (Kd.R_reads' HO_8.out).2.2 x10_3 p369 q369
                                          (try rw [← Nbq53.out] at hx369_0)
                                          cases e369
                                          replace p369 := eq_true p369
                                          replace q369 := eq_true q369
                                          obtain ⟨Ao56, co56, eo56⟩ := Kd.R_slice HO_7.out
                                          subst eo56
                                          have p370 : 0 ≤ (x10_3 : Int) := of_decide_eq_true (by first | (with_reducible assumption) | assumption)
                                          have q370 : x10_3 < (t355.length : Int) := of_decide_eq_true (by first | (with_reducible assumption) | assumption)
                                          obtain ⟨ad370, e370, hx370_0⟩ := Kd.at_int (Kd.R_reads' HO_7.out).2.2 x10_3 p370 q370
                                          cases e370
                                          replace p370 := eq_true p370
                                          replace q370 := eq_true q370
                                          have p371 : 0 ≤ (x10_3 : Int) := of_decide_eq_true (by first | (with_reducible assumption) | assumption)
                                          have q371 : x10_3 < (t358.length : Int) := of_decide_eq_true (by first | (with_reducible assumption) | assumption)
                                          obtain ⟨ad371, e371, hx371_0⟩ := Kd.at_bool (Kd.R_reads' HO_8.out).2.2 x10_3 p371 q371
                                          (try rw [← Nbq53.out] at hx371_0)
                                          obtain rfl : ad369 = ad371 := (by injection e371)
                                          replace p371 := eq_true p371
                                          replace q371 := eq_true q371
                                          have c50d : 0 ≤ rd t355 x10_3 := by have h_ := c50b0; rw [← Nbq53.out] at h_; simpa using h_
                                          have c50f : decide (rd t355 x10_3 ≥ 0) = true := decide_eq_true (by omega)
                                          go_wp2
                                          repeat (go_quiet (fail); try go_wp2)
                                          go_roundg k4
                                          case measure => have := HJ3.out; have := HJ13.out; have := HK3.out; have := HK4.out; omega
                                          case rel => exact ⟨(wrap64 ((wrap64 (x9_3 + ((rd_L1 t352 x10_3).length : Int))) - 1)), (wrap64 (x10_3 + 1)), (by first | rfl | (simp; done) | (simp [*]; done)), (by first | rfl | (simp; done) | (simp [*]; done)), H', ⟨by have := HJ3.out; have := HJ13.out; have := HK3.out; have := HK4.out; omega⟩, ⟨by (with_reducible repeat (first | apply Kd.R_alloc | apply Kd.R_drewN | apply Kd.R_drew)); exact HO_5.out⟩, ⟨by (with_reducible repeat (first | apply Kd.S_alloc | apply Kd.S_drewN | apply Kd.S_drew)); exact HO_6.out⟩, ⟨by (with_reducible repeat (first | apply Kd.R_alloc | apply Kd.R_drewN | apply Kd.R_drew)); exact HO_7.out⟩, ⟨by (with_reducible repeat (first | apply Kd.R_alloc | apply Kd.R_drewN | apply Kd.R_drew)); exact HO_8.out⟩, ⟨by repeat (first | (with_reducible first | exact HB.out | apply below_alloc | apply pw_below_drewN | apply below_drew1) | exact HB.out)⟩⟩
                                        · replace c54 := Bool.eq_false_iff.mpr c54
                                          subst c54
                                          have H1 : (swagelaw07_DomTree.l0 k4 l0 t346 t349 t352 t355 t358 (wrap64 (x9_3 + ((rd_L1 t352 x10_3).length : Int))) (wrap64 (x10_3 + 1))) = some r := by rw [if_neg (show ¬ (false = true) by decide)] at H; exact H
                                          clear H
                                          have H := H1
                                          clear H1
                                          have H' := Aside0.mk H
                                          clear H
                                          have p363 : 0 ≤ (x10_3 : Int) := of_decide_eq_true (by first | (with_reducible assumption) | assumption)
                                          have q363 : x10_3 < (t352.length : Int) := of_decide_eq_true (by first | (with_reducible assumption) | assumption)
                                          obtain ⟨ad363, A363_0, c363_0, e363, hx363_0, hl363_0, hi363_0⟩ := at_L1 (Kd.S_reads' HO_6.out).2.2 x10_3 p363 q363
                                          obtain rfl : ad362 = ad363 := (by injection e363)
                                          obtain ⟨ce363, hce363, hMe363, hcc363⟩ := Kd.S_get HO_6.out [] x10_3 p363 (by first | exact q363 | exact of_decide_eq_true (by first | (with_reducible assumption) | assumption) | (have e_ := (Kd.S_reads' HO_6.out).1; omega))
                                          obtain ⟨ve363_0, rfl, ge363_0⟩ := hMe363
                                          have hv363_0 := hcc363 0 _ rfl
                                          rw [Nat.add_zero, show ((Kd.slice 3 (Kd.int .i64))).sz = 1 from rfl, Nat.mul_one] at hv363_0
                                          replace hv363_0 := Option.some.inj (hv363_0.symm.trans hx363_0)
                                          rw [hv363_0] at ge363_0
                                          have HL363_0 := Aside0.mk (show Kd.R (Kd.int .i64) 3 _ _ _ _ (rd_L1 t352 x10_3) from ge363_0)
                                          clear hv363_0 ge363_0
                                          clear hcc363 hce363
                                          have HR363_0 := Aside0.mk hi363_0
                                          have HC363_0 := Aside0.mk hl363_0
                                          clear hi363_0 hl363_0
                                          replace p363 := eq_true p363
                                          replace q363 := eq_true q363
                                          obtain ⟨Ao57, co57, eo57⟩ := Kd.R_slice HO_8.out
                                          subst eo57
                                          have p369 : 0 ≤ (x10_3 : Int) := of_decide_eq_true (by first | (with_reducible assumption) | assumption)
                                          have q369 : x10_3 < (t358.length : Int) := of_decide_eq_true (by first | (with_reducible assumption) | assumption)
                                          obtain ⟨ad369, e369, hx369_0⟩ := Kd.at_bool (Kd.R_reads' HO_8.out).2.2 x10_3 p369 q369
                                          (try rw [← Nbq53.out] at hx369_0)
                                          cases e369
                                          replace p369 := eq_true p369
                                          replace q369 := eq_true q369
                                          obtain ⟨Ao58, co58, eo58⟩ := Kd.R_slice HO_7.out
                                          subst eo58
                                          have p370 : 0 ≤ (x10_3 : Int) := of_decide_eq_true (by first | (with_reducible assumption) | assumption)
                                          have q370 : x10_3 < (t355.length : Int) := of_decide_eq_true (by first | (with_reducible assumption) | assumption)
                                          obtain ⟨ad370, e370, hx370_0⟩ := Kd.at_int (Kd.R_reads' HO_7.out).2.2 x10_3 p370 q370
                                          cases e370
                                          replace p370 := eq_true p370
                                          replace q370 := eq_true q370
                                          have p371 : 0 ≤ (x10_3 : Int) := of_decide_eq_true (by first | (with_reducible assumption) | assumption)
                                          have q371 : x10_3 < (t358.length : Int) := of_decide_eq_true (by first | (with_reducible assumption) | assumption)
                                          obtain ⟨ad371, e371, hx371_0⟩ := Kd.at_bool (Kd.R_reads' HO_8.out).2.2 x10_3 p371 q371
                                          (try rw [← Nbq53.out] at hx371_0)
                                          obtain rfl : ad369 = ad371 := (by injection e371)
                                          replace p371 := eq_true p371
                                          replace q371 := eq_true q371
                                          have c50d : rd t355 x10_3 < 0 := by have h_ := c50b0; rw [← Nbq53.out] at h_; simpa using h_
                                          have c50f : decide (rd t355 x10_3 ≥ 0) = false := decide_eq_false (by omega)
                                          go_wp2
                                          repeat (go_quiet (fail); try go_wp2)
                                          go_roundg k4
                                          case measure => have := HJ3.out; have := HJ13.out; have := HK3.out; have := HK4.out; omega
                                          case rel => exact ⟨((wrap64 (x9_3 + ((rd_L1 t352 x10_3).length : Int)))), (wrap64 (x10_3 + 1)), (by first | rfl | (simp; done) | (simp [*]; done)), (by first | rfl | (simp; done) | (simp [*]; done)), H', ⟨by have := HJ3.out; have := HJ13.out; have := HK3.out; have := HK4.out; omega⟩, ⟨by (with_reducible repeat (first | apply Kd.R_alloc | apply Kd.R_drewN | apply Kd.R_drew)); exact HO_5.out⟩, ⟨by (with_reducible repeat (first | apply Kd.S_alloc | apply Kd.S_drewN | apply Kd.S_drew)); exact HO_6.out⟩, ⟨by (with_reducible repeat (first | apply Kd.R_alloc | apply Kd.R_drewN | apply Kd.R_drew)); exact HO_7.out⟩, ⟨by (with_reducible repeat (first | apply Kd.R_alloc | apply Kd.R_drewN | apply Kd.R_drew)); exact HO_8.out⟩, ⟨by repeat (first | (with_reducible first | exact HB.out | apply below_alloc | apply pw_below_drewN | apply below_drew1) | exact HB.out)⟩⟩
                                    · rw [if_neg c49] at H
                                      exact absurd H (by simp)
                                  · rw [if_neg c48] at H
                                    exact absurd H (by simp)
                              · rw [if_neg c35] at H
                                exact absurd H (by simp)
                            · rw [if_neg c34] at H
                              exact absurd H (by simp)
                      · rw [if_neg c32] at H
                        exact absurd H (by simp)
                    · rw [if_neg c31] at H
                      exact absurd H (by simp)
                  · rw [if_neg c30] at H
                    have c30b0 : decide (x10_3 < (l0.length : Int)) = false := decide_eq_false c30
                    clear c30
                    by_cases c59 : t346 = true
                    · subst c59
                      have H1 : (if x9_3 = (-1) then (if 0 < (t355.length : Int) then (some ((rd t355 0) == 0)) else (none)) else (some false)) = some r := by rw [if_pos rfl] at H; exact H
                      clear H
                      have H := H1
                      clear H1
                      by_cases c60 : x9_3 = (-1)
                      · rw [if_pos c60] at H
                        have c60b0 : (x9_3 == (-1)) = true := beq_iff_eq.mpr c60
                        have c60b1 : (x9_3 != (-1)) = false := bne_eq_false_iff_eq.mpr c60
                        clear c60
                        by_cases c61 : 0 < (t355.length : Int)
                        · rw [if_pos c61] at H
                          have c61b0 : decide (0 < (t355.length : Int)) = true := decide_eq_true c61
                          have c61b1 : decide (0 < t355.length) = true := decide_eq_true (by omega)
                          clear c61
                          obtain rfl := Option.some.inj H
                          obtain ⟨Ao62, co62, eo62⟩ := Kd.R_slice HO_7.out
                          subst eo62
                          have p361 : 0 ≤ (0 : Int) := (by omega)
                          have q361 : 0 < (t355.length : Int) := of_decide_eq_true (by first | (with_reducible assumption) | assumption)
                          obtain ⟨ad361, e361, hx361_0⟩ := Kd.at_int (Kd.R_reads' HO_7.out).2.2 0 p361 q361
                          cases e361
                          have qi361 : (0 < t355.length) = True := eq_true (by omega)
                          (try rw [show ((0 : Int)).toNat = 0 from rfl] at hx361_0)
                          (try rw [Addr.add_zero'] at hx361_0)
                          replace p361 := eq_true p361
                          replace q361 := eq_true q361
                          go_wp2
                          repeat (go_quiet (fail); try go_wp2)
                          go_ret
                          exact ⟨by first | rfl | (simp [errW_none, errW_some] <;> rfl) | (simp [*, errW_none, errW_some] <;> rfl), by repeat (first | (with_reducible first | exact HB.out | apply below_alloc | apply pw_below_drewN | apply below_drew1) | exact HB.out)⟩
                        · rw [if_neg c61] at H
                          exact absurd H (by simp)
                      · rw [if_neg c60] at H
                        have c60b0 : (x9_3 == (-1)) = false := beq_eq_false_iff_ne.mpr c60
                        have c60b1 : (x9_3 != (-1)) = true := bne_iff_ne.mpr c60
                        obtain rfl := Option.some.inj H
                        go_wp2
                        repeat (go_quiet (fail); try go_wp2)
                        go_ret
                        exact ⟨by first | rfl | (simp [errW_none, errW_some] <;> rfl) | (simp [*, errW_none, errW_some] <;> rfl), by repeat (first | (with_reducible first | exact HB.out | apply below_alloc | apply pw_below_drewN | apply below_drew1) | exact HB.out)⟩
                    · replace c59 := Bool.eq_false_iff.mpr c59
                      subst c59
                      have H1 : (some false) = some r := by rw [if_neg (show ¬ (false = true) by decide)] at H; exact H
                      clear H
                      have H := H1
                      clear H1
                      obtain rfl := Option.some.inj H
                      go_wp2
                      repeat (go_quiet (fail); try go_wp2)
                      go_ret
                      exact ⟨by first | rfl | (simp [errW_none, errW_some] <;> rfl) | (simp [*, errW_none, errW_some] <;> rfl), by repeat (first | (with_reducible first | exact HB.out | apply below_alloc | apply pw_below_drewN | apply below_drew1) | exact HB.out)⟩

end Go.Proofs.Ytkmbhknmjnbanaa.A


namespace Go.Proofs.Ytkmbhknmjnbanaa.A
open Go.RowKit Go.Proofs.YtkmbhknmjnbanaaW.PrintWords Go.Proofs.YtkmbhknmjnbanaaW.PrintLast Go.Shelf
set_option linter.unusedVariables false
set_option linter.unusedSimpArgs false

theorem few7_ev (g : List (List Int)) : ∃ r, Evt (fun k => swagelaw07_Few.f k g) r ∧ (r = true → g.length ≤ 24) := by
  obtain ⟨r, hf, hr⟩ := few_ev g
  cases r with
  | false => exact ⟨false, by unfold swagelaw07_Few.f; exact Evt.bind hf (Evt.const rfl), by simp⟩
  | true => exact ⟨decide ((g.length : Int) ≤ 24), by unfold swagelaw07_Few.f; exact Evt.bind hf (Evt.const rfl), fun h => by have := of_decide_eq_true h; omega⟩
/-- how many have their nearest one among the first m -/
def cD (D : List Int) (n m : Nat) : Nat := (List.range n).countP fun c => decide (0 ≤ D.getD c 0) && decide (D.getD c 0 < (m : Int))
def cM (mk : List Bool) (i : Nat) : Nat := (List.range i).countP fun c : Nat => rdOf false mk (c : Int)
theorem cD_succ (D : List Int) (n m : Nat) : cD D n (m + 1) = cD D n m + (kidRow D n m).length := by
  unfold cD kidRow
  rw [List.length_map, ← List.countP_eq_length_filter]
  induction List.range n with
  | nil => rfl
  | cons x l ih =>
    rw [List.countP_cons, List.countP_cons, List.countP_cons, ih]
    by_cases h1 : D.getD x 0 = (m : Int)
    · have e1 : (decide (0 ≤ D.getD x 0) && decide (D.getD x 0 < ((m + 1 : Nat) : Int))) = true := by simp only [Bool.and_eq_true, decide_eq_true_eq]; omega
      have e2 : (decide (0 ≤ D.getD x 0) && decide (D.getD x 0 < ((m : Nat) : Int))) = false := by simp only [Bool.and_eq_false_iff, decide_eq_false_iff_not]; omega
      rw [e1, e2, decide_eq_true h1]; simp; omega
    · have e1 : (decide (0 ≤ D.getD x 0) && decide (D.getD x 0 < ((m + 1 : Nat) : Int))) = (decide (0 ≤ D.getD x 0) && decide (D.getD x 0 < (m : Int))) := by
        rw [Bool.eq_iff_iff]; simp only [Bool.and_eq_true, decide_eq_true_eq]; omega
      rw [e1, decide_eq_false h1]; simp; omega
theorem cD_zero (D : List Int) (n : Nat) : cD D n 0 = 0 := by
  unfold cD
  rw [List.countP_eq_zero]
  intro c _
  rw [Bool.and_eq_true, decide_eq_true_eq, decide_eq_true_eq]; omega
theorem cD_le (D : List Int) (n m : Nat) : cD D n m ≤ n := by
  have := List.countP_le_length (p := fun c => decide (0 ≤ D.getD c 0) && decide (D.getD c 0 < (m : Int))) (l := List.range n)
  rwa [List.length_range] at this
theorem cM_le (mk : List Bool) (n : Nat) : cM mk n ≤ n := by
  have := List.countP_le_length (p := fun c : Nat => rdOf false mk (c : Int)) (l := List.range n)
  rwa [List.length_range] at this
theorem cM_succ (mk : List Bool) (i : Nat) : cM mk (i + 1) = if rdOf false mk (i : Int) = true then cM mk i + 1 else cM mk i := by
  unfold cM
  rw [List.range_succ, List.countP_append]
  by_cases h : rdOf false mk (i : Int) = true
  · rw [if_pos h]; simp [h]
  · rw [if_neg h]; simp [h]
theorem c_all {g : List (List Int)} (hr : rightB g = true) {D : List Int} (hD : DRow g D) {mk : List Bool} (hm : ∀ i, i < g.length → (rdOf false mk (i : Int) = true ↔ Way g 0 i)) : cD D g.length g.length + 1 = cM mk g.length := by
  obtain ⟨h1, h2, hg⟩ := right_rows hr
  have H : ∀ m, m + 1 ≤ g.length → ((List.range (m + 1)).countP fun c => decide (0 ≤ D.getD c 0) && decide (D.getD c 0 < (g.length : Int))) + 1 = cM mk (m + 1) := by
    intro m
    induction m with
    | zero =>
      intro hm'
      have h0 := (hm 0 (by omega)).2 (.refl 0)
      rw [cM_succ, if_pos h0]
      have hr0 := hD.root
      have e : (decide (0 ≤ D.getD 0 0) && decide (D.getD 0 0 < (g.length : Int))) = false := by rw [hr0]; rfl
      show (List.countP _ [0]) + 1 = cM mk 0 + 1
      rw [List.countP_cons, e]; rfl
    | succ m ih =>
      intro hm'
      have ih := ih (by omega)
      rw [List.range_succ, List.countP_append, cM_succ]
      by_cases hw : Way g 0 (m + 1)
      · rw [if_pos ((hm _ (by omega)).2 hw)]
        obtain ⟨b, eb, ib⟩ := hD.yes (m + 1) hw (by omega)
        have := reach_lt hr ib.way
        have e : (decide (0 ≤ D.getD (m + 1) 0) && decide (D.getD (m + 1) 0 < (g.length : Int))) = true := by simp only [Bool.and_eq_true, decide_eq_true_eq]; omega
        rw [List.countP_cons, e, if_pos rfl, List.countP_nil]; omega
      · rw [if_neg (fun h => hw ((hm _ (by omega)).1 h))]
        have eb := hD.no (m + 1) (by omega) hw
        have e : (decide (0 ≤ D.getD (m + 1) 0) && decide (D.getD (m + 1) 0 < (g.length : Int))) = false := by simp only [Bool.and_eq_false_iff, decide_eq_false_iff_not]; omega
        rw [List.countP_cons, e, if_neg (by simp), List.countP_nil]; omega
  obtain ⟨m, hm'⟩ : ∃ m, g.length = m + 1 := ⟨g.length - 1, by omega⟩
  have := H m (by omega)
  unfold cD
  rw [hm'] at this ⊢
  exact this
theorem kidRow_get {D : List Int} {n p k : Nat} (h : k < (kidRow D n p).length) : ∃ c : Nat, (kidRow D n p)[k] = (c : Int) ∧ c < n ∧ D.getD c 0 = (p : Int) := by
  have hm := List.getElem_mem h
  generalize (kidRow D n p)[k] = x at *
  unfold kidRow at hm
  obtain ⟨c, hc, rfl⟩ := List.mem_map.1 hm
  have h1 := List.mem_filter.1 hc
  exact ⟨c, rfl, List.mem_range.1 h1.1, of_decide_eq_true h1.2⟩
section
variable {g : List (List Int)} {D : List Int} {mk : List Bool}
theorem dt_l1 (hr : rightB g = true) (hn : g.length ≤ 24) (hD : DRow g D) (hml : mk.length = g.length) (hm : ∀ i, i < g.length → (rdOf false mk (i : Int) = true ↔ Way g 0 i)) {x9 : Int} {i : Nat} (hi : i < g.length)
    (hx : x9 = (cD D g.length (i + 1) : Int) - (cM mk i : Int))
    (hnext : Evt (fun k => swagelaw07_DomTree.l0 k g true D (kidRows D g.length g.length) (depths D g.length) mk ((cD D g.length (i + 1) : Int) - (cM mk (i + 1) : Int)) ((i + 1 : Nat) : Int)) true) :
    ∀ (d j : Nat), j + d = (kidRow D g.length i).length → Evt (fun k => swagelaw07_DomTree.l1 k g true D (kidRows D g.length g.length) (depths D g.length) mk x9 i j) true := by
  have hl : (kidRows D g.length g.length).length = g.length := by simp [kidRows]
  have hrow := kidRows_row D g.length hi
  have hkl := kidRow_len D g.length i
  have hdl := depths_len D g.length
  have hc1 := cD_le D g.length (i + 1)
  have hc2 := cM_le mk i
  have hDl := hD.len
  intro d
  induction d with
  | zero =>
    intro j hj
    rw [cM_succ] at hnext
    have hwy := dep_way hr hD hi
    by_cases hw : Way g 0 i
    · have hmi := (hm i hi).2 hw
      rw [if_pos hmi] at hnext
      have hge : depI D (i : Int) ≥ 0 := hwy.2 hw
      refine Evt.step hnext fun k => ?_
      rw [swagelaw07_DomTree.l1, if_pos (by omega), if_pos (by omega), rdL, hrow, if_neg (by omega), if_pos (by omega), if_pos (by omega), depths_rd D hi, hmi, decide_eq_true hge, if_neg (by simp), if_pos rfl, w64 (by omega) (by omega), wsucc (by omega), hx]
      congr 1; omega
    · have hmi : rdOf false mk (i : Int) = false := by
        have := mt (hm i hi).1 hw
        simpa using this
      rw [if_neg (by rw [hmi]; simp)] at hnext
      have hge : ¬ depI D (i : Int) ≥ 0 := fun h => hw (hwy.1 h)
      refine Evt.step hnext fun k => ?_
      rw [swagelaw07_DomTree.l1, if_pos (by omega), if_pos (by omega), rdL, hrow, if_neg (by omega), if_pos (by omega), if_pos (by omega), depths_rd D hi, hmi, decide_eq_false hge, if_neg (by simp), if_neg (by simp), wsucc (by omega), hx]
  | succ d ih =>
    intro j hj
    have hlt : j < (kidRow D g.length i).length := by omega
    obtain ⟨c, ec, hc, hp⟩ := kidRow_get hlt
    have hc0 : c ≠ 0 := fun e => by
      subst e
      have := hD.root
      omega
    have hw : Way g 0 c := Classical.byContradiction fun hw => by
      have := hD.no c hc hw
      omega
    obtain ⟨hwi, hd1, hd2, hd3⟩ := dep_kid hr hD hw hp
    refine Evt.step (ih (j + 1) (by omega)) fun k => ?_
    rw [swagelaw07_DomTree.l1, if_pos (by omega), if_pos (by omega), rdL, hrow, if_pos (by omega), if_pos (by omega), rdI hlt, ec, if_neg (by omega), if_neg (by omega), if_pos (by omega), if_pos (by omega), rdN, if_pos hp, if_pos (by omega), if_pos (by omega), depths_rd D hc, depths_rd D hi, w64 (by omega) (by omega), if_pos hd1, wsucc (by omega)]
theorem dt_l0 (hr : rightB g = true) (hn : g.length ≤ 24) (hD : DRow g D) (hml : mk.length = g.length) (hm : ∀ i, i < g.length → (rdOf false mk (i : Int) = true ↔ Way g 0 i)) :
    ∀ (d i : Nat), i + d = g.length → Evt (fun k => swagelaw07_DomTree.l0 k g true D (kidRows D g.length g.length) (depths D g.length) mk ((cD D g.length i : Int) - (cM mk i : Int)) i) true := by
  have hl : (kidRows D g.length g.length).length = g.length := by simp [kidRows]
  obtain ⟨h1, h2, hg⟩ := right_rows hr
  have hdl := depths_len D g.length
  intro d
  induction d with
  | zero =>
    intro i hi
    obtain rfl : i = g.length := by omega
    have hall := c_all hr hD hm
    refine Evt.step (Evt.const rfl) fun k => ?_
    rw [swagelaw07_DomTree.l0, if_neg (by omega), if_pos rfl, if_pos (by omega), if_pos (by omega), show (0 : Int) = ((0 : Nat) : Int) from rfl, depths_rd D (by omega)]
    rw [show ((0 : Nat) : Int) = (0 : Int) from rfl, dep_zero hr hD]; rfl
  | succ d ih =>
    intro i hi
    have hi' : i < g.length := by omega
    have hrow := kidRows_row D g.length hi'
    have hkl := kidRow_len D g.length i
    have hc1 := cD_le D g.length i
    have hc2 := cM_le mk i
    have hs := cD_succ D g.length i
    refine Evt.step (dt_l1 hr hn hD hml hm hi' (x9 := (cD D g.length (i + 1) : Int) - (cM mk i : Int)) rfl (ih (i + 1) (by omega)) _ 0 (Nat.zero_add _)) fun k => ?_
    rw [swagelaw07_DomTree.l0, if_pos (by omega), if_pos (by omega), if_pos (by omega), rdL, hrow, w64 (by omega) (by omega)]
    rw [show (cD D g.length i : Int) - (cM mk i : Int) + ((kidRow D g.length i).length : Int) = (cD D g.length (i + 1) : Int) - (cM mk i : Int) by omega]
    rfl
end
theorem dtree_pure (g : List (List Int)) : ∃ k, swagelaw07_DomTree.f k g = some true := by
  obtain ⟨r, hf, hr⟩ := few7_ev g
  suffices H : Evt (fun k => swagelaw07_DomTree.f k g) true from H.get
  unfold swagelaw07_DomTree.f swagelaw07_small.f
  simp only [Option.bind_some]
  refine Evt.bind hf ?_
  cases r with
  | false => exact Evt.step (Evt.const rfl) fun k => by rw [if_neg (by simp), swagelaw07_DomTree.j0, if_pos rfl]
  | true =>
    have hn : g.length ≤ 24 := hr rfl
    simp only [if_true]
    unfold graph_Right.f
    simp only [Option.bind_some]
    cases hrt : rightB g with
    | false => exact Evt.step (Evt.const rfl) fun k => by rw [Bool.not_false, swagelaw07_DomTree.j0, if_pos rfl]
    | true =>
      obtain ⟨e1, e2, hg⟩ := right_rows hrt
      obtain ⟨D, hid, hD⟩ := drow_ev hrt
      have hDl := hD.len
      have hk := kids_ev D (by omega)
      rw [hDl] at hk
      have hkl : (kidRows D g.length g.length).length = g.length := by simp [kidRows]
      have hml : (marks g.length (walkOf g 0)).length = g.length := marks_len _ _
      have hm : ∀ i, i < g.length → (rdOf false (marks g.length (walkOf g 0)) (i : Int) = true ↔ Way g 0 i) := fun i hi => (mk_rd (by omega)).trans ((mk_marks hi).trans (walk_mem hg (by omega) i))
      have er : reachRes g 0 = marks g.length (walkOf g 0) := by unfold reachRes; rw [if_pos ⟨hrt, by omega, by omega⟩]; rfl
      have h0 := dt_l0 hrt hn hD hml hm g.length 0 (by omega)
      have hz : ((cD D g.length 0 : Int) - (cM (marks g.length (walkOf g 0)) 0 : Int)) = 0 := by rw [cD_zero]; simp [cM]
      rw [hz] at h0
      have hj1 : Evt (fun k => swagelaw07_DomTree.j1 k g true D (kidRows D g.length g.length) (depths D g.length) (marks g.length (walkOf g 0)) false) true :=
        Evt.step h0 fun k => by rw [swagelaw07_DomTree.j1, if_neg (by simp)]; rfl
      refine Evt.step (g := fun k => (dom_Idom.f k g).bind fun t349 => ((dom_Kids.f k t349).bind fun t352 => ((dom_Depth.f t349).bind fun t355 => ((graph_Reach.f g 0).bind fun t358 => (if (t349.length : Int) = (g.length : Int) then (if (t352.length : Int) = (g.length : Int) then (if (t355.length : Int) = (g.length : Int) then (swagelaw07_DomTree.j1 k g true t349 t352 t355 t358 ((t358.length : Int) != (g.length : Int))) else (swagelaw07_DomTree.j1 k g true t349 t352 t355 t358 true)) else (swagelaw07_DomTree.j1 k g true t349 t352 t355 t358 true)) else (swagelaw07_DomTree.j1 k g true t349 t352 t355 t358 true))))))
        (Evt.bind hid (Evt.bind hk ?_)) fun k => by rw [Bool.not_true, swagelaw07_DomTree.j0, if_neg (by simp)]
      unfold dom_Depth.f graph_Reach.f
      rw [if_pos (by omega), hDl]
      simp only [Option.bind_some, er]
      refine Evt.congr hj1 fun k => ?_
      rw [if_pos trivial, if_pos (by omega), if_pos (by rw [depths_len]), hml]
      simp
theorem law_dtree (A : Option Addr) (c : Nat) (g : List (List Int)) (w : World) (hC : Kd.C (Kd.slice 3 (Kd.int .i64)) w A g.length g) (hc : g.length ≤ c) (hp : ∀ x ∈ g, ∀ y ∈ x, (Lit.int .i64 y).wf = true) :
    Calls Try.prog 12 #[.slice A g.length c] w fun e w' => e = .returned (.bool true) ∧ Below w.heap.size w w' := by
  obtain ⟨k, hk⟩ := dtree_pure g
  exact swagelaw07_DomTree.calls k A c g true w hC hc hk
end Go.Proofs.Ytkmbhknmjnbanaa.A


namespace Go.Proofs.Ytkmbhknmjnbanaa.A
open Go.Deep Go.RowKit Go.Proofs.YtkmbhknmjnbanaaW.PrintWords Go.Proofs.YtkmbhknmjnbanaaW.PrintLast
set_option linter.unusedVariables false
set_option linter.unusedSimpArgs false

section
variable {H : Type} {enc : TypeId × Value → H} {P : Program} {w : World} {base : Nat} {α : Type} [Inhabited α]

def Opens (enc : TypeId × Value → H) (P : Program) (w : World) (base : Nat) (t : TypeId) (d : Kd α) (p : α → Prop) : Prop :=
  ∀ fuel cs x, DataW.trod enc P w base (fun _ => true) true fuel t cs = some x → ∃ y, d.K w y cs ∧ p y

theorem opens_int {t : TypeId} {k : IntKind} (ht : P.underlying t = some (.int k)) : Opens enc P w base t (Kd.int k) (fun n => (Lit.int k n).wf = true) := by
  intro fuel cs x h
  obtain ⟨n, rfl, _, hw⟩ := DataW.trod_int ht h
  exact ⟨n, rfl, hw⟩

theorem opens_slice {t e : TypeId} {d : Kd α} {p : α → Prop} (ht : P.underlying t = some (.slice e)) (hc : P.cellsOf e = d.sz) (ho : Opens enc P w base e d p) : Opens enc P w base t (Kd.slice e d) (fun xs => ∀ x ∈ xs, p x) := by
  intro fuel cs x h
  rcases open_slice ht h with ⟨rfl, _⟩ | ⟨a, len, cap, m, n, D, Pl, rfl, hb, hl, hm, hmm, _, hx⟩
  · exact ⟨[], ⟨none, 0, rfl, Nat.le_refl _, rfl, by simp, fun h => by simp at h⟩, fun x hx => by simp at hx⟩
  · simp only [if_true] at hmm
    obtain ⟨Y, hY⟩ := choose_lt (α := α) (n := len) (p := fun i y => p y ∧ ∃ c, d.K w y c ∧ ∀ j u, c[j]? = some u → w.cell? (a.add (i * d.sz + j)) = some u) (fun i hi => by
      obtain ⟨cs', h1, h2⟩ := hx i (by omega)
      obtain ⟨y, hy, hp⟩ := ho _ _ _ h2
      obtain ⟨_, hlen, hcell⟩ := World.cells?_some h1
      refine ⟨y, hp, cs', hy, fun j u hj => ?_⟩
      have hj' : j < cs'.length := (List.getElem?_eq_some_iff.1 hj).1
      have := hcell j (by omega)
      rw [hj, hc] at this
      rwa [Addr.add_add] at this)
    have hlen : ((List.range len).map Y).length = len := by simp
    refine ⟨(List.range len).map Y, ⟨some a, cap, by rw [hlen], by rw [hlen]; exact hl, hlen.trans hlen.symm, by rw [hlen]; unfold maxLen at hm; omega, fun _ => ⟨a, rfl, fun j y hj => ?_⟩⟩, fun y hy => ?_⟩
    · have hjl : j < len := by have := (List.getElem?_eq_some_iff.1 hj).1; omega
      rw [List.getElem?_map, List.getElem?_range hjl] at hj
      obtain rfl := Option.some.inj hj
      obtain ⟨_, c, hk, hcell⟩ := hY j hjl
      exact ⟨c, d.K_len hk, hk, hcell⟩
    · obtain ⟨i, hi, rfl⟩ := List.mem_map.1 hy
      exact (hY i (List.mem_range.1 hi)).1
omit [Inhabited α] in
/-- of a parameter: a slice -/
theorem opens_param {t e : TypeId} {d : Kd α} {p : List α → Prop} (ho : Opens enc P w base t (Kd.slice e d) p) {A : Option Addr} {len cap : Nat} {x : DataW H} {ps : List MemPlace} (h : DataW.Trod enc P w base (fun _ => true) true t (.slice A len cap) x ps) :
    ∃ xs : List α, len = xs.length ∧ xs.length ≤ cap ∧ d.C w A xs.length xs ∧ p xs := by
  obtain ⟨fuel, hf⟩ := h
  obtain ⟨xs, ⟨A', c', he, hl, hC⟩, hp⟩ := ho _ _ _ hf
  simp [Value.cells] at he
  obtain ⟨rfl, rfl, rfl⟩ := he
  exact ⟨xs, rfl, hl, hC, hp⟩
end

theorem opens_graph {H : Type} {enc : TypeId × Value → H} {w : World} {base : Nat} : Opens enc Try.prog w base 22 (Kd.slice 27 (Kd.slice 3 (Kd.int .i64))) (fun xs => ∀ x ∈ xs, ∀ y ∈ x, (Lit.int .i64 y).wf = true) :=
  opens_slice Try.underlying22 (by kernel_rfl) (opens_slice Try.underlying27 (by kernel_rfl) (opens_int Try.underlying3))
end Go.Proofs.Ytkmbhknmjnbanaa.A

