/- Parts of the proof, in the order in which they rest on one another. -/
import Derived.Test.YteeapfmgdlcgfaaMChain4
import Derived.Below
import Derived.Deep.Draws
import Derived.Deep.AppendLies
import Derived.Maps.AppendAt
import Derived.OwnWalk
import Derived.Laws.BytesArg
import Derived.Laws.MakeOwn
import Derived.Laws.OwnMore
import Derived.Deep.OwnRows
import Derived.Tactics
import Derived.Lib.ConvBytes
import Derived.Laws.Slices
import Derived.WalkKit
import Derived.KernelRfl
import Derived.RowKit3
import Derived.Deep.LoopGhost
import Derived.Deep.QuietTactic
import Derived.BigQuiet
import Derived.WideLaws
import Derived.Deep.DeepCutAuto
import Derived.Deep.CutBlock
import Derived.Deep.RegionHeld3
import Derived.Laws.Rows
import Derived.Lib.AppendStr
import Derived.ArgAppend
import Derived.Laws.IdiomCopy
import Derived.RowKit
import Derived.OrdersHeld
import Derived.Laws.BitsLemmas
import Derived.Laws.StructEq
import Derived.Test.YteeapfmgdlcgfaaProg
import Derived.Maps.Own
import Derived.Maps.OwnOps
import Derived.Maps.OwnSet
import Derived.Maps.Views
import Derived.WideKeyEntry
import Derived.RangeFuncWrites
import Derived.Lib.SlKeysI
import Derived.Shelf.SlIterI.Stops
import Derived.Shelf.SlIterI.Nil
import Derived.Shelf.SortM.Plain
import Derived.Shelf.SortM.SortNone
import Derived.Shelf.SlMaps.Clone
import Derived.Ground.GgzProg
import Derived.Ground.SlgmProg
import Derived.Ground.SlmcProg
import Derived.Shelf.SlGeneric
import Derived.RangeFuncLeaves
import Derived.RangeFuncCalls
import Derived.RangeFuncBox
import Derived.OwnWalkIn
import Derived.TacticsInMore
import Derived.LoopNIn
import Derived.LoopIn
import Derived.Maps.OwnIn
import Derived.Shelf.RegionOpen
import Derived.OpenShut
import Derived.Deep.Slices
import Derived.ChangeArms
import Derived.Maps.StringElems
import Derived.Sort.MapsRangeIn
import Derived.StringKeys
import Derived.Shelf.SlIter.Stops
import Derived.RangeFuncNested
import Derived.RangeFuncRecord
import Derived.Maps.RangeWalk
import Derived.OrdersIn
import Derived.TacticsIn
import Derived.LoopN
import Derived.Lib.SliceRun
import Derived.Outline
namespace Go.Proofs.Yteeapfmgdlcgfaa.A
open Go.RowKit Go.Proofs.YteeapfmgdlcgfaaW.PrintWords Go.Proofs.YteeapfmgdlcgfaaW.PrintLast Go.Proofs.YteeapfmgdlcgfaaW.PrintMore
attribute [local go_sem] max2_int min2_int max_two min_two max_three min_three max_four min_four   -- for this text's walks alone
set_option linter.unusedVariables false
set_option linter.unusedSimpArgs false

def swageref06_Rows.l0 : Nat → List (List Int) → List (List Int) → Int → Option (Bool)
  | 0, _, _, _ => none
  | k + 1, x0, x1, x5 => if x5 < (x0.length : Int) then (if 0 ≤ x5 then (if x5 < (x1.length : Int) then ((swageref02_Ints.f k (rd_L3 x0 x5) (rd_L3 x1 x5)).bind fun t420 => (if t420 = true then (swageref06_Rows.l0 k x0 x1 (wrap64 (x5 + 1))) else (some false))) else (none)) else (none)) else (some true)
def swageref06_Rows.f (k : Nat) (l0 : List (List Int)) (l1 : List (List Int)) : Option (Bool) := if (l0.length : Int) = (l1.length : Int) then (swageref06_Rows.l0 k l0 l1 0) else (some false)
set_option maxHeartbeats 8000000 in
set_option maxRecDepth 100000 in
theorem swageref06_Rows.calls (k : Nat) (A0 : Option Addr) (c0 : Nat) (l0 : List (List Int)) (A1 : Option Addr) (c1 : Nat) (l1 : List (List Int)) (r : Bool) (w : World) (hr0 : Kd.C (Kd.slice 3 (Kd.int .i64)) w A0 l0.length l0) (hc0 : l0.length ≤ c0) (hr1 : Kd.C (Kd.slice 3 (Kd.int .i64)) w A1 l1.length l1) (hc1 : l1.length ≤ c1) (h : swageref06_Rows.f k l0 l1 = some r) :
    Calls Try.prog 47 #[.slice A0 l0.length c0, .slice A1 l1.length c1] w fun e w' => e = .returned (.bool r) ∧ Drawn0 w w' := by
  have HR0 := Aside0.mk hr0
  have HC0 := Aside0.mk hc0
  clear hr0 hc0
  have HR1 := Aside0.mk hr1
  have HC1 := Aside0.mk hc1
  clear hr1 hc1
  have H : (if (l0.length : Int) = (l1.length : Int) then (swageref06_Rows.l0 k l0 l1 0) else (some false)) = some r := h
  clear h
  by_cases c3 : (l0.length : Int) = (l1.length : Int)
  · rw [if_pos c3] at H
    have c3b0 : ((l0.length : Int) == (l1.length : Int)) = true := beq_iff_eq.mpr c3
    have c3b1 : ((l0.length : Int) != (l1.length : Int)) = false := bne_eq_false_iff_eq.mpr c3
    have c3b2 : (l0.length == l1.length) = true := by first | simpa using c3 | (simp at c3 ⊢; omega)
    clear c3
    have H' := Aside0.mk H
    clear H
    go_enter Try.func47, Try.ntmps47
    go_wp2
    repeat (go_quiet (fail); try go_wp2)
    go_loopg [5] k (fun kq v5 w' => ∃ (x5_1 : Int), v5 = .int .i64 x5_1 ∧ Aside0 (swageref06_Rows.l0 kq l0 l1 x5_1 = some r) ∧ Aside0 (kq ≤ k) ∧ Drawn0 w w')
    case atStart => exact ⟨(0), (by first | rfl | (simp; done) | (simp [*]; done)), H', ⟨Nat.le_refl _⟩, by repeat (first | exact Drawn0.refl _ | apply Drawn0.step)⟩
    case round =>
      clear H'
      try clear c1
      try clear p2
      try clear c3
      try clear c3b0
      try clear c3b1
      try clear c3b2
      obtain ⟨x5_1, rfl, HA, HK1, ⟨m1, rfl⟩⟩ := hrel
      cases gk with
      | zero => exact absurd HA.out (by simp [swageref06_Rows.l0])
      | succ k1 =>
        have H := HA.out
        clear HA
        simp only [swageref06_Rows.l0] at H
        by_cases c4 : x5_1 < (l0.length : Int)
        · rw [if_pos c4] at H
          have c4b0 : decide (x5_1 < (l0.length : Int)) = true := decide_eq_true c4
          clear c4
          by_cases c5 : 0 ≤ x5_1
          · rw [if_pos c5] at H
            have c5b0 : decide (0 ≤ x5_1) = true := decide_eq_true c5
            clear c5
            by_cases c6 : x5_1 < (l1.length : Int)
            · rw [if_pos c6] at H
              have c6b0 : decide (x5_1 < (l1.length : Int)) = true := decide_eq_true c6
              clear c6
              replace H := Option.bind_eq_some_iff.mp H
              obtain ⟨t420, A70, H⟩ := H
              replace H : (if t420 = true then (swageref06_Rows.l0 k1 l0 l1 (wrap64 (x5_1 + 1))) else (some false)) = some r := H
              have A7 := Aside0.mk A70
              clear A70
              by_cases c8 : t420 = true
              · subst c8
                have H1 : (swageref06_Rows.l0 k1 l0 l1 (wrap64 (x5_1 + 1))) = some r := by rw [if_pos rfl] at H; exact H
                clear H
                have H := H1
                clear H1
                have H' := Aside0.mk H
                clear H
                have p418 : 0 ≤ (x5_1 : Int) := of_decide_eq_true (by first | (with_reducible assumption) | assumption)
                have q418 : x5_1 < (l0.length : Int) := of_decide_eq_true (by first | (with_reducible assumption) | assumption)
                obtain ⟨ad418, A418_0, c418_0, e418, hx418_0, hl418_0, hi418_0⟩ := at_L3 HR0.out x5_1 p418 q418
                cases e418
                have HR418_0 := Aside0.mk hi418_0
                have HC418_0 := Aside0.mk hl418_0
                clear hi418_0 hl418_0
                replace p418 := eq_true p418
                replace q418 := eq_true q418
                have p419 : 0 ≤ (x5_1 : Int) := of_decide_eq_true (by first | (with_reducible assumption) | assumption)
                have q419 : x5_1 < (l1.length : Int) := of_decide_eq_true (by first | (with_reducible assumption) | assumption)
                obtain ⟨ad419, A419_0, c419_0, e419, hx419_0, hl419_0, hi419_0⟩ := at_L3 HR1.out x5_1 p419 q419
                cases e419
                have HR419_0 := Aside0.mk hi419_0
                have HC419_0 := Aside0.mk hl419_0
                clear hi419_0 hl419_0
                replace p419 := eq_true p419
                replace q419 := eq_true q419
                go_wp2_with (first | (go_at_call 21; (with_reducible refine (swageref02_Ints.calls k1 _ _ (rd_L3 l0 x5_1) _ _ (rd_L3 l1 x5_1) true _ ?side1 ?side2 ?side3 ?side4 A7.out).mono ?_); (case side1 => repeat (first | exact HR418_0.out | (with_reducible refine Kd.C_alloc ?_ _) | (with_reducible refine Kd.C_drewN ?_ _) | (with_reducible refine Kd.C_drew ?_))); (case side2 => exact HC418_0.out); (case side3 => repeat (first | exact HR419_0.out | (with_reducible refine Kd.C_alloc ?_ _) | (with_reducible refine Kd.C_drewN ?_ _) | (with_reducible refine Kd.C_drew ?_))); (case side4 => exact HC419_0.out); rintro e w' ⟨rfl, ⟨nd, rfl⟩⟩; (try first | exact ⟨rfl, _, World.drewN_drewN _ _ _⟩ | exact ⟨rfl, _, Eq.trans (World.drewN_drewN _ _ _) (congrArg (World.drewN _) (Nat.add_assoc _ _ _))⟩)))
                repeat (go_quiet (first | (go_at_call 21; (with_reducible refine (swageref02_Ints.calls k1 _ _ (rd_L3 l0 x5_1) _ _ (rd_L3 l1 x5_1) true _ ?side1 ?side2 ?side3 ?side4 A7.out).mono ?_); (case side1 => repeat (first | exact HR418_0.out | (with_reducible refine Kd.C_alloc ?_ _) | (with_reducible refine Kd.C_drewN ?_ _) | (with_reducible refine Kd.C_drew ?_))); (case side2 => exact HC418_0.out); (case side3 => repeat (first | exact HR419_0.out | (with_reducible refine Kd.C_alloc ?_ _) | (with_reducible refine Kd.C_drewN ?_ _) | (with_reducible refine Kd.C_drew ?_))); (case side4 => exact HC419_0.out); rintro e w' ⟨rfl, ⟨nd, rfl⟩⟩; (try first | exact ⟨rfl, _, World.drewN_drewN _ _ _⟩ | exact ⟨rfl, _, Eq.trans (World.drewN_drewN _ _ _) (congrArg (World.drewN _) (Nat.add_assoc _ _ _))⟩))); try go_wp2_with (first | (go_at_call 21; (with_reducible refine (swageref02_Ints.calls k1 _ _ (rd_L3 l0 x5_1) _ _ (rd_L3 l1 x5_1) true _ ?side1 ?side2 ?side3 ?side4 A7.out).mono ?_); (case side1 => repeat (first | exact HR418_0.out | (with_reducible refine Kd.C_alloc ?_ _) | (with_reducible refine Kd.C_drewN ?_ _) | (with_reducible refine Kd.C_drew ?_))); (case side2 => exact HC418_0.out); (case side3 => repeat (first | exact HR419_0.out | (with_reducible refine Kd.C_alloc ?_ _) | (with_reducible refine Kd.C_drewN ?_ _) | (with_reducible refine Kd.C_drew ?_))); (case side4 => exact HC419_0.out); rintro e w' ⟨rfl, ⟨nd, rfl⟩⟩; (try first | exact ⟨rfl, _, World.drewN_drewN _ _ _⟩ | exact ⟨rfl, _, Eq.trans (World.drewN_drewN _ _ _) (congrArg (World.drewN _) (Nat.add_assoc _ _ _))⟩))))
                go_roundg k1
                case measure => have := HK1.out; omega
                case rel => exact ⟨(wrap64 (x5_1 + 1)), (by first | rfl | (simp; done) | (simp [*]; done)), H', ⟨by have := HK1.out; omega⟩, by repeat (first | exact Drawn0.refl _ | apply Drawn0.step)⟩
              · replace c8 := Bool.eq_false_iff.mpr c8
                subst c8
                have H1 : (some false) = some r := by rw [if_neg (show ¬ (false = true) by decide)] at H; exact H
                clear H
                have H := H1
                clear H1
                obtain rfl := Option.some.inj H
                have p418 : 0 ≤ (x5_1 : Int) := of_decide_eq_true (by first | (with_reducible assumption) | assumption)
                have q418 : x5_1 < (l0.length : Int) := of_decide_eq_true (by first | (with_reducible assumption) | assumption)
                obtain ⟨ad418, A418_0, c418_0, e418, hx418_0, hl418_0, hi418_0⟩ := at_L3 HR0.out x5_1 p418 q418
                cases e418
                have HR418_0 := Aside0.mk hi418_0
                have HC418_0 := Aside0.mk hl418_0
                clear hi418_0 hl418_0
                replace p418 := eq_true p418
                replace q418 := eq_true q418
                have p419 : 0 ≤ (x5_1 : Int) := of_decide_eq_true (by first | (with_reducible assumption) | assumption)
                have q419 : x5_1 < (l1.length : Int) := of_decide_eq_true (by first | (with_reducible assumption) | assumption)
                obtain ⟨ad419, A419_0, c419_0, e419, hx419_0, hl419_0, hi419_0⟩ := at_L3 HR1.out x5_1 p419 q419
                cases e419
                have HR419_0 := Aside0.mk hi419_0
                have HC419_0 := Aside0.mk hl419_0
                clear hi419_0 hl419_0
                replace p419 := eq_true p419
                replace q419 := eq_true q419
                go_wp2_with (first | (go_at_call 21; (with_reducible refine (swageref02_Ints.calls k1 _ _ (rd_L3 l0 x5_1) _ _ (rd_L3 l1 x5_1) false _ ?side1 ?side2 ?side3 ?side4 A7.out).mono ?_); (case side1 => repeat (first | exact HR418_0.out | (with_reducible refine Kd.C_alloc ?_ _) | (with_reducible refine Kd.C_drewN ?_ _) | (with_reducible refine Kd.C_drew ?_))); (case side2 => exact HC418_0.out); (case side3 => repeat (first | exact HR419_0.out | (with_reducible refine Kd.C_alloc ?_ _) | (with_reducible refine Kd.C_drewN ?_ _) | (with_reducible refine Kd.C_drew ?_))); (case side4 => exact HC419_0.out); rintro e w' ⟨rfl, ⟨nd, rfl⟩⟩; (try first | exact ⟨rfl, _, World.drewN_drewN _ _ _⟩ | exact ⟨rfl, _, Eq.trans (World.drewN_drewN _ _ _) (congrArg (World.drewN _) (Nat.add_assoc _ _ _))⟩)))
                repeat (go_quiet (first | (go_at_call 21; (with_reducible refine (swageref02_Ints.calls k1 _ _ (rd_L3 l0 x5_1) _ _ (rd_L3 l1 x5_1) false _ ?side1 ?side2 ?side3 ?side4 A7.out).mono ?_); (case side1 => repeat (first | exact HR418_0.out | (with_reducible refine Kd.C_alloc ?_ _) | (with_reducible refine Kd.C_drewN ?_ _) | (with_reducible refine Kd.C_drew ?_))); (case side2 => exact HC418_0.out); (case side3 => repeat (first | exact HR419_0.out | (with_reducible refine Kd.C_alloc ?_ _) | (with_reducible refine Kd.C_drewN ?_ _) | (with_reducible refine Kd.C_drew ?_))); (case side4 => exact HC419_0.out); rintro e w' ⟨rfl, ⟨nd, rfl⟩⟩; (try first | exact ⟨rfl, _, World.drewN_drewN _ _ _⟩ | exact ⟨rfl, _, Eq.trans (World.drewN_drewN _ _ _) (congrArg (World.drewN _) (Nat.add_assoc _ _ _))⟩))); try go_wp2_with (first | (go_at_call 21; (with_reducible refine (swageref02_Ints.calls k1 _ _ (rd_L3 l0 x5_1) _ _ (rd_L3 l1 x5_1) false _ ?side1 ?side2 ?side3 ?side4 A7.out).mono ?_); (case side1 => repeat (first | exact HR418_0.out | (with_reducible refine Kd.C_alloc ?_ _) | (with_reducible refine Kd.C_drewN ?_ _) | (with_reducible refine Kd.C_drew ?_))); (case side2 => exact HC418_0.out); (case side3 => repeat (first | exact HR419_0.out | (with_reducible refine Kd.C_alloc ?_ _) | (with_reducible refine Kd.C_drewN ?_ _) | (with_reducible refine Kd.C_drew ?_))); (case side4 => exact HC419_0.out); rintro e w' ⟨rfl, ⟨nd, rfl⟩⟩; (try first | exact ⟨rfl, _, World.drewN_drewN _ _ _⟩ | exact ⟨rfl, _, Eq.trans (World.drewN_drewN _ _ _) (congrArg (World.drewN _) (Nat.add_assoc _ _ _))⟩))))
                go_ret
                exact ⟨by first | rfl | (simp; done) | (simp [*]; done), by repeat (first | exact Drawn0.refl _ | apply Drawn0.step)⟩
            · rw [if_neg c6] at H
              exact absurd H (by simp)
          · rw [if_neg c5] at H
            exact absurd H (by simp)
        · rw [if_neg c4] at H
          have c4b0 : decide (x5_1 < (l0.length : Int)) = false := decide_eq_false c4
          clear c4
          obtain rfl := Option.some.inj H
          go_wp2
          repeat (go_quiet (fail); try go_wp2)
          go_ret
          exact ⟨by first | rfl | (simp; done) | (simp [*]; done), by repeat (first | exact Drawn0.refl _ | apply Drawn0.step)⟩
  · rw [if_neg c3] at H
    have c3b0 : ((l0.length : Int) == (l1.length : Int)) = false := beq_eq_false_iff_ne.mpr c3
    have c3b1 : ((l0.length : Int) != (l1.length : Int)) = true := bne_iff_ne.mpr c3
    have c3b2 : (l0.length == l1.length) = false := by first | simpa using c3 | (simp at c3 ⊢; omega)
    obtain rfl := Option.some.inj H
    go_enter Try.func47, Try.ntmps47
    go_wp2
    repeat (go_quiet (fail); try go_wp2)
    go_ret
    exact ⟨by first | rfl | (simp; done) | (simp [*]; done), by repeat (first | exact Drawn0.refl _ | apply Drawn0.step)⟩

end Go.Proofs.Yteeapfmgdlcgfaa.A


namespace Go.Proofs.Yteeapfmgdlcgfaa.A
open Go.RowKit Go.Proofs.YteeapfmgdlcgfaaW.PrintWords Go.Proofs.YteeapfmgdlcgfaaW.PrintLast Go.Proofs.YteeapfmgdlcgfaaW.PrintMore
attribute [local go_sem] max2_int min2_int max_two min_two max_three min_three max_four min_four   -- for this text's walks alone
set_option linter.unusedVariables false
set_option linter.unusedSimpArgs false

def points_there.f (l0 : List (List Int)) (a1 : Int) (a2 : Int) : Option (Bool) := if a1 ≥ 0 then (if a1 < (l0.length : Int) then (if a2 ≥ 0 then (if 0 ≤ a1 then (some (decide (a2 < ((rd_L3 l0 a1).length : Int)))) else (none)) else (some false)) else (some false)) else (some false)
set_option maxHeartbeats 8000000 in
set_option maxRecDepth 100000 in
theorem points_there.calls (A0 : Option Addr) (c0 : Nat) (l0 : List (List Int)) (a1 : Int) (a2 : Int) (r : Bool) (w : World) (hr0 : Kd.C (Kd.slice 3 (Kd.int .i64)) w A0 l0.length l0) (hc0 : l0.length ≤ c0) (h : points_there.f l0 a1 a2 = some r) :
    Calls Try.prog 57 #[.slice A0 l0.length c0, .int .i64 a1, .int .i64 a2] w fun e w' => e = .returned (.bool r) ∧ Drawn0 w w' := by
  have HR0 := Aside0.mk hr0
  have HC0 := Aside0.mk hc0
  clear hr0 hc0
  have H : (if a1 ≥ 0 then (if a1 < (l0.length : Int) then (if a2 ≥ 0 then (if 0 ≤ a1 then (some (decide (a2 < ((rd_L3 l0 a1).length : Int)))) else (none)) else (some false)) else (some false)) else (some false)) = some r := h
  clear h
  by_cases c4 : a1 ≥ 0
  · rw [if_pos c4] at H
    have c4b0 : decide (0 ≤ a1) = true := decide_eq_true c4
    clear c4
    by_cases c5 : a1 < (l0.length : Int)
    · rw [if_pos c5] at H
      have c5b0 : decide (a1 < (l0.length : Int)) = true := decide_eq_true c5
      clear c5
      by_cases c6 : a2 ≥ 0
      · rw [if_pos c6] at H
        have c6b0 : decide (0 ≤ a2) = true := decide_eq_true c6
        clear c6
        by_cases c7 : 0 ≤ a1
        · rw [if_pos c7] at H
          have c7b0 : decide (0 ≤ a1) = true := decide_eq_true c7
          clear c7
          obtain rfl := Option.some.inj H
          have p400 : 0 ≤ (a1 : Int) := of_decide_eq_true (by first | (with_reducible assumption) | assumption)
          have q400 : a1 < (l0.length : Int) := of_decide_eq_true (by first | (with_reducible assumption) | assumption)
          obtain ⟨ad400, A400_0, c400_0, e400, hx400_0, hl400_0, hi400_0⟩ := at_L3 HR0.out a1 p400 q400
          cases e400
          have HR400_0 := Aside0.mk hi400_0
          have HC400_0 := Aside0.mk hl400_0
          clear hi400_0 hl400_0
          replace p400 := eq_true p400
          replace q400 := eq_true q400
          go_enter Try.func57, Try.ntmps57
          go_wp2
          go_ret
          exact ⟨by first | rfl | (simp; done) | (simp [*]; done), by repeat (first | exact Drawn0.refl _ | apply Drawn0.step)⟩
        · rw [if_neg c7] at H
          exact absurd H (by simp)
      · rw [if_neg c6] at H
        have c6b0 : decide (0 ≤ a2) = false := decide_eq_false c6
        clear c6
        obtain rfl := Option.some.inj H
        go_enter Try.func57, Try.ntmps57
        go_wp2
        go_ret
        exact ⟨by first | rfl | (simp; done) | (simp [*]; done), by repeat (first | exact Drawn0.refl _ | apply Drawn0.step)⟩
    · rw [if_neg c5] at H
      have c5b0 : decide (a1 < (l0.length : Int)) = false := decide_eq_false c5
      clear c5
      obtain rfl := Option.some.inj H
      go_enter Try.func57, Try.ntmps57
      go_wp2
      go_ret
      exact ⟨by first | rfl | (simp; done) | (simp [*]; done), by repeat (first | exact Drawn0.refl _ | apply Drawn0.step)⟩
  · rw [if_neg c4] at H
    have c4b0 : decide (0 ≤ a1) = false := decide_eq_false c4
    clear c4
    obtain rfl := Option.some.inj H
    go_enter Try.func57, Try.ntmps57
    go_wp2
    go_ret
    exact ⟨by first | rfl | (simp; done) | (simp [*]; done), by repeat (first | exact Drawn0.refl _ | apply Drawn0.step)⟩

end Go.Proofs.Yteeapfmgdlcgfaa.A


namespace Go.Proofs.Yteeapfmgdlcgfaa.A
open Go.RowKit Go.Proofs.YteeapfmgdlcgfaaW.PrintWords Go.Proofs.YteeapfmgdlcgfaaW.PrintLast Go.Proofs.YteeapfmgdlcgfaaW.PrintMore
attribute [local go_sem] max2_int min2_int max_two min_two max_three min_three max_four min_four   -- for this text's walks alone
set_option linter.unusedVariables false
set_option linter.unusedSimpArgs false

def points_Alike.f (l0 : List (List Int)) (a1 : Int) (a2 : Int) (a3 : Int) (a4 : Int) : Option (Bool) := (points_there.f l0 a1 a2).bind fun t401 => (if t401 = true then ((points_there.f l0 a3 a4).bind fun t402 => (if t402 = true then (if 0 ≤ a1 then (if a1 < (l0.length : Int) then (if 0 ≤ a2 then (if a2 < ((rd_L3 l0 a1).length : Int) then (if 0 ≤ a3 then (if a3 < (l0.length : Int) then (if 0 ≤ a4 then (if a4 < ((rd_L3 l0 a3).length : Int) then (some ((rd (rd_L3 l0 a1) a2) == (rd (rd_L3 l0 a3) a4))) else (none)) else (none)) else (none)) else (none)) else (none)) else (none)) else (none)) else (none)) else (some false))) else (some false))
set_option maxHeartbeats 8000000 in
set_option maxRecDepth 100000 in
theorem points_Alike.calls (A0 : Option Addr) (c0 : Nat) (l0 : List (List Int)) (a1 : Int) (a2 : Int) (a3 : Int) (a4 : Int) (r : Bool) (w : World) (hr0 : Kd.C (Kd.slice 3 (Kd.int .i64)) w A0 l0.length l0) (hc0 : l0.length ≤ c0) (h : points_Alike.f l0 a1 a2 a3 a4 = some r) :
    Calls Try.prog 28 #[.slice A0 l0.length c0, .int .i64 a1, .int .i64 a2, .int .i64 a3, .int .i64 a4] w fun e w' => e = .returned (.bool r) ∧ Drawn0 w w' := by
  have HR0 := Aside0.mk hr0
  have HC0 := Aside0.mk hc0
  clear hr0 hc0
  have H : ((points_there.f l0 a1 a2).bind fun t401 => (if t401 = true then ((points_there.f l0 a3 a4).bind fun t402 => (if t402 = true then (if 0 ≤ a1 then (if a1 < (l0.length : Int) then (if 0 ≤ a2 then (if a2 < ((rd_L3 l0 a1).length : Int) then (if 0 ≤ a3 then (if a3 < (l0.length : Int) then (if 0 ≤ a4 then (if a4 < ((rd_L3 l0 a3).length : Int) then (some ((rd (rd_L3 l0 a1) a2) == (rd (rd_L3 l0 a3) a4))) else (none)) else (none)) else (none)) else (none)) else (none)) else (none)) else (none)) else (none)) else (some false))) else (some false))) = some r := h
  clear h
  replace H := Option.bind_eq_some_iff.mp H
  obtain ⟨t401, A60, H⟩ := H
  replace H : (if t401 = true then ((points_there.f l0 a3 a4).bind fun t402 => (if t402 = true then (if 0 ≤ a1 then (if a1 < (l0.length : Int) then (if 0 ≤ a2 then (if a2 < ((rd_L3 l0 a1).length : Int) then (if 0 ≤ a3 then (if a3 < (l0.length : Int) then (if 0 ≤ a4 then (if a4 < ((rd_L3 l0 a3).length : Int) then (some ((rd (rd_L3 l0 a1) a2) == (rd (rd_L3 l0 a3) a4))) else (none)) else (none)) else (none)) else (none)) else (none)) else (none)) else (none)) else (none)) else (some false))) else (some false)) = some r := H
  have A6 := Aside0.mk A60
  clear A60
  by_cases c7 : t401 = true
  · subst c7
    have H1 : ((points_there.f l0 a3 a4).bind fun t402 => (if t402 = true then (if 0 ≤ a1 then (if a1 < (l0.length : Int) then (if 0 ≤ a2 then (if a2 < ((rd_L3 l0 a1).length : Int) then (if 0 ≤ a3 then (if a3 < (l0.length : Int) then (if 0 ≤ a4 then (if a4 < ((rd_L3 l0 a3).length : Int) then (some ((rd (rd_L3 l0 a1) a2) == (rd (rd_L3 l0 a3) a4))) else (none)) else (none)) else (none)) else (none)) else (none)) else (none)) else (none)) else (none)) else (some false))) = some r := by rw [if_pos rfl] at H; exact H
    clear H
    have H := H1
    clear H1
    replace H := Option.bind_eq_some_iff.mp H
    obtain ⟨t402, A80, H⟩ := H
    replace H : (if t402 = true then (if 0 ≤ a1 then (if a1 < (l0.length : Int) then (if 0 ≤ a2 then (if a2 < ((rd_L3 l0 a1).length : Int) then (if 0 ≤ a3 then (if a3 < (l0.length : Int) then (if 0 ≤ a4 then (if a4 < ((rd_L3 l0 a3).length : Int) then (some ((rd (rd_L3 l0 a1) a2) == (rd (rd_L3 l0 a3) a4))) else (none)) else (none)) else (none)) else (none)) else (none)) else (none)) else (none)) else (none)) else (some false)) = some r := H
    have A8 := Aside0.mk A80
    clear A80
    by_cases c9 : t402 = true
    · subst c9
      have H1 : (if 0 ≤ a1 then (if a1 < (l0.length : Int) then (if 0 ≤ a2 then (if a2 < ((rd_L3 l0 a1).length : Int) then (if 0 ≤ a3 then (if a3 < (l0.length : Int) then (if 0 ≤ a4 then (if a4 < ((rd_L3 l0 a3).length : Int) then (some ((rd (rd_L3 l0 a1) a2) == (rd (rd_L3 l0 a3) a4))) else (none)) else (none)) else (none)) else (none)) else (none)) else (none)) else (none)) else (none)) = some r := by rw [if_pos rfl] at H; exact H
      clear H
      have H := H1
      clear H1
      by_cases c10 : 0 ≤ a1
      · rw [if_pos c10] at H
        have c10b0 : decide (0 ≤ a1) = true := decide_eq_true c10
        clear c10
        by_cases c11 : a1 < (l0.length : Int)
        · rw [if_pos c11] at H
          have c11b0 : decide (a1 < (l0.length : Int)) = true := decide_eq_true c11
          clear c11
          by_cases c12 : 0 ≤ a2
          · rw [if_pos c12] at H
            have c12b0 : decide (0 ≤ a2) = true := decide_eq_true c12
            clear c12
            by_cases c13 : a2 < ((rd_L3 l0 a1).length : Int)
            · rw [if_pos c13] at H
              have c13b0 : decide (a2 < ((rd_L3 l0 a1).length : Int)) = true := decide_eq_true c13
              clear c13
              by_cases c14 : 0 ≤ a3
              · rw [if_pos c14] at H
                have c14b0 : decide (0 ≤ a3) = true := decide_eq_true c14
                clear c14
                by_cases c15 : a3 < (l0.length : Int)
                · rw [if_pos c15] at H
                  have c15b0 : decide (a3 < (l0.length : Int)) = true := decide_eq_true c15
                  clear c15
                  by_cases c16 : 0 ≤ a4
                  · rw [if_pos c16] at H
                    have c16b0 : decide (0 ≤ a4) = true := decide_eq_true c16
                    clear c16
                    by_cases c17 : a4 < ((rd_L3 l0 a3).length : Int)
                    · rw [if_pos c17] at H
                      have c17b0 : decide (a4 < ((rd_L3 l0 a3).length : Int)) = true := decide_eq_true c17
                      clear c17
                      obtain rfl := Option.some.inj H
                      go_enter Try.func28, Try.ntmps28
                      go_wp2_with (first | (go_at_call 57; (with_reducible refine (points_there.calls _ _ l0 a1 a2 true _ ?side1 ?side2 A6.out).mono ?_); (case side1 => repeat (first | exact HR0.out | (with_reducible refine Kd.C_alloc ?_ _) | (with_reducible refine Kd.C_drewN ?_ _) | (with_reducible refine Kd.C_drew ?_))); (case side2 => exact HC0.out); rintro e w' ⟨rfl, ⟨nd, rfl⟩⟩; (try first | exact ⟨rfl, _, World.drewN_drewN _ _ _⟩ | exact ⟨rfl, _, Eq.trans (World.drewN_drewN _ _ _) (congrArg (World.drewN _) (Nat.add_assoc _ _ _))⟩)) | (go_at_call 57; (with_reducible refine (points_there.calls _ _ l0 a3 a4 true _ ?side1 ?side2 A8.out).mono ?_); (case side1 => repeat (first | exact HR0.out | (with_reducible refine Kd.C_alloc ?_ _) | (with_reducible refine Kd.C_drewN ?_ _) | (with_reducible refine Kd.C_drew ?_))); (case side2 => exact HC0.out); rintro e w' ⟨rfl, ⟨nd, rfl⟩⟩; (try first | exact ⟨rfl, _, World.drewN_drewN _ _ _⟩ | exact ⟨rfl, _, Eq.trans (World.drewN_drewN _ _ _) (congrArg (World.drewN _) (Nat.add_assoc _ _ _))⟩); have p403 : 0 ≤ (a1 : Int) := of_decide_eq_true (by first | (with_reducible assumption) | assumption); have q403 : a1 < (l0.length : Int) := of_decide_eq_true (by first | (with_reducible assumption) | assumption); obtain ⟨ad403, A403_0, c403_0, e403, hx403_0, hl403_0, hi403_0⟩ := at_L3 HR0.out a1 p403 q403; cases e403; have HR403_0 := Aside0.mk hi403_0; have HC403_0 := Aside0.mk hl403_0; clear hi403_0 hl403_0; replace p403 := eq_true p403; replace q403 := eq_true q403; have p404 : 0 ≤ (a2 : Int) := of_decide_eq_true (by first | (with_reducible assumption) | assumption); have q404 : a2 < ((rd_L3 l0 a1).length : Int) := of_decide_eq_true (by first | (with_reducible assumption) | assumption); obtain ⟨ad404, e404, hx404_0⟩ := Kd.at_int HR403_0.out a2 p404 q404; cases e404; replace p404 := eq_true p404; replace q404 := eq_true q404; have p405 : 0 ≤ (a3 : Int) := of_decide_eq_true (by first | (with_reducible assumption) | assumption); have q405 : a3 < (l0.length : Int) := of_decide_eq_true (by first | (with_reducible assumption) | assumption); obtain ⟨ad405, A405_0, c405_0, e405, hx405_0, hl405_0, hi405_0⟩ := at_L3 HR0.out a3 p405 q405; obtain rfl : ad403 = ad405 := (by injection e405); have HR405_0 := Aside0.mk hi405_0; have HC405_0 := Aside0.mk hl405_0; clear hi405_0 hl405_0; replace p405 := eq_true p405; replace q405 := eq_true q405; have p406 : 0 ≤ (a4 : Int) := of_decide_eq_true (by first | (with_reducible assumption) | assumption); have q406 : a4 < ((rd_L3 l0 a3).length : Int) := of_decide_eq_true (by first | (with_reducible assumption) | assumption); obtain ⟨ad406, e406, hx406_0⟩ := Kd.at_int HR405_0.out a4 p406 q406; cases e406; replace p406 := eq_true p406; replace q406 := eq_true q406))
                      repeat (go_quiet (first | (go_at_call 57; (with_reducible refine (points_there.calls _ _ l0 a1 a2 true _ ?side1 ?side2 A6.out).mono ?_); (case side1 => repeat (first | exact HR0.out | (with_reducible refine Kd.C_alloc ?_ _) | (with_reducible refine Kd.C_drewN ?_ _) | (with_reducible refine Kd.C_drew ?_))); (case side2 => exact HC0.out); rintro e w' ⟨rfl, ⟨nd, rfl⟩⟩; (try first | exact ⟨rfl, _, World.drewN_drewN _ _ _⟩ | exact ⟨rfl, _, Eq.trans (World.drewN_drewN _ _ _) (congrArg (World.drewN _) (Nat.add_assoc _ _ _))⟩)) | (go_at_call 57; (with_reducible refine (points_there.calls _ _ l0 a3 a4 true _ ?side1 ?side2 A8.out).mono ?_); (case side1 => repeat (first | exact HR0.out | (with_reducible refine Kd.C_alloc ?_ _) | (with_reducible refine Kd.C_drewN ?_ _) | (with_reducible refine Kd.C_drew ?_))); (case side2 => exact HC0.out); rintro e w' ⟨rfl, ⟨nd, rfl⟩⟩; (try first | exact ⟨rfl, _, World.drewN_drewN _ _ _⟩ | exact ⟨rfl, _, Eq.trans (World.drewN_drewN _ _ _) (congrArg (World.drewN _) (Nat.add_assoc _ _ _))⟩); have p403 : 0 ≤ (a1 : Int) := of_decide_eq_true (by first | (with_reducible assumption) | assumption); have q403 : a1 < (l0.length : Int) := of_decide_eq_true (by first | (with_reducible assumption) | assumption); obtain ⟨ad403, A403_0, c403_0, e403, hx403_0, hl403_0, hi403_0⟩ := at_L3 HR0.out a1 p403 q403; cases e403; have HR403_0 := Aside0.mk hi403_0; have HC403_0 := Aside0.mk hl403_0; clear hi403_0 hl403_0; replace p403 := eq_true p403; replace q403 := eq_true q403; have p404 : 0 ≤ (a2 : Int) := of_decide_eq_true (by first | (with_reducible assumption) | assumption); have q404 : a2 < ((rd_L3 l0 a1).length : Int) := of_decide_eq_true (by first | (with_reducible assumption) | assumption); obtain ⟨ad404, e404, hx404_0⟩ := Kd.at_int HR403_0.out a2 p404 q404; cases e404; replace p404 := eq_true p404; replace q404 := eq_true q404; have p405 : 0 ≤ (a3 : Int) := of_decide_eq_true (by first | (with_reducible assumption) | assumption); have q405 : a3 < (l0.length : Int) := of_decide_eq_true (by first | (with_reducible assumption) | assumption); obtain ⟨ad405, A405_0, c405_0, e405, hx405_0, hl405_0, hi405_0⟩ := at_L3 HR0.out a3 p405 q405; obtain rfl : ad403 = ad405 := (by injection e405); have HR405_0 := Aside0.mk hi405_0; have HC405_0 := Aside0.mk hl405_0; clear hi405_0 hl405_0; replace p405 := eq_true p405; replace q405 := eq_true q405; have p406 : 0 ≤ (a4 : Int) := of_decide_eq_true (by first | (with_reducible assumption) | assumption); have q406 : a4 < ((rd_L3 l0 a3).length : Int) := of_decide_eq_true (by first | (with_reducible assumption) | assumption); obtain ⟨ad406, e406, hx406_0⟩ := Kd.at_int HR405_0.out a4 p406 q406; cases e406; replace p406 := eq_true p406; replace q406 := eq_true q406)); try go_wp2_with (first | (go_at_call 57; (with_reducible refine (points_there.calls _ _ l0 a1 a2 true _ ?side1 ?side2 A6.out).mono ?_); (case side1 => repeat (first | exact HR0.out | (with_reducible refine Kd.C_alloc ?_ _) | (with_reducible refine Kd.C_drewN ?_ _) | (with_reducible refine Kd.C_drew ?_))); (case side2 => exact HC0.out); rintro e w' ⟨rfl, ⟨nd, rfl⟩⟩; (try first | exact ⟨rfl, _, World.drewN_drewN _ _ _⟩ | exact ⟨rfl, _, Eq.trans (World.drewN_drewN _ _ _) (congrArg (World.drewN _) (Nat.add_assoc _ _ _))⟩)) | (go_at_call 57; (with_reducible refine (points_there.calls _ _ l0 a3 a4 true _ ?side1 ?side2 A8.out).mono ?_); (case side1 => repeat (first | exact HR0.out | (with_reducible refine Kd.C_alloc ?_ _) | (with_reducible refine Kd.C_drewN ?_ _) | (with_reducible refine Kd.C_drew ?_))); (case side2 => exact HC0.out); rintro e w' ⟨rfl, ⟨nd, rfl⟩⟩; (try first | exact ⟨rfl, _, World.drewN_drewN _ _ _⟩ | exact ⟨rfl, _, Eq.trans (World.drewN_drewN _ _ _) (congrArg (World.drewN _) (Nat.add_assoc _ _ _))⟩); have p403 : 0 ≤ (a1 : Int) := of_decide_eq_true (by first | (with_reducible assumption) | assumption); have q403 : a1 < (l0.length : Int) := of_decide_eq_true (by first | (with_reducible assumption) | assumption); obtain ⟨ad403, A403_0, c403_0, e403, hx403_0, hl403_0, hi403_0⟩ := at_L3 HR0.out a1 p403 q403; cases e403; have HR403_0 := Aside0.mk hi403_0; have HC403_0 := Aside0.mk hl403_0; clear hi403_0 hl403_0; replace p403 := eq_true p403; replace q403 := eq_true q403; have p404 : 0 ≤ (a2 : Int) := of_decide_eq_true (by first | (with_reducible assumption) | assumption); have q404 : a2 < ((rd_L3 l0 a1).length : Int) := of_decide_eq_true (by first | (with_reducible assumption) | assumption); obtain ⟨ad404, e404, hx404_0⟩ := Kd.at_int HR403_0.out a2 p404 q404; cases e404; replace p404 := eq_true p404; replace q404 := eq_true q404; have p405 : 0 ≤ (a3 : Int) := of_decide_eq_true (by first | (with_reducible assumption) | assumption); have q405 : a3 < (l0.length : Int) := of_decide_eq_true (by first | (with_reducible assumption) | assumption); obtain ⟨ad405, A405_0, c405_0, e405, hx405_0, hl405_0, hi405_0⟩ := at_L3 HR0.out a3 p405 q405; obtain rfl : ad403 = ad405 := (by injection e405); have HR405_0 := Aside0.mk hi405_0; have HC405_0 := Aside0.mk hl405_0; clear hi405_0 hl405_0; replace p405 := eq_true p405; replace q405 := eq_true q405; have p406 : 0 ≤ (a4 : Int) := of_decide_eq_true (by first | (with_reducible assumption) | assumption); have q406 : a4 < ((rd_L3 l0 a3).length : Int) := of_decide_eq_true (by first | (with_reducible assumption) | assumption); obtain ⟨ad406, e406, hx406_0⟩ := Kd.at_int HR405_0.out a4 p406 q406; cases e406; replace p406 := eq_true p406; replace q406 := eq_true q406)))
                      go_ret
                      exact ⟨by first | rfl | (simp; done) | (simp [*]; done), by repeat (first | exact Drawn0.refl _ | apply Drawn0.step)⟩
                    · rw [if_neg c17] at H
                      exact absurd H (by simp)
                  · rw [if_neg c16] at H
                    exact absurd H (by simp)
                · rw [if_neg c15] at H
                  exact absurd H (by simp)
              · rw [if_neg c14] at H
                exact absurd H (by simp)
            · rw [if_neg c13] at H
              exact absurd H (by simp)
          · rw [if_neg c12] at H
            exact absurd H (by simp)
        · rw [if_neg c11] at H
          exact absurd H (by simp)
      · rw [if_neg c10] at H
        exact absurd H (by simp)
    · replace c9 := Bool.eq_false_iff.mpr c9
      subst c9
      have H1 : (some false) = some r := by rw [if_neg (show ¬ (false = true) by decide)] at H; exact H
      clear H
      have H := H1
      clear H1
      obtain rfl := Option.some.inj H
      go_enter Try.func28, Try.ntmps28
      go_wp2_with (first | (go_at_call 57; (with_reducible refine (points_there.calls _ _ l0 a1 a2 true _ ?side1 ?side2 A6.out).mono ?_); (case side1 => repeat (first | exact HR0.out | (with_reducible refine Kd.C_alloc ?_ _) | (with_reducible refine Kd.C_drewN ?_ _) | (with_reducible refine Kd.C_drew ?_))); (case side2 => exact HC0.out); rintro e w' ⟨rfl, ⟨nd, rfl⟩⟩; (try first | exact ⟨rfl, _, World.drewN_drewN _ _ _⟩ | exact ⟨rfl, _, Eq.trans (World.drewN_drewN _ _ _) (congrArg (World.drewN _) (Nat.add_assoc _ _ _))⟩)) | (go_at_call 57; (with_reducible refine (points_there.calls _ _ l0 a3 a4 false _ ?side1 ?side2 A8.out).mono ?_); (case side1 => repeat (first | exact HR0.out | (with_reducible refine Kd.C_alloc ?_ _) | (with_reducible refine Kd.C_drewN ?_ _) | (with_reducible refine Kd.C_drew ?_))); (case side2 => exact HC0.out); rintro e w' ⟨rfl, ⟨nd, rfl⟩⟩; (try first | exact ⟨rfl, _, World.drewN_drewN _ _ _⟩ | exact ⟨rfl, _, Eq.trans (World.drewN_drewN _ _ _) (congrArg (World.drewN _) (Nat.add_assoc _ _ _))⟩)))
      repeat (go_quiet (first | (go_at_call 57; (with_reducible refine (points_there.calls _ _ l0 a1 a2 true _ ?side1 ?side2 A6.out).mono ?_); (case side1 => repeat (first | exact HR0.out | (with_reducible refine Kd.C_alloc ?_ _) | (with_reducible refine Kd.C_drewN ?_ _) | (with_reducible refine Kd.C_drew ?_))); (case side2 => exact HC0.out); rintro e w' ⟨rfl, ⟨nd, rfl⟩⟩; (try first | exact ⟨rfl, _, World.drewN_drewN _ _ _⟩ | exact ⟨rfl, _, Eq.trans (World.drewN_drewN _ _ _) (congrArg (World.drewN _) (Nat.add_assoc _ _ _))⟩)) | (go_at_call 57; (with_reducible refine (points_there.calls _ _ l0 a3 a4 false _ ?side1 ?side2 A8.out).mono ?_); (case side1 => repeat (first | exact HR0.out | (with_reducible refine Kd.C_alloc ?_ _) | (with_reducible refine Kd.C_drewN ?_ _) | (with_reducible refine Kd.C_drew ?_))); (case side2 => exact HC0.out); rintro e w' ⟨rfl, ⟨nd, rfl⟩⟩; (try first | exact ⟨rfl, _, World.drewN_drewN _ _ _⟩ | exact ⟨rfl, _, Eq.trans (World.drewN_drewN _ _ _) (congrArg (World.drewN _) (Nat.add_assoc _ _ _))⟩))); try go_wp2_with (first | (go_at_call 57; (with_reducible refine (points_there.calls _ _ l0 a1 a2 true _ ?side1 ?side2 A6.out).mono ?_); (case side1 => repeat (first | exact HR0.out | (with_reducible refine Kd.C_alloc ?_ _) | (with_reducible refine Kd.C_drewN ?_ _) | (with_reducible refine Kd.C_drew ?_))); (case side2 => exact HC0.out); rintro e w' ⟨rfl, ⟨nd, rfl⟩⟩; (try first | exact ⟨rfl, _, World.drewN_drewN _ _ _⟩ | exact ⟨rfl, _, Eq.trans (World.drewN_drewN _ _ _) (congrArg (World.drewN _) (Nat.add_assoc _ _ _))⟩)) | (go_at_call 57; (with_reducible refine (points_there.calls _ _ l0 a3 a4 false _ ?side1 ?side2 A8.out).mono ?_); (case side1 => repeat (first | exact HR0.out | (with_reducible refine Kd.C_alloc ?_ _) | (with_reducible refine Kd.C_drewN ?_ _) | (with_reducible refine Kd.C_drew ?_))); (case side2 => exact HC0.out); rintro e w' ⟨rfl, ⟨nd, rfl⟩⟩; (try first | exact ⟨rfl, _, World.drewN_drewN _ _ _⟩ | exact ⟨rfl, _, Eq.trans (World.drewN_drewN _ _ _) (congrArg (World.drewN _) (Nat.add_assoc _ _ _))⟩))))
      go_ret
      exact ⟨by first | rfl | (simp; done) | (simp [*]; done), by repeat (first | exact Drawn0.refl _ | apply Drawn0.step)⟩
  · replace c7 := Bool.eq_false_iff.mpr c7
    subst c7
    have H1 : (some false) = some r := by rw [if_neg (show ¬ (false = true) by decide)] at H; exact H
    clear H
    have H := H1
    clear H1
    obtain rfl := Option.some.inj H
    go_enter Try.func28, Try.ntmps28
    go_wp2_with (first | (go_at_call 57; (with_reducible refine (points_there.calls _ _ l0 a1 a2 false _ ?side1 ?side2 A6.out).mono ?_); (case side1 => repeat (first | exact HR0.out | (with_reducible refine Kd.C_alloc ?_ _) | (with_reducible refine Kd.C_drewN ?_ _) | (with_reducible refine Kd.C_drew ?_))); (case side2 => exact HC0.out); rintro e w' ⟨rfl, ⟨nd, rfl⟩⟩; (try first | exact ⟨rfl, _, World.drewN_drewN _ _ _⟩ | exact ⟨rfl, _, Eq.trans (World.drewN_drewN _ _ _) (congrArg (World.drewN _) (Nat.add_assoc _ _ _))⟩)))
    repeat (go_quiet (first | (go_at_call 57; (with_reducible refine (points_there.calls _ _ l0 a1 a2 false _ ?side1 ?side2 A6.out).mono ?_); (case side1 => repeat (first | exact HR0.out | (with_reducible refine Kd.C_alloc ?_ _) | (with_reducible refine Kd.C_drewN ?_ _) | (with_reducible refine Kd.C_drew ?_))); (case side2 => exact HC0.out); rintro e w' ⟨rfl, ⟨nd, rfl⟩⟩; (try first | exact ⟨rfl, _, World.drewN_drewN _ _ _⟩ | exact ⟨rfl, _, Eq.trans (World.drewN_drewN _ _ _) (congrArg (World.drewN _) (Nat.add_assoc _ _ _))⟩))); try go_wp2_with (first | (go_at_call 57; (with_reducible refine (points_there.calls _ _ l0 a1 a2 false _ ?side1 ?side2 A6.out).mono ?_); (case side1 => repeat (first | exact HR0.out | (with_reducible refine Kd.C_alloc ?_ _) | (with_reducible refine Kd.C_drewN ?_ _) | (with_reducible refine Kd.C_drew ?_))); (case side2 => exact HC0.out); rintro e w' ⟨rfl, ⟨nd, rfl⟩⟩; (try first | exact ⟨rfl, _, World.drewN_drewN _ _ _⟩ | exact ⟨rfl, _, Eq.trans (World.drewN_drewN _ _ _) (congrArg (World.drewN _) (Nat.add_assoc _ _ _))⟩))))
    go_ret
    exact ⟨by first | rfl | (simp; done) | (simp [*]; done), by repeat (first | exact Drawn0.refl _ | apply Drawn0.step)⟩

end Go.Proofs.Yteeapfmgdlcgfaa.A


namespace Go.Proofs.Yteeapfmgdlcgfaa.A
open Go.RowKit Go.Proofs.YteeapfmgdlcgfaaW.PrintWords Go.Proofs.YteeapfmgdlcgfaaW.PrintLast Go.Proofs.YteeapfmgdlcgfaaW.PrintMore
attribute [local go_sem] max2_int min2_int max_two min_two max_three min_three max_four min_four   -- for this text's walks alone
set_option linter.unusedVariables false
set_option linter.unusedSimpArgs false

mutual
def points_Classes.l0 : Nat → Int → List (List Int) → Int → Int → Option (Int)
  | 0, _, _, _, _ => none
  | k + 1, x3, x8, x9, x10 => if x10 < x9 then (if 0 ≤ x10 then (if x10 < (x8.length : Int) then (points_Classes.l1 k x3 x8 x9 x10 (rd_L3 x8 x10) ((rd_L3 x8 x10).length : Int) 0) else (none)) else (none)) else (some x3)
def points_Classes.l1 : Nat → Int → List (List Int) → Int → Int → List Int → Int → Int → Option (Int)
  | 0, _, _, _, _, _, _, _ => none
  | k + 1, x3, x8, x9, x10, x14, x15, x16 => if x16 < x15 then (if 0 ≤ x16 then (if x16 < (x14.length : Int) then (points_Classes.l1 k (mx x3 (rd x14 x16)) x8 x9 x10 x14 x15 (wrap64 (x16 + 1))) else (none)) else (none)) else (points_Classes.l0 k x3 x8 x9 (wrap64 (x10 + 1)))
end
def points_Classes.f (k : Nat) (l0 : List (List Int)) : Option (Int) := points_Classes.l0 k 0 l0 (l0.length : Int) 0
set_option maxHeartbeats 8000000 in
set_option maxRecDepth 100000 in
theorem points_Classes.calls (k : Nat) (A0 : Option Addr) (c0 : Nat) (l0 : List (List Int)) (r : Int) (w : World) (hr0 : Kd.C (Kd.slice 3 (Kd.int .i64)) w A0 l0.length l0) (hc0 : l0.length ≤ c0) (h : points_Classes.f k l0 = some r) :
    Calls Try.prog 32 #[.slice A0 l0.length c0] w fun e w' => e = .returned (.int .i64 r) ∧ Below w.heap.size w w' := by
  have HR0 := Aside0.mk hr0
  have HC0 := Aside0.mk hc0
  clear hr0 hc0
  have HB := Aside0.mk (Below.refl w.heap.size w)
  have H : (points_Classes.l0 k 0 l0 (l0.length : Int) 0) = some r := h
  clear h
  have H' := Aside0.mk H
  clear H
  go_enter Try.func32, Try.ntmps32
  go_wp2
  go_loopg [3, 10] k (fun kq v3 v10 w' => ∃ (x3_1 : Int) (x10_1 : Int), v3 = .int .i64 x3_1 ∧ v10 = .int .i64 x10_1 ∧ Aside0 (points_Classes.l0 kq x3_1 l0 (l0.length : Int) x10_1 = some r) ∧ Aside0 (kq ≤ k) ∧ Aside0 (Below w.heap.size w w'))
  case atStart => exact ⟨(0), (0), (by first | rfl | (simp; done) | (simp [*]; done)), (by first | rfl | (simp; done) | (simp [*]; done)), H', ⟨Nat.le_refl _⟩, ⟨by repeat (first | (with_reducible first | exact HB.out | apply below_alloc | apply pw_below_drewN | apply below_drew1) | exact HB.out)⟩⟩
  case round =>
    clear H'
    obtain ⟨x3_1, x10_1, rfl, rfl, HA, HK1, HB⟩ := hrel
    cases gk with
    | zero => exact absurd HA.out (by simp [points_Classes.l0])
    | succ k1 =>
      have H := HA.out
      clear HA
      simp only [points_Classes.l0] at H
      by_cases c2 : x10_1 < (l0.length : Int)
      · rw [if_pos c2] at H
        have c2b0 : decide (x10_1 < (l0.length : Int)) = true := decide_eq_true c2
        clear c2
        by_cases c3 : 0 ≤ x10_1
        · rw [if_pos c3] at H
          have c3b0 : decide (0 ≤ x10_1) = true := decide_eq_true c3
          clear c3
          by_cases c4 : x10_1 < (l0.length : Int)
          · rw [if_pos c4] at H
            have c4b0 : decide (x10_1 < (l0.length : Int)) = true := decide_eq_true c4
            clear c4
            have H' := Aside0.mk H
            clear H
            have p407 : 0 ≤ (x10_1 : Int) := of_decide_eq_true (by first | (with_reducible assumption) | assumption)
            have q407 : x10_1 < (l0.length : Int) := of_decide_eq_true (by first | (with_reducible assumption) | assumption)
            obtain ⟨ad407, A407_0, c407_0, e407, hx407_0, hl407_0, hi407_0⟩ := at_L3 HR0.out x10_1 p407 q407
            cases e407
            replace hx407_0 := (HB.out.cell (World.block_lt_of_cell? w _ hx407_0)).trans hx407_0
            have HR407_0 := Aside0.mk hi407_0
            have HC407_0 := Aside0.mk hl407_0
            clear hi407_0 hl407_0
            replace p407 := eq_true p407
            replace q407 := eq_true q407
            go_wp2
            go_loopg [3, 16] k1 (fun kq v3 v16 w' => ∃ (x3_2 : Int) (x16_2 : Int), v3 = .int .i64 x3_2 ∧ v16 = .int .i64 x16_2 ∧ Aside0 (points_Classes.l1 kq x3_2 l0 (l0.length : Int) x10_1 (rd_L3 l0 x10_1) ((rd_L3 l0 x10_1).length : Int) x16_2 = some r) ∧ Aside0 (kq ≤ k1) ∧ Aside0 (Below w.heap.size w w'))
            case atStart => exact ⟨(x3_1), (0), (by first | rfl | (simp; done) | (simp [*]; done)), (by first | rfl | (simp; done) | (simp [*]; done)), H', ⟨Nat.le_refl _⟩, ⟨by repeat (first | (with_reducible first | exact HB.out | apply below_alloc | apply pw_below_drewN | apply below_drew1) | exact HB.out)⟩⟩
            case round =>
              clear H'
              try clear c2
              try clear c2b0
              try clear p2
              try clear c3
              try clear c3b0
              try clear c4
              try clear c4b0
              try clear p4
              try clear q4
              try clear hx4
              try clear hx407_0
              try clear p407
              try clear q407
              obtain ⟨x3_2, x16_2, rfl, rfl, HA, HK2, HB⟩ := hrel
              cases gk with
              | zero => exact absurd HA.out (by simp [points_Classes.l1])
              | succ k2 =>
                have H := HA.out
                clear HA
                simp only [points_Classes.l1] at H
                by_cases c5 : x16_2 < ((rd_L3 l0 x10_1).length : Int)
                · rw [if_pos c5] at H
                  have c5b0 : decide (x16_2 < ((rd_L3 l0 x10_1).length : Int)) = true := decide_eq_true c5
                  clear c5
                  by_cases c6 : 0 ≤ x16_2
                  · rw [if_pos c6] at H
                    have c6b0 : decide (0 ≤ x16_2) = true := decide_eq_true c6
                    clear c6
                    by_cases c7 : x16_2 < ((rd_L3 l0 x10_1).length : Int)
                    · rw [if_pos c7] at H
                      have c7b0 : decide (x16_2 < ((rd_L3 l0 x10_1).length : Int)) = true := decide_eq_true c7
                      clear c7
                      obtain ⟨ji8, hji8⟩ : ∃ j_ : Int, (mx x3_2 (rd (rd_L3 l0 x10_1) x16_2)) = j_ := ⟨_, rfl⟩
                      replace H : (points_Classes.l1 k2 ji8 l0 (l0.length : Int) x10_1 (rd_L3 l0 x10_1) ((rd_L3 l0 x10_1).length : Int) (wrap64 (x16_2 + 1))) = some r := by first | (rw [hji8] at H; exact H) | (simp only [hji8] at H ⊢; exact H)
                      have hji8_ : (if x3_2 < (rd (rd_L3 l0 x10_1) x16_2) then (rd (rd_L3 l0 x10_1) x16_2) else x3_2) = ji8 := hji8
                      have H' := Aside0.mk H
                      clear H
                      have p408 : 0 ≤ (x16_2 : Int) := of_decide_eq_true (by first | (with_reducible assumption) | assumption)
                      have q408 : x16_2 < ((rd_L3 l0 x10_1).length : Int) := of_decide_eq_true (by first | (with_reducible assumption) | assumption)
                      obtain ⟨ad408, e408, hx408_0⟩ := Kd.at_int HR407_0.out x16_2 p408 q408
                      cases e408
                      replace hx408_0 := (HB.out.cell (World.block_lt_of_cell? w _ hx408_0)).trans hx408_0
                      replace p408 := eq_true p408
                      replace q408 := eq_true q408
                      go_wp2
                      go_roundg k2
                      case measure => have := HK1.out; have := HK2.out; omega
                      case rel => exact ⟨(ji8), (wrap64 (x16_2 + 1)), (by first | rfl | (simp; done) | (simp only [← hji8] <;> (first | rfl | simp)) | (simp [*]; done)), (by first | rfl | (simp; done) | (simp [*]; done)), H', ⟨by have := HK1.out; have := HK2.out; omega⟩, ⟨by repeat (first | (with_reducible first | exact HB.out | apply below_alloc | apply pw_below_drewN | apply below_drew1) | exact HB.out)⟩⟩
                    · rw [if_neg c7] at H
                      exact absurd H (by simp)
                  · rw [if_neg c6] at H
                    exact absurd H (by simp)
                · rw [if_neg c5] at H
                  have c5b0 : decide (x16_2 < ((rd_L3 l0 x10_1).length : Int)) = false := decide_eq_false c5
                  clear c5
                  have H' := Aside0.mk H
                  clear H
                  go_wp2
                  go_roundg k2
                  case measure => have := HK1.out; have := HK2.out; omega
                  case rel => exact ⟨(x3_2), (wrap64 (x10_1 + 1)), (by first | rfl | (simp; done) | (simp [*]; done)), (by first | rfl | (simp; done) | (simp [*]; done)), H', ⟨by have := HK1.out; have := HK2.out; omega⟩, ⟨by repeat (first | (with_reducible first | exact HB.out | apply below_alloc | apply pw_below_drewN | apply below_drew1) | exact HB.out)⟩⟩
          · rw [if_neg c4] at H
            exact absurd H (by simp)
        · rw [if_neg c3] at H
          exact absurd H (by simp)
      · rw [if_neg c2] at H
        have c2b0 : decide (x10_1 < (l0.length : Int)) = false := decide_eq_false c2
        clear c2
        obtain rfl := Option.some.inj H
        go_wp2
        go_ret
        exact ⟨by first | rfl | (simp [errW_none, errW_some] <;> rfl) | (simp [*, errW_none, errW_some] <;> rfl), by repeat (first | (with_reducible first | exact HB.out | apply below_alloc | apply pw_below_drewN | apply below_drew1) | exact HB.out)⟩

end Go.Proofs.Yteeapfmgdlcgfaa.A


namespace Go.Proofs.Yteeapfmgdlcgfaa.A
open Go.RowKit Go.Maps Go.Proofs.YteeapfmgdlcgfaaW.PrintWords Go.Proofs.YteeapfmgdlcgfaaW.PrintLast Go.Shelf
set_option linter.unusedVariables false
set_option linter.unusedSimpArgs false

set_option maxHeartbeats 1000000 in
theorem clone74_calls (A : Option Addr) (c : Nat) (xs : List Int) (w : World) (hx : Kd.C (Kd.int .i64) w A xs.length xs) (hc : xs.length ≤ c) (hl : xs.length ≤ 1000000) :
    Calls Try.prog 74 #[.slice A xs.length c] w fun e w' => ∃ v, e = .returned v ∧ Kd.R (Kd.int .i64) 3 w' w.heap.size (fun _ => True) v xs ∧ Below w.heap.size w w' := by
  have q22 : ∀ (w : World) (a : Option Addr) (n c n' c' : Nat), (binOp .eql 36 (.slice a n c) (.slice none n' c')).run Try.prog w = .ok (.bool a.isNone) w := fun w a n c n' c' => Lib.run_eql_slice_nil w _ _ a n c n' c' Try.underlying36
  cases A with
  | none =>
    have h0 : xs = [] := by
      obtain ⟨h1, h2, h3⟩ := hx
      rcases Nat.eq_zero_or_pos xs.length with h | h
      · exact List.eq_nil_of_length_eq_zero h
      · obtain ⟨ad, e, _⟩ := h3 h; cases e
    subst h0
    go_enter Try.func74, Try.ntmps74
    go_wp2
    go_ret
    exact ⟨_, rfl, Kd.R_nil _ _ _ _ _, Below.refl _ _⟩
  | some ad =>
    have hr : ReadsInt w .i64 (some ad) xs.length xs := by
      obtain ⟨h1, h2, h3⟩ := hx
      refine ⟨rfl, h2, fun hp => ⟨ad, rfl, fun j hj => ?_⟩⟩
      obtain ⟨ad', e, hc⟩ := Kd.at_int ⟨h1, h2, h3⟩ (j : Int) (by omega) (by omega)
      obtain rfl : ad = ad' := Option.some.inj e
      rw [Int.toNat_natCast] at hc
      rw [hc]
      simp [rd]
    clear hx
    have hr' := Aside0.mk (hr.below (below_alloc (Below.refl _ _) (.cells #[] 3)))
    have ho := Aside0.mk (World.ownsRow_made w #[] 0 (Nat.le_refl _) (Nat.zero_le _) (by simp) : (w.alloc (.cells #[] 3)).ownsRow w.heap.size 3 1 (.slice (some ⟨w.heap.size, 0, none⟩) 0 0) 0 [])
    clear hr
    go_enter Try.func74, Try.ntmps74
    go_wp2_with (at_builtin; refine print_append_row (w0 := w) w.heap.size rfl (.tmp 5) (.tmp 6) 36 3 .i64 8 rfl Try.underlying36 info3 (by decide) _ [] xs (some ad) xs.length c rfl rfl ho.out hr'.out (below_alloc (Below.refl _ _) _) (by simp) (by simp; omega) ?_; intro v1 w1 hown hb hg hat)
    go_ret
    exact ⟨v1, rfl, Kd.R_of_own (show w1.ownsRow w.heap.size 3 1 v1 xs.length (nums .i64 xs) by simpa using hown) (fun _ _ => trivial), hb⟩
theorem reps_four {W : World} {base : Nat} {ok : Nat → Prop} (x y z u : Int) : Reps ((Kd.int .i64).M W base ok) (Kd.int .i64).sz [x, y, z, u] [.int .i64 x, .int .i64 y, .int .i64 z, .int .i64 u] := by
  refine ⟨rfl, fun j p hj => ?_⟩
  match j, hj with
  | 0, hj => simp at hj; subst hj; rfl
  | 1, hj => simp at hj; subst hj; rfl
  | 2, hj => simp at hj; subst hj; rfl
  | 3, hj => simp at hj; subst hj; rfl
  | j + 4, hj => simp at hj
theorem reps_row {α : Type} {d : Kd α} {e : Nat} {W : World} {base : Nat} {ok : Nat → Prop} {v : Value} {l : List α} (h : Kd.R d e W base ok v l) : Reps ((Kd.slice e d).M W base ok) (Kd.slice e d).sz [l] [v] := by
  refine ⟨rfl, fun j p hj => ?_⟩
  match j, hj with
  | 0, hj => simp at hj; subst hj; exact Kd.M_row h
  | j + 1, hj => simp at hj
theorem litF (W : World) (x y z u : Int) : Kd.C (Kd.int .i64) (W.alloc (.cells #[.int .i64 x, .int .i64 y, .int .i64 z, .int .i64 u] 3)) (some ⟨W.heap.size, 0, none⟩) 4 [x, y, z, u] :=
  (Kd.R_reads' (R_new_lit (Kd.int .i64) W W.heap.size 3 (xs := [x, y, z, u]) (inner := [.int .i64 x, .int .i64 y, .int .i64 z, .int .i64 u]) (ok := fun _ => True) (okp := fun _ => True) (reps_four x y z u) (fun _ h => h) trivial (Nat.le_refl _) (by simp))).2.2
theorem litR (W : World) (x y z u : Int) : Kd.C (Kd.slice 3 (Kd.int .i64)) ((W.alloc (.cells #[.int .i64 x, .int .i64 y, .int .i64 z, .int .i64 u] 3)).alloc (.cells #[.slice (some ⟨W.heap.size, 0, none⟩) 4 4] 36)) (some ⟨W.heap.size + 1, 0, none⟩) 1 [[x, y, z, u]] := by
  have h1 := R_new_lit (Kd.int .i64) W W.heap.size 3 (xs := [x, y, z, u]) (inner := [.int .i64 x, .int .i64 y, .int .i64 z, .int .i64 u]) (ok := fun _ => True) (okp := fun _ => True) (reps_four x y z u) (fun _ h => h) trivial (Nat.le_refl _) (by simp)
  have h2 := R_new_lit (Kd.slice 3 (Kd.int .i64)) (W.alloc (.cells #[.int .i64 x, .int .i64 y, .int .i64 z, .int .i64 u] 3)) W.heap.size 36 (xs := [[x, y, z, u]]) (inner := [.slice (some ⟨W.heap.size, 0, none⟩) 4 4]) (ok := fun _ => True) (okp := fun _ => True) (reps_row h1) (fun _ h => h) trivial (by simp) (by simp)
  rw [World.size_alloc] at h2
  exact (Kd.R_reads' h2).2.2

theorem some_of {W : World} {base : Nat} {ok : Nat → Prop} {A : Option Addr} {n c : Nat} {xs : List Int} (h : Kd.R (Kd.int .i64) 3 W base ok (.slice A n c) xs) (hl : 0 < n) : ∃ g, A = some ⟨g, 0, none⟩ := by
  cases A with
  | none =>
    obtain ⟨h1, h2, h3⟩ := Kd.R_reads' h
    obtain ⟨ad, e, _⟩ := h3.2.2 (by omega)
    cases e
  | some ad =>
    obtain ⟨g, rfl⟩ := Kd.R_head h
    exact ⟨g, rfl⟩
theorem cell_of {W : World} {base : Nat} {ok : Nat → Prop} {g n c : Nat} {xs : List Int} (h : Kd.R (Kd.int .i64) 3 W base ok (.slice (some ⟨g, 0, none⟩) n c) xs) (hl : 0 < n) : W.cell? ⟨g, 0, none⟩ = some (.int .i64 (xs.getD 0 0)) ∧ W.frozen? ⟨g, 0, none⟩ = false := by
  obtain ⟨cc, h1, h2, h3, h4⟩ := Kd.R_elem h (0 : Int) 0 (Int.le_refl _) (by omega)
  have e : cc = [.int .i64 (xs.getD 0 0)] := h2
  subst e
  have h5 := h3 0 _ rfl
  have h6 := h4 0
  exact ⟨h5, h6⟩
set_option maxRecDepth 100000 in
/-- points.Parts at a first row that is not empty -/
theorem parts_calls (A : Option Addr) (c : Nat) (p : List (List Int)) (x : Int) (tl : List Int) (w : World) (hp : p[0]? = some (x :: tl)) (hC : Kd.C (Kd.slice 3 (Kd.int .i64)) w A p.length p) (hl : (x :: tl).length ≤ 1000) :
    Calls Try.prog 48 #[.slice A p.length c, .int .i64 0] w fun e w' => ∃ v, e = .returned v ∧ Kd.R (Kd.int .i64) 3 w' w.heap.size (fun _ => True) v (0 :: tl) ∧ Below w.heap.size w w' := by
  have hpl : 0 < p.length := (List.getElem?_eq_some_iff.1 hp).1
  have hp0 : (0 : Int) ≤ 0 := Int.le_refl _
  have hq0 : (0 : Int) < (p.length : Int) := by omega
  have hdec : decide ((0 : Int) ≥ (p.length : Int)) = false := decide_eq_false (by omega)
  obtain ⟨ad, A1, c1, rfl, h0, h1, h2⟩ := at_L3 hC (0 : Int) hp0 hq0
  have hrd : rd_L3 p 0 = x :: tl := by unfold rd_L3; rw [show (0 : Int).toNat = 0 from rfl, List.getD_eq_getElem?_getD, hp]; rfl
  rw [hrd] at h0 h1 h2
  rw [show (0 : Int).toNat = 0 from rfl, show ad.add (0 * 1) = ad by cases ad; rfl] at h0
  have hcl := clone74_calls A1 c1 (x :: tl) w h2 h1 (by omega)
  obtain ⟨row, hrow⟩ : ∃ row, Aside0 (x :: tl = row) := ⟨_, ⟨rfl⟩⟩
  rw [hrow.out] at hcl h0
  have hlr : 0 < row.length := by rw [← hrow.out]; simp
  have hlr2 : decide ((row.length : Int) > 0) = true := decide_eq_true (by omega)
  have hpn : ¬ p = [] := by rintro rfl; simp at hpl
  have hrn : ¬ row = [] := by rintro rfl; simp at hlr
  clear hC h1 h2 hp hl hrd
  go_enter Try.func48, Try.ntmps48
  go_wp2_with (go_at_call 74; refine hcl.mono ?_; rintro e w1 ⟨v1, rfl, hR, hB⟩; obtain ⟨A2, c2, rfl⟩ := Kd.R_slice hR; obtain ⟨g, rfl⟩ := some_of hR hlr; have hz := cell_of hR hlr; have z0 := hz.1; have z1 := hz.2; have hR' := Aside0.mk hR; have hB' := Aside0.mk hB; clear hR hB hz)
  go_ret
  have h1 := Kd.R_putg hR'.out 0 0
  rw [← hrow.out] at h1
  have hb := Kd.R_base hR'.out g (by simp [Value.ownBlock])
  refine ⟨_, rfl, ?_, hB'.out.grown h1.2 hB'.out.size (fun i e => by injection e with e; omega)⟩
  have h2 := h1.1
  rw [← hrow.out]
  exact h2
def someL : List S52 := [⟨0, [⟨[⟨6, 1, 0, 0, 0, []⟩, ⟨3, 2, 1, 0, 0, []⟩, ⟨6, 3, 0, 0, 0, []⟩], ⟨3, 3, 0, 0⟩⟩]⟩]
theorem s_some : swagelaw20_some.f = some someL := by kernel_rfl
theorem s_prog : progB someL = true := by kernel_rfl
theorem s_vars : vars someL = [0, 1, 2, 3] := by kernel_rfl
theorem s_pairs : allPairs someL = [(2, 1), (3, 0)] := by kernel_rfl
theorem s_cells : allCells someL = [] := by kernel_rfl
theorem s_regs : regsI 0 [⟨[⟨6, 1, 0, 0, 0, []⟩, ⟨3, 2, 1, 0, 0, []⟩, ⟨6, 3, 0, 0, 0, []⟩], ⟨3, 3, 0, 0⟩⟩] = 3 := by kernel_rfl
def clS (v : Int) : Int := if v = 2 then 1 else if v = 3 then 0 else v
theorem s_num : numRows clS someL = [[1, 2, 2, 1]] := by kernel_rfl
theorem s_sz : Sz someL := by
  refine ⟨by decide, ?_, ?_, ?_, ?_⟩
  · intro f hf; rw [List.mem_singleton.1 hf]; decide
  · intro f hf; rw [List.mem_singleton.1 hf]; intro y hy; rw [List.mem_singleton.1 hy]; decide
  · intro f hf; rw [List.mem_singleton.1 hf]; intro y hy; rw [List.mem_singleton.1 hy]; intro x hx; simp at hx; rcases hx with rfl | rfl | rfl <;> decide
  · intro f hf; rw [List.mem_singleton.1 hf]; decide
theorem s_few : Few someL := by
  refine ⟨by decide, ?_, by rw [s_cells]; decide⟩
  intro x hx
  rw [List.mem_singleton.1 hx]
  show 0 ≤ regsI 0 _ ∧ regsI 0 _ ≤ 99
  rw [s_regs]
  decide
theorem s_explicit : Explicit someL clS := by
  constructor
  · rw [s_pairs]; decide
  · rw [s_pairs, s_vars]; decide
  · exact s_cells
  · rw [s_vars, s_pairs]
    intro v hv
    refine ⟨?_, fun R hR hs hp => ?_⟩
    · simp at hv; rcases hv with rfl | rfl | rfl | rfl <;> decide
    · simp at hv
      rcases hv with rfl | rfl | rfl | rfl
      · exact hs 0 (by decide)
      · exact hs 1 (by decide)
      · exact hR.symm _ _ (hp (2, 1) (by decide))
      · exact hR.symm _ _ (hp (3, 0) (by decide))
  · rw [s_vars]; decide
theorem of_some (A : Option Addr) (c : Nat) (w : World) (hC : Kd.C k52 w A 1 someL) : Calls Try.prog 26 #[.slice A 1 c] w fun e w' => ∃ A' c', e = .returned (.slice A' 1 c') ∧ 1 ≤ c' ∧ Kd.C (Kd.slice 3 (Kd.int .i64)) w' A' 1 [[1, 2, 2, 1]] ∧ Below w.heap.size w w' :=
  (of_yes A c someL w hC s_sz s_few (named_of s_prog (by decide)) s_prog).mono fun e w' ⟨v, E, key, he, h⟩ => by
    have h1 := h.out
    rw [h.explicit s_explicit, s_num] at h1
    obtain ⟨A', c', rfl, h2, h3⟩ := Kd.S_reads h1
    exact ⟨A', c', he, h2, h3, h.bl⟩
theorem s_rows : swageref06_Rows.f 9 [[1, 2, 2, 1]] [[1, 2, 2, 1]] = some true := by kernel_rfl
theorem s_alike : points_Alike.f [[1, 2, 2, 1]] 0 1 0 2 = some true := by kernel_rfl
theorem s_unlike : points_Alike.f [[1, 2, 2, 1]] 0 1 0 3 = some false := by kernel_rfl
theorem s_ints : swageref02_Ints.f 9 [0, 2, 2, 1] [0, 2, 2, 1] = some true := by kernel_rfl
theorem s_classes : points_Classes.f 9 [[1, 2, 2, 1]] = some 2 := by kernel_rfl
theorem some_c (w : World) : Calls Try.prog 46 #[] w fun e w' => ∃ A c, e = .returned (.slice A 1 c) ∧ Kd.C k52 w' A 1 someL ∧ Below w.heap.size w w' :=
  (swagelaw20_some.calls someL w s_some).mono fun e w' ⟨v, he, hN, hB⟩ => by
    obtain ⟨A, c, rfl, h1, h2⟩ := Kd.N_reads hN
    exact ⟨A, c, he, h2, hB⟩
theorem parts_some (A : Option Addr) (c : Nat) (w : World) (hC : Kd.C (Kd.slice 3 (Kd.int .i64)) w A 1 [[1, 2, 2, 1]]) :
    Calls Try.prog 48 #[.slice A 1 c, .int .i64 0] w fun e w' => ∃ A' c', e = .returned (.slice A' 4 c') ∧ 4 ≤ c' ∧ Kd.C (Kd.int .i64) w' A' 4 [0, 2, 2, 1] ∧ Below w.heap.size w w' :=
  (parts_calls A c [[1, 2, 2, 1]] 1 [2, 2, 1] w rfl hC (by decide)).mono fun e w' ⟨v, he, hR, hB⟩ => by
    obtain ⟨A', c', rfl, h1, h2⟩ := Kd.R_reads hR
    exact ⟨A', c', he, h1, h2, hB⟩
set_option maxRecDepth 100000 in
set_option maxHeartbeats 4000000 in
theorem smallp_calls (w : World) : Calls Try.prog 24 #[] w fun e w' => e = .returned (.bool true) ∧ Below w.heap.size w w' := by
  go_enter Try.func24, Try.ntmps24
  go_wp2_with fail
  refine (some_c w).mono ?_
  rintro e w1 ⟨A1, c1, rfl, hC1, hB1⟩
  have h26 := of_some A1 c1 w1 hC1
  have hB1' := Aside0.mk hB1
  clear hC1 hB1
  go_wp2_with fail
  refine h26.mono ?_
  rintro e w2 ⟨A2, c2, rfl, h2, hC2, hB2⟩
  have hB2' := Aside0.mk (below_step hB1'.out hB2)
  have hC2' := Aside0.mk hC2
  have h47 := swageref06_Rows.calls 9 A2 c2 [[1, 2, 2, 1]] (some ⟨w2.heap.size + 1, 0, none⟩) 1 [[1, 2, 2, 1]] true _ (Kd.C_alloc (Kd.C_alloc hC2 (.cells #[.int .i64 1, .int .i64 2, .int .i64 2, .int .i64 1] 3)) (.cells #[.slice (some ⟨w2.heap.size, 0, none⟩) 4 4] 36)) h2 (litR w2 1 2 2 1) (by decide) s_rows
  have hB3' := Aside0.mk (below_alloc (below_alloc hB2'.out (.cells #[.int .i64 1, .int .i64 2, .int .i64 2, .int .i64 1] 3)) (.cells #[.slice (some ⟨w2.heap.size, 0, none⟩) 4 4] 36))
  have hC3' := Aside0.mk (Kd.C_alloc (Kd.C_alloc hC2 (.cells #[.int .i64 1, .int .i64 2, .int .i64 2, .int .i64 1] 3)) (.cells #[.slice (some ⟨w2.heap.size, 0, none⟩) 4 4] 36))
  change Calls Try.prog 47 #[.slice A2 1 c2, .slice (some ⟨w2.heap.size + 1, 0, none⟩) 1 1] _ _ at h47
  have h2' := Aside0.mk h2
  clear h26 hB1' hC2 hB2 h2
  go_wp2_with fail
  refine h47.mono ?_
  rintro e w4 ⟨rfl, hd4⟩
  have hB4 := Aside0.mk (below_step hB3'.out (drawn0_below hd4 _))
  have hC4 := Aside0.mk (Kd.C_below hC3'.out (drawn0_below hd4 _))
  have h28 := points_Alike.calls A2 c2 [[1, 2, 2, 1]] 0 1 0 2 true w4 hC4.out h2'.out s_alike
  change Calls Try.prog 28 #[.slice A2 1 c2, .int .i64 0, .int .i64 1, .int .i64 0, .int .i64 2] _ _ at h28
  clear h47 hB2' hC2' hB3' hC3' hd4
  go_wp2_with fail
  refine h28.mono ?_
  rintro e w5 ⟨rfl, hd5⟩
  have hB5 := Aside0.mk (below_step hB4.out (drawn0_below hd5 _))
  have hC5 := Aside0.mk (Kd.C_below hC4.out (drawn0_below hd5 _))
  have h28 := points_Alike.calls A2 c2 [[1, 2, 2, 1]] 0 1 0 3 false w5 hC5.out h2'.out s_unlike
  change Calls Try.prog 28 #[.slice A2 1 c2, .int .i64 0, .int .i64 1, .int .i64 0, .int .i64 3] _ _ at h28
  clear hB4 hC4 hd5
  go_wp2_with fail
  refine h28.mono ?_
  rintro e w6 ⟨rfl, hd6⟩
  have hB6 := Aside0.mk (below_step hB5.out (drawn0_below hd6 _))
  have hC6 := Aside0.mk (Kd.C_below hC5.out (drawn0_below hd6 _))
  have h48 := parts_some A2 c2 w6 hC6.out
  clear h28 hB5 hC5 hd6
  go_wp2_with fail
  refine h48.mono ?_
  rintro e w7 ⟨A7, c7, rfl, h7, hC7, hB7⟩
  have hB7' := Aside0.mk (below_alloc (below_step hB6.out hB7) (.cells #[.int .i64 0, .int .i64 2, .int .i64 2, .int .i64 1] 3))
  have hC8 := Aside0.mk (Kd.C_alloc (Kd.C_below hC6.out hB7) (.cells #[.int .i64 0, .int .i64 2, .int .i64 2, .int .i64 1] 3))
  have h21 := swageref02_Ints.calls 9 A7 c7 [0, 2, 2, 1] (some ⟨w7.heap.size, 0, none⟩) 4 [0, 2, 2, 1] true _ (Kd.C_alloc hC7 (.cells #[.int .i64 0, .int .i64 2, .int .i64 2, .int .i64 1] 3)) h7 (litF w7 0 2 2 1) (by decide) s_ints
  change Calls Try.prog 21 #[.slice A7 4 c7, .slice (some ⟨w7.heap.size, 0, none⟩) 4 4] _ _ at h21
  clear h48 hB6 hC6 h7 hC7 hB7
  go_wp2_with fail
  refine h21.mono ?_
  rintro e w8 ⟨rfl, hd8⟩
  have hB8 := Aside0.mk (below_step hB7'.out (drawn0_below hd8 _))
  have h32 := points_Classes.calls 9 A2 c2 [[1, 2, 2, 1]] 2 w8 (Kd.C_below hC8.out (drawn0_below hd8 _)) h2'.out s_classes
  change Calls Try.prog 32 #[.slice A2 1 c2] _ _ at h32
  clear h21 hB7' hC8 hd8
  go_wp2_with fail
  refine h32.mono ?_
  rintro e w9 ⟨rfl, hB9⟩
  have hB9' := Aside0.mk (below_step hB8.out hB9)
  clear h32 hB8 hB9
  go_wp2
  go_ret
  exact ⟨rfl, hB9'.out⟩
end Go.Proofs.Yteeapfmgdlcgfaa.A


namespace Go.Proofs.Yteeapfmgdlcgfaa.A
open Go.RowKit Go.Maps Go.Proofs.YteeapfmgdlcgfaaW.PrintWords Go.Proofs.YteeapfmgdlcgfaaW.PrintLast Go.Shelf
set_option linter.unusedVariables false
set_option linter.unusedSimpArgs false
attribute [local go_sem] Oper.semAt_some

def c60 (x : S60) : List Value := [.int .i64 x.f0, .int .i64 x.f1, .int .i64 x.f2, .int .i64 x.f3, .int .i64 x.f4, .slice none 0 0]
theorem c60_M {w : World} {base : Nat} {ok : Nat → Prop} {x : S60} (h : x.f5 = []) : k60.M w base ok x (c60 x) := by
  refine k60_mkM w base ok x ?_
  rw [h]
  exact Kd.R_nil _ _ _ _ _
theorem set_head {W : World} {q : Nat} {a b c d e v : Value} {t : TypeId} (h : W.heap[q]? = some (.cells #[a, b, c, d, e] t (0, 0))) : (W.setCell ⟨q, 0, none⟩ v).heap[q]? = some (.cells #[v, b, c, d, e] t (0, 0)) := by
  have hl := (Array.getElem?_eq_some_iff.1 h).1
  have he := (Array.getElem?_eq_some_iff.1 h).2
  simp [World.setCell, h, hl, Array.getElem_modify_self, he]
/-- a function of one block, as it is laid -/
structure CH (w : World) (b4 b50 base : Nat) (v : Value) (ops : List S60) (W : World) : Prop where
  below : Below w.heap.size w W
  h4 : W.heap[b4]? = some (.cells #[.int .i64 0, .slice (some ⟨b50, 0, none⟩) 1 1] 52 (0, 0))
  h50 : W.heap[b50]? = some (.cells #[v, .int .i64 4, .int .i64 0, .int .i64 1, .int .i64 0] 57 (0, 0))
  own : Kd.R k60 60 W base (fun _ => True) v ops
  lo : w.heap.size ≤ b50 ∧ b50 < b4 ∧ b4 < base ∧ base ≤ W.heap.size
section
variable {w W W' w11 : World} {b4 b50 base : Nat} {v v1 : Value} {ops ops' : List S60}
theorem CH.held (h : CH w b4 b50 base v ops W) : W.cell? ⟨b4, 1, none⟩ = some (.slice (some ⟨b50, 0, none⟩) 1 1) ∧ W.cell? ⟨b50, 0, none⟩ = some v := by
  simp [World.cell?, h.h4, h.h50]
theorem CH.step (h : CH w b4 b50 base v ops W) (hb : Below W.heap.size W W') : CH w b4 b50 base v ops W' :=
  ⟨h.below.trans (hb.mono h.below.size), (hb.block _ (Array.getElem?_eq_some_iff.1 h.h4).1).trans h.h4, (hb.block _ (Array.getElem?_eq_some_iff.1 h.h50).1).trans h.h50, Kd.R_below h.own hb, h.lo.1, h.lo.2.1, h.lo.2.2.1, Nat.le_trans h.lo.2.2.2 hb.size⟩
theorem CH.kept (h : CH w b4 b50 base v ops W) (hg : W.grownBy w11 v.ownBlock) : w11.cell? ⟨b50, 0, none⟩ = some v ∧ w11.frozen? ⟨b50, 0, none⟩ = false := by
  have hb := Kd.R_base h.own
  have h5 := (hg.block _ (Array.getElem?_eq_some_iff.1 h.h50).1 (fun e => by have := hb _ e.symm; have := h.lo; omega)).trans h.h50
  simp [World.cell?, World.frozen?, h5]
theorem CH.kept4 (h : CH w b4 b50 base v ops W) (hg : W.grownBy w11 v.ownBlock) : w11.cell? ⟨b4, 1, none⟩ = some (.slice (some ⟨b50, 0, none⟩) 1 1) := by
  have hb := Kd.R_base h.own
  have h4 := (hg.block _ (Array.getElem?_eq_some_iff.1 h.h4).1 (fun e => by have := hb _ e.symm; have := h.lo; omega)).trans h.h4
  simp [World.cell?, h4]
theorem CH.put (h : CH w b4 b50 base v ops W) (hv : Kd.R k60 60 w11 base (fun _ => True) v1 ops') (hg : W.grownBy w11 v.ownBlock) : CH w b4 b50 base v1 ops' (w11.setCell ⟨b50, 0, none⟩ v1) := by
  have hb := Kd.R_base h.own
  have hlo := h.lo
  have h5 := (hg.block _ (Array.getElem?_eq_some_iff.1 h.h50).1 (fun e => by have := hb _ e.symm; omega)).trans h.h50
  have h4 := (hg.block _ (Array.getElem?_eq_some_iff.1 h.h4).1 (fun e => by have := hb _ e.symm; omega)).trans h.h4
  have k : KeepsBut (fun q => q = b50) w11 (w11.setCell ⟨b50, 0, none⟩ v1) := KeepsBut.setCell _ _ _ rfl
  have kb : Below w.heap.size w w11 := h.below.grown hg h.below.size (fun i e => by have := hb i e; omega)
  exact ⟨kb.trans (k.below kb.size (fun q hq e => by omega)), (k.block _ (Array.getElem?_eq_some_iff.1 h4).1 (by omega)).trans h4, set_head h5, Kd.R_mono (Kd.R_step (Kd.R_bound hv) (fun q h1 h2 => k.block q h2 (by have := h1.2.1; omega))) (fun _ _ => trivial), hlo.1, hlo.2.1, hlo.2.2.1, Nat.le_trans hlo.2.2.2 (Nat.le_trans hg.size k.size)⟩
end
theorem addz (b i : Nat) : (⟨b, 0, none⟩ : Addr).add i = ⟨b, i, none⟩ := by
  by_cases h0 : i = 0
  · subst h0; rfl
  · simp [Addr.add, h0]
theorem cell_in {W : World} {b : Nat} {cs : Array Value} {t : TypeId} (hn : W.heap[b]? = some (.cells cs t (0, 0))) (i : Nat) : W.cell? ⟨b, i, none⟩ = cs[i]? := by
  unfold World.cell?
  simp only [hn]
  rfl
theorem flat_get : ∀ (xs : List S60) (j : Nat) (p : S60) (i : Nat) (u : Value), xs[j]? = some p → (c60 p)[i]? = some u → (xs.flatMap c60)[j * 6 + i]? = some u
  | [], j, p, i, u, h, _ => by simp at h
  | a :: tl, 0, p, i, u, h, hu => by
    have hi : i < 6 := (List.getElem?_eq_some_iff.1 hu).1
    simp at h
    subst h
    rw [List.flatMap_cons, Nat.zero_mul, Nat.zero_add, List.getElem?_append_left (by show i < 6; exact hi)]
    exact hu
  | a :: tl, j + 1, p, i, u, h, hu => by
    have ih := flat_get tl j p i u h hu
    rw [List.flatMap_cons, List.getElem?_append_right (by show 6 ≤ _; omega)]
    rw [show (j + 1) * 6 + i - (c60 a).length = j * 6 + i by show (j + 1) * 6 + i - 6 = _; omega]
    exact ih
def fnOf (ops : List S60) : S52 := ⟨0, [⟨ops, ⟨4, 0, 1, 0⟩⟩]⟩
theorem lit52 {w W : World} {b4 b50 base : Nat} {v : Value} {ops : List S60} (h : CH w b4 b50 base v ops W) :
    Kd.C k52 (W.alloc (.cells #[.int .i64 0, .slice (some ⟨b50, 0, none⟩) 1 1] 52)) (some ⟨W.heap.size, 0, none⟩) 1 [fnOf ops] := by
  obtain ⟨A, c, rfl, hc, hC⟩ := Kd.R_reads h.own
  have hb : Below W.heap.size W (W.alloc (.cells #[.int .i64 0, .slice (some ⟨b50, 0, none⟩) 1 1] 52)) := below_alloc (Below.refl _ _) _
  have h2 := h.step hb
  have hC2 : Kd.C k60 (W.alloc (.cells #[.int .i64 0, .slice (some ⟨b50, 0, none⟩) 1 1] 52)) A ops.length ops := Kd.C_below hC hb
  refine ⟨rfl, by omega, fun _ => ⟨_, rfl, fun j p hj => ?_⟩⟩
  match j, hj with
  | 0, hj =>
    simp at hj
    subst hj
    refine ⟨_, rfl, k52_mk _ (fnOf ops) (A1 := some ⟨b50, 0, none⟩) (c1 := 1) (Nat.le_refl _) ?_, ?_⟩
    · refine ⟨rfl, by show 1 ≤ _; omega, fun _ => ⟨_, rfl, fun j p hj => ?_⟩⟩
      match j, hj with
      | 0, hj =>
        simp [fnOf] at hj
        subst hj
        refine ⟨_, rfl, k57_mk _ ⟨ops, ⟨4, 0, 1, 0⟩⟩ hc hC2, fun i u hu => ?_⟩
        have h50 := h2.h50
        rw [Nat.zero_mul, Nat.zero_add, addz, cell_in h50]
        rw [← hu]; simp
      | j + 1, hj => simp [fnOf] at hj
    · intro i u hu
      have hn := World.alloc_heap_new W (.cells #[.int .i64 0, .slice (some ⟨b50, 0, none⟩) 1 1] 52)
      rw [Nat.zero_mul, Nat.zero_add, addz, cell_in hn]
      rw [← hu]; simp [fnOf]
  | j + 1, hj => simp at hj
theorem reads_rows {W : World} (b : Nat) {xs : List S60} (hn : W.heap[b]? = some (.cells (xs.flatMap c60).toArray 60 (0, 0))) (h5 : ∀ x ∈ xs, x.f5 = []) (hl : xs.length ≤ 1000) :
    ReadsRow (fun (x : S60) cs => x.f5 = [] ∧ cs = c60 x) k60.sz W (some ⟨b, 0, none⟩) xs.length xs := by
  refine ⟨rfl, by omega, fun _ => ⟨_, rfl, fun j p hj => ⟨c60 p, rfl, ⟨h5 p (List.mem_of_getElem? hj), rfl⟩, fun i u hu => ?_⟩⟩⟩
  have hsz : k60.sz = 6 := rfl
  rw [hsz, addz, cell_in hn]
  have := flat_get xs j p i u hj hu
  simpa using this
/-- the operations of the chain: i - 1 moves -/
def movesL (m : Nat) : List S60 := (List.range m).map fun j : Nat => ⟨3, (j : Int) + 2, (j : Int) + 1, 0, 0, []⟩
theorem movesL_succ (m : Nat) : movesL (m + 1) = movesL m ++ [⟨3, (m : Int) + 2, (m : Int) + 1, 0, 0, []⟩] := by unfold movesL; rw [List.range_succ, List.map_append]; rfl
def chainL (n : Nat) : List S60 := movesL (n - 1) ++ [⟨6, (n : Int) + 1, 0, 0, 1, []⟩, ⟨6, 1, 0, 0, 1, []⟩]
def rowC (n : Nat) : List Int := 1 :: (List.replicate n 2 ++ [3])
theorem rowC_len (m : Nat) : (rowC m).length = m + 2 := by simp [rowC]
theorem rowC_mid {m k : Nat} (h1 : 1 ≤ k) (h2 : k ≤ m) : rd (rowC m) (k : Int) = 2 := by
  obtain ⟨j, rfl⟩ : ∃ j, k = j + 1 := ⟨k - 1, by omega⟩
  unfold rd rowC
  rw [Int.toNat_natCast, List.getD_cons_succ, List.getD_eq_getElem?_getD, List.getElem?_append_left (by simp; omega), List.getElem?_replicate, if_pos (by omega)]
  rfl
theorem rowC_last (m : Nat) : rd (rowC m) ((m : Int) + 1) = 3 := by
  unfold rd rowC
  rw [show ((m : Int) + 1).toNat = m + 1 by omega, List.getD_cons_succ, List.getD_eq_getElem?_getD, List.getElem?_append_right (by simp)]
  simp
def clC (n : Nat) (v : Int) : Int := if 1 ≤ v ∧ v ≤ n then 1 else v
set_option maxRecDepth 100000 in
set_option maxHeartbeats 8000000 in
theorem law_chain (n : Int) (w : World) (hof : ∀ (A : Option Addr) (c : Nat) (W : World) (m : Nat), n = m → 1 ≤ m → m ≤ 25 → Kd.C k52 W A 1 [fnOf (chainL m)] → Calls Try.prog 26 #[.slice A 1 c] W fun e w' => ∃ A' c', e = .returned (.slice A' 1 c') ∧ 1 ≤ c' ∧ Kd.C (Kd.slice 3 (Kd.int .i64)) w' A' 1 [rowC m] ∧ Below W.heap.size W w')
    (hal : ∀ (m i : Nat), m ≤ 25 → 1 ≤ i → i ≤ m → points_Alike.f [rowC m] 0 i 0 ((m : Int) + 1) = some false) (hcl : ∀ m : Nat, 1 ≤ m → m ≤ 25 → points_Classes.f 200 [rowC m] = some 3) :
    Calls Try.prog 8 #[.int .i64 n] w fun e w' => e = .returned (.bool true) ∧ Below w.heap.size w w' := by
  have hmix : Try.prog.follows .mixedOrders = true := by kernel_rfl
  have hu52 := Try.underlying52
  have hu55 := Try.underlying55
  have hu57 := Try.underlying57
  have hu60 := Try.underlying60
  have hof' := Aside0.mk hof
  have hal' := Aside0.mk hal
  have hcl' := Aside0.mk hcl
  clear hof hal hcl
  have hsm := smallp_calls w
  by_cases h1 : n < 1
  · have h1b : decide (n < 1) = true := decide_eq_true h1
    go_enter Try.func8, Try.ntmps8
    go_wp2_with (go_at_call 24; refine hsm.mono ?_; rintro e w1 ⟨rfl, hb1⟩)
    go_ret
    exact ⟨rfl, hb1⟩
  have h1b : decide (n < 1) = false := decide_eq_false h1
  by_cases h25 : n > 25
  · have h2b : decide (n > 25) = true := decide_eq_true h25
    have h2c : decide (25 < n) = true := decide_eq_true h25
    go_enter Try.func8, Try.ntmps8
    go_wp2_with (go_at_call 24; refine hsm.mono ?_; rintro e w1 ⟨rfl, hb1⟩)
    go_ret
    exact ⟨rfl, hb1⟩
  have h2b : decide (n > 25) = false := decide_eq_false h25
  have h2c : decide (25 < n) = false := decide_eq_false h25
  obtain ⟨m, rfl⟩ : ∃ m : Nat, n = (m : Int) := ⟨n.toNat, by omega⟩
  have hm1 : 1 ≤ m := by omega
  have hm25 : m ≤ 25 := by omega
  go_enter Try.func8, Try.ntmps8
  go_wp2_with fail
  refine hsm.mono ?_
  rintro e w1 ⟨rfl, hb1⟩
  obtain ⟨b50, hb50⟩ : ∃ b50, w1.heap.size = b50 := ⟨_, rfl⟩
  obtain ⟨w3, hw3⟩ : ∃ w3, (w1.alloc (.cells #[.slice none 0 0, .int .i64 4, .int .i64 0, .int .i64 1, .int .i64 0] 57)).alloc (.cells #[.int .i64 0, .slice (some ⟨b50, 0, none⟩) 1 1] 52) = w3 := ⟨_, rfl⟩
  have hG0 : Aside0 (CH w (b50 + 1) b50 (b50 + 2) (.slice none 0 0) (movesL 0) w3) := by
    have hs := hb1.size
    have hba : Below w1.heap.size w1 w3 := by rw [← hw3]; exact below_alloc (below_alloc (Below.refl _ _) _) _
    have h5 := World.alloc_heap_new w1 (.cells #[.slice none 0 0, .int .i64 4, .int .i64 0, .int .i64 1, .int .i64 0] 57)
    have h4 := World.alloc_heap_new (w1.alloc (.cells #[.slice none 0 0, .int .i64 4, .int .i64 0, .int .i64 1, .int .i64 0] 57)) (.cells #[.int .i64 0, .slice (some ⟨b50, 0, none⟩) 1 1] 52)
    rw [World.size_alloc, hb50] at h4
    rw [hb50] at h5
    refine ⟨hb1.trans (hba.mono hs), by rw [← hw3]; exact h4, by rw [← hw3]; exact (Below.heap_alloc _ _ _ (by simp; omega)).trans h5, Kd.R_nil _ _ _ _ _, by omega, by omega, by omega, by rw [← hw3]; simp; omega⟩
  have hb1' := Aside0.mk hb1
  clear hb1 hsm
  go_wp2
  clear hb50 hw3
  go_loopw [5] (fun v5 wr => ∃ (i : Nat), v5 = .int .i64 i ∧ 1 ≤ i ∧ i ≤ m ∧ Aside0 (∃ v, CH w (b50 + 1) b50 (b50 + 2) v (movesL (i - 1)) wr)) (fun v5 _ => m - (RowKit.intOf v5).toNat)
  case atStart => exact ⟨1, rfl, by omega, by omega, ⟨_, hG0.out⟩⟩
  case round =>
    obtain ⟨i, rfl, hi1, hi, hrel⟩ := hrel
    clear hG0
    obtain ⟨vo, hG⟩ := hrel.out
    obtain ⟨base, hbase⟩ : ∃ base, Aside0 (b50 + 2 = base) := ⟨_, ⟨rfl⟩⟩
    rw [hbase.out] at hG
    by_cases hlt : i < m
    · have hltb : decide ((i : Int) < (m : Int)) = true := decide_eq_true (by omega)
      obtain ⟨i1, hi1'⟩ : ∃ i1 : Int, Aside0 (i1 = (i : Int) + 1) := ⟨_, ⟨rfl⟩⟩
      have hwi : wrap64 ((i : Int) + 1) = i1 := by rw [hi1'.out]; unfold wrap64; omega
      have hwi2 : IntKind.i64.wrap ((i : Int) + 1) = i1 := by rw [i64_w]; exact hwi
      obtain ⟨ops, hops⟩ : ∃ ops, Aside0 (movesL (i - 1) = ops) := ⟨_, ⟨rfl⟩⟩
      rw [hops.out] at hG
      have hol : Aside0 ((ops.length + 1) * 64 ≤ 140737488355328) := ⟨by rw [← hops.out]; simp [movesL]; omega⟩
      have hh := hG.held
      have hG' := Aside0.mk hG
      have hrel' := Aside0.mk hltb
      clear hrel
      go_wp2
      obtain ⟨Wd, hWd⟩ : ∃ Wd, wr.drew = Wd := ⟨_, rfl⟩
      have hG : Aside0 (CH w (b50 + 1) b50 base vo ops Wd) := ⟨by rw [← hWd]; exact hG'.out.step (drew_below _)⟩
      have hlit : Aside0 (ReadsRow (fun (x : S60) cs => x.f5 = [] ∧ cs = c60 x) k60.sz (Wd.alloc (.cells #[.int .i64 3, .int .i64 i1, .int .i64 i, .int .i64 0, .int .i64 0, .slice none 0 0] 60)) (some ⟨Wd.heap.size, 0, none⟩) 1 [⟨3, i1, i, 0, 0, []⟩]) :=
        ⟨reads_rows Wd.heap.size (xs := [⟨3, i1, i, 0, 0, []⟩]) (World.alloc_heap_new Wd (.cells #[.int .i64 3, .int .i64 i1, .int .i64 i, .int .i64 0, .int .i64 0, .slice none 0 0] 60)) (by simp) (by simp)⟩
      refine start_ (n := 16) #[false, false, false, false, false, false, false, false, false, false, false, false, false, false, false, false] (S := fun w' => w'.cell? ⟨b50 + 1, 1, none⟩ = some (.slice (some ⟨b50, 0, none⟩) 1 1) ∧ w'.cell? ⟨b50, 0, none⟩ = some vo) (ds := [15]) hmix rfl rfl (by rw [hWd]; exact hG.out.held) (fun hHeld => ?_)
      rw [hWd] at hHeld ⊢
      clear hWd
      refine pure_ (i := 0) (N := some 25) (v := ?_) (a' := ?_) #[true, false, false, false, false, false, false, false, false, false, false, false, false, false, false, false] rfl rfl (by kernel_rfl) (fun _ _ _ h => h) (Or.inl ⟨by rfl, ?_⟩) ?_ ?_
      rotate_left
      · intro w'
        go_simp
        try with_reducible rfl
      rotate_left
      · simp only [Act.put, List.setIfInBounds_toArray, List.set_cons_zero, List.set_cons_succ, i64_w, i32_w]
        rfl
      refine take_ (i := 1) (N := some 26) (v := ?_) (a' := ?_) #[true, true, false, false, false, false, false, false, false, false, false, false, false, false, false, false] rfl rfl (by kernel_rfl) (fun _ _ _ h => h) (Or.inl ⟨by rfl, ?_⟩) hHeld ?_ ?_
      rotate_left
      · rintro w' ⟨s0, s1⟩
        go_simp
        try with_reducible rfl
      rotate_left
      · simp only [Act.put, List.setIfInBounds_toArray, List.set_cons_zero, List.set_cons_succ, i64_w, i32_w]
        rfl
      refine pure_ (i := 2) (N := some 27) (v := ?_) (a' := ?_) #[true, true, true, false, false, false, false, false, false, false, false, false, false, false, false, false] rfl rfl (by kernel_rfl) (fun _ _ _ h => h) (Or.inl ⟨by rfl, ?_⟩) ?_ ?_
      rotate_left
      · intro w'
        go_simp
        try with_reducible rfl
      rotate_left
      · simp only [Act.put, List.setIfInBounds_toArray, List.set_cons_zero, List.set_cons_succ, i64_w, i32_w]
        rfl
      refine take_ (i := 3) (N := some 28) (v := ?_) (a' := ?_) #[true, true, true, true, false, false, false, false, false, false, false, false, false, false, false, false] rfl rfl (by kernel_rfl) (fun _ _ _ h => h) (Or.inl ⟨by rfl, ?_⟩) hHeld ?_ ?_
      rotate_left
      · rintro w' ⟨s0, s1⟩
        go_simp
        try with_reducible rfl
      rotate_left
      · simp only [Act.put, List.setIfInBounds_toArray, List.set_cons_zero, List.set_cons_succ, i64_w, i32_w]
        rfl
      refine pure_ (i := 4) (N := some 29) (v := ?_) (a' := ?_) #[true, true, true, true, true, false, false, false, false, false, false, false, false, false, false, false] rfl rfl (by kernel_rfl) (fun _ _ _ h => h) (Or.inl ⟨by rfl, ?_⟩) ?_ ?_
      rotate_left
      · intro w'
        go_simp
        try with_reducible rfl
      rotate_left
      · simp only [Act.put, List.setIfInBounds_toArray, List.set_cons_zero, List.set_cons_succ, i64_w, i32_w]
        rfl
      refine pure_ (i := 5) (N := some 30) (v := ?_) (a' := ?_) #[true, true, true, true, true, true, false, false, false, false, false, false, false, false, false, false] rfl rfl (by kernel_rfl) (fun _ _ _ h => h) (Or.inl ⟨by rfl, ?_⟩) ?_ ?_
      rotate_left
      · intro w'
        go_simp
        try with_reducible rfl
      rotate_left
      · simp only [Act.put, List.setIfInBounds_toArray, List.set_cons_zero, List.set_cons_succ, i64_w, i32_w]
        rfl
      refine take_ (i := 6) (N := some 31) (v := ?_) (a' := ?_) #[true, true, true, true, true, true, true, false, false, false, false, false, false, false, false, false] rfl rfl (by kernel_rfl) (fun _ _ _ h => h) (Or.inl ⟨by rfl, ?_⟩) hHeld ?_ ?_
      rotate_left
      · rintro w' ⟨s0, s1⟩
        go_simp
        try with_reducible rfl
      rotate_left
      · simp only [Act.put, List.setIfInBounds_toArray, List.set_cons_zero, List.set_cons_succ, i64_w, i32_w]
        rfl
      refine pure_ (i := 7) (N := some 32) (v := ?_) (a' := ?_) #[true, true, true, true, true, true, true, true, false, false, false, false, false, false, false, false] rfl rfl (by kernel_rfl) (fun _ _ _ h => h) (Or.inl ⟨by rfl, ?_⟩) ?_ ?_
      rotate_left
      · intro w'
        go_simp
        try with_reducible rfl
      rotate_left
      · simp only [Act.put, List.setIfInBounds_toArray, List.set_cons_zero, List.set_cons_succ, i64_w, i32_w]
        rfl
      refine pure_ (i := 8) (N := some 33) (v := .int .i64 i1) (a' := ?_) #[true, true, true, true, true, true, true, true, true, false, false, false, false, false, false, false] rfl rfl (by kernel_rfl) (fun _ _ _ h => h) (Or.inl ⟨by rfl, ?_⟩) ?_ ?_
      · intro w'
        go_simp
        first | done | (with_reducible rfl) | (simp only [*, decide_true, decide_false, if_true, if_false]; done) | (simp [*]; done) | omega | (unfold wrap64; omega)
      rotate_left
      · simp only [Act.put, List.setIfInBounds_toArray, List.set_cons_zero, List.set_cons_succ, i64_w, i32_w]
        rfl
      refine pure_ (i := 9) (N := some 34) (v := ?_) (a' := ?_) #[true, true, true, true, true, true, true, true, true, true, false, false, false, false, false, false] rfl rfl (by kernel_rfl) (fun _ _ _ h => h) (Or.inl ⟨by rfl, ?_⟩) ?_ ?_
      rotate_left
      · intro w'
        go_simp
        try with_reducible rfl
      rotate_left
      · simp only [Act.put, List.setIfInBounds_toArray, List.set_cons_zero, List.set_cons_succ, i64_w, i32_w]
        rfl
      refine pure_ (i := 10) (N := some 35) (v := ?_) (a' := ?_) #[true, true, true, true, true, true, true, true, true, true, true, false, false, false, false, false] rfl rfl (by kernel_rfl) (fun _ _ _ h => h) (Or.inl ⟨by rfl, ?_⟩) ?_ ?_
      rotate_left
      · intro w'
        go_simp
        try with_reducible rfl
      rotate_left
      · simp only [Act.put, List.setIfInBounds_toArray, List.set_cons_zero, List.set_cons_succ, i64_w, i32_w]
        rfl
      refine one_ (i := 11) (N := some 36) #[true, true, true, true, true, true, true, true, true, true, true, true, false, false, false, false] rfl rfl (by kernel_rfl) (by decide) (fun K hK => ?_)
      refine value_ (w1 := ?_) (v := ?_) (by rfl) rfl ?_ ?_
      rotate_left 2
      · go_simp
        constructor
        · rfl
        · rfl
      have hLb : Below Wd.heap.size Wd _ := below_alloc (Below.refl Wd.heap.size Wd) (.cells #[.int .i64 3, .int .i64 i1, .int .i64 i, .int .i64 0, .int .i64 0, .slice none 0 0] 60)
      refine hK.out _ _ (hG.out.step hLb).held (fun hHeld => ?_)
      clear hK K
      refine norm_ (a' := ?_) ?_ ?_
      rotate_left
      · show Act.put _ (some 36) _ = _
        simp only [Act.put, List.setIfInBounds_toArray, List.set_cons_zero, List.set_cons_succ, i64_w, i32_w]
        rfl
      refine one_ (i := 12) (N := some 37) #[true, true, true, true, true, true, true, true, true, true, true, true, true, false, false, false] rfl rfl (by kernel_rfl) (by decide) (fun K hK => ?_)
      have hGa := Aside0.mk (hG.out.step (below_alloc (Below.refl Wd.heap.size Wd) (.cells #[.int .i64 3, .int .i64 i1, .int .i64 i, .int .i64 0, .int .i64 0, .slice none 0 0] 60)))
      refine Kd.R_append_rows_step k60 (Rr := fun x cs => x.f5 = [] ∧ cs = c60 x) base (by rfl) (.tmp 31) (.tmp 36) 53 60 (.agg #[.int .i64 0, .int .i64 0, .int .i64 0, .int .i64 0, .int .i64 0, .slice none 0 0]) 64 rfl Try.underlying53 info60 rfl (by decide) (by decide) vo ops [⟨3, i1, i, 0, 0, []⟩] (some ⟨Wd.heap.size, 0, none⟩) 1 1 (fun _ => True) (fun _ => False) rfl rfl hGa.out.own hlit.out (fun x cs h => by obtain ⟨h5, rfl⟩ := h; exact c60_M h5) (fun k h => h.elim) (fun _ _ => trivial) (Below.refl _ _) hGa.out.lo.2.2.2 hol.out ?_
      intro v1 w11 hv1 hb11 hg11 hat11
      obtain ⟨Av, cv, hve⟩ := Kd.R_slice hv1
      simp only [List.length_append, List.length_cons, List.length_nil, Nat.zero_add, Nat.reduceAdd] at hve
      subst hve
      have hG3 := Aside0.mk (hGa.out.put hv1 hg11)
      have hst1 := hGa.out.kept hg11
      have hst2 := hGa.out.kept4 hg11
      clear hv1 hb11 hg11 hat11
      refine hK.out _ _ ⟨hst2, hst1.1⟩ (fun hHeld => ?_)
      clear hK K
      refine norm_ (a' := ?_) ?_ ?_
      rotate_left
      · show Act.put _ (some 37) _ = _
        simp only [Act.put, List.setIfInBounds_toArray, List.set_cons_zero, List.set_cons_succ, i64_w, i32_w]
        rfl
      refine pure_ (i := 13) (N := some 38) (v := ?_) (a' := ?_) #[true, true, true, true, true, true, true, true, true, true, true, true, true, true, false, false] rfl rfl (by kernel_rfl) (fun _ _ _ h => h) (Or.inl ⟨by rfl, ?_⟩) ?_ ?_
      rotate_left
      · intro w'
        go_simp
        try with_reducible rfl
      rotate_left
      · simp only [Act.put, List.setIfInBounds_toArray, List.set_cons_zero, List.set_cons_succ, i64_w, i32_w]
        rfl
      refine pure_ (i := 14) (N := some 39) (v := ?_) (a' := ?_) #[true, true, true, true, true, true, true, true, true, true, true, true, true, true, true, false] rfl rfl (by kernel_rfl) (fun _ _ _ h => h) (Or.inl ⟨by rfl, ?_⟩) ?_ ?_
      rotate_left
      · intro w'
        go_simp
        try with_reducible rfl
      rotate_left
      · simp only [Act.put, List.setIfInBounds_toArray, List.set_cons_zero, List.set_cons_succ, i64_w, i32_w]
        rfl
      refine last_ (i := 15) (N := none) #[true, true, true, true, true, true, true, true, true, true, true, true, true, true, true, true] rfl rfl (by kernel_rfl) (by decide) (fun K hK => ?_)
      have z1 := hst1.1
      have z2 := hst1.2
      refine skip_ (w1 := ?_) (by rfl) rfl ?_ ?_
      rotate_left
      · go_simp
        rfl
      refine hK.out _ _ ?_
      clear hK K
      refine done_ (by kernel_rfl) ?_
      go_wp2
      go_roundw
      case rel =>
        refine ⟨i + 1, by rw [hi1'.out]; go_num, by omega, by omega, ⟨.slice Av (ops.length + 1) cv, ?_⟩⟩
        rw [show i + 1 - 1 = (i - 1) + 1 by omega, movesL_succ, hops.out, show ((i - 1 : Nat) : Int) + 2 = i1 by rw [hi1'.out]; omega, show ((i - 1 : Nat) : Int) + 1 = (i : Int) by omega, hbase.out]
        exact hG3.out
      case measure => simp [RowKit.intOf, hi1'.out]; omega
    · have hltb : decide ((i : Int) < (m : Int)) = false := decide_eq_false (by omega)
      have him : i = m := by omega
      subst him
      obtain ⟨n1, hn1'⟩ : ∃ n1 : Int, Aside0 (n1 = (i : Int) + 1) := ⟨_, ⟨rfl⟩⟩
      have hwn : wrap64 ((i : Int) + 1) = n1 := by rw [hn1'.out]; unfold wrap64; omega
      have hwn2 : IntKind.i64.wrap ((i : Int) + 1) = n1 := by rw [i64_w]; exact hwn
      obtain ⟨ops, hops⟩ : ∃ ops, Aside0 (movesL (i - 1) = ops) := ⟨_, ⟨rfl⟩⟩
      rw [hops.out] at hG
      have hol : Aside0 ((ops.length + 2) * 64 ≤ 140737488355328) := ⟨by rw [← hops.out]; simp [movesL]; omega⟩
      have hG' := Aside0.mk hG
      clear hG hrel
      go_wp2
      obtain ⟨Wd, hWd⟩ : ∃ Wd, wr.drew = Wd := ⟨_, rfl⟩
      have hG : Aside0 (CH w (b50 + 1) b50 base vo ops Wd) := ⟨by rw [← hWd]; exact hG'.out.step (drew_below _)⟩
      have hlit : Aside0 (ReadsRow (fun (x : S60) cs => x.f5 = [] ∧ cs = c60 x) k60.sz (Wd.alloc (.cells #[.int .i64 6, .int .i64 n1, .int .i64 0, .int .i64 0, .int .i64 1, .slice none 0 0, .int .i64 6, .int .i64 1, .int .i64 0, .int .i64 0, .int .i64 1, .slice none 0 0] 60)) (some ⟨Wd.heap.size, 0, none⟩) 2 [⟨6, n1, 0, 0, 1, []⟩, ⟨6, 1, 0, 0, 1, []⟩]) :=
        ⟨reads_rows Wd.heap.size (xs := [⟨6, n1, 0, 0, 1, []⟩, ⟨6, 1, 0, 0, 1, []⟩]) (World.alloc_heap_new Wd (.cells #[.int .i64 6, .int .i64 n1, .int .i64 0, .int .i64 0, .int .i64 1, .slice none 0 0, .int .i64 6, .int .i64 1, .int .i64 0, .int .i64 0, .int .i64 1, .slice none 0 0] 60)) (by simp) (by simp)⟩
      refine start_ (n := 16) #[false, false, false, false, false, false, false, false, false, false, false, false, false, false, false, false] (S := fun w' => w'.cell? ⟨b50 + 1, 1, none⟩ = some (.slice (some ⟨b50, 0, none⟩) 1 1) ∧ w'.cell? ⟨b50, 0, none⟩ = some vo) (ds := [15]) hmix rfl rfl (by rw [hWd]; exact hG.out.held) (fun hHeld => ?_)
      rw [hWd] at hHeld ⊢
      clear hWd
      refine pure_ (i := 0) (N := some 40) (v := ?_) (a' := ?_) #[true, false, false, false, false, false, false, false, false, false, false, false, false, false, false, false] rfl rfl (by kernel_rfl) (fun _ _ _ h => h) (Or.inl ⟨by rfl, ?_⟩) ?_ ?_
      rotate_left
      · intro w'
        go_simp
        try with_reducible rfl
      rotate_left
      · simp only [Act.put, List.setIfInBounds_toArray, List.set_cons_zero, List.set_cons_succ, i64_w, i32_w]
        rfl
      refine take_ (i := 1) (N := some 41) (v := ?_) (a' := ?_) #[true, true, false, false, false, false, false, false, false, false, false, false, false, false, false, false] rfl rfl (by kernel_rfl) (fun _ _ _ h => h) (Or.inl ⟨by rfl, ?_⟩) hHeld ?_ ?_
      rotate_left
      · rintro w' ⟨s0, s1⟩
        go_simp
        try with_reducible rfl
      rotate_left
      · simp only [Act.put, List.setIfInBounds_toArray, List.set_cons_zero, List.set_cons_succ, i64_w, i32_w]
        rfl
      refine pure_ (i := 2) (N := some 42) (v := ?_) (a' := ?_) #[true, true, true, false, false, false, false, false, false, false, false, false, false, false, false, false] rfl rfl (by kernel_rfl) (fun _ _ _ h => h) (Or.inl ⟨by rfl, ?_⟩) ?_ ?_
      rotate_left
      · intro w'
        go_simp
        try with_reducible rfl
      rotate_left
      · simp only [Act.put, List.setIfInBounds_toArray, List.set_cons_zero, List.set_cons_succ, i64_w, i32_w]
        rfl
      refine take_ (i := 3) (N := some 43) (v := ?_) (a' := ?_) #[true, true, true, true, false, false, false, false, false, false, false, false, false, false, false, false] rfl rfl (by kernel_rfl) (fun _ _ _ h => h) (Or.inl ⟨by rfl, ?_⟩) hHeld ?_ ?_
      rotate_left
      · rintro w' ⟨s0, s1⟩
        go_simp
        try with_reducible rfl
      rotate_left
      · simp only [Act.put, List.setIfInBounds_toArray, List.set_cons_zero, List.set_cons_succ, i64_w, i32_w]
        rfl
      refine pure_ (i := 4) (N := some 44) (v := ?_) (a' := ?_) #[true, true, true, true, true, false, false, false, false, false, false, false, false, false, false, false] rfl rfl (by kernel_rfl) (fun _ _ _ h => h) (Or.inl ⟨by rfl, ?_⟩) ?_ ?_
      rotate_left
      · intro w'
        go_simp
        try with_reducible rfl
      rotate_left
      · simp only [Act.put, List.setIfInBounds_toArray, List.set_cons_zero, List.set_cons_succ, i64_w, i32_w]
        rfl
      refine pure_ (i := 5) (N := some 45) (v := ?_) (a' := ?_) #[true, true, true, true, true, true, false, false, false, false, false, false, false, false, false, false] rfl rfl (by kernel_rfl) (fun _ _ _ h => h) (Or.inl ⟨by rfl, ?_⟩) ?_ ?_
      rotate_left
      · intro w'
        go_simp
        try with_reducible rfl
      rotate_left
      · simp only [Act.put, List.setIfInBounds_toArray, List.set_cons_zero, List.set_cons_succ, i64_w, i32_w]
        rfl
      refine take_ (i := 6) (N := some 46) (v := ?_) (a' := ?_) #[true, true, true, true, true, true, true, false, false, false, false, false, false, false, false, false] rfl rfl (by kernel_rfl) (fun _ _ _ h => h) (Or.inl ⟨by rfl, ?_⟩) hHeld ?_ ?_
      rotate_left
      · rintro w' ⟨s0, s1⟩
        go_simp
        try with_reducible rfl
      rotate_left
      · simp only [Act.put, List.setIfInBounds_toArray, List.set_cons_zero, List.set_cons_succ, i64_w, i32_w]
        rfl
      refine pure_ (i := 7) (N := some 47) (v := ?_) (a' := ?_) #[true, true, true, true, true, true, true, true, false, false, false, false, false, false, false, false] rfl rfl (by kernel_rfl) (fun _ _ _ h => h) (Or.inl ⟨by rfl, ?_⟩) ?_ ?_
      rotate_left
      · intro w'
        go_simp
        try with_reducible rfl
      rotate_left
      · simp only [Act.put, List.setIfInBounds_toArray, List.set_cons_zero, List.set_cons_succ, i64_w, i32_w]
        rfl
      refine pure_ (i := 8) (N := some 48) (v := .int .i64 n1) (a' := ?_) #[true, true, true, true, true, true, true, true, true, false, false, false, false, false, false, false] rfl rfl (by kernel_rfl) (fun _ _ _ h => h) (Or.inl ⟨by rfl, ?_⟩) ?_ ?_
      · intro w'
        go_simp
        first | done | (with_reducible rfl) | (simp only [*, decide_true, decide_false, if_true, if_false]; done) | (simp [*]; done) | omega | (unfold wrap64; omega)
      rotate_left
      · simp only [Act.put, List.setIfInBounds_toArray, List.set_cons_zero, List.set_cons_succ, i64_w, i32_w]
        rfl
      refine pure_ (i := 9) (N := some 49) (v := ?_) (a' := ?_) #[true, true, true, true, true, true, true, true, true, true, false, false, false, false, false, false] rfl rfl (by kernel_rfl) (fun _ _ _ h => h) (Or.inl ⟨by rfl, ?_⟩) ?_ ?_
      rotate_left
      · intro w'
        go_simp
        try with_reducible rfl
      rotate_left
      · simp only [Act.put, List.setIfInBounds_toArray, List.set_cons_zero, List.set_cons_succ, i64_w, i32_w]
        rfl
      refine pure_ (i := 10) (N := some 50) (v := ?_) (a' := ?_) #[true, true, true, true, true, true, true, true, true, true, true, false, false, false, false, false] rfl rfl (by kernel_rfl) (fun _ _ _ h => h) (Or.inl ⟨by rfl, ?_⟩) ?_ ?_
      rotate_left
      · intro w'
        go_simp
        try with_reducible rfl
      rotate_left
      · simp only [Act.put, List.setIfInBounds_toArray, List.set_cons_zero, List.set_cons_succ, i64_w, i32_w]
        rfl
      refine one_ (i := 11) (N := some 51) #[true, true, true, true, true, true, true, true, true, true, true, true, false, false, false, false] rfl rfl (by kernel_rfl) (by decide) (fun K hK => ?_)
      refine value_ (w1 := ?_) (v := ?_) (by rfl) rfl ?_ ?_
      rotate_left 2
      · go_simp
        constructor
        · rfl
        · rfl
      have hLb : Below Wd.heap.size Wd _ := below_alloc (Below.refl Wd.heap.size Wd) (.cells #[.int .i64 6, .int .i64 n1, .int .i64 0, .int .i64 0, .int .i64 1, .slice none 0 0, .int .i64 6, .int .i64 1, .int .i64 0, .int .i64 0, .int .i64 1, .slice none 0 0] 60)
      refine hK.out _ _ (hG.out.step hLb).held (fun hHeld => ?_)
      clear hK K
      refine norm_ (a' := ?_) ?_ ?_
      rotate_left
      · show Act.put _ (some 51) _ = _
        simp only [Act.put, List.setIfInBounds_toArray, List.set_cons_zero, List.set_cons_succ, i64_w, i32_w]
        rfl
      refine one_ (i := 12) (N := some 52) #[true, true, true, true, true, true, true, true, true, true, true, true, true, false, false, false] rfl rfl (by kernel_rfl) (by decide) (fun K hK => ?_)
      have hGa := Aside0.mk (hG.out.step (below_alloc (Below.refl Wd.heap.size Wd) (.cells #[.int .i64 6, .int .i64 n1, .int .i64 0, .int .i64 0, .int .i64 1, .slice none 0 0, .int .i64 6, .int .i64 1, .int .i64 0, .int .i64 0, .int .i64 1, .slice none 0 0] 60)))
      refine Kd.R_append_rows_step k60 (Rr := fun x cs => x.f5 = [] ∧ cs = c60 x) base (by rfl) (.tmp 46) (.tmp 51) 53 60 (.agg #[.int .i64 0, .int .i64 0, .int .i64 0, .int .i64 0, .int .i64 0, .slice none 0 0]) 64 rfl Try.underlying53 info60 rfl (by decide) (by decide) vo ops [⟨6, n1, 0, 0, 1, []⟩, ⟨6, 1, 0, 0, 1, []⟩] (some ⟨Wd.heap.size, 0, none⟩) 2 2 (fun _ => True) (fun _ => False) rfl rfl hGa.out.own hlit.out (fun x cs h => by obtain ⟨h5, rfl⟩ := h; exact c60_M h5) (fun k h => h.elim) (fun _ _ => trivial) (Below.refl _ _) hGa.out.lo.2.2.2 hol.out ?_
      intro v1 w11 hv1 hb11 hg11 hat11
      obtain ⟨Av, cv, hve⟩ := Kd.R_slice hv1
      simp only [List.length_append, List.length_cons, List.length_nil, Nat.zero_add, Nat.reduceAdd] at hve
      subst hve
      have hG3 := Aside0.mk (hGa.out.put hv1 hg11)
      have hst1 := hGa.out.kept hg11
      have hst2 := hGa.out.kept4 hg11
      clear hv1 hb11 hg11 hat11
      refine hK.out _ _ ⟨hst2, hst1.1⟩ (fun hHeld => ?_)
      clear hK K
      refine norm_ (a' := ?_) ?_ ?_
      rotate_left
      · show Act.put _ (some 52) _ = _
        simp only [Act.put, List.setIfInBounds_toArray, List.set_cons_zero, List.set_cons_succ, i64_w, i32_w]
        rfl
      refine pure_ (i := 13) (N := some 53) (v := ?_) (a' := ?_) #[true, true, true, true, true, true, true, true, true, true, true, true, true, true, false, false] rfl rfl (by kernel_rfl) (fun _ _ _ h => h) (Or.inl ⟨by rfl, ?_⟩) ?_ ?_
      rotate_left
      · intro w'
        go_simp
        try with_reducible rfl
      rotate_left
      · simp only [Act.put, List.setIfInBounds_toArray, List.set_cons_zero, List.set_cons_succ, i64_w, i32_w]
        rfl
      refine pure_ (i := 14) (N := some 54) (v := ?_) (a' := ?_) #[true, true, true, true, true, true, true, true, true, true, true, true, true, true, true, false] rfl rfl (by kernel_rfl) (fun _ _ _ h => h) (Or.inl ⟨by rfl, ?_⟩) ?_ ?_
      rotate_left
      · intro w'
        go_simp
        try with_reducible rfl
      rotate_left
      · simp only [Act.put, List.setIfInBounds_toArray, List.set_cons_zero, List.set_cons_succ, i64_w, i32_w]
        rfl
      refine last_ (i := 15) (N := none) #[true, true, true, true, true, true, true, true, true, true, true, true, true, true, true, true] rfl rfl (by kernel_rfl) (by decide) (fun K hK => ?_)
      have z1 := hst1.1
      have z2 := hst1.2
      refine skip_ (w1 := ?_) (by rfl) rfl ?_ ?_
      rotate_left
      · go_simp
        rfl
      refine hK.out _ _ ?_
      clear hK K
      refine done_ (by kernel_rfl) ?_
      have hch : ops ++ [⟨6, n1, 0, 0, 1, []⟩, ⟨6, 1, 0, 0, 1, []⟩] = chainL i := by unfold chainL; rw [hops.out, hn1'.out]
      rw [hch] at hG3
      obtain ⟨w12, hw12⟩ : ∃ w12, w11.setCell ⟨b50, 0, none⟩ (.slice Av (ops.length + 2) cv) = w12 := ⟨_, rfl⟩
      rw [hw12] at hG3 ⊢
      have hL := lit52 hG3.out
      have h26 := hof'.out _ 1 _ i rfl hi1 hm25 hL
      have hB12 := Aside0.mk (below_alloc hG3.out.below (.cells #[.int .i64 0, .slice (some ⟨b50, 0, none⟩) 1 1] 52))
      have hx0 : w12.cell? ⟨b50 + 1, 0, none⟩ = some (.int .i64 0) := by rw [cell_in hG3.out.h4]; rfl
      have hx1 := hG3.out.held.1
      clear hG3 hst1 hst2 hHeld hwn hwn2 hlit hG hGa hol hL hG' hw12
      go_wp2_with fail
      refine h26.mono ?_
      rintro e w13 ⟨A6, c6, rfl, h6, hC6, hb13⟩
      obtain ⟨n2, hn2'⟩ : ∃ n2 : Int, Aside0 (n2 = (i : Int) + 2) := ⟨_, ⟨rfl⟩⟩
      obtain ⟨row, hrow⟩ : ∃ row, Aside0 (rowC i = row) := ⟨_, ⟨rfl⟩⟩
      rw [hrow.out] at hC6
      obtain ⟨L, hL⟩ : ∃ L : Nat, Aside0 (row.length = L) := ⟨_, ⟨rfl⟩⟩
      have hLi : Aside0 ((L : Int) = n2 ∧ L = i + 2) := ⟨by rw [← hL.out, ← hrow.out, rowC_len, hn2'.out]; omega, by rw [← hL.out, ← hrow.out, rowC_len]⟩
      have hne : ((L : Int) != n2) = false := by rw [hLi.out.1]; simp
      have hne5 : ((L : Int) != (i : Int) + 2) = false := by rw [hLi.out.1, hn2'.out]; simp
      have hrd : rd_L3 [row] 0 = row := rfl
      have hq1 : (0 : Int) < ((1 : Nat) : Int) := by decide
      have hat : Aside0 (∀ W, Kd.C (Kd.slice 3 (Kd.int .i64)) W A6 1 [row] → ∃ ad A7 c7, A6 = some ad ∧ W.cell? ad = some (.slice A7 L c7) ∧ Kd.C (Kd.int .i64) W A7 L row) := ⟨fun W hW => by
        obtain ⟨ad, A7, c7, e, g0, g1, g2⟩ := at_L3 hW (0 : Int) (Int.le_refl _) hq1
        rw [hrd, hL.out] at g0 g1 g2
        rw [show ad.add (0 : Int).toNat = ad by cases ad; rfl] at g0
        exact ⟨ad, A7, c7, e, g0, g2⟩⟩
      obtain ⟨ad, A7, c7, e6, g0, _⟩ := hat.out _ hC6
      have hst := Aside0.mk (And.intro (below_step hB12.out hb13) hC6)
      have h6' := Aside0.mk h6
      clear hC6 hb13 h6 h26 hx0 hx1 hB12 hrd
      subst e6
      go_wp2
      go_loopw [7] (fun v7 wr => ∃ (k : Nat), v7 = .int .i64 k ∧ 1 ≤ k ∧ k ≤ i + 1 ∧ Aside0 (Below w.heap.size w wr ∧ Kd.C (Kd.slice 3 (Kd.int .i64)) wr (some ad) 1 [row])) (fun v7 _ => i + 1 - (RowKit.intOf v7).toNat)
      case atStart => exact ⟨1, rfl, by omega, by omega, hst⟩
      case round =>
        obtain ⟨k, rfl, hk1, hk2, hr⟩ := hrel
        clear hst g0
        obtain ⟨ad2, A8, c8, e2, y0, y1⟩ := hat.out _ hr.out.2
        obtain rfl := Option.some.inj e2
        by_cases hki : k ≤ i
        · have hkb : decide ((k : Int) ≤ (i : Int)) = true := decide_eq_true (by omega)
          have hp0 : (0 : Int) ≤ (k : Int) := by omega
          have hq0 : (k : Int) < (L : Int) := by have := hLi.out.2; omega
          obtain ⟨ad8, e8, hc⟩ := Kd.at_int y1 (k : Int) hp0 hq0
          subst e8
          rw [Int.toNat_natCast, show rd row (k : Int) = 2 by rw [← hrow.out]; exact rowC_mid hk1 hki] at hc
          have h28 := points_Alike.calls (some ad) c6 [row] 0 (k : Int) 0 ((i : Int) + 1) false wr hr.out.2 h6'.out (by rw [← hrow.out]; exact hal'.out i k hm25 hk1 hki)
          change Calls Try.prog 28 #[.slice (some ad) 1 c6, .int .i64 0, .int .i64 k, .int .i64 0, .int .i64 ((i : Int) + 1)] _ _ at h28
          clear y1
          go_wp2_with (go_at_call 28; refine h28.mono ?_; rintro e w9 ⟨rfl, hd9⟩; have hr9 := Aside0.mk (And.intro (below_step hr.out.1 (drawn0_below hd9 _)) (Kd.C_below hr.out.2 (drawn0_below hd9 _))); clear hd9)
          go_roundw
          case rel => exact ⟨k + 1, by go_num, by omega, by omega, hr9⟩
          case measure => simp [RowKit.intOf]; omega
        · have hkb : decide ((k : Int) ≤ (i : Int)) = false := decide_eq_false (by omega)
          have hp0 : (0 : Int) ≤ (0 : Int) := Int.le_refl _
          have hq0 : (0 : Int) < (L : Int) := by have := hLi.out.2; omega
          have hp3 : (0 : Int) ≤ (i : Int) + 1 := by omega
          have hq3 : (i : Int) + 1 < (L : Int) := by have := hLi.out.2; omega
          obtain ⟨ad8, e8, hc⟩ := Kd.at_int y1 (0 : Int) hp0 hq0
          subst e8
          obtain ⟨ad9, e9, hc9⟩ := Kd.at_int y1 ((i : Int) + 1) hp3 hq3
          obtain rfl := Option.some.inj e9
          rw [show rd row (0 : Int) = 1 by rw [← hrow.out]; rfl, show ad8.add (0 : Int).toNat = ad8 by cases ad8; rfl] at hc
          rw [show rd row ((i : Int) + 1) = 3 by rw [← hrow.out]; exact rowC_last i, show ((i : Int) + 1).toNat = i + 1 by omega] at hc9
          have hc9' : wr.cell? ⟨ad8.block, ad8.off + (i + 1), none⟩ = some (.int .i64 3) := by simpa [Addr.add] using hc9
          have h32 := points_Classes.calls 200 (some ad) c6 [row] 3 wr hr.out.2 h6'.out (by rw [← hrow.out]; exact hcl'.out i hi1 hm25)
          change Calls Try.prog 32 #[.slice (some ad) 1 c6] _ _ at h32
          clear y1
          go_wp2_with (go_at_call 32; refine h32.mono ?_; rintro e w9 ⟨rfl, hb9⟩; have hr9 := Aside0.mk (below_step hr.out.1 hb9); clear hb9)
          go_ret
          exact ⟨rfl, hr9.out⟩
end Go.Proofs.Yteeapfmgdlcgfaa.A


namespace Go.Proofs.Yteeapfmgdlcgfaa.A
open Go.RowKit Go.Maps Go.Proofs.YteeapfmgdlcgfaaW.PrintWords
set_option linter.unusedVariables false
set_option linter.unusedSimpArgs false

def chk (m : Nat) : Bool :=
  progB [fnOf (chainL m)] && (allCells [fnOf (chainL m)]).isEmpty && decide (vars [fnOf (chainL m)] = (List.range (m + 2)).map fun j : Nat => (j : Int)) &&
  (allPairs [fnOf (chainL m)]).all (fun ab => decide (clC m ab.1 = clC m ab.2) && (vars [fnOf (chainL m)]).contains ab.1 && (vars [fnOf (chainL m)]).contains ab.2) &&
  decide (regsI 0 [⟨chainL m, ⟨4, 0, 1, 0⟩⟩] = (m : Int) + 1) && (List.range (m - 1)).all (fun j : Nat => (allPairs [fnOf (chainL m)]).contains ((j : Int) + 2, (j : Int) + 1)) &&
  decide (numRows (clC m) [fnOf (chainL m)] = [rowC m]) && (List.range m).all (fun j : Nat => decide (points_Alike.f [rowC m] 0 ((j + 1 : Nat) : Int) 0 ((m : Int) + 1) = some false)) && decide (points_Classes.f 200 [rowC m] = some 3)
set_option maxRecDepth 100000 in
theorem chk_all : (List.range 25).all (fun j => chk (j + 1)) = true := by kernel_rfl
theorem chk_of {m : Nat} (h1 : 1 ≤ m) (h2 : m ≤ 25) : chk m = true := by
  have := List.all_eq_true.1 chk_all (m - 1) (List.mem_range.2 (by omega))
  rwa [show m - 1 + 1 = m by omega] at this
structure Chk (m : Nat) : Prop where
  prog : progB [fnOf (chainL m)] = true
  cells : allCells [fnOf (chainL m)] = []
  vars : vars [fnOf (chainL m)] = (List.range (m + 2)).map fun j : Nat => (j : Int)
  pairs : ∀ ab ∈ allPairs [fnOf (chainL m)], clC m ab.1 = clC m ab.2 ∧ ab.1 ∈ A.vars [fnOf (chainL m)] ∧ ab.2 ∈ A.vars [fnOf (chainL m)]
  regs : regsI 0 [⟨chainL m, ⟨4, 0, 1, 0⟩⟩] = (m : Int) + 1
  links : ∀ j, j < m - 1 → (((j : Int) + 2, (j : Int) + 1) : Int × Int) ∈ allPairs [fnOf (chainL m)]
  num : numRows (clC m) [fnOf (chainL m)] = [rowC m]
  alike : ∀ j, j < m → points_Alike.f [rowC m] 0 ((j + 1 : Nat) : Int) 0 ((m : Int) + 1) = some false
  classes : points_Classes.f 200 [rowC m] = some 3
theorem chk_spec {m : Nat} (h1 : 1 ≤ m) (h2 : m ≤ 25) : Chk m := by
  have h := chk_of h1 h2
  unfold chk at h
  simp only [Bool.and_eq_true, decide_eq_true_eq, List.all_eq_true, List.isEmpty_iff, List.mem_range, List.contains_iff_mem] at h
  obtain ⟨⟨⟨⟨⟨⟨⟨⟨a1, a2⟩, a3⟩, a4⟩, a5⟩, a6⟩, a7⟩, a8⟩, a9⟩ := h
  exact ⟨a1, a2, a3, fun ab hab => ⟨(a4 ab hab).1.1, (a4 ab hab).1.2, (a4 ab hab).2⟩, a5, a6, a7, a8, a9⟩
theorem chain_len (m : Nat) : (chainL m).length = m - 1 + 2 := by unfold chainL movesL; simp
theorem chain_args {m : Nat} : ∀ x ∈ chainL m, x.f5 = [] := by
  intro x hx
  unfold chainL movesL at hx
  rcases List.mem_append.1 hx with hx | hx
  · obtain ⟨j, _, rfl⟩ := List.mem_map.1 hx; rfl
  · simp at hx; rcases hx with rfl | rfl <;> rfl
theorem chain_sz {m : Nat} (h2 : m ≤ 25) : Sz [fnOf (chainL m)] := by
  have hl := chain_len m
  refine ⟨by simp, ?_, ?_, ?_, ?_⟩
  · intro f hf; rw [List.mem_singleton.1 hf]; simp [fnOf]
  · intro f hf; rw [List.mem_singleton.1 hf]; intro y hy; rw [List.mem_singleton.1 hy]; show (chainL m).length ≤ _; omega
  · intro f hf; rw [List.mem_singleton.1 hf]; intro y hy; rw [List.mem_singleton.1 hy]; intro x hx; rw [chain_args x hx]; simp
  · intro f hf; rw [List.mem_singleton.1 hf]; show (opsOf [⟨chainL m, _⟩]).length ≤ _; unfold opsOf; simp; omega
theorem chain_few {m : Nat} (h1 : 1 ≤ m) (h2 : m ≤ 25) : Few [fnOf (chainL m)] := by
  have hc := chk_spec h1 h2
  refine ⟨by simp, ?_, by rw [hc.cells]; simp⟩
  intro x hx
  rw [List.mem_singleton.1 hx]
  show 0 ≤ regsI 0 [⟨chainL m, ⟨4, 0, 1, 0⟩⟩] ∧ regsI 0 [⟨chainL m, ⟨4, 0, 1, 0⟩⟩] ≤ 99
  rw [hc.regs]
  omega
theorem chain_explicit {m : Nat} (h1 : 1 ≤ m) (h2 : m ≤ 25) : Explicit [fnOf (chainL m)] (clC m) := by
  have hc := chk_spec h1 h2
  have hv : ∀ v, v ∈ vars [fnOf (chainL m)] → 0 ≤ v ∧ v < (m : Int) + 2 := by
    intro v hv
    rw [hc.vars] at hv
    obtain ⟨j, hj, rfl⟩ := List.mem_map.1 hv
    have := List.mem_range.1 hj
    omega
  have hin : ∀ j : Nat, j < m + 2 → (j : Int) ∈ vars [fnOf (chainL m)] := by
    intro j hj
    rw [hc.vars]
    exact List.mem_map.2 ⟨j, List.mem_range.2 hj, rfl⟩
  refine ⟨fun ab hab => (hc.pairs ab hab).1, fun ab hab => (hc.pairs ab hab).2, hc.cells, fun v hvv => ⟨?_, fun R hR hs hp => ?_⟩, fun v hvv => ?_⟩
  · unfold clC
    split
    · exact hin 1 (by omega)
    · exact hvv
  · unfold clC
    split
    · rename_i h
      have key : ∀ j : Nat, j < m → R 1 ((j : Int) + 1) := by
        intro j
        induction j with
        | zero => intro _; exact hs 1 (hin 1 (by omega))
        | succ j ih =>
          intro hj
          have e := hp _ (hc.links j (by omega))
          have := hR.trans _ _ _ (ih (by omega)) (hR.symm _ _ e)
          rw [show ((j + 1 : Nat) : Int) + 1 = (j : Int) + 2 by omega]
          exact this
      have := key (v - 1).toNat (by omega)
      rwa [show ((v - 1).toNat : Int) + 1 = v by omega] at this
    · exact hs v hvv
  · unfold clC
    split
    · omega
    · exact Int.le_refl _
theorem of_chain (A : Option Addr) (c : Nat) (W : World) {m : Nat} (h1 : 1 ≤ m) (h2 : m ≤ 25) (hC : Kd.C k52 W A 1 [fnOf (chainL m)]) :
    Calls Try.prog 26 #[.slice A 1 c] W fun e w' => ∃ A' c', e = .returned (.slice A' 1 c') ∧ 1 ≤ c' ∧ Kd.C (Kd.slice 3 (Kd.int .i64)) w' A' 1 [rowC m] ∧ Below W.heap.size W w' :=
  (of_yes A c [fnOf (chainL m)] W hC (chain_sz h2) (chain_few h1 h2) (named_of (chk_spec h1 h2).prog (by simp)) (chk_spec h1 h2).prog).mono fun e w' ⟨v, E, key, he, h⟩ => by
    have h3 := h.out
    rw [h.explicit (chain_explicit h1 h2), (chk_spec h1 h2).num] at h3
    obtain ⟨A', c', rfl, h4, h5⟩ := Kd.S_reads h3
    exact ⟨A', c', he, h4, h5, h.bl⟩
theorem law_pchain (n : Int) (w : World) : Calls Try.prog 8 #[.int .i64 n] w fun e w' => e = .returned (.bool true) ∧ Below w.heap.size w w' :=
  law_chain n w (fun A c W m _ h1 h2 hC => of_chain A c W h1 h2 hC)
    (fun m i hm hi1 hi2 => by
      have := (chk_spec (by omega : 1 ≤ m) hm).alike (i - 1) (by omega)
      rwa [show i - 1 + 1 = i by omega] at this)
    (fun m h1 h2 => (chk_spec h1 h2).classes)
theorem law_pchainw (n : Int) (w : World) (hw : (Lit.int .i64 n).wf = true) : Calls Try.prog 8 #[.int .i64 n] w fun e w' => e = .returned (.bool true) ∧ Below w.heap.size w w' := law_pchain n w
end Go.Proofs.Yteeapfmgdlcgfaa.A

