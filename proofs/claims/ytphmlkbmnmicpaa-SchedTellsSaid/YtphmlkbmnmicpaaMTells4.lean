/- Parts of the proof, in the order in which they rest on one another. -/
import Derived.Test.YtphmlkbmnmicpaaMTells3
import Derived.Below
import Derived.Deep.Draws
import Derived.Deep.AppendLies
import Derived.Maps.AppendAt
import Derived.OwnWalk
import Derived.Laws.BytesArg
import Derived.Laws.MakeOwn
import Derived.Laws.OwnMore
import Derived.Deep.OwnRows
import Derived.Tactics
import Derived.Lib.ConvBytes
import Derived.Laws.Slices
import Derived.WalkKit
import Derived.KernelRfl
import Derived.RowKit3
import Derived.Deep.LoopGhost
import Derived.Deep.QuietTactic
import Derived.BigQuiet
import Derived.WideLaws
import Derived.Deep.DeepCutAuto
import Derived.Deep.CutBlock
import Derived.Deep.RegionHeld3
import Derived.Laws.Rows
import Derived.Lib.AppendStr
import Derived.ArgAppend
import Derived.Laws.IdiomCopy
import Derived.RowKit
import Derived.OrdersHeld
import Derived.Laws.BitsLemmas
import Derived.Laws.StructEq
import Derived.Test.YtphmlkbmnmicpaaProg
import Derived.Shelf.Abstract
import Derived.Lib.Walk
import Derived.RangeFuncBox
import Derived.RangeFuncLeaves
import Derived.RangeFuncNested
import Derived.RangeFuncBound
import Derived.OwnWalkIn
import Derived.TacticsInMore
import Derived.LoopNIn
import Derived.LoopIn
import Derived.Outline
import Derived.Lib.QuietBelowIn
import Derived.OrdersIn
import Derived.StillTail
import Derived.Lib.SliceRun
import Derived.Deep.Slices
set_option linter.unusedVariables false
set_option linter.unusedSimpArgs false
namespace Go.Proofs.Ytphmlkbmnmicpaa.A
open Go.RowKit Go.Proofs.YtphmlkbmnmicpaaW.PrintWords Go.Proofs.YtphmlkbmnmicpaaW.PrintLast Go.Proofs.YtphmlkbmnmicpaaW.PrintMore
attribute [local go_sem] max2_int zBH max_two zBL zBB zBA zBI zBG   -- for this text's walks alone
def swageref06_Rows.l0 : Nat → List (List Int) → List (List Int) → Int → Option (Bool)
 | 0, _, _, _ => none
 | k + 1, x0, x1, x5 => if x5 < (x0.length : Int) then (if 0 ≤ x5 then (if x5 < (x1.length : Int) then ((swageref02_Ints.f k (rd_L1 x0 x5) (rd_L1 x1 x5)).bind fun t175 => (if t175 = true then (swageref06_Rows.l0 k x0 x1 (wrap64 (x5 + 1))) else (some false))) else (none)) else (none)) else (some true)
def swageref06_Rows.f (k : Nat) (l0 : List (List Int)) (l1 : List (List Int)) : Option (Bool) := if (l0.length : Int) = (l1.length : Int) then (swageref06_Rows.l0 k l0 l1 0) else (some false)
set_option maxHeartbeats 8000000 in
set_option maxRecDepth 100000 in
theorem swageref06_Rows.calls (k : Nat) (A0 : Option Addr) (c0 : Nat) (l0 : List (List Int)) (A1 : Option Addr) (c1 : Nat) (l1 : List (List Int)) (r : Bool) (w : World) (hr0 : Kd.C (Kd.slice 3 (Kd.int .i64)) w A0 l0.length l0) (hc0 : l0.length ≤ c0) (hr1 : Kd.C (Kd.slice 3 (Kd.int .i64)) w A1 l1.length l1) (hc1 : l1.length ≤ c1) (h : swageref06_Rows.f k l0 l1 = some r) :
  Calls Try.prog 16 #[.slice A0 l0.length c0, .slice A1 l1.length c1] w fun e w' => e = .returned (.bool r) ∧ Drawn0 w w' := by
 have HR0 := Aside0.mk hr0
 have HC0 := Aside0.mk hc0
 clear hr0 hc0
 have HR1 := Aside0.mk hr1
 have HC1 := Aside0.mk hc1
 clear hr1 hc1
 have H : (if (l0.length : Int) = (l1.length : Int) then (swageref06_Rows.l0 k l0 l1 0) else (some false)) = some r := h
 clear h
 by_cases c3 : (l0.length : Int) = (l1.length : Int)
 ·rw [if_pos c3] at H
  have c3b0 : ((l0.length : Int) == (l1.length : Int)) = true := beq_iff_eq.mpr c3
  have c3b1 : ((l0.length : Int) != (l1.length : Int)) = false := bne_eq_false_iff_eq.mpr c3
  have c3b2 : (l0.length == l1.length) = true := by first | simpa using c3 | (simp at c3 ⊢; omega)
  clear c3
  have H' := Aside0.mk H
  clear H
  go_enter Try.func16, Try.ntmps16
  go_wp2
  repeat (go_quiet (fail); try go_wp2)
  go_loopg [5] k (fun kq v5 w' => ∃ (x5_1 : Int), v5 = .int .i64 x5_1 ∧ Aside0 (swageref06_Rows.l0 kq l0 l1 x5_1 = some r) ∧ Aside0 (kq ≤ k) ∧ Drawn0 w w')
  case atStart => exact ⟨(0), (by first | rfl | (simp; done) | (simp [*]; done)), H', ⟨Nat.le_refl _⟩, by repeat (first | exact Drawn0.refl _ | apply Drawn0.step)⟩
  case round =>
   clear H'
   (try clear c1); (try clear p2); (try clear c3); (try clear c3b0); (try clear c3b1); (try clear c3b2)
   obtain ⟨x5_1, rfl, HA, HK1, ⟨m1, rfl⟩⟩ := hrel
   cases gk with
   | zero => exact absurd HA.out (by simp [swageref06_Rows.l0])
   | succ k1 =>
    have H := HA.out
    clear HA
    simp only [swageref06_Rows.l0] at H
    by_cases c4 : x5_1 < (l0.length : Int)
    ·rw [if_pos c4] at H
     have c4b0 : decide (x5_1 < (l0.length : Int)) = true := decide_eq_true c4
     clear c4
     by_cases c5 : 0 ≤ x5_1
     ·rw [if_pos c5] at H
      have c5b0 : decide (0 ≤ x5_1) = true := decide_eq_true c5
      clear c5
      by_cases c6 : x5_1 < (l1.length : Int)
      ·rw [if_pos c6] at H
       have c6b0 : decide (x5_1 < (l1.length : Int)) = true := decide_eq_true c6
       clear c6
       replace H := Option.bind_eq_some_iff.mp H
       obtain ⟨t175, A70, H⟩ := H
       replace H : (if t175 = true then (swageref06_Rows.l0 k1 l0 l1 (wrap64 (x5_1 + 1))) else (some false)) = some r := H
       have A7 := Aside0.mk A70
       clear A70
       by_cases c8 : t175 = true
       ·subst c8
        have H1 : (swageref06_Rows.l0 k1 l0 l1 (wrap64 (x5_1 + 1))) = some r := by rw [if_pos rfl] at H; exact H
        clear H
        have H := H1
        clear H1
        have H' := Aside0.mk H
        clear H
        have p173 : 0 ≤ (x5_1 : Int) := of_decide_eq_true (by first | (with_reducible assumption) | assumption)
        have q173 : x5_1 < (l0.length : Int) := of_decide_eq_true (by first | (with_reducible assumption) | assumption)
        obtain ⟨ad173, A173_0, c173_0, e173, hx173_0, hl173_0, hi173_0⟩ := at_L1 HR0.out x5_1 p173 q173
        cases e173
        have HR173_0 := Aside0.mk hi173_0
        have HC173_0 := Aside0.mk hl173_0
        clear hi173_0 hl173_0
        replace p173 := eq_true p173
        replace q173 := eq_true q173
        have p174 : 0 ≤ (x5_1 : Int) := of_decide_eq_true (by first | (with_reducible assumption) | assumption)
        have q174 : x5_1 < (l1.length : Int) := of_decide_eq_true (by first | (with_reducible assumption) | assumption)
        obtain ⟨ad174, A174_0, c174_0, e174, hx174_0, hl174_0, hi174_0⟩ := at_L1 HR1.out x5_1 p174 q174
        cases e174
        have HR174_0 := Aside0.mk hi174_0
        have HC174_0 := Aside0.mk hl174_0
        clear hi174_0 hl174_0
        replace p174 := eq_true p174
        replace q174 := eq_true q174
        go_wp2_with (first | (go_at_call 19; (with_reducible refine (swageref02_Ints.calls k1 _ _ (rd_L1 l0 x5_1) _ _ (rd_L1 l1 x5_1) true _ ?side1 ?side2 ?side3 ?side4 A7.out).mono ?_); (case side1 => repeat (first | exact HR173_0.out | (with_reducible refine Kd.C_alloc ?_ _) | (with_reducible refine Kd.C_drewN ?_ _) | (with_reducible refine Kd.C_drew ?_))); (case side2 => exact HC173_0.out); (case side3 => repeat (first | exact HR174_0.out | (with_reducible refine Kd.C_alloc ?_ _) | (with_reducible refine Kd.C_drewN ?_ _) | (with_reducible refine Kd.C_drew ?_))); (case side4 => exact HC174_0.out); rintro e w' ⟨rfl, ⟨nd, rfl⟩⟩; (try first | exact ⟨rfl, _, World.drewN_drewN _ _ _⟩ | exact ⟨rfl, _, Eq.trans (World.drewN_drewN _ _ _) (congrArg (World.drewN _) (Nat.add_assoc _ _ _))⟩)))
        repeat (go_quiet (first | (go_at_call 19; (with_reducible refine (swageref02_Ints.calls k1 _ _ (rd_L1 l0 x5_1) _ _ (rd_L1 l1 x5_1) true _ ?side1 ?side2 ?side3 ?side4 A7.out).mono ?_); (case side1 => repeat (first | exact HR173_0.out | (with_reducible refine Kd.C_alloc ?_ _) | (with_reducible refine Kd.C_drewN ?_ _) | (with_reducible refine Kd.C_drew ?_))); (case side2 => exact HC173_0.out); (case side3 => repeat (first | exact HR174_0.out | (with_reducible refine Kd.C_alloc ?_ _) | (with_reducible refine Kd.C_drewN ?_ _) | (with_reducible refine Kd.C_drew ?_))); (case side4 => exact HC174_0.out); rintro e w' ⟨rfl, ⟨nd, rfl⟩⟩; (try first | exact ⟨rfl, _, World.drewN_drewN _ _ _⟩ | exact ⟨rfl, _, Eq.trans (World.drewN_drewN _ _ _) (congrArg (World.drewN _) (Nat.add_assoc _ _ _))⟩))); try go_wp2_with (first | (go_at_call 19; (with_reducible refine (swageref02_Ints.calls k1 _ _ (rd_L1 l0 x5_1) _ _ (rd_L1 l1 x5_1) true _ ?side1 ?side2 ?side3 ?side4 A7.out).mono ?_); (case side1 => repeat (first | exact HR173_0.out | (with_reducible refine Kd.C_alloc ?_ _) | (with_reducible refine Kd.C_drewN ?_ _) | (with_reducible refine Kd.C_drew ?_))); (case side2 => exact HC173_0.out); (case side3 => repeat (first | exact HR174_0.out | (with_reducible refine Kd.C_alloc ?_ _) | (with_reducible refine Kd.C_drewN ?_ _) | (with_reducible refine Kd.C_drew ?_))); (case side4 => exact HC174_0.out); rintro e w' ⟨rfl, ⟨nd, rfl⟩⟩; (try first | exact ⟨rfl, _, World.drewN_drewN _ _ _⟩ | exact ⟨rfl, _, Eq.trans (World.drewN_drewN _ _ _) (congrArg (World.drewN _) (Nat.add_assoc _ _ _))⟩))))
        go_roundg k1
        case measure => have := HK1.out; omega
        case rel => exact ⟨(wrap64 (x5_1 + 1)), (by first | rfl | (simp; done) | (simp [*]; done)), H', ⟨by have := HK1.out; omega⟩, by repeat (first | exact Drawn0.refl _ | apply Drawn0.step)⟩
       ·replace c8 := Bool.eq_false_iff.mpr c8
        subst c8
        have H1 : (some false) = some r := by rw [if_neg (show ¬ (false = true) by decide)] at H; exact H
        clear H
        have H := H1
        clear H1
        obtain rfl := Option.some.inj H
        have p173 : 0 ≤ (x5_1 : Int) := of_decide_eq_true (by first | (with_reducible assumption) | assumption)
        have q173 : x5_1 < (l0.length : Int) := of_decide_eq_true (by first | (with_reducible assumption) | assumption)
        obtain ⟨ad173, A173_0, c173_0, e173, hx173_0, hl173_0, hi173_0⟩ := at_L1 HR0.out x5_1 p173 q173
        cases e173
        have HR173_0 := Aside0.mk hi173_0
        have HC173_0 := Aside0.mk hl173_0
        clear hi173_0 hl173_0
        replace p173 := eq_true p173
        replace q173 := eq_true q173
        have p174 : 0 ≤ (x5_1 : Int) := of_decide_eq_true (by first | (with_reducible assumption) | assumption)
        have q174 : x5_1 < (l1.length : Int) := of_decide_eq_true (by first | (with_reducible assumption) | assumption)
        obtain ⟨ad174, A174_0, c174_0, e174, hx174_0, hl174_0, hi174_0⟩ := at_L1 HR1.out x5_1 p174 q174
        cases e174
        have HR174_0 := Aside0.mk hi174_0
        have HC174_0 := Aside0.mk hl174_0
        clear hi174_0 hl174_0
        replace p174 := eq_true p174
        replace q174 := eq_true q174
        go_wp2_with (first | (go_at_call 19; (with_reducible refine (swageref02_Ints.calls k1 _ _ (rd_L1 l0 x5_1) _ _ (rd_L1 l1 x5_1) false _ ?side1 ?side2 ?side3 ?side4 A7.out).mono ?_); (case side1 => repeat (first | exact HR173_0.out | (with_reducible refine Kd.C_alloc ?_ _) | (with_reducible refine Kd.C_drewN ?_ _) | (with_reducible refine Kd.C_drew ?_))); (case side2 => exact HC173_0.out); (case side3 => repeat (first | exact HR174_0.out | (with_reducible refine Kd.C_alloc ?_ _) | (with_reducible refine Kd.C_drewN ?_ _) | (with_reducible refine Kd.C_drew ?_))); (case side4 => exact HC174_0.out); rintro e w' ⟨rfl, ⟨nd, rfl⟩⟩; (try first | exact ⟨rfl, _, World.drewN_drewN _ _ _⟩ | exact ⟨rfl, _, Eq.trans (World.drewN_drewN _ _ _) (congrArg (World.drewN _) (Nat.add_assoc _ _ _))⟩)))
        repeat (go_quiet (first | (go_at_call 19; (with_reducible refine (swageref02_Ints.calls k1 _ _ (rd_L1 l0 x5_1) _ _ (rd_L1 l1 x5_1) false _ ?side1 ?side2 ?side3 ?side4 A7.out).mono ?_); (case side1 => repeat (first | exact HR173_0.out | (with_reducible refine Kd.C_alloc ?_ _) | (with_reducible refine Kd.C_drewN ?_ _) | (with_reducible refine Kd.C_drew ?_))); (case side2 => exact HC173_0.out); (case side3 => repeat (first | exact HR174_0.out | (with_reducible refine Kd.C_alloc ?_ _) | (with_reducible refine Kd.C_drewN ?_ _) | (with_reducible refine Kd.C_drew ?_))); (case side4 => exact HC174_0.out); rintro e w' ⟨rfl, ⟨nd, rfl⟩⟩; (try first | exact ⟨rfl, _, World.drewN_drewN _ _ _⟩ | exact ⟨rfl, _, Eq.trans (World.drewN_drewN _ _ _) (congrArg (World.drewN _) (Nat.add_assoc _ _ _))⟩))); try go_wp2_with (first | (go_at_call 19; (with_reducible refine (swageref02_Ints.calls k1 _ _ (rd_L1 l0 x5_1) _ _ (rd_L1 l1 x5_1) false _ ?side1 ?side2 ?side3 ?side4 A7.out).mono ?_); (case side1 => repeat (first | exact HR173_0.out | (with_reducible refine Kd.C_alloc ?_ _) | (with_reducible refine Kd.C_drewN ?_ _) | (with_reducible refine Kd.C_drew ?_))); (case side2 => exact HC173_0.out); (case side3 => repeat (first | exact HR174_0.out | (with_reducible refine Kd.C_alloc ?_ _) | (with_reducible refine Kd.C_drewN ?_ _) | (with_reducible refine Kd.C_drew ?_))); (case side4 => exact HC174_0.out); rintro e w' ⟨rfl, ⟨nd, rfl⟩⟩; (try first | exact ⟨rfl, _, World.drewN_drewN _ _ _⟩ | exact ⟨rfl, _, Eq.trans (World.drewN_drewN _ _ _) (congrArg (World.drewN _) (Nat.add_assoc _ _ _))⟩))))
        go_ret
        exact ⟨by first | rfl | (simp; done) | (simp [*]; done), by repeat (first | exact Drawn0.refl _ | apply Drawn0.step)⟩
      ·rw [if_neg c6] at H
       exact absurd H (by simp)
     ·rw [if_neg c5] at H
      exact absurd H (by simp)
    ·rw [if_neg c4] at H
     have c4b0 : decide (x5_1 < (l0.length : Int)) = false := decide_eq_false c4
     clear c4
     obtain rfl := Option.some.inj H
     go_wp2
     repeat (go_quiet (fail); try go_wp2)
     go_ret
     exact ⟨by first | rfl | (simp; done) | (simp [*]; done), by repeat (first | exact Drawn0.refl _ | apply Drawn0.step)⟩
 ·rw [if_neg c3] at H
  have c3b0 : ((l0.length : Int) == (l1.length : Int)) = false := beq_eq_false_iff_ne.mpr c3
  have c3b1 : ((l0.length : Int) != (l1.length : Int)) = true := bne_iff_ne.mpr c3
  have c3b2 : (l0.length == l1.length) = false := by first | simpa using c3 | (simp at c3 ⊢; omega)
  obtain rfl := Option.some.inj H
  go_enter Try.func16, Try.ntmps16
  go_wp2
  repeat (go_quiet (fail); try go_wp2)
  go_ret
  exact ⟨by first | rfl | (simp; done) | (simp [*]; done), by repeat (first | exact Drawn0.refl _ | apply Drawn0.step)⟩
end Go.Proofs.Ytphmlkbmnmicpaa.A
namespace Go.Proofs.Ytphmlkbmnmicpaa.A
open Go.RowKit Go.Proofs.YtphmlkbmnmicpaaW.PrintWords Go.Proofs.YtphmlkbmnmicpaaW.PrintLast Go.Proofs.YtphmlkbmnmicpaaW.PrintMore
attribute [local go_sem] max2_int zBH max_two zBL zBB zBA zBI zBG   -- for this text's walks alone
def sched_Heights.f (k : Nat) (l0 : List (S37)) : Option (List Int) := (sched_Deps.f k l0).bind fun t176 => ((sched_heights.f l0 t176).bind fun t179 => (some t179))
set_option maxHeartbeats 8000000 in
set_option maxRecDepth 100000 in
theorem sched_Heights.calls (k : Nat) (A0 : Option Addr) (c0 : Nat) (l0 : List (S37)) (r : List Int) (w : World) (hr0 : Kd.C k37 w A0 l0.length l0) (hc0 : l0.length ≤ c0) (h : sched_Heights.f k l0 = some r) :
  Calls Try.prog 20 #[.slice A0 l0.length c0] w fun e w' => ∃ v0_ : Value, e = .returned (v0_) ∧ Kd.R (Kd.int .i64) 3 w' w.heap.size (fun _ => True) v0_ r ∧ Below w.heap.size w w' := by
 have HR0 := Aside0.mk hr0
 have HC0 := Aside0.mk hc0
 clear hr0 hc0
 have HB := Aside0.mk (Below.refl w.heap.size w)
 have H : ((sched_Deps.f k l0).bind fun t176 => ((sched_heights.f l0 t176).bind fun t179 => (some t179))) = some r := h
 clear h
 replace H := Option.bind_eq_some_iff.mp H
 obtain ⟨t176, A20, H⟩ := H
 replace H : ((sched_heights.f l0 t176).bind fun t179 => (some t179)) = some r := H
 have A2 := Aside0.mk A20
 clear A20
 replace H := Option.bind_eq_some_iff.mp H
 obtain ⟨t179, A30, H⟩ := H
 replace H : (some t179) = some r := H
 have A3 := Aside0.mk A30
 clear A30
 obtain rfl := Option.some.inj H
 go_enter Try.func20, Try.ntmps20
 go_wp2_with (first | ((with_reducible refine zAV (f := 17) rfl ?_); refine zBO (some 5) rfl rfl Try.func17 (by kernel_rfl) rfl #[.slice A0 l0.length c0] rfl (by (try simp only [List.map_toArray, List.map_cons, List.map_nil]); first | done | rfl | (simp only [List.length_drop, List.length_take]; rfl)) ?_; (with_reducible refine (sched_Deps.calls k _ _ l0 t176 _ ?side1 ?side2 A2.out).mono ?_); (case side1 => repeat (first | exact HR0.out | (with_reducible refine Kd.C_alloc ?_ _) | (with_reducible refine Kd.C_drewN ?_ _) | (with_reducible refine Kd.C_drew ?_))); (case side2 => exact HC0.out); rintro e w4 ⟨v177, rfl, ho0, hb⟩; refine ⟨_, rfl, ?_⟩; have n0_ := Aside0.mk (Kd.S_lower ho0 (zAM (by repeat (first | (with_reducible first | exact HB.out | apply zAC | apply zAA | apply zAD) | exact HB.out)))); have n1_ := Aside0.mk (zAL (by repeat (first | (with_reducible first | exact HB.out | apply zAC | apply zAA | apply zAD) | exact HB.out)) hb); clear HB; have HO178 := n0_; have HB := n1_; clear n0_ n1_; (try clear hb); (try clear hb2); (try clear hk); (try clear hi); (try clear ho0); obtain ⟨Ao5, co5, eo5⟩ := Kd.S_slice HO178.out; subst eo5) | ((with_reducible refine zAV (f := 34) rfl ?_); refine zBO (some 6) rfl rfl Try.func34 (by kernel_rfl) rfl #[.slice A0 l0.length c0, .slice Ao5 t176.length co5] rfl (by (try simp only [List.map_toArray, List.map_cons, List.map_nil]); first | done | rfl | (simp only [List.length_drop, List.length_take]; rfl)) ?_; (with_reducible refine (sched_heights.calls _ _ l0 _ _ t176 t179 _ ?side1 ?side2 ?side3 ?side4 A3.out).mono ?_); (case side1 => repeat (first | exact (Kd.C_below HR0.out HB.out) | (with_reducible refine Kd.C_alloc ?_ _) | (with_reducible refine Kd.C_drewN ?_ _) | (with_reducible refine Kd.C_drew ?_))); (case side2 => exact HC0.out); (case side3 => repeat (first | exact (Kd.S_reads' HO178.out).2.2 | (with_reducible refine Kd.C_alloc ?_ _) | (with_reducible refine Kd.C_drewN ?_ _) | (with_reducible refine Kd.C_drew ?_))); (case side4 => exact (Kd.S_reads' HO178.out).2.1); rintro e w6 ⟨v180, rfl, ho0, hb⟩; refine ⟨_, rfl, ?_⟩; have n0_ := Aside0.mk (Kd.S_elder' (by (with_reducible repeat (first | apply Kd.S_alloc | apply Kd.S_drewN | apply Kd.S_drew)); exact HO178.out) (Kd.R_base ho0) hb); have n1_ := Aside0.mk (Kd.R_lower ho0 (zAM (by repeat (first | (with_reducible first | exact HB.out | apply zAC | apply zAA | apply zAD) | exact HB.out)))); have n2_ := Aside0.mk (zAL (by repeat (first | (with_reducible first | exact HB.out | apply zAC | apply zAA | apply zAD) | exact HB.out)) hb); clear HO178; clear HB; have HO178 := n0_; have HO181 := n1_; have HB := n2_; clear n0_ n1_ n2_; (try clear hb); (try clear hb2); (try clear hk); (try clear hi); (try clear ho0)))
 go_ret
 exact ⟨_, by first | rfl | (simp [zAO, zAN] <;> rfl) | (simp [*, zAO, zAN] <;> rfl), by (with_reducible repeat (first | apply Kd.R_alloc | apply Kd.R_drewN | apply Kd.R_drew)); exact HO181.out, by repeat (first | (with_reducible first | exact HB.out | apply zAC | apply zAA | apply zAD) | exact HB.out)⟩
end Go.Proofs.Ytphmlkbmnmicpaa.A
namespace Go.Proofs.Ytphmlkbmnmicpaa.A
open Go.RowKit Go.Proofs.YtphmlkbmnmicpaaW.PrintWords Go.Proofs.YtphmlkbmnmicpaaW.PrintLast Go.Shelf
theorem R_new_lit {α : Type} (d : Kd α) (W : World) (base e : Nat) {xs : List α} {inner : List Value} {ok okp : Nat → Prop}
  (hrep : Reps (d.M W base okp) d.sz xs inner) (hok : ∀ k, okp k → ok k) (hfresh : ok W.heap.size) (hbase : base ≤ W.heap.size) (hm : xs.length ≤ 9223372036854775807) :
  d.R e (W.alloc (.cells inner.toArray e)) base ok (.slice (some ⟨W.heap.size, 0, none⟩) xs.length xs.length) xs := by
 refine ⟨fun k hk => ?_, inner, ?_, ?_⟩
 ·have : W.heap.size = k := by simpa [Value.ownBlock] using hk
  subst this
  exact hfresh
 ·have h2 := World.ownsRow_lit (base := base) (e := e) (size := d.sz) W inner.toArray xs.length hbase (by simpa [maxLen] using hm) (by simpa using hrep.1)
  simpa using h2
 ·refine hrep.imp_ (fun p c hp => d.M_mono (fun k hk => ⟨hok k hk.1, fun he => ?_⟩) (Kd.M_below (d.M_bound hp) (zAC (Below.refl _ _) _)))
  have : W.heap.size = k := by simpa [Value.ownBlock] using he.symm
  have := hk.2.2.1
  omega
def L3 : List S37 := [⟨1, 1, 0, 0, 0, []⟩, ⟨4, 2, 3, 0, 0, []⟩, ⟨2, 4, 1, 2, 1, []⟩]
def L3o : List S37 := [⟨4, 2, 3, 0, 0, []⟩, ⟨1, 1, 0, 0, 0, []⟩, ⟨2, 4, 1, 2, 1, []⟩]
theorem some_c (W : World) : Calls Try.prog 30 #[] W fun e w' => ∃ A c, e = .returned (.slice A 3 c) ∧ Kd.C k37 w' A 3 L3 ∧ 3 ≤ c ∧ Below W.heap.size W w' :=
 (swagelaw27_some.calls _ W rfl).mono fun e w' ⟨v, he, hS, hb⟩ => by
  obtain ⟨A, c, rfl, h1, h2⟩ := Kd.S_reads hS
  exact ⟨A, c, he, h2, h1, hb⟩
theorem few3 : Few L3 := by decide
theorem order3 : sched_Order.f L3 = some [1, 0, 2] := by
 unfold sched_Order.f; rw [if_pos few3]; decide +kernel
theorem block3 : sched_Block.f L3 0 0 0 0 = some (L3o, 0, 0, 0, 0) := by
 unfold sched_Block.f; rw [if_pos few3, show zCG L3 = [1, 0, 2] by decide +kernel]; rfl
theorem may3a : sched_May.f L3 [0, 1, 2] = some true := by
 unfold sched_May.f; rw [if_pos few3]; decide +kernel
theorem may3b : sched_May.f L3 [0, 2, 1] = some false := by
 unfold sched_May.f; rw [if_pos few3]; decide +kernel
theorem deps3 : zAX L3 = [[], [], [0, 1]] := by decide +kernel
theorem cost3 : sched_Cost.f 60 L3 = some 5 := by decide +kernel
theorem fheights3 : sched_Heights.f 60 L3 = some [2, 4, 1] := by decide +kernel
theorem ints3 (xs : List Int) (h : xs.length = 3) : ∃ k, swageref02_Ints.f k xs xs = some true := by
 rcases xs with _ | ⟨a, _ | ⟨b, _ | ⟨c, _ | ⟨d, xs⟩⟩⟩⟩ <;> simp at h
 exact ⟨10, by simp [swageref02_Ints.f, swageref02_Ints.l0, wrap64]⟩
theorem rows3 : swageref06_Rows.f 30 [[], [], [0, 1]] [[], [], [0, 1]] = some true := by decide +kernel
theorem block_c (A : Option Addr) (c : Nat) (W : World) (h : Kd.C k37 W A 3 L3) (hc : 3 ≤ c) : Calls Try.prog 11 #[.agg #[.slice A 3 c, .int .i64 0, .int .i64 0, .int .i64 0, .int .i64 0]] W fun e w' =>
  ∃ A c, e = .returned (.agg #[.slice A 3 c, .int .i64 0, .int .i64 0, .int .i64 0, .int .i64 0]) ∧ Kd.C k37 w' A 3 L3o ∧ 3 ≤ c ∧ Below W.heap.size W w' :=
 (sched_Block.calls A c L3 0 0 0 0 _ _ _ _ _ W h hc block3).mono fun e w' ⟨v, he, hS, hb⟩ => by
  obtain ⟨A, c, rfl, h1, h2⟩ := Kd.S_reads hS
  exact ⟨A, c, he, h2, h1, hb⟩
theorem order_c (A : Option Addr) (c : Nat) (W : World) (h : Kd.C k37 W A 3 L3) (hc : 3 ≤ c) : Calls Try.prog 22 #[.slice A 3 c] W fun e w' =>
  ∃ A c, e = .returned (.slice A 3 c) ∧ Kd.C (Kd.int .i64) w' A 3 [1, 0, 2] ∧ 3 ≤ c ∧ Below W.heap.size W w' :=
 (sched_Order.calls A c L3 _ W h hc order3).mono fun e w' ⟨v, he, hS, hb⟩ => by
  obtain ⟨A, c, rfl, h1, h2⟩ := Kd.R_reads hS
  exact ⟨A, c, he, h2, h1, hb⟩
theorem heights_c (A : Option Addr) (c : Nat) (W : World) (h : Kd.C k37 W A 3 L3) (hc : 3 ≤ c) : Calls Try.prog 20 #[.slice A 3 c] W fun e w' =>
  ∃ A c, e = .returned (.slice A 3 c) ∧ Kd.C (Kd.int .i64) w' A 3 [2, 4, 1] ∧ 3 ≤ c ∧ Below W.heap.size W w' :=
 (sched_Heights.calls 60 A c L3 _ W h hc fheights3).mono fun e w' ⟨v, he, hS, hb⟩ => by
  obtain ⟨A, c, rfl, h1, h2⟩ := Kd.R_reads hS
  exact ⟨A, c, he, h2, h1, hb⟩
theorem deps_c (A : Option Addr) (c : Nat) (W : World) (h : Kd.C k37 W A 3 L3) (hc : 3 ≤ c) : Calls Try.prog 17 #[.slice A 3 c] W fun e w' =>
  ∃ A c, e = .returned (.slice A 3 c) ∧ Kd.C (Kd.slice 3 (Kd.int .i64)) w' A 3 [[], [], [0, 1]] ∧ 3 ≤ c ∧ Below W.heap.size W w' :=
 (deps_calls L3 few3.1 few3.2 A c W h hc).mono fun e w' ⟨v, he, hS, hb⟩ => by
  obtain ⟨A, c, rfl, h1, h2⟩ := Kd.S_reads hS
  rw [deps3] at he h1 h2
  exact ⟨A, c, he, h2, h1, hb⟩
theorem ints_c (xs : List Int) (A B : Option Addr) (c b : Nat) (W : World) (h : Kd.C (Kd.int .i64) W A 3 xs) (hc : 3 ≤ c) (h' : Kd.C (Kd.int .i64) W B 3 xs) (hb : 3 ≤ b) : Calls Try.prog 19 #[.slice A 3 c, .slice B 3 b] W fun e w' =>
  e = .returned (.bool true) ∧ Drawn0 W w' := by
 have hl := Kd.C_len h
 obtain ⟨k, hk⟩ := ints3 xs hl
 have := swageref02_Ints.calls k A c xs B b xs true W (by rw [hl]; exact h) (by omega) (by rw [hl]; exact h') (by omega) hk
 rwa [hl] at this
theorem int_lit_c (a b c : Int) (W : World) : Kd.C (Kd.int .i64) (W.alloc (.cells #[.int .i64 a, .int .i64 b, .int .i64 c] 3)) (some ⟨W.heap.size, 0, none⟩) 3 [a, b, c] :=
 (Kd.R_reads' (R_new_lit (Kd.int .i64) W W.heap.size 3 (xs := [a, b, c]) (inner := [.int .i64 a, .int .i64 b, .int .i64 c]) (ok := fun _ => True) (okp := fun _ => True) (Kd.reps_scalar [a, b, c]) (fun _ h => h) trivial (Nat.le_refl _) (by simp))).2.2
theorem int_lit2 (a b : Int) (W : World) (base : Nat) (hb : base ≤ W.heap.size) : Kd.R (Kd.int .i64) 3 (W.alloc (.cells #[.int .i64 a, .int .i64 b] 3)) base (fun _ => True) (.slice (some ⟨W.heap.size, 0, none⟩) 2 2) [a, b] :=
 R_new_lit (Kd.int .i64) W base 3 (xs := [a, b]) (inner := [.int .i64 a, .int .i64 b]) (ok := fun _ => True) (okp := fun _ => True) (Kd.reps_scalar [a, b]) (fun _ h => h) trivial hb (by simp)
theorem rows_lit (W : World) : Kd.C (Kd.slice 3 (Kd.int .i64)) ((W.alloc (.cells #[.int .i64 0, .int .i64 1] 3)).alloc (.cells #[.slice none 0 0, .slice none 0 0, .slice (some ⟨W.heap.size, 0, none⟩) 2 2] 23)) (some ⟨W.heap.size + 1, 0, none⟩) 3 [[], [], [0, 1]] := by
 have h := (Kd.R_reads' (R_new_lit (Kd.slice 3 (Kd.int .i64)) (W.alloc (.cells #[.int .i64 0, .int .i64 1] 3)) W.heap.size 23 (xs := [[], [], [0, 1]]) (inner := [.slice none 0 0, .slice none 0 0, .slice (some ⟨W.heap.size, 0, none⟩) 2 2]) (ok := fun _ => True) (okp := fun _ => True)
  (Reps.one ⟨_, rfl, Kd.R_nil _ _ _ _ _⟩ (Reps.one ⟨_, rfl, Kd.R_nil _ _ _ _ _⟩ (Reps.one ⟨_, rfl, int_lit2 0 1 W _ (Nat.le_refl _)⟩ (Reps.none _ _)))) (fun _ h => h) trivial (by simp) (by simp))).2.2
 rw [World.size_alloc] at h
 exact h
theorem rows_c (A : Option Addr) (c : Nat) (W : World) (h : Kd.C (Kd.slice 3 (Kd.int .i64)) W A 3 [[], [], [0, 1]]) (hc : 3 ≤ c) :
  Calls Try.prog 16 #[.slice A 3 c, .slice (some ⟨W.heap.size + 1, 0, none⟩) 3 3] ((W.alloc (.cells #[.int .i64 0, .int .i64 1] 3)).alloc (.cells #[.slice none 0 0, .slice none 0 0, .slice (some ⟨W.heap.size, 0, none⟩) 2 2] 23)) fun e w' =>
   e = .returned (.bool true) ∧ Below W.heap.size W w' := by
 have hr := rows_lit W
 have hB : Below W.heap.size W ((W.alloc (.cells #[.int .i64 0, .int .i64 1] 3)).alloc (.cells #[.slice none 0 0, .slice none 0 0, .slice (some ⟨W.heap.size, 0, none⟩) 2 2] 23)) := zAC (zAC (Below.refl _ _) _) _
 replace h := Kd.C_below h hB
 generalize ((W.alloc (.cells #[.int .i64 0, .int .i64 1] 3)).alloc (.cells #[.slice none 0 0, .slice none 0 0, .slice (some ⟨W.heap.size, 0, none⟩) 2 2] 23)) = W1 at *
 exact (swageref06_Rows.calls 30 A c [[], [], [0, 1]] (some ⟨W.heap.size + 1, 0, none⟩) 3 [[], [], [0, 1]] true W1 h hc hr (Nat.le_refl _) rows3).mono fun e w' ⟨he, hD⟩ => ⟨he, zBW hB hB.size hD.below⟩
structure SI (w : World) (g : Nat) (A : Option Addr) (c : Nat) (W : World) : Prop where
 hb : W.heap[g]? = some (.cells #[.slice A 3 c, .int .i64 0, .int .i64 0, .int .i64 0, .int .i64 0] 29 (0, 0))
 hC : Kd.C k37 W A 3 L3o
 hB : Below w.heap.size w W
theorem SI.below {w W W1 : World} {g : Nat} {A : Option Addr} {c : Nat} (h : SI w g A c W) (hb : Below W.heap.size W W1) : SI w g A c W1 :=
 ⟨(hb.block _ (zBE h.hb)).trans h.hb, Kd.C_below h.hC hb, zBW h.hB h.hB.size hb⟩
theorem SI.alloc {w W : World} {g : Nat} {A : Option Addr} {c : Nat} (h : SI w g A c W) (o : Obj) : SI w g A c (W.alloc o) := h.below (zAC (Below.refl _ _) o)
theorem SI.cell {w W : World} {g : Nat} {A : Option Addr} {c : Nat} (h : SI w g A c W) : W.cell? ⟨g, 0, none⟩ = some (.slice A 3 c) := (zAE h.hb 0).trans rfl
theorem C_alloc' {α : Type} {d : Kd α} {W : World} {A : Option Addr} {n : Nat} {xs : List α} (h : Kd.C d W A n xs) (o : Obj) : Kd.C d (W.alloc o) A n xs := Kd.C_below h (zAC (Below.refl _ _) o)
theorem may_c (o : List Int) (ho : o.length = 3) (b : Bool) (hm : sched_May.f L3 o = some b) (A B : Option Addr) (c c' : Nat) (W : World) (h : Kd.C k37 W A 3 L3) (hc : 3 ≤ c) (h' : Kd.C (Kd.int .i64) W B 3 o) (hc' : 3 ≤ c') : Calls Try.prog 24 #[.slice A 3 c, .slice B 3 c'] W fun e w' =>
  e = .returned (.bool b) ∧ Below W.heap.size W w' := by
 have := sched_May.calls A c L3 B c' o b W h hc (by rw [ho]; exact h') (by omega) hm
 rwa [ho] at this
set_option maxRecDepth 100000 in
set_option maxHeartbeats 4000000 in
theorem small_calls (w : World) : Calls Try.prog 8 #[] w fun e w' => e = .returned (.bool true) ∧ Below w.heap.size w w' := by
 have hu29 := Try.underlying29
 have hu37 := Try.underlying37
 go_enter Try.func8, Try.ntmps8
 go_wp2_with fail
 refine (some_c w).mono ?_
 rintro e w1 ⟨A1, c1, rfl, hC1, hl1, hB1⟩
 go_wp2_with fail
 refine (block_c A1 c1 w1 hC1 hl1).mono ?_
 rintro e w2 ⟨A2, c2, rfl, hC2, hl2, hB2⟩
 have hB2' := zBW hB1 hB1.size hB2
 clear hC1 hl1 hB1 hB2
 go_wp2_with fail
 have hI : SI w w2.heap.size A2 c2 (w2.alloc (.cells #[.slice A2 3 c2, .int .i64 0, .int .i64 0, .int .i64 0, .int .i64 0] 29)) := ⟨World.alloc_heap_new w2 _, C_alloc' hC2 _, zAC hB2' _⟩
 clear hC2 hl2 hB2'
 generalize w2.alloc (.cells #[.slice A2 3 c2, .int .i64 0, .int .i64 0, .int .i64 0, .int .i64 0] 29) = w3 at hI ⊢
 generalize w2.heap.size = g at hI ⊢
 refine (some_c w3).mono ?_
 rintro e w4 ⟨A4, c4, rfl, hC4, hl4, hB4⟩
 replace hI := hI.below hB4
 go_wp2_with fail
 refine (order_c A4 c4 w4 hC4 hl4).mono ?_
 rintro e w5 ⟨A5, c5, rfl, hC5, hl5, hB5⟩
 replace hI := hI.below hB5
 clear hC4 hB4 hB5
 go_wp2_with fail
 refine (ints_c [1, 0, 2] _ _ _ _ _ (C_alloc' hC5 _) hl5 (int_lit_c 1 0 2 w5) (by omega)).mono ?_
 rintro e w6 ⟨rfl, hD⟩
 replace hI := (hI.alloc _).below hD.below
 clear hC5 hD
 go_wp2_with fail
 refine (some_c w6).mono ?_
 rintro e w7 ⟨A7, c7, rfl, hC7, hl7, hB7⟩
 replace hI := hI.below hB7
 go_wp2_with fail
 refine (deps_c A7 c7 w7 hC7 hl7).mono ?_
 rintro e w8 ⟨A8, c8, rfl, hC8, hl8, hB8⟩
 replace hI := hI.below hB8
 clear hC7 hB7 hB8
 go_wp2_with fail
 refine (rows_c A8 c8 w8 hC8 hl8).mono ?_
 rintro e w9 ⟨rfl, hD⟩
 replace hI := hI.below hD
 clear hC8 hD
 go_wp2_with fail
 refine (some_c w9).mono ?_
 rintro e w10 ⟨A10, c10, rfl, hC10, hl10, hB10⟩
 replace hI := hI.below hB10
 go_wp2_with fail
 refine (heights_c A10 c10 w10 hC10 hl10).mono ?_
 rintro e w11 ⟨A11, c11, rfl, hC11, hl11, hB11⟩
 replace hI := hI.below hB11
 clear hC10 hB10 hB11
 go_wp2_with fail
 refine (ints_c [2, 4, 1] _ _ _ _ _ (C_alloc' hC11 _) hl11 (int_lit_c 2 4 1 w11) (by omega)).mono ?_
 rintro e w12 ⟨rfl, hD⟩
 replace hI := (hI.alloc _).below hD.below
 clear hC11 hD
 have hc := hI.cell
 obtain ⟨ld, A5', c5', e5, q0, q1, q2, q3, q4, q5, q6, q7⟩ := zBT hI.hC 0 (by omega) (by omega)
 subst e5
 rw [show ld.add ((0 : Int).toNat * 6) = ld by rfl] at q0
 replace q0 : w12.cell? ld = some (.int .i64 4) := q0
 clear q1 q2 q3 q4 q5 q6 q7
 go_wp2_with fail
 refine (some_c w12).mono ?_
 rintro e w13 ⟨A13, c13, rfl, hC13, hl13, hB13⟩
 clear hc q0
 replace hI := hI.below hB13
 go_wp2_with fail
 refine (may_c [0, 1, 2] rfl true may3a _ _ _ _ _ (C_alloc' hC13 _) hl13 (int_lit_c 0 1 2 w13) (by omega)).mono ?_
 rintro e w14 ⟨rfl, hB14⟩
 replace hI := (hI.alloc _).below hB14
 clear hC13 hB13 hB14
 go_wp2_with fail
 refine (some_c w14).mono ?_
 rintro e w15 ⟨A15, c15, rfl, hC15, hl15, hB15⟩
 replace hI := hI.below hB15
 go_wp2_with fail
 refine (may_c [0, 2, 1] rfl false may3b _ _ _ _ _ (C_alloc' hC15 _) hl15 (int_lit_c 0 2 1 w15) (by omega)).mono ?_
 rintro e w16 ⟨rfl, hB16⟩
 replace hI := (hI.alloc _).below hB16
 clear hC15 hB15 hB16
 go_wp2_with fail
 refine (some_c w16).mono ?_
 rintro e w17 ⟨A17, c17, rfl, hC17, hl17, hB17⟩
 replace hI := hI.below hB17
 go_wp2_with fail
 refine (sched_Cost.calls 60 A17 c17 L3 5 w17 hC17 hl17 cost3).mono ?_
 rintro e w18 ⟨rfl, hB18⟩
 replace hI := hI.below hB18
 clear hC17 hB17 hB18
 go_wp2_with fail
 refine (some_c w18).mono ?_
 rintro e w19 ⟨A19, c19, rfl, hC19, hl19, hB19⟩
 replace hI := hI.below hB19
 obtain ⟨le, A6', c6', e6, q0, q1, q2, q3, q4, q5, q6, q7⟩ := zBT hC19 1 (by omega) (by omega)
 subst e6
 have q0a : w19.cell? ⟨le.block, le.off + 6, none⟩ = some (.int .i64 4) := q0
 replace q0 : w19.cell? (le.add 6) = some (.int .i64 4) := q0
 replace q1 : w19.cell? ⟨le.block, le.off + 6 + 1, none⟩ = some (.int .i64 2) := q1
 replace q2 : w19.cell? ⟨le.block, le.off + 6 + 2, none⟩ = some (.int .i64 3) := q2
 replace q3 : w19.cell? ⟨le.block, le.off + 6 + 3, none⟩ = some (.int .i64 0) := q3
 replace q4 : w19.cell? ⟨le.block, le.off + 6 + 4, none⟩ = some (.int .i64 0) := q4
 replace q5 : w19.cell? ⟨le.block, le.off + 6 + 5, none⟩ = some (.slice A6' 0 c6') := q5
 go_wp2_with fail
 refine (lat_calls (zAF L3 1) A6' c6' w19 q7 q6).mono ?_
 rintro e w20 ⟨rfl, hB20⟩
 replace hI := hI.below hB20
 rw [show latOf (zAF L3 1) = 3 by rfl]
 clear q0 q1 q2 q3 q4 q5 q6 q7 hC19 hB19 hB20
 go_wp2_with fail
 go_ret
 exact ⟨rfl, hI.hB⟩
end Go.Proofs.Ytphmlkbmnmicpaa.A
namespace Go.Proofs.Ytphmlkbmnmicpaa.A
open Go.RowKit Go.Proofs.YtphmlkbmnmicpaaW.PrintWords Go.Proofs.YtphmlkbmnmicpaaW.PrintLast Go.Proofs.YtphmlkbmnmicpaaW.PrintMore
attribute [local go_sem] max2_int zBH max_two zBL zBB zBA zBI zBG   -- for this text's walks alone
mutual
def swagelaw27_few.l0 : Nat → List (S37) → Int → Option (Bool)
 | 0, _, _ => none
 | k + 1, x0, x3 => if x3 < (x0.length : Int) then (swagelaw27_few.j1 k x0 x3 (decide (x3 < 100))) else (swagelaw27_few.j1 k x0 x3 false)
def swagelaw27_few.j1 : Nat → List (S37) → Int → Bool → Option (Bool)
 | 0, _, _, _ => none
 | k + 1, x0, x3, x11 => if x11 = true then (if 0 ≤ x3 then (if x3 < (x0.length : Int) then (if (((zAF x0 x3).f5).length : Int) > 20 then (some false) else (swagelaw27_few.l0 k x0 (wrap64 (x3 + 1)))) else (none)) else (none)) else (some (decide ((x0.length : Int) ≤ 60)))
end
def swagelaw27_few.f (k : Nat) (l0 : List (S37)) : Option (Bool) := swagelaw27_few.l0 k l0 0
set_option maxHeartbeats 8000000 in
set_option maxRecDepth 100000 in
theorem swagelaw27_few.calls (k : Nat) (A0 : Option Addr) (c0 : Nat) (l0 : List (S37)) (r : Bool) (w : World) (hr0 : Kd.C k37 w A0 l0.length l0) (hc0 : l0.length ≤ c0) (h : swagelaw27_few.f k l0 = some r) :
  Calls Try.prog 9 #[.slice A0 l0.length c0] w fun e w' => e = .returned (.bool r) ∧ Drawn0 w w' := by
 have HR0 := Aside0.mk hr0
 have HC0 := Aside0.mk hc0
 clear hr0 hc0
 have H : (swagelaw27_few.l0 k l0 0) = some r := h
 clear h
 have H' := Aside0.mk H
 clear H
 go_enter Try.func9, Try.ntmps9
 go_wp2
 go_loopg [3] k (fun kq v3 w' => ∃ (x3_1 : Int), v3 = .int .i64 x3_1 ∧ Aside0 (swagelaw27_few.l0 kq l0 x3_1 = some r) ∧ Aside0 (kq ≤ k) ∧ Drawn0 w w')
 case atStart => exact ⟨(0), (by first | rfl | (simp; done) | (simp [*]; done)), H', ⟨Nat.le_refl _⟩, by repeat (first | exact Drawn0.refl _ | apply Drawn0.step)⟩
 case round =>
  clear H'
  obtain ⟨x3_1, rfl, HA, HK1, ⟨m1, rfl⟩⟩ := hrel
  cases gk with
  | zero => exact absurd HA.out (by simp [swagelaw27_few.l0])
  | succ k1 =>
   have H := HA.out
   clear HA
   simp only [swagelaw27_few.l0] at H
   have HC2 := Aside0.mk H
   clear H
   go_upto_region 2 with (fail)
   go_cut [11] (fun v11 wc => ∃ (kq : Nat) (x11_1 : Bool), v11 = .bool x11_1 ∧ Aside0 (swagelaw27_few.j1 kq l0 x3_1 x11_1 = some r) ∧ Aside0 (kq ≤ k1) ∧ Drawn0 w wc)
   case first =>
    have H := HC2.out
    clear HC2
    by_cases c3 : x3_1 < (l0.length : Int)
    ·rw [if_pos c3] at H
     have c3b0 : decide (x3_1 < (l0.length : Int)) = true := decide_eq_true c3
     clear c3
     (first | rw [c3b0] | (simp only [i64_w, i32_w]; rw [c3b0]) | skip)
     have H' := Aside0.mk H
     clear H
     go_wp2
     go_meet
     case rel => exact ⟨_, (decide (x3_1 < 100)), (by first | rfl | (simp; done) | (simp [*]; done)), H', ⟨by have := HK1.out; first | omega | exact Nat.le_refl _⟩, by repeat (first | exact Drawn0.refl _ | apply Drawn0.step)⟩
    ·rw [if_neg c3] at H
     have c3b0 : decide (x3_1 < (l0.length : Int)) = false := decide_eq_false c3
     clear c3
     (first | rw [c3b0] | (simp only [i64_w, i32_w]; rw [c3b0]) | skip)
     have H' := Aside0.mk H
     clear H
     go_wp2
     go_meet
     case rel => exact ⟨_, (false), (by first | rfl | (simp; done) | (simp [*]; done)), H', ⟨by have := HK1.out; first | omega | exact Nat.le_refl _⟩, by repeat (first | exact Drawn0.refl _ | apply Drawn0.step)⟩
   case rest =>
    clear HC2
    (try clear p2); (try clear c3); (try clear c3b0)
    obtain ⟨kq, x11_1, rfl, HA, HJ1, ⟨mc1, rfl⟩⟩ := hcut
    cases kq with
    | zero => exact absurd HA.out (by simp [swagelaw27_few.j1])
    | succ kj1 =>
     have H := HA.out
     clear HA
     simp only [swagelaw27_few.j1] at H
     by_cases c4 : x11_1 = true
     ·subst c4
      have H1 : (if 0 ≤ x3_1 then (if x3_1 < (l0.length : Int) then (if (((zAF l0 x3_1).f5).length : Int) > 20 then (some false) else (swagelaw27_few.l0 kj1 l0 (wrap64 (x3_1 + 1)))) else (none)) else (none)) = some r := by rw [if_pos rfl] at H; exact H
      clear H
      have H := H1
      clear H1
      by_cases c5 : 0 ≤ x3_1
      ·rw [if_pos c5] at H
       have c5b0 : decide (0 ≤ x3_1) = true := decide_eq_true c5
       clear c5
       by_cases c6 : x3_1 < (l0.length : Int)
       ·rw [if_pos c6] at H
        have c6b0 : decide (x3_1 < (l0.length : Int)) = true := decide_eq_true c6
        clear c6
        by_cases c7 : (((zAF l0 x3_1).f5).length : Int) > 20
        ·rw [if_pos c7] at H
         have c7b0 : decide (20 < (((zAF l0 x3_1).f5).length : Int)) = true := decide_eq_true c7
         have c7b1 : decide (20 < ((zAF l0 x3_1).f5).length) = true := decide_eq_true (by omega)
         clear c7
         obtain rfl := Option.some.inj H
         have p202 : 0 ≤ (x3_1 : Int) := of_decide_eq_true (by first | (with_reducible assumption) | assumption)
         have q202 : x3_1 < (l0.length : Int) := of_decide_eq_true (by first | (with_reducible assumption) | assumption)
         obtain ⟨ad202, A202_5, c202_5, e202, hx202_0, hx202_1, hx202_2, hx202_3, hx202_4, hx202_5, hl202_5, hi202_5⟩ := zBT HR0.out x3_1 p202 q202
         cases e202
         have HR202_5 := Aside0.mk hi202_5
         have HC202_5 := Aside0.mk hl202_5
         clear hi202_5 hl202_5
         replace p202 := eq_true p202
         replace q202 := eq_true q202
         go_wp2
         go_ret
         exact ⟨by first | rfl | (simp; done) | (simp [*]; done), by repeat (first | exact Drawn0.refl _ | apply Drawn0.step)⟩
        ·rw [if_neg c7] at H
         have c7b0 : decide (20 < (((zAF l0 x3_1).f5).length : Int)) = false := decide_eq_false c7
         have c7b1 : decide (20 < ((zAF l0 x3_1).f5).length) = false := decide_eq_false (by omega)
         clear c7
         have H' := Aside0.mk H
         clear H
         have p202 : 0 ≤ (x3_1 : Int) := of_decide_eq_true (by first | (with_reducible assumption) | assumption)
         have q202 : x3_1 < (l0.length : Int) := of_decide_eq_true (by first | (with_reducible assumption) | assumption)
         obtain ⟨ad202, A202_5, c202_5, e202, hx202_0, hx202_1, hx202_2, hx202_3, hx202_4, hx202_5, hl202_5, hi202_5⟩ := zBT HR0.out x3_1 p202 q202
         cases e202
         have HR202_5 := Aside0.mk hi202_5
         have HC202_5 := Aside0.mk hl202_5
         clear hi202_5 hl202_5
         replace p202 := eq_true p202
         replace q202 := eq_true q202
         go_wp2
         go_roundg kj1
         case measure => have := HK1.out; have := HJ1.out; omega
         case rel => exact ⟨(wrap64 (x3_1 + 1)), (by first | rfl | (simp; done) | (simp [*]; done)), H', ⟨by have := HK1.out; have := HJ1.out; omega⟩, by repeat (first | exact Drawn0.refl _ | apply Drawn0.step)⟩
       ·rw [if_neg c6] at H
        exact absurd H (by simp)
      ·rw [if_neg c5] at H
       exact absurd H (by simp)
     ·replace c4 := Bool.eq_false_iff.mpr c4
      subst c4
      have H1 : (some (decide ((l0.length : Int) ≤ 60))) = some r := by rw [if_neg (show ¬ (false = true) by decide)] at H; exact H
      clear H
      have H := H1
      clear H1
      obtain rfl := Option.some.inj H
      go_wp2
      go_ret
      exact ⟨by first | rfl | (simp; done) | (simp [*]; done), by repeat (first | exact Drawn0.refl _ | apply Drawn0.step)⟩
end Go.Proofs.Ytphmlkbmnmicpaa.A
namespace Go.Proofs.Ytphmlkbmnmicpaa.A
open Go.RowKit Go.Proofs.YtphmlkbmnmicpaaW.PrintWords Go.Proofs.YtphmlkbmnmicpaaW.PrintLast Go.Proofs.YtphmlkbmnmicpaaW.PrintMore
attribute [local go_sem] max2_int zBH max_two zBL zBB zBA zBI zBG   -- for this text's walks alone
def swageref14_SameOp.f (k : Nat) (a0_0 : Int) (a0_1 : Int) (a0_2 : Int) (a0_3 : Int) (a0_4 : Int) (l0_5 : List Int) (a1_0 : Int) (a1_1 : Int) (a1_2 : Int) (a1_3 : Int) (a1_4 : Int) (l1_5 : List Int) : Option (Bool) := (swageref02_Ints.f k l0_5 l1_5).bind fun t226 => (if t226 = true then (if a0_0 = a1_0 then (if a0_1 = a1_1 then (if a0_2 = a1_2 then (if a0_3 = a1_3 then (some (a0_4 == a1_4)) else (some false)) else (some false)) else (some false)) else (some false)) else (some false))
set_option maxHeartbeats 8000000 in
set_option maxRecDepth 100000 in
theorem swageref14_SameOp.calls (k : Nat) (a0_0 : Int) (a0_1 : Int) (a0_2 : Int) (a0_3 : Int) (a0_4 : Int) (A0_5 : Option Addr) (c0_5 : Nat) (l0_5 : List Int) (a1_0 : Int) (a1_1 : Int) (a1_2 : Int) (a1_3 : Int) (a1_4 : Int) (A1_5 : Option Addr) (c1_5 : Nat) (l1_5 : List Int) (r : Bool) (w : World) (hr0_5 : Kd.C (Kd.int .i64) w A0_5 l0_5.length l0_5) (hc0_5 : l0_5.length ≤ c0_5) (hr1_5 : Kd.C (Kd.int .i64) w A1_5 l1_5.length l1_5) (hc1_5 : l1_5.length ≤ c1_5) (h : swageref14_SameOp.f k a0_0 a0_1 a0_2 a0_3 a0_4 l0_5 a1_0 a1_1 a1_2 a1_3 a1_4 l1_5 = some r) :
  Calls Try.prog 29 #[.agg #[.int .i64 a0_0, .int .i64 a0_1, .int .i64 a0_2, .int .i64 a0_3, .int .i64 a0_4, .slice A0_5 l0_5.length c0_5], .agg #[.int .i64 a1_0, .int .i64 a1_1, .int .i64 a1_2, .int .i64 a1_3, .int .i64 a1_4, .slice A1_5 l1_5.length c1_5]] w fun e w' => e = .returned (.bool r) ∧ Below w.heap.size w w' := by
 have hu37 := Try.underlying37
 have HR0_5 := Aside0.mk hr0_5
 have HC0_5 := Aside0.mk hc0_5
 clear hr0_5 hc0_5
 have HR1_5 := Aside0.mk hr1_5
 have HC1_5 := Aside0.mk hc1_5
 clear hr1_5 hc1_5
 have HB := Aside0.mk (Below.refl w.heap.size w)
 have H : ((swageref02_Ints.f k l0_5 l1_5).bind fun t226 => (if t226 = true then (if a0_0 = a1_0 then (if a0_1 = a1_1 then (if a0_2 = a1_2 then (if a0_3 = a1_3 then (some (a0_4 == a1_4)) else (some false)) else (some false)) else (some false)) else (some false)) else (some false))) = some r := h
 clear h
 replace H := Option.bind_eq_some_iff.mp H
 obtain ⟨t226, A30, H⟩ := H
 replace H : (if t226 = true then (if a0_0 = a1_0 then (if a0_1 = a1_1 then (if a0_2 = a1_2 then (if a0_3 = a1_3 then (some (a0_4 == a1_4)) else (some false)) else (some false)) else (some false)) else (some false)) else (some false)) = some r := H
 have A3 := Aside0.mk A30
 clear A30
 by_cases c4 : t226 = true
 ·subst c4
  have H1 : (if a0_0 = a1_0 then (if a0_1 = a1_1 then (if a0_2 = a1_2 then (if a0_3 = a1_3 then (some (a0_4 == a1_4)) else (some false)) else (some false)) else (some false)) else (some false)) = some r := by rw [if_pos rfl] at H; exact H
  clear H
  have H := H1
  clear H1
  by_cases c5 : a0_0 = a1_0
  ·rw [if_pos c5] at H
   have c5b0 : (a0_0 == a1_0) = true := beq_iff_eq.mpr c5
   have c5b1 : (a0_0 != a1_0) = false := bne_eq_false_iff_eq.mpr c5
   clear c5
   by_cases c6 : a0_1 = a1_1
   ·rw [if_pos c6] at H
    have c6b0 : (a0_1 == a1_1) = true := beq_iff_eq.mpr c6
    have c6b1 : (a0_1 != a1_1) = false := bne_eq_false_iff_eq.mpr c6
    clear c6
    by_cases c7 : a0_2 = a1_2
    ·rw [if_pos c7] at H
     have c7b0 : (a0_2 == a1_2) = true := beq_iff_eq.mpr c7
     have c7b1 : (a0_2 != a1_2) = false := bne_eq_false_iff_eq.mpr c7
     clear c7
     by_cases c8 : a0_3 = a1_3
     ·rw [if_pos c8] at H
      have c8b0 : (a0_3 == a1_3) = true := beq_iff_eq.mpr c8
      have c8b1 : (a0_3 != a1_3) = false := bne_eq_false_iff_eq.mpr c8
      clear c8
      obtain rfl := Option.some.inj H
      go_enter Try.func29, Try.ntmps29
      go_wp2_with (first | ((with_reducible refine zAU (N := 2) rfl ?_); refine zAT ?hg (N := 2) ?hd (cs := #[.int .i64 a0_0, .int .i64 a0_1, .int .i64 a0_2, .int .i64 a0_3, .int .i64 a0_4, .slice A0_5 l0_5.length c0_5]) (t := 37) ?hr ?_; (case hd => rfl); (case hg => rfl); (case hr => first | (go_simp; done) | (go_simp; rfl)); intro gb224 hg w9 hbox hb; have n0_ := Aside0.mk (zAL (by repeat (first | (with_reducible first | exact HB.out | apply zAC | apply zAA | apply zAD) | exact HB.out)) hb); have n1_ := Aside0.mk (hbox); have n2_ := Aside0.mk ((by rw [hg]; exact (zAM (by repeat (first | (with_reducible first | exact HB.out | apply zAC | apply zAA | apply zAD) | exact HB.out))) : w.heap.size ≤ gb224)); have n3_ := Aside0.mk ((by rw [hg]; exact (zAM (by repeat (first | (with_reducible first | exact HB.out | apply zAC | apply zAA | apply zAD) | exact HB.out))) : w.heap.size ≤ gb224)); clear HB; have HB := n0_; have BK224 := n1_; have GW224 := n2_; have GE224 := n3_; clear n0_ n1_ n2_ n3_; clear hb hbox hg) | ((with_reducible refine zAU (N := 3) rfl ?_); refine zAT ?hg (N := 3) ?hd (cs := #[.int .i64 a1_0, .int .i64 a1_1, .int .i64 a1_2, .int .i64 a1_3, .int .i64 a1_4, .slice A1_5 l1_5.length c1_5]) (t := 37) ?hr ?_; (case hd => rfl); (case hg => rfl); (case hr => first | (go_simp; done) | (go_simp; rfl)); intro gb225 hg w10 hbox hb; have n0_ := Aside0.mk (zAP (g := gb224) (o := .cells #[.int .i64 a0_0, .int .i64 a0_1, .int .i64 a0_2, .int .i64 a0_3, .int .i64 a0_4, .slice A0_5 l0_5.length c0_5] 37 (0, 0)) (by (with_reducible repeat (first | refine zAI ?_ _ | refine zAJ ?_ | refine zAG ?_ _)); exact BK224.out) hb); have n1_ := Aside0.mk (zAL (by repeat (first | (with_reducible first | exact HB.out | apply zAC | apply zAA | apply zAD | refine zAH ?_ GE224.out) | exact HB.out)) hb); have n2_ := Aside0.mk (hbox); have n3_ := Aside0.mk ((by rw [hg]; exact (zAM (by repeat (first | (with_reducible first | exact HB.out | apply zAC | apply zAA | apply zAD | refine zAH ?_ GE224.out) | exact HB.out))) : w.heap.size ≤ gb225)); have n4_ := Aside0.mk ((by rw [hg]; exact (zAM (by repeat (first | (with_reducible first | exact HB.out | apply zAC | apply zAA | apply zAD | refine zAH ?_ GE224.out) | exact HB.out))) : w.heap.size ≤ gb225)); have n5_ := Aside0.mk ((by rw [hg]; exact Nat.ne_of_lt (zBE (g := gb224) (o := .cells #[.int .i64 a0_0, .int .i64 a0_1, .int .i64 a0_2, .int .i64 a0_3, .int .i64 a0_4, .slice A0_5 l0_5.length c0_5] 37 (0, 0)) (by (with_reducible repeat (first | refine zAI ?_ _ | refine zAJ ?_ | refine zAG ?_ _)); exact BK224.out)) : gb224 ≠ gb225)); have n6_ := Aside0.mk ((by rw [hg]; exact Nat.ne_of_gt (zBE (g := gb224) (o := .cells #[.int .i64 a0_0, .int .i64 a0_1, .int .i64 a0_2, .int .i64 a0_3, .int .i64 a0_4, .slice A0_5 l0_5.length c0_5] 37 (0, 0)) (by (with_reducible repeat (first | refine zAI ?_ _ | refine zAJ ?_ | refine zAG ?_ _)); exact BK224.out)) : gb225 ≠ gb224)); clear BK224; clear HB; have BK224 := n0_; have HB := n1_; have BK225 := n2_; have GW225 := n3_; have GE225 := n4_; have NB224_225 := n5_; have NB225_224 := n6_; clear n0_ n1_ n2_ n3_ n4_ n5_ n6_; clear hb hbox hg; have hnb11 := NB224_225.out; have hnc11 := NB225_224.out; have hcz12_0 : w10.cell? ⟨gb224, 0, none⟩ = some (.int .i64 a0_0) := (zAE BK224.out 0).trans rfl; have hcz12_1 : w10.cell? ⟨gb224, 1, none⟩ = some (.int .i64 a0_1) := (zAE BK224.out 1).trans rfl; have hcz12_2 : w10.cell? ⟨gb224, 2, none⟩ = some (.int .i64 a0_2) := (zAE BK224.out 2).trans rfl; have hcz12_3 : w10.cell? ⟨gb224, 3, none⟩ = some (.int .i64 a0_3) := (zAE BK224.out 3).trans rfl; have hcz12_4 : w10.cell? ⟨gb224, 4, none⟩ = some (.int .i64 a0_4) := (zAE BK224.out 4).trans rfl; have hcz12_5 : w10.cell? ⟨gb224, 5, none⟩ = some (.slice A0_5 l0_5.length c0_5) := (zAE BK224.out 5).trans rfl; have hfz12_0 := zAB BK224.out 0; have hfz12_1 := zAB BK224.out 1; have hfz12_2 := zAB BK224.out 2; have hfz12_3 := zAB BK224.out 3; have hfz12_4 := zAB BK224.out 4; have hfz12_5 := zAB BK224.out 5; have hcz13_0 : w10.cell? ⟨gb225, 0, none⟩ = some (.int .i64 a1_0) := (zAE BK225.out 0).trans rfl; have hcz13_1 : w10.cell? ⟨gb225, 1, none⟩ = some (.int .i64 a1_1) := (zAE BK225.out 1).trans rfl; have hcz13_2 : w10.cell? ⟨gb225, 2, none⟩ = some (.int .i64 a1_2) := (zAE BK225.out 2).trans rfl; have hcz13_3 : w10.cell? ⟨gb225, 3, none⟩ = some (.int .i64 a1_3) := (zAE BK225.out 3).trans rfl; have hcz13_4 : w10.cell? ⟨gb225, 4, none⟩ = some (.int .i64 a1_4) := (zAE BK225.out 4).trans rfl; have hcz13_5 : w10.cell? ⟨gb225, 5, none⟩ = some (.slice A1_5 l1_5.length c1_5) := (zAE BK225.out 5).trans rfl; have hfz13_0 := zAB BK225.out 0; have hfz13_1 := zAB BK225.out 1; have hfz13_2 := zAB BK225.out 2; have hfz13_3 := zAB BK225.out 3; have hfz13_4 := zAB BK225.out 4; have hfz13_5 := zAB BK225.out 5) | ((with_reducible refine zAV (f := 19) rfl ?_); refine zBO (some 10) rfl rfl Try.func19 (by kernel_rfl) rfl #[.slice A0_5 l0_5.length c0_5, .slice A1_5 l1_5.length c1_5] rfl (by (try simp only [List.map_toArray, List.map_cons, List.map_nil]); first | done | rfl | (simp only [List.length_drop, List.length_take]; rfl)) ?_; (with_reducible refine (swageref02_Ints.calls k _ _ l0_5 _ _ l1_5 true _ ?side1 ?side2 ?side3 ?side4 A3.out).mono ?_); (case side1 => repeat (first | exact (Kd.C_below HR0_5.out HB.out) | (with_reducible refine Kd.C_alloc ?_ _) | (with_reducible refine Kd.C_drewN ?_ _) | (with_reducible refine Kd.C_drew ?_))); (case side2 => exact HC0_5.out); (case side3 => repeat (first | exact (Kd.C_below HR1_5.out HB.out) | (with_reducible refine Kd.C_alloc ?_ _) | (with_reducible refine Kd.C_drewN ?_ _) | (with_reducible refine Kd.C_drew ?_))); (case side4 => exact HC1_5.out); rintro e w' ⟨rfl, ⟨nd, rfl⟩⟩; refine ⟨_, rfl, ?_⟩))
      go_ret
      exact ⟨by first | rfl | (simp [zAO, zAN] <;> rfl) | (simp [*, zAO, zAN] <;> rfl), by repeat (first | (with_reducible first | exact HB.out | apply zAC | apply zAA | apply zAD | refine zAH ?_ GE224.out | refine zAH ?_ GE225.out) | exact HB.out)⟩
     ·rw [if_neg c8] at H
      have c8b0 : (a0_3 == a1_3) = false := beq_eq_false_iff_ne.mpr c8
      have c8b1 : (a0_3 != a1_3) = true := bne_iff_ne.mpr c8
      obtain rfl := Option.some.inj H
      go_enter Try.func29, Try.ntmps29
      go_wp2_with (first | ((with_reducible refine zAU (N := 2) rfl ?_); refine zAT ?hg (N := 2) ?hd (cs := #[.int .i64 a0_0, .int .i64 a0_1, .int .i64 a0_2, .int .i64 a0_3, .int .i64 a0_4, .slice A0_5 l0_5.length c0_5]) (t := 37) ?hr ?_; (case hd => rfl); (case hg => rfl); (case hr => first | (go_simp; done) | (go_simp; rfl)); intro gb224 hg w14 hbox hb; have n0_ := Aside0.mk (zAL (by repeat (first | (with_reducible first | exact HB.out | apply zAC | apply zAA | apply zAD) | exact HB.out)) hb); have n1_ := Aside0.mk (hbox); have n2_ := Aside0.mk ((by rw [hg]; exact (zAM (by repeat (first | (with_reducible first | exact HB.out | apply zAC | apply zAA | apply zAD) | exact HB.out))) : w.heap.size ≤ gb224)); have n3_ := Aside0.mk ((by rw [hg]; exact (zAM (by repeat (first | (with_reducible first | exact HB.out | apply zAC | apply zAA | apply zAD) | exact HB.out))) : w.heap.size ≤ gb224)); clear HB; have HB := n0_; have BK224 := n1_; have GW224 := n2_; have GE224 := n3_; clear n0_ n1_ n2_ n3_; clear hb hbox hg) | ((with_reducible refine zAU (N := 3) rfl ?_); refine zAT ?hg (N := 3) ?hd (cs := #[.int .i64 a1_0, .int .i64 a1_1, .int .i64 a1_2, .int .i64 a1_3, .int .i64 a1_4, .slice A1_5 l1_5.length c1_5]) (t := 37) ?hr ?_; (case hd => rfl); (case hg => rfl); (case hr => first | (go_simp; done) | (go_simp; rfl)); intro gb225 hg w15 hbox hb; have n0_ := Aside0.mk (zAP (g := gb224) (o := .cells #[.int .i64 a0_0, .int .i64 a0_1, .int .i64 a0_2, .int .i64 a0_3, .int .i64 a0_4, .slice A0_5 l0_5.length c0_5] 37 (0, 0)) (by (with_reducible repeat (first | refine zAI ?_ _ | refine zAJ ?_ | refine zAG ?_ _)); exact BK224.out) hb); have n1_ := Aside0.mk (zAL (by repeat (first | (with_reducible first | exact HB.out | apply zAC | apply zAA | apply zAD | refine zAH ?_ GE224.out) | exact HB.out)) hb); have n2_ := Aside0.mk (hbox); have n3_ := Aside0.mk ((by rw [hg]; exact (zAM (by repeat (first | (with_reducible first | exact HB.out | apply zAC | apply zAA | apply zAD | refine zAH ?_ GE224.out) | exact HB.out))) : w.heap.size ≤ gb225)); have n4_ := Aside0.mk ((by rw [hg]; exact (zAM (by repeat (first | (with_reducible first | exact HB.out | apply zAC | apply zAA | apply zAD | refine zAH ?_ GE224.out) | exact HB.out))) : w.heap.size ≤ gb225)); have n5_ := Aside0.mk ((by rw [hg]; exact Nat.ne_of_lt (zBE (g := gb224) (o := .cells #[.int .i64 a0_0, .int .i64 a0_1, .int .i64 a0_2, .int .i64 a0_3, .int .i64 a0_4, .slice A0_5 l0_5.length c0_5] 37 (0, 0)) (by (with_reducible repeat (first | refine zAI ?_ _ | refine zAJ ?_ | refine zAG ?_ _)); exact BK224.out)) : gb224 ≠ gb225)); have n6_ := Aside0.mk ((by rw [hg]; exact Nat.ne_of_gt (zBE (g := gb224) (o := .cells #[.int .i64 a0_0, .int .i64 a0_1, .int .i64 a0_2, .int .i64 a0_3, .int .i64 a0_4, .slice A0_5 l0_5.length c0_5] 37 (0, 0)) (by (with_reducible repeat (first | refine zAI ?_ _ | refine zAJ ?_ | refine zAG ?_ _)); exact BK224.out)) : gb225 ≠ gb224)); clear BK224; clear HB; have BK224 := n0_; have HB := n1_; have BK225 := n2_; have GW225 := n3_; have GE225 := n4_; have NB224_225 := n5_; have NB225_224 := n6_; clear n0_ n1_ n2_ n3_ n4_ n5_ n6_; clear hb hbox hg; have hnb16 := NB224_225.out; have hnc16 := NB225_224.out; have hcz17_0 : w15.cell? ⟨gb224, 0, none⟩ = some (.int .i64 a0_0) := (zAE BK224.out 0).trans rfl; have hcz17_1 : w15.cell? ⟨gb224, 1, none⟩ = some (.int .i64 a0_1) := (zAE BK224.out 1).trans rfl; have hcz17_2 : w15.cell? ⟨gb224, 2, none⟩ = some (.int .i64 a0_2) := (zAE BK224.out 2).trans rfl; have hcz17_3 : w15.cell? ⟨gb224, 3, none⟩ = some (.int .i64 a0_3) := (zAE BK224.out 3).trans rfl; have hcz17_4 : w15.cell? ⟨gb224, 4, none⟩ = some (.int .i64 a0_4) := (zAE BK224.out 4).trans rfl; have hcz17_5 : w15.cell? ⟨gb224, 5, none⟩ = some (.slice A0_5 l0_5.length c0_5) := (zAE BK224.out 5).trans rfl; have hfz17_0 := zAB BK224.out 0; have hfz17_1 := zAB BK224.out 1; have hfz17_2 := zAB BK224.out 2; have hfz17_3 := zAB BK224.out 3; have hfz17_4 := zAB BK224.out 4; have hfz17_5 := zAB BK224.out 5; have hcz18_0 : w15.cell? ⟨gb225, 0, none⟩ = some (.int .i64 a1_0) := (zAE BK225.out 0).trans rfl; have hcz18_1 : w15.cell? ⟨gb225, 1, none⟩ = some (.int .i64 a1_1) := (zAE BK225.out 1).trans rfl; have hcz18_2 : w15.cell? ⟨gb225, 2, none⟩ = some (.int .i64 a1_2) := (zAE BK225.out 2).trans rfl; have hcz18_3 : w15.cell? ⟨gb225, 3, none⟩ = some (.int .i64 a1_3) := (zAE BK225.out 3).trans rfl; have hcz18_4 : w15.cell? ⟨gb225, 4, none⟩ = some (.int .i64 a1_4) := (zAE BK225.out 4).trans rfl; have hcz18_5 : w15.cell? ⟨gb225, 5, none⟩ = some (.slice A1_5 l1_5.length c1_5) := (zAE BK225.out 5).trans rfl; have hfz18_0 := zAB BK225.out 0; have hfz18_1 := zAB BK225.out 1; have hfz18_2 := zAB BK225.out 2; have hfz18_3 := zAB BK225.out 3; have hfz18_4 := zAB BK225.out 4; have hfz18_5 := zAB BK225.out 5) | ((with_reducible refine zAV (f := 19) rfl ?_); refine zBO (some 10) rfl rfl Try.func19 (by kernel_rfl) rfl #[.slice A0_5 l0_5.length c0_5, .slice A1_5 l1_5.length c1_5] rfl (by (try simp only [List.map_toArray, List.map_cons, List.map_nil]); first | done | rfl | (simp only [List.length_drop, List.length_take]; rfl)) ?_; (with_reducible refine (swageref02_Ints.calls k _ _ l0_5 _ _ l1_5 true _ ?side1 ?side2 ?side3 ?side4 A3.out).mono ?_); (case side1 => repeat (first | exact (Kd.C_below HR0_5.out HB.out) | (with_reducible refine Kd.C_alloc ?_ _) | (with_reducible refine Kd.C_drewN ?_ _) | (with_reducible refine Kd.C_drew ?_))); (case side2 => exact HC0_5.out); (case side3 => repeat (first | exact (Kd.C_below HR1_5.out HB.out) | (with_reducible refine Kd.C_alloc ?_ _) | (with_reducible refine Kd.C_drewN ?_ _) | (with_reducible refine Kd.C_drew ?_))); (case side4 => exact HC1_5.out); rintro e w' ⟨rfl, ⟨nd, rfl⟩⟩; refine ⟨_, rfl, ?_⟩))
      go_ret
      exact ⟨by first | rfl | (simp [zAO, zAN] <;> rfl) | (simp [*, zAO, zAN] <;> rfl), by repeat (first | (with_reducible first | exact HB.out | apply zAC | apply zAA | apply zAD | refine zAH ?_ GE224.out | refine zAH ?_ GE225.out) | exact HB.out)⟩
    ·rw [if_neg c7] at H
     have c7b0 : (a0_2 == a1_2) = false := beq_eq_false_iff_ne.mpr c7
     have c7b1 : (a0_2 != a1_2) = true := bne_iff_ne.mpr c7
     obtain rfl := Option.some.inj H
     go_enter Try.func29, Try.ntmps29
     go_wp2_with (first | ((with_reducible refine zAU (N := 2) rfl ?_); refine zAT ?hg (N := 2) ?hd (cs := #[.int .i64 a0_0, .int .i64 a0_1, .int .i64 a0_2, .int .i64 a0_3, .int .i64 a0_4, .slice A0_5 l0_5.length c0_5]) (t := 37) ?hr ?_; (case hd => rfl); (case hg => rfl); (case hr => first | (go_simp; done) | (go_simp; rfl)); intro gb224 hg w19 hbox hb; have n0_ := Aside0.mk (zAL (by repeat (first | (with_reducible first | exact HB.out | apply zAC | apply zAA | apply zAD) | exact HB.out)) hb); have n1_ := Aside0.mk (hbox); have n2_ := Aside0.mk ((by rw [hg]; exact (zAM (by repeat (first | (with_reducible first | exact HB.out | apply zAC | apply zAA | apply zAD) | exact HB.out))) : w.heap.size ≤ gb224)); have n3_ := Aside0.mk ((by rw [hg]; exact (zAM (by repeat (first | (with_reducible first | exact HB.out | apply zAC | apply zAA | apply zAD) | exact HB.out))) : w.heap.size ≤ gb224)); clear HB; have HB := n0_; have BK224 := n1_; have GW224 := n2_; have GE224 := n3_; clear n0_ n1_ n2_ n3_; clear hb hbox hg) | ((with_reducible refine zAU (N := 3) rfl ?_); refine zAT ?hg (N := 3) ?hd (cs := #[.int .i64 a1_0, .int .i64 a1_1, .int .i64 a1_2, .int .i64 a1_3, .int .i64 a1_4, .slice A1_5 l1_5.length c1_5]) (t := 37) ?hr ?_; (case hd => rfl); (case hg => rfl); (case hr => first | (go_simp; done) | (go_simp; rfl)); intro gb225 hg w20 hbox hb; have n0_ := Aside0.mk (zAP (g := gb224) (o := .cells #[.int .i64 a0_0, .int .i64 a0_1, .int .i64 a0_2, .int .i64 a0_3, .int .i64 a0_4, .slice A0_5 l0_5.length c0_5] 37 (0, 0)) (by (with_reducible repeat (first | refine zAI ?_ _ | refine zAJ ?_ | refine zAG ?_ _)); exact BK224.out) hb); have n1_ := Aside0.mk (zAL (by repeat (first | (with_reducible first | exact HB.out | apply zAC | apply zAA | apply zAD | refine zAH ?_ GE224.out) | exact HB.out)) hb); have n2_ := Aside0.mk (hbox); have n3_ := Aside0.mk ((by rw [hg]; exact (zAM (by repeat (first | (with_reducible first | exact HB.out | apply zAC | apply zAA | apply zAD | refine zAH ?_ GE224.out) | exact HB.out))) : w.heap.size ≤ gb225)); have n4_ := Aside0.mk ((by rw [hg]; exact (zAM (by repeat (first | (with_reducible first | exact HB.out | apply zAC | apply zAA | apply zAD | refine zAH ?_ GE224.out) | exact HB.out))) : w.heap.size ≤ gb225)); have n5_ := Aside0.mk ((by rw [hg]; exact Nat.ne_of_lt (zBE (g := gb224) (o := .cells #[.int .i64 a0_0, .int .i64 a0_1, .int .i64 a0_2, .int .i64 a0_3, .int .i64 a0_4, .slice A0_5 l0_5.length c0_5] 37 (0, 0)) (by (with_reducible repeat (first | refine zAI ?_ _ | refine zAJ ?_ | refine zAG ?_ _)); exact BK224.out)) : gb224 ≠ gb225)); have n6_ := Aside0.mk ((by rw [hg]; exact Nat.ne_of_gt (zBE (g := gb224) (o := .cells #[.int .i64 a0_0, .int .i64 a0_1, .int .i64 a0_2, .int .i64 a0_3, .int .i64 a0_4, .slice A0_5 l0_5.length c0_5] 37 (0, 0)) (by (with_reducible repeat (first | refine zAI ?_ _ | refine zAJ ?_ | refine zAG ?_ _)); exact BK224.out)) : gb225 ≠ gb224)); clear BK224; clear HB; have BK224 := n0_; have HB := n1_; have BK225 := n2_; have GW225 := n3_; have GE225 := n4_; have NB224_225 := n5_; have NB225_224 := n6_; clear n0_ n1_ n2_ n3_ n4_ n5_ n6_; clear hb hbox hg; have hnb21 := NB224_225.out; have hnc21 := NB225_224.out; have hcz22_0 : w20.cell? ⟨gb224, 0, none⟩ = some (.int .i64 a0_0) := (zAE BK224.out 0).trans rfl; have hcz22_1 : w20.cell? ⟨gb224, 1, none⟩ = some (.int .i64 a0_1) := (zAE BK224.out 1).trans rfl; have hcz22_2 : w20.cell? ⟨gb224, 2, none⟩ = some (.int .i64 a0_2) := (zAE BK224.out 2).trans rfl; have hcz22_3 : w20.cell? ⟨gb224, 3, none⟩ = some (.int .i64 a0_3) := (zAE BK224.out 3).trans rfl; have hcz22_4 : w20.cell? ⟨gb224, 4, none⟩ = some (.int .i64 a0_4) := (zAE BK224.out 4).trans rfl; have hcz22_5 : w20.cell? ⟨gb224, 5, none⟩ = some (.slice A0_5 l0_5.length c0_5) := (zAE BK224.out 5).trans rfl; have hfz22_0 := zAB BK224.out 0; have hfz22_1 := zAB BK224.out 1; have hfz22_2 := zAB BK224.out 2; have hfz22_3 := zAB BK224.out 3; have hfz22_4 := zAB BK224.out 4; have hfz22_5 := zAB BK224.out 5; have hcz23_0 : w20.cell? ⟨gb225, 0, none⟩ = some (.int .i64 a1_0) := (zAE BK225.out 0).trans rfl; have hcz23_1 : w20.cell? ⟨gb225, 1, none⟩ = some (.int .i64 a1_1) := (zAE BK225.out 1).trans rfl; have hcz23_2 : w20.cell? ⟨gb225, 2, none⟩ = some (.int .i64 a1_2) := (zAE BK225.out 2).trans rfl; have hcz23_3 : w20.cell? ⟨gb225, 3, none⟩ = some (.int .i64 a1_3) := (zAE BK225.out 3).trans rfl; have hcz23_4 : w20.cell? ⟨gb225, 4, none⟩ = some (.int .i64 a1_4) := (zAE BK225.out 4).trans rfl; have hcz23_5 : w20.cell? ⟨gb225, 5, none⟩ = some (.slice A1_5 l1_5.length c1_5) := (zAE BK225.out 5).trans rfl; have hfz23_0 := zAB BK225.out 0; have hfz23_1 := zAB BK225.out 1; have hfz23_2 := zAB BK225.out 2; have hfz23_3 := zAB BK225.out 3; have hfz23_4 := zAB BK225.out 4; have hfz23_5 := zAB BK225.out 5) | ((with_reducible refine zAV (f := 19) rfl ?_); refine zBO (some 10) rfl rfl Try.func19 (by kernel_rfl) rfl #[.slice A0_5 l0_5.length c0_5, .slice A1_5 l1_5.length c1_5] rfl (by (try simp only [List.map_toArray, List.map_cons, List.map_nil]); first | done | rfl | (simp only [List.length_drop, List.length_take]; rfl)) ?_; (with_reducible refine (swageref02_Ints.calls k _ _ l0_5 _ _ l1_5 true _ ?side1 ?side2 ?side3 ?side4 A3.out).mono ?_); (case side1 => repeat (first | exact (Kd.C_below HR0_5.out HB.out) | (with_reducible refine Kd.C_alloc ?_ _) | (with_reducible refine Kd.C_drewN ?_ _) | (with_reducible refine Kd.C_drew ?_))); (case side2 => exact HC0_5.out); (case side3 => repeat (first | exact (Kd.C_below HR1_5.out HB.out) | (with_reducible refine Kd.C_alloc ?_ _) | (with_reducible refine Kd.C_drewN ?_ _) | (with_reducible refine Kd.C_drew ?_))); (case side4 => exact HC1_5.out); rintro e w' ⟨rfl, ⟨nd, rfl⟩⟩; refine ⟨_, rfl, ?_⟩))
     go_ret
     exact ⟨by first | rfl | (simp [zAO, zAN] <;> rfl) | (simp [*, zAO, zAN] <;> rfl), by repeat (first | (with_reducible first | exact HB.out | apply zAC | apply zAA | apply zAD | refine zAH ?_ GE224.out | refine zAH ?_ GE225.out) | exact HB.out)⟩
   ·rw [if_neg c6] at H
    have c6b0 : (a0_1 == a1_1) = false := beq_eq_false_iff_ne.mpr c6
    have c6b1 : (a0_1 != a1_1) = true := bne_iff_ne.mpr c6
    obtain rfl := Option.some.inj H
    go_enter Try.func29, Try.ntmps29
    go_wp2_with (first | ((with_reducible refine zAU (N := 2) rfl ?_); refine zAT ?hg (N := 2) ?hd (cs := #[.int .i64 a0_0, .int .i64 a0_1, .int .i64 a0_2, .int .i64 a0_3, .int .i64 a0_4, .slice A0_5 l0_5.length c0_5]) (t := 37) ?hr ?_; (case hd => rfl); (case hg => rfl); (case hr => first | (go_simp; done) | (go_simp; rfl)); intro gb224 hg w24 hbox hb; have n0_ := Aside0.mk (zAL (by repeat (first | (with_reducible first | exact HB.out | apply zAC | apply zAA | apply zAD) | exact HB.out)) hb); have n1_ := Aside0.mk (hbox); have n2_ := Aside0.mk ((by rw [hg]; exact (zAM (by repeat (first | (with_reducible first | exact HB.out | apply zAC | apply zAA | apply zAD) | exact HB.out))) : w.heap.size ≤ gb224)); have n3_ := Aside0.mk ((by rw [hg]; exact (zAM (by repeat (first | (with_reducible first | exact HB.out | apply zAC | apply zAA | apply zAD) | exact HB.out))) : w.heap.size ≤ gb224)); clear HB; have HB := n0_; have BK224 := n1_; have GW224 := n2_; have GE224 := n3_; clear n0_ n1_ n2_ n3_; clear hb hbox hg) | ((with_reducible refine zAU (N := 3) rfl ?_); refine zAT ?hg (N := 3) ?hd (cs := #[.int .i64 a1_0, .int .i64 a1_1, .int .i64 a1_2, .int .i64 a1_3, .int .i64 a1_4, .slice A1_5 l1_5.length c1_5]) (t := 37) ?hr ?_; (case hd => rfl); (case hg => rfl); (case hr => first | (go_simp; done) | (go_simp; rfl)); intro gb225 hg w25 hbox hb; have n0_ := Aside0.mk (zAP (g := gb224) (o := .cells #[.int .i64 a0_0, .int .i64 a0_1, .int .i64 a0_2, .int .i64 a0_3, .int .i64 a0_4, .slice A0_5 l0_5.length c0_5] 37 (0, 0)) (by (with_reducible repeat (first | refine zAI ?_ _ | refine zAJ ?_ | refine zAG ?_ _)); exact BK224.out) hb); have n1_ := Aside0.mk (zAL (by repeat (first | (with_reducible first | exact HB.out | apply zAC | apply zAA | apply zAD | refine zAH ?_ GE224.out) | exact HB.out)) hb); have n2_ := Aside0.mk (hbox); have n3_ := Aside0.mk ((by rw [hg]; exact (zAM (by repeat (first | (with_reducible first | exact HB.out | apply zAC | apply zAA | apply zAD | refine zAH ?_ GE224.out) | exact HB.out))) : w.heap.size ≤ gb225)); have n4_ := Aside0.mk ((by rw [hg]; exact (zAM (by repeat (first | (with_reducible first | exact HB.out | apply zAC | apply zAA | apply zAD | refine zAH ?_ GE224.out) | exact HB.out))) : w.heap.size ≤ gb225)); have n5_ := Aside0.mk ((by rw [hg]; exact Nat.ne_of_lt (zBE (g := gb224) (o := .cells #[.int .i64 a0_0, .int .i64 a0_1, .int .i64 a0_2, .int .i64 a0_3, .int .i64 a0_4, .slice A0_5 l0_5.length c0_5] 37 (0, 0)) (by (with_reducible repeat (first | refine zAI ?_ _ | refine zAJ ?_ | refine zAG ?_ _)); exact BK224.out)) : gb224 ≠ gb225)); have n6_ := Aside0.mk ((by rw [hg]; exact Nat.ne_of_gt (zBE (g := gb224) (o := .cells #[.int .i64 a0_0, .int .i64 a0_1, .int .i64 a0_2, .int .i64 a0_3, .int .i64 a0_4, .slice A0_5 l0_5.length c0_5] 37 (0, 0)) (by (with_reducible repeat (first | refine zAI ?_ _ | refine zAJ ?_ | refine zAG ?_ _)); exact BK224.out)) : gb225 ≠ gb224)); clear BK224; clear HB; have BK224 := n0_; have HB := n1_; have BK225 := n2_; have GW225 := n3_; have GE225 := n4_; have NB224_225 := n5_; have NB225_224 := n6_; clear n0_ n1_ n2_ n3_ n4_ n5_ n6_; clear hb hbox hg; have hnb26 := NB224_225.out; have hnc26 := NB225_224.out; have hcz27_0 : w25.cell? ⟨gb224, 0, none⟩ = some (.int .i64 a0_0) := (zAE BK224.out 0).trans rfl; have hcz27_1 : w25.cell? ⟨gb224, 1, none⟩ = some (.int .i64 a0_1) := (zAE BK224.out 1).trans rfl; have hcz27_2 : w25.cell? ⟨gb224, 2, none⟩ = some (.int .i64 a0_2) := (zAE BK224.out 2).trans rfl; have hcz27_3 : w25.cell? ⟨gb224, 3, none⟩ = some (.int .i64 a0_3) := (zAE BK224.out 3).trans rfl; have hcz27_4 : w25.cell? ⟨gb224, 4, none⟩ = some (.int .i64 a0_4) := (zAE BK224.out 4).trans rfl; have hcz27_5 : w25.cell? ⟨gb224, 5, none⟩ = some (.slice A0_5 l0_5.length c0_5) := (zAE BK224.out 5).trans rfl; have hfz27_0 := zAB BK224.out 0; have hfz27_1 := zAB BK224.out 1; have hfz27_2 := zAB BK224.out 2; have hfz27_3 := zAB BK224.out 3; have hfz27_4 := zAB BK224.out 4; have hfz27_5 := zAB BK224.out 5; have hcz28_0 : w25.cell? ⟨gb225, 0, none⟩ = some (.int .i64 a1_0) := (zAE BK225.out 0).trans rfl; have hcz28_1 : w25.cell? ⟨gb225, 1, none⟩ = some (.int .i64 a1_1) := (zAE BK225.out 1).trans rfl; have hcz28_2 : w25.cell? ⟨gb225, 2, none⟩ = some (.int .i64 a1_2) := (zAE BK225.out 2).trans rfl; have hcz28_3 : w25.cell? ⟨gb225, 3, none⟩ = some (.int .i64 a1_3) := (zAE BK225.out 3).trans rfl; have hcz28_4 : w25.cell? ⟨gb225, 4, none⟩ = some (.int .i64 a1_4) := (zAE BK225.out 4).trans rfl; have hcz28_5 : w25.cell? ⟨gb225, 5, none⟩ = some (.slice A1_5 l1_5.length c1_5) := (zAE BK225.out 5).trans rfl; have hfz28_0 := zAB BK225.out 0; have hfz28_1 := zAB BK225.out 1; have hfz28_2 := zAB BK225.out 2; have hfz28_3 := zAB BK225.out 3; have hfz28_4 := zAB BK225.out 4; have hfz28_5 := zAB BK225.out 5) | ((with_reducible refine zAV (f := 19) rfl ?_); refine zBO (some 10) rfl rfl Try.func19 (by kernel_rfl) rfl #[.slice A0_5 l0_5.length c0_5, .slice A1_5 l1_5.length c1_5] rfl (by (try simp only [List.map_toArray, List.map_cons, List.map_nil]); first | done | rfl | (simp only [List.length_drop, List.length_take]; rfl)) ?_; (with_reducible refine (swageref02_Ints.calls k _ _ l0_5 _ _ l1_5 true _ ?side1 ?side2 ?side3 ?side4 A3.out).mono ?_); (case side1 => repeat (first | exact (Kd.C_below HR0_5.out HB.out) | (with_reducible refine Kd.C_alloc ?_ _) | (with_reducible refine Kd.C_drewN ?_ _) | (with_reducible refine Kd.C_drew ?_))); (case side2 => exact HC0_5.out); (case side3 => repeat (first | exact (Kd.C_below HR1_5.out HB.out) | (with_reducible refine Kd.C_alloc ?_ _) | (with_reducible refine Kd.C_drewN ?_ _) | (with_reducible refine Kd.C_drew ?_))); (case side4 => exact HC1_5.out); rintro e w' ⟨rfl, ⟨nd, rfl⟩⟩; refine ⟨_, rfl, ?_⟩))
    go_ret
    exact ⟨by first | rfl | (simp [zAO, zAN] <;> rfl) | (simp [*, zAO, zAN] <;> rfl), by repeat (first | (with_reducible first | exact HB.out | apply zAC | apply zAA | apply zAD | refine zAH ?_ GE224.out | refine zAH ?_ GE225.out) | exact HB.out)⟩
  ·rw [if_neg c5] at H
   have c5b0 : (a0_0 == a1_0) = false := beq_eq_false_iff_ne.mpr c5
   have c5b1 : (a0_0 != a1_0) = true := bne_iff_ne.mpr c5
   obtain rfl := Option.some.inj H
   go_enter Try.func29, Try.ntmps29
   go_wp2_with (first | ((with_reducible refine zAU (N := 2) rfl ?_); refine zAT ?hg (N := 2) ?hd (cs := #[.int .i64 a0_0, .int .i64 a0_1, .int .i64 a0_2, .int .i64 a0_3, .int .i64 a0_4, .slice A0_5 l0_5.length c0_5]) (t := 37) ?hr ?_; (case hd => rfl); (case hg => rfl); (case hr => first | (go_simp; done) | (go_simp; rfl)); intro gb224 hg w29 hbox hb; have n0_ := Aside0.mk (zAL (by repeat (first | (with_reducible first | exact HB.out | apply zAC | apply zAA | apply zAD) | exact HB.out)) hb); have n1_ := Aside0.mk (hbox); have n2_ := Aside0.mk ((by rw [hg]; exact (zAM (by repeat (first | (with_reducible first | exact HB.out | apply zAC | apply zAA | apply zAD) | exact HB.out))) : w.heap.size ≤ gb224)); have n3_ := Aside0.mk ((by rw [hg]; exact (zAM (by repeat (first | (with_reducible first | exact HB.out | apply zAC | apply zAA | apply zAD) | exact HB.out))) : w.heap.size ≤ gb224)); clear HB; have HB := n0_; have BK224 := n1_; have GW224 := n2_; have GE224 := n3_; clear n0_ n1_ n2_ n3_; clear hb hbox hg) | ((with_reducible refine zAU (N := 3) rfl ?_); refine zAT ?hg (N := 3) ?hd (cs := #[.int .i64 a1_0, .int .i64 a1_1, .int .i64 a1_2, .int .i64 a1_3, .int .i64 a1_4, .slice A1_5 l1_5.length c1_5]) (t := 37) ?hr ?_; (case hd => rfl); (case hg => rfl); (case hr => first | (go_simp; done) | (go_simp; rfl)); intro gb225 hg w30 hbox hb; have n0_ := Aside0.mk (zAP (g := gb224) (o := .cells #[.int .i64 a0_0, .int .i64 a0_1, .int .i64 a0_2, .int .i64 a0_3, .int .i64 a0_4, .slice A0_5 l0_5.length c0_5] 37 (0, 0)) (by (with_reducible repeat (first | refine zAI ?_ _ | refine zAJ ?_ | refine zAG ?_ _)); exact BK224.out) hb); have n1_ := Aside0.mk (zAL (by repeat (first | (with_reducible first | exact HB.out | apply zAC | apply zAA | apply zAD | refine zAH ?_ GE224.out) | exact HB.out)) hb); have n2_ := Aside0.mk (hbox); have n3_ := Aside0.mk ((by rw [hg]; exact (zAM (by repeat (first | (with_reducible first | exact HB.out | apply zAC | apply zAA | apply zAD | refine zAH ?_ GE224.out) | exact HB.out))) : w.heap.size ≤ gb225)); have n4_ := Aside0.mk ((by rw [hg]; exact (zAM (by repeat (first | (with_reducible first | exact HB.out | apply zAC | apply zAA | apply zAD | refine zAH ?_ GE224.out) | exact HB.out))) : w.heap.size ≤ gb225)); have n5_ := Aside0.mk ((by rw [hg]; exact Nat.ne_of_lt (zBE (g := gb224) (o := .cells #[.int .i64 a0_0, .int .i64 a0_1, .int .i64 a0_2, .int .i64 a0_3, .int .i64 a0_4, .slice A0_5 l0_5.length c0_5] 37 (0, 0)) (by (with_reducible repeat (first | refine zAI ?_ _ | refine zAJ ?_ | refine zAG ?_ _)); exact BK224.out)) : gb224 ≠ gb225)); have n6_ := Aside0.mk ((by rw [hg]; exact Nat.ne_of_gt (zBE (g := gb224) (o := .cells #[.int .i64 a0_0, .int .i64 a0_1, .int .i64 a0_2, .int .i64 a0_3, .int .i64 a0_4, .slice A0_5 l0_5.length c0_5] 37 (0, 0)) (by (with_reducible repeat (first | refine zAI ?_ _ | refine zAJ ?_ | refine zAG ?_ _)); exact BK224.out)) : gb225 ≠ gb224)); clear BK224; clear HB; have BK224 := n0_; have HB := n1_; have BK225 := n2_; have GW225 := n3_; have GE225 := n4_; have NB224_225 := n5_; have NB225_224 := n6_; clear n0_ n1_ n2_ n3_ n4_ n5_ n6_; clear hb hbox hg; have hnb31 := NB224_225.out; have hnc31 := NB225_224.out; have hcz32_0 : w30.cell? ⟨gb224, 0, none⟩ = some (.int .i64 a0_0) := (zAE BK224.out 0).trans rfl; have hcz32_1 : w30.cell? ⟨gb224, 1, none⟩ = some (.int .i64 a0_1) := (zAE BK224.out 1).trans rfl; have hcz32_2 : w30.cell? ⟨gb224, 2, none⟩ = some (.int .i64 a0_2) := (zAE BK224.out 2).trans rfl; have hcz32_3 : w30.cell? ⟨gb224, 3, none⟩ = some (.int .i64 a0_3) := (zAE BK224.out 3).trans rfl; have hcz32_4 : w30.cell? ⟨gb224, 4, none⟩ = some (.int .i64 a0_4) := (zAE BK224.out 4).trans rfl; have hcz32_5 : w30.cell? ⟨gb224, 5, none⟩ = some (.slice A0_5 l0_5.length c0_5) := (zAE BK224.out 5).trans rfl; have hfz32_0 := zAB BK224.out 0; have hfz32_1 := zAB BK224.out 1; have hfz32_2 := zAB BK224.out 2; have hfz32_3 := zAB BK224.out 3; have hfz32_4 := zAB BK224.out 4; have hfz32_5 := zAB BK224.out 5; have hcz33_0 : w30.cell? ⟨gb225, 0, none⟩ = some (.int .i64 a1_0) := (zAE BK225.out 0).trans rfl; have hcz33_1 : w30.cell? ⟨gb225, 1, none⟩ = some (.int .i64 a1_1) := (zAE BK225.out 1).trans rfl; have hcz33_2 : w30.cell? ⟨gb225, 2, none⟩ = some (.int .i64 a1_2) := (zAE BK225.out 2).trans rfl; have hcz33_3 : w30.cell? ⟨gb225, 3, none⟩ = some (.int .i64 a1_3) := (zAE BK225.out 3).trans rfl; have hcz33_4 : w30.cell? ⟨gb225, 4, none⟩ = some (.int .i64 a1_4) := (zAE BK225.out 4).trans rfl; have hcz33_5 : w30.cell? ⟨gb225, 5, none⟩ = some (.slice A1_5 l1_5.length c1_5) := (zAE BK225.out 5).trans rfl; have hfz33_0 := zAB BK225.out 0; have hfz33_1 := zAB BK225.out 1; have hfz33_2 := zAB BK225.out 2; have hfz33_3 := zAB BK225.out 3; have hfz33_4 := zAB BK225.out 4; have hfz33_5 := zAB BK225.out 5) | ((with_reducible refine zAV (f := 19) rfl ?_); refine zBO (some 10) rfl rfl Try.func19 (by kernel_rfl) rfl #[.slice A0_5 l0_5.length c0_5, .slice A1_5 l1_5.length c1_5] rfl (by (try simp only [List.map_toArray, List.map_cons, List.map_nil]); first | done | rfl | (simp only [List.length_drop, List.length_take]; rfl)) ?_; (with_reducible refine (swageref02_Ints.calls k _ _ l0_5 _ _ l1_5 true _ ?side1 ?side2 ?side3 ?side4 A3.out).mono ?_); (case side1 => repeat (first | exact (Kd.C_below HR0_5.out HB.out) | (with_reducible refine Kd.C_alloc ?_ _) | (with_reducible refine Kd.C_drewN ?_ _) | (with_reducible refine Kd.C_drew ?_))); (case side2 => exact HC0_5.out); (case side3 => repeat (first | exact (Kd.C_below HR1_5.out HB.out) | (with_reducible refine Kd.C_alloc ?_ _) | (with_reducible refine Kd.C_drewN ?_ _) | (with_reducible refine Kd.C_drew ?_))); (case side4 => exact HC1_5.out); rintro e w' ⟨rfl, ⟨nd, rfl⟩⟩; refine ⟨_, rfl, ?_⟩))
   go_ret
   exact ⟨by first | rfl | (simp [zAO, zAN] <;> rfl) | (simp [*, zAO, zAN] <;> rfl), by repeat (first | (with_reducible first | exact HB.out | apply zAC | apply zAA | apply zAD | refine zAH ?_ GE224.out | refine zAH ?_ GE225.out) | exact HB.out)⟩
 ·replace c4 := Bool.eq_false_iff.mpr c4
  subst c4
  have H1 : (some false) = some r := by rw [if_neg (show ¬ (false = true) by decide)] at H; exact H
  clear H
  have H := H1
  clear H1
  obtain rfl := Option.some.inj H
  go_enter Try.func29, Try.ntmps29
  go_wp2_with (first | ((with_reducible refine zAU (N := 2) rfl ?_); refine zAT ?hg (N := 2) ?hd (cs := #[.int .i64 a0_0, .int .i64 a0_1, .int .i64 a0_2, .int .i64 a0_3, .int .i64 a0_4, .slice A0_5 l0_5.length c0_5]) (t := 37) ?hr ?_; (case hd => rfl); (case hg => rfl); (case hr => first | (go_simp; done) | (go_simp; rfl)); intro gb224 hg w34 hbox hb; have n0_ := Aside0.mk (zAL (by repeat (first | (with_reducible first | exact HB.out | apply zAC | apply zAA | apply zAD) | exact HB.out)) hb); have n1_ := Aside0.mk (hbox); have n2_ := Aside0.mk ((by rw [hg]; exact (zAM (by repeat (first | (with_reducible first | exact HB.out | apply zAC | apply zAA | apply zAD) | exact HB.out))) : w.heap.size ≤ gb224)); have n3_ := Aside0.mk ((by rw [hg]; exact (zAM (by repeat (first | (with_reducible first | exact HB.out | apply zAC | apply zAA | apply zAD) | exact HB.out))) : w.heap.size ≤ gb224)); clear HB; have HB := n0_; have BK224 := n1_; have GW224 := n2_; have GE224 := n3_; clear n0_ n1_ n2_ n3_; clear hb hbox hg) | ((with_reducible refine zAU (N := 3) rfl ?_); refine zAT ?hg (N := 3) ?hd (cs := #[.int .i64 a1_0, .int .i64 a1_1, .int .i64 a1_2, .int .i64 a1_3, .int .i64 a1_4, .slice A1_5 l1_5.length c1_5]) (t := 37) ?hr ?_; (case hd => rfl); (case hg => rfl); (case hr => first | (go_simp; done) | (go_simp; rfl)); intro gb225 hg w35 hbox hb; have n0_ := Aside0.mk (zAP (g := gb224) (o := .cells #[.int .i64 a0_0, .int .i64 a0_1, .int .i64 a0_2, .int .i64 a0_3, .int .i64 a0_4, .slice A0_5 l0_5.length c0_5] 37 (0, 0)) (by (with_reducible repeat (first | refine zAI ?_ _ | refine zAJ ?_ | refine zAG ?_ _)); exact BK224.out) hb); have n1_ := Aside0.mk (zAL (by repeat (first | (with_reducible first | exact HB.out | apply zAC | apply zAA | apply zAD | refine zAH ?_ GE224.out) | exact HB.out)) hb); have n2_ := Aside0.mk (hbox); have n3_ := Aside0.mk ((by rw [hg]; exact (zAM (by repeat (first | (with_reducible first | exact HB.out | apply zAC | apply zAA | apply zAD | refine zAH ?_ GE224.out) | exact HB.out))) : w.heap.size ≤ gb225)); have n4_ := Aside0.mk ((by rw [hg]; exact (zAM (by repeat (first | (with_reducible first | exact HB.out | apply zAC | apply zAA | apply zAD | refine zAH ?_ GE224.out) | exact HB.out))) : w.heap.size ≤ gb225)); have n5_ := Aside0.mk ((by rw [hg]; exact Nat.ne_of_lt (zBE (g := gb224) (o := .cells #[.int .i64 a0_0, .int .i64 a0_1, .int .i64 a0_2, .int .i64 a0_3, .int .i64 a0_4, .slice A0_5 l0_5.length c0_5] 37 (0, 0)) (by (with_reducible repeat (first | refine zAI ?_ _ | refine zAJ ?_ | refine zAG ?_ _)); exact BK224.out)) : gb224 ≠ gb225)); have n6_ := Aside0.mk ((by rw [hg]; exact Nat.ne_of_gt (zBE (g := gb224) (o := .cells #[.int .i64 a0_0, .int .i64 a0_1, .int .i64 a0_2, .int .i64 a0_3, .int .i64 a0_4, .slice A0_5 l0_5.length c0_5] 37 (0, 0)) (by (with_reducible repeat (first | refine zAI ?_ _ | refine zAJ ?_ | refine zAG ?_ _)); exact BK224.out)) : gb225 ≠ gb224)); clear BK224; clear HB; have BK224 := n0_; have HB := n1_; have BK225 := n2_; have GW225 := n3_; have GE225 := n4_; have NB224_225 := n5_; have NB225_224 := n6_; clear n0_ n1_ n2_ n3_ n4_ n5_ n6_; clear hb hbox hg; have hnb36 := NB224_225.out; have hnc36 := NB225_224.out; have hcz37_0 : w35.cell? ⟨gb224, 0, none⟩ = some (.int .i64 a0_0) := (zAE BK224.out 0).trans rfl; have hcz37_1 : w35.cell? ⟨gb224, 1, none⟩ = some (.int .i64 a0_1) := (zAE BK224.out 1).trans rfl; have hcz37_2 : w35.cell? ⟨gb224, 2, none⟩ = some (.int .i64 a0_2) := (zAE BK224.out 2).trans rfl; have hcz37_3 : w35.cell? ⟨gb224, 3, none⟩ = some (.int .i64 a0_3) := (zAE BK224.out 3).trans rfl; have hcz37_4 : w35.cell? ⟨gb224, 4, none⟩ = some (.int .i64 a0_4) := (zAE BK224.out 4).trans rfl; have hcz37_5 : w35.cell? ⟨gb224, 5, none⟩ = some (.slice A0_5 l0_5.length c0_5) := (zAE BK224.out 5).trans rfl; have hfz37_0 := zAB BK224.out 0; have hfz37_1 := zAB BK224.out 1; have hfz37_2 := zAB BK224.out 2; have hfz37_3 := zAB BK224.out 3; have hfz37_4 := zAB BK224.out 4; have hfz37_5 := zAB BK224.out 5; have hcz38_0 : w35.cell? ⟨gb225, 0, none⟩ = some (.int .i64 a1_0) := (zAE BK225.out 0).trans rfl; have hcz38_1 : w35.cell? ⟨gb225, 1, none⟩ = some (.int .i64 a1_1) := (zAE BK225.out 1).trans rfl; have hcz38_2 : w35.cell? ⟨gb225, 2, none⟩ = some (.int .i64 a1_2) := (zAE BK225.out 2).trans rfl; have hcz38_3 : w35.cell? ⟨gb225, 3, none⟩ = some (.int .i64 a1_3) := (zAE BK225.out 3).trans rfl; have hcz38_4 : w35.cell? ⟨gb225, 4, none⟩ = some (.int .i64 a1_4) := (zAE BK225.out 4).trans rfl; have hcz38_5 : w35.cell? ⟨gb225, 5, none⟩ = some (.slice A1_5 l1_5.length c1_5) := (zAE BK225.out 5).trans rfl; have hfz38_0 := zAB BK225.out 0; have hfz38_1 := zAB BK225.out 1; have hfz38_2 := zAB BK225.out 2; have hfz38_3 := zAB BK225.out 3; have hfz38_4 := zAB BK225.out 4; have hfz38_5 := zAB BK225.out 5) | ((with_reducible refine zAV (f := 19) rfl ?_); refine zBO (some 10) rfl rfl Try.func19 (by kernel_rfl) rfl #[.slice A0_5 l0_5.length c0_5, .slice A1_5 l1_5.length c1_5] rfl (by (try simp only [List.map_toArray, List.map_cons, List.map_nil]); first | done | rfl | (simp only [List.length_drop, List.length_take]; rfl)) ?_; (with_reducible refine (swageref02_Ints.calls k _ _ l0_5 _ _ l1_5 false _ ?side1 ?side2 ?side3 ?side4 A3.out).mono ?_); (case side1 => repeat (first | exact (Kd.C_below HR0_5.out HB.out) | (with_reducible refine Kd.C_alloc ?_ _) | (with_reducible refine Kd.C_drewN ?_ _) | (with_reducible refine Kd.C_drew ?_))); (case side2 => exact HC0_5.out); (case side3 => repeat (first | exact (Kd.C_below HR1_5.out HB.out) | (with_reducible refine Kd.C_alloc ?_ _) | (with_reducible refine Kd.C_drewN ?_ _) | (with_reducible refine Kd.C_drew ?_))); (case side4 => exact HC1_5.out); rintro e w' ⟨rfl, ⟨nd, rfl⟩⟩; refine ⟨_, rfl, ?_⟩))
  go_ret
  exact ⟨by first | rfl | (simp [zAO, zAN] <;> rfl) | (simp [*, zAO, zAN] <;> rfl), by repeat (first | (with_reducible first | exact HB.out | apply zAC | apply zAA | apply zAD | refine zAH ?_ GE224.out | refine zAH ?_ GE225.out) | exact HB.out)⟩
end Go.Proofs.Ytphmlkbmnmicpaa.A
namespace Go.Proofs.Ytphmlkbmnmicpaa.A
open Go.RowKit Go.Proofs.YtphmlkbmnmicpaaW.PrintWords Go.Proofs.YtphmlkbmnmicpaaW.PrintLast Go.Shelf
def fewB (l : List S37) : Bool := ((l.take 100).all fun x => decide (x.f5.length ≤ 20)) && decide (l.length ≤ 60)
theorem fewB_true (l : List S37) : fewB l = true → l.length ≤ 60 ∧ ∀ x ∈ l, x.f5.length ≤ 20 := by
 unfold fewB
 simp only [Bool.and_eq_true, List.all_eq_true, decide_eq_true_eq]
 rintro ⟨h1, h2⟩
 exact ⟨h2, fun x hx => h1 x (by rw [List.take_of_length_le (by omega)]; exact hx)⟩
theorem few_ev (l : List S37) : ∀ (d i : Nat), i ≤ min l.length 100 → min l.length 100 - i = d → Ev (fun k => swagelaw27_few.l0 k l (i : Int)) ((((l.take 100).drop i).all fun x => decide (x.f5.length ≤ 20)) && decide (l.length ≤ 60)) := by
 intro d
 induction d with
 | zero =>
  intro i hi hd
  refine ⟨2, fun k hk => ?_⟩
  obtain ⟨k, rfl⟩ : ∃ m, k = m + 2 := ⟨k - 2, by omega⟩
  have he : (l.take 100).drop i = [] := List.drop_eq_nil_of_le (by rw [List.length_take]; omega)
  rw [he]
  simp only [swagelaw27_few.l0, List.all_nil, Bool.true_and]
  by_cases h : (i : Int) < (l.length : Int)
  ·rw [if_pos h, decide_eq_false (by omega)]
   simp only [swagelaw27_few.j1]
   rw [if_neg (by simp)]
   congr 1
   exact decide_eq_decide.2 (by omega)
  ·rw [if_neg h]
   simp only [swagelaw27_few.j1]
   rw [if_neg (by simp)]
   congr 1
   exact decide_eq_decide.2 (by omega)
 | succ d ih =>
  intro i hi hd
  obtain ⟨K, hK⟩ := ih (i + 1) (by omega) (by omega)
  refine ⟨K + 2, fun k hk => ?_⟩
  obtain ⟨k, rfl⟩ : ∃ m, k = m + 2 := ⟨k - 2, by omega⟩
  have hK' := hK k (by omega)
  have hil : i < l.length := by omega
  have hit : i < (l.take 100).length := by rw [List.length_take]; omega
  rw [List.drop_eq_getElem_cons hit, List.getElem_take, List.all_cons]
  simp only [swagelaw27_few.l0]
  rw [if_pos (by omega), decide_eq_true (by omega)]
  simp only [swagelaw27_few.j1]
  rw [if_pos trivial, if_pos (by omega), if_pos (by omega)]
  have hr : zAF l (i : Int) = l[i] := by unfold zAF; simp [hil]
  rw [hr, show wrap64 ((i : Int) + 1) = ((i + 1 : Nat) : Int) from by unfold wrap64; omega]
  by_cases h : ((l[i].f5.length : Nat) : Int) > 20
  ·rw [if_pos h, decide_eq_false (by omega)]
   simp
  ·rw [if_neg h, decide_eq_true (by omega), Bool.true_and]
   exact hK'
theorem few_calls (A : Option Addr) (c : Nat) (l : List S37) (w : World) (h : Kd.C k37 w A l.length l) (hc : l.length ≤ c) :
  Calls Try.prog 9 #[.slice A l.length c] w fun e w' => e = .returned (.bool (fewB l)) ∧ Drawn0 w w' := by
 obtain ⟨k, hk⟩ := (few_ev l _ 0 (Nat.zero_le _) rfl).rounds
 exact swagelaw27_few.calls k A c l _ w h hc hk
theorem ints_same (xs : List Int) (hl : xs.length ≤ 1000) : ∀ (d i : Nat), i ≤ xs.length → xs.length - i = d → Ev (fun k => swageref02_Ints.l0 k xs xs (i : Int)) true := by
 intro d
 induction d with
 | zero =>
  intro i hi hd
  refine ⟨1, fun k hk => ?_⟩
  obtain ⟨k, rfl⟩ : ∃ m, k = m + 1 := ⟨k - 1, by omega⟩
  simp only [swageref02_Ints.l0]
  rw [if_neg (by omega)]
 | succ d ih =>
  intro i hi hd
  obtain ⟨K, hK⟩ := ih (i + 1) (by omega) (by omega)
  refine ⟨K + 1, fun k hk => ?_⟩
  obtain ⟨k, rfl⟩ : ∃ m, k = m + 1 := ⟨k - 1, by omega⟩
  simp only [swageref02_Ints.l0]
  rw [if_pos (by omega), if_pos (by omega), if_pos (by omega), if_pos trivial, show wrap64 ((i : Int) + 1) = ((i + 1 : Nat) : Int) from by unfold wrap64; omega]
  exact hK k (by omega)
theorem same_calls' (x : S37) (A : Option Addr) (c : Nat) (B : Option Addr) (b : Nat) (w : World) (hx : Kd.C (Kd.int .i64) w A x.f5.length x.f5) (hc : x.f5.length ≤ c) (hy : Kd.C (Kd.int .i64) w B x.f5.length x.f5) (hb : x.f5.length ≤ b) (hl : x.f5.length ≤ 1000) :
  Calls Try.prog 29 #[.agg #[.int .i64 x.f0, .int .i64 x.f1, .int .i64 x.f2, .int .i64 x.f3, .int .i64 x.f4, .slice A x.f5.length c], .agg #[.int .i64 x.f0, .int .i64 x.f1, .int .i64 x.f2, .int .i64 x.f3, .int .i64 x.f4, .slice B x.f5.length b]] w fun e w' => e = .returned (.bool true) ∧ Below w.heap.size w w' := by
 obtain ⟨k, hk⟩ := (ints_same x.f5 hl _ 0 (Nat.zero_le _) rfl).rounds
 refine swageref14_SameOp.calls k _ _ _ _ _ A c x.f5 _ _ _ _ _ B b x.f5 true w hx hc hy hb ?_
 unfold swageref14_SameOp.f swageref02_Ints.f
 rw [if_pos rfl]
 have hk' : swageref02_Ints.l0 k x.f5 x.f5 0 = some true := hk
 rw [hk']
 simp
end Go.Proofs.Ytphmlkbmnmicpaa.A
namespace Go.Proofs.Ytphmlkbmnmicpaa.A
open Go.RowKit Go.Proofs.YtphmlkbmnmicpaaW.PrintWords Go.Proofs.YtphmlkbmnmicpaaW.PrintLast Go.Proofs.YtphmlkbmnmicpaaW.PrintMore
attribute [local go_sem] max2_int zBH max_two zBL zBB zBA zBI zBG   -- for this text's walks alone
def swageref27_Latency.j0 : Nat → Bool → Int → Int → Int → Int → Int → List Int → Option (Int)
 | 0, _, _, _, _, _, _, _ => none
 | k + 1, x18, x287000, x287001, x287002, x287003, x287004, x287005 => if x18 = true then (some 3) else (if x287000 = 2 then (if x287004 = 4 then (some 8) else (if x287004 = 5 then (some 8) else (some 1))) else (some 1))
def swageref27_Latency.f (k : Nat) (a0_0 : Int) (a0_1 : Int) (a0_2 : Int) (a0_3 : Int) (a0_4 : Int) (l0_5 : List Int) : Option (Int) := if a0_0 = 7 then (some 20) else (if a0_0 = 4 then (swageref27_Latency.j0 k true a0_0 a0_1 a0_2 a0_3 a0_4 l0_5) else (if a0_0 = 2 then (swageref27_Latency.j0 k (a0_4 == 3) a0_0 a0_1 a0_2 a0_3 a0_4 l0_5) else (swageref27_Latency.j0 k false a0_0 a0_1 a0_2 a0_3 a0_4 l0_5)))
set_option maxHeartbeats 8000000 in
set_option maxRecDepth 100000 in
theorem swageref27_Latency.calls (k : Nat) (a0_0 : Int) (a0_1 : Int) (a0_2 : Int) (a0_3 : Int) (a0_4 : Int) (A0_5 : Option Addr) (c0_5 : Nat) (l0_5 : List Int) (r : Int) (w : World) (hr0_5 : Kd.C (Kd.int .i64) w A0_5 l0_5.length l0_5) (hc0_5 : l0_5.length ≤ c0_5) (h : swageref27_Latency.f k a0_0 a0_1 a0_2 a0_3 a0_4 l0_5 = some r) :
  Calls Try.prog 15 #[.agg #[.int .i64 a0_0, .int .i64 a0_1, .int .i64 a0_2, .int .i64 a0_3, .int .i64 a0_4, .slice A0_5 l0_5.length c0_5]] w fun e w' => e = .returned (.int .i64 r) ∧ Below w.heap.size w w' := by
 have hu37 := Try.underlying37
 have HR0_5 := Aside0.mk hr0_5
 have HC0_5 := Aside0.mk hc0_5
 clear hr0_5 hc0_5
 have HB := Aside0.mk (Below.refl w.heap.size w)
 have H : (if a0_0 = 7 then (some 20) else (if a0_0 = 4 then (swageref27_Latency.j0 k true a0_0 a0_1 a0_2 a0_3 a0_4 l0_5) else (if a0_0 = 2 then (swageref27_Latency.j0 k (a0_4 == 3) a0_0 a0_1 a0_2 a0_3 a0_4 l0_5) else (swageref27_Latency.j0 k false a0_0 a0_1 a0_2 a0_3 a0_4 l0_5)))) = some r := h
 clear h
 by_cases c2 : a0_0 = 7
 ·rw [if_pos c2] at H
  have c2b0 : (a0_0 == 7) = true := beq_iff_eq.mpr c2
  have c2b1 : (a0_0 != 7) = false := bne_eq_false_iff_eq.mpr c2
  clear c2
  obtain rfl := Option.some.inj H
  go_enter Try.func15, Try.ntmps15
  go_wp2_with (first | ((with_reducible refine zAU (N := 1) rfl ?_); refine zAT ?hg (N := 1) ?hd (cs := #[.int .i64 a0_0, .int .i64 a0_1, .int .i64 a0_2, .int .i64 a0_3, .int .i64 a0_4, .slice A0_5 l0_5.length c0_5]) (t := 37) ?hr ?_; (case hd => rfl); (case hg => rfl); (case hr => first | (go_simp; done) | (go_simp; rfl)); intro gb286 hg w3 hbox hb; have n0_ := Aside0.mk (zAL (by repeat (first | (with_reducible first | exact HB.out | apply zAC | apply zAA | apply zAD) | exact HB.out)) hb); have n1_ := Aside0.mk (hbox); have n2_ := Aside0.mk ((by rw [hg]; exact (zAM (by repeat (first | (with_reducible first | exact HB.out | apply zAC | apply zAA | apply zAD) | exact HB.out))) : w.heap.size ≤ gb286)); have n3_ := Aside0.mk ((by rw [hg]; exact (zAM (by repeat (first | (with_reducible first | exact HB.out | apply zAC | apply zAA | apply zAD) | exact HB.out))) : w.heap.size ≤ gb286)); clear HB; have HB := n0_; have BK286 := n1_; have GW286 := n2_; have GE286 := n3_; clear n0_ n1_ n2_ n3_; clear hb hbox hg; have hcz4_0 : w3.cell? ⟨gb286, 0, none⟩ = some (.int .i64 a0_0) := (zAE BK286.out 0).trans rfl; have hcz4_1 : w3.cell? ⟨gb286, 1, none⟩ = some (.int .i64 a0_1) := (zAE BK286.out 1).trans rfl; have hcz4_2 : w3.cell? ⟨gb286, 2, none⟩ = some (.int .i64 a0_2) := (zAE BK286.out 2).trans rfl; have hcz4_3 : w3.cell? ⟨gb286, 3, none⟩ = some (.int .i64 a0_3) := (zAE BK286.out 3).trans rfl; have hcz4_4 : w3.cell? ⟨gb286, 4, none⟩ = some (.int .i64 a0_4) := (zAE BK286.out 4).trans rfl; have hcz4_5 : w3.cell? ⟨gb286, 5, none⟩ = some (.slice A0_5 l0_5.length c0_5) := (zAE BK286.out 5).trans rfl; have hfz4_0 := zAB BK286.out 0; have hfz4_1 := zAB BK286.out 1; have hfz4_2 := zAB BK286.out 2; have hfz4_3 := zAB BK286.out 3; have hfz4_4 := zAB BK286.out 4; have hfz4_5 := zAB BK286.out 5))
  go_ret
  exact ⟨by first | rfl | (simp [zAO, zAN] <;> rfl) | (simp [*, zAO, zAN] <;> rfl), by repeat (first | (with_reducible first | exact HB.out | apply zAC | apply zAA | apply zAD | refine zAH ?_ GE286.out) | exact HB.out)⟩
 ·rw [if_neg c2] at H
  have c2b0 : (a0_0 == 7) = false := beq_eq_false_iff_ne.mpr c2
  have c2b1 : (a0_0 != 7) = true := bne_iff_ne.mpr c2
  have HC5 := Aside0.mk H
  clear H
  go_enter Try.func15, Try.ntmps15
  go_upto_region 3 with (first | ((with_reducible refine zAU (N := 1) rfl ?_); refine zAT ?hg (N := 1) ?hd (cs := #[.int .i64 a0_0, .int .i64 a0_1, .int .i64 a0_2, .int .i64 a0_3, .int .i64 a0_4, .slice A0_5 l0_5.length c0_5]) (t := 37) ?hr ?_; (case hd => rfl); (case hg => rfl); (case hr => first | (go_simp; done) | (go_simp; rfl)); intro gb286 hg w6 hbox hb; have n0_ := Aside0.mk (zAL (by repeat (first | (with_reducible first | exact HB.out | apply zAC | apply zAA | apply zAD) | exact HB.out)) hb); have n1_ := Aside0.mk (hbox); have n2_ := Aside0.mk ((by rw [hg]; exact (zAM (by repeat (first | (with_reducible first | exact HB.out | apply zAC | apply zAA | apply zAD) | exact HB.out))) : w.heap.size ≤ gb286)); have n3_ := Aside0.mk ((by rw [hg]; exact (zAM (by repeat (first | (with_reducible first | exact HB.out | apply zAC | apply zAA | apply zAD) | exact HB.out))) : w.heap.size ≤ gb286)); clear HB; have HB := n0_; have BK286 := n1_; have GW286 := n2_; have GE286 := n3_; clear n0_ n1_ n2_ n3_; clear hb hbox hg; have hcz7_0 : w6.cell? ⟨gb286, 0, none⟩ = some (.int .i64 a0_0) := (zAE BK286.out 0).trans rfl; have hcz7_1 : w6.cell? ⟨gb286, 1, none⟩ = some (.int .i64 a0_1) := (zAE BK286.out 1).trans rfl; have hcz7_2 : w6.cell? ⟨gb286, 2, none⟩ = some (.int .i64 a0_2) := (zAE BK286.out 2).trans rfl; have hcz7_3 : w6.cell? ⟨gb286, 3, none⟩ = some (.int .i64 a0_3) := (zAE BK286.out 3).trans rfl; have hcz7_4 : w6.cell? ⟨gb286, 4, none⟩ = some (.int .i64 a0_4) := (zAE BK286.out 4).trans rfl; have hcz7_5 : w6.cell? ⟨gb286, 5, none⟩ = some (.slice A0_5 l0_5.length c0_5) := (zAE BK286.out 5).trans rfl; have hfz7_0 := zAB BK286.out 0; have hfz7_1 := zAB BK286.out 1; have hfz7_2 := zAB BK286.out 2; have hfz7_3 := zAB BK286.out 3; have hfz7_4 := zAB BK286.out 4; have hfz7_5 := zAB BK286.out 5))
  (try simp only [Act.put, List.setIfInBounds_toArray, List.set_cons_zero, List.set_cons_succ])
  go_cut [18] (fun v18 wc => ∃ (kq : Nat) (x18_4 : Bool), v18 = .bool x18_4 ∧ Aside0 (swageref27_Latency.j0 kq x18_4 a0_0 a0_1 a0_2 a0_3 a0_4 l0_5 = some r) ∧ Aside0 (kq ≤ k) ∧ Aside0 (wc.heap[gb286]? = some (.cells #[.int .i64 a0_0, .int .i64 a0_1, .int .i64 a0_2, .int .i64 a0_3, .int .i64 a0_4, (.slice A0_5 l0_5.length c0_5)] 37 (0, 0))) ∧ Aside0 (Below w.heap.size w wc))
  case first =>
   have H := HC5.out
   clear HC5
   by_cases c8 : a0_0 = 4
   ·rw [if_pos c8] at H
    have c8b0 : (a0_0 == 4) = true := beq_iff_eq.mpr c8
    have c8b1 : (a0_0 != 4) = false := bne_eq_false_iff_eq.mpr c8
    clear c8
    (first | rw [c8b0] | (simp only [i64_w, i32_w]; rw [c8b0]) | skip)
    have H' := Aside0.mk H
    clear H
    have hcz9_0 : w6.cell? ⟨gb286, 0, none⟩ = some (.int .i64 a0_0) := (zAE BK286.out 0).trans rfl
    have hcz9_1 : w6.cell? ⟨gb286, 1, none⟩ = some (.int .i64 a0_1) := (zAE BK286.out 1).trans rfl
    have hcz9_2 : w6.cell? ⟨gb286, 2, none⟩ = some (.int .i64 a0_2) := (zAE BK286.out 2).trans rfl
    have hcz9_3 : w6.cell? ⟨gb286, 3, none⟩ = some (.int .i64 a0_3) := (zAE BK286.out 3).trans rfl
    have hcz9_4 : w6.cell? ⟨gb286, 4, none⟩ = some (.int .i64 a0_4) := (zAE BK286.out 4).trans rfl
    have hcz9_5 : w6.cell? ⟨gb286, 5, none⟩ = some (.slice A0_5 l0_5.length c0_5) := (zAE BK286.out 5).trans rfl
    have hfz9_0 := zAB BK286.out 0
    have hfz9_1 := zAB BK286.out 1
    have hfz9_2 := zAB BK286.out 2
    have hfz9_3 := zAB BK286.out 3
    have hfz9_4 := zAB BK286.out 4
    have hfz9_5 := zAB BK286.out 5
    go_wp2
    go_meet
    case rel => exact ⟨_, (true), (by first | rfl | (simp; done) | (simp [*]; done)), H', ⟨by first | omega | exact Nat.le_refl _⟩, ⟨by (with_reducible repeat (first | refine zAI ?_ _ | refine zAJ ?_ | refine zAG ?_ _)); exact BK286.out⟩, ⟨by repeat (first | (with_reducible first | exact HB.out | apply zAC | apply zAA | apply zAD | refine zAH ?_ GE286.out) | exact HB.out)⟩⟩
   ·rw [if_neg c8] at H
    have c8b0 : (a0_0 == 4) = false := beq_eq_false_iff_ne.mpr c8
    have c8b1 : (a0_0 != 4) = true := bne_iff_ne.mpr c8
    (first | rw [c8b0] | (simp only [i64_w, i32_w]; rw [c8b0]) | skip)
    by_cases c10 : a0_0 = 2
    ·rw [if_pos c10] at H
     have c10b0 : (a0_0 == 2) = true := beq_iff_eq.mpr c10
     have c10b1 : (a0_0 != 2) = false := bne_eq_false_iff_eq.mpr c10
     clear c10
     have H' := Aside0.mk H
     clear H
     have hcz11_0 : w6.cell? ⟨gb286, 0, none⟩ = some (.int .i64 a0_0) := (zAE BK286.out 0).trans rfl
     have hcz11_1 : w6.cell? ⟨gb286, 1, none⟩ = some (.int .i64 a0_1) := (zAE BK286.out 1).trans rfl
     have hcz11_2 : w6.cell? ⟨gb286, 2, none⟩ = some (.int .i64 a0_2) := (zAE BK286.out 2).trans rfl
     have hcz11_3 : w6.cell? ⟨gb286, 3, none⟩ = some (.int .i64 a0_3) := (zAE BK286.out 3).trans rfl
     have hcz11_4 : w6.cell? ⟨gb286, 4, none⟩ = some (.int .i64 a0_4) := (zAE BK286.out 4).trans rfl
     have hcz11_5 : w6.cell? ⟨gb286, 5, none⟩ = some (.slice A0_5 l0_5.length c0_5) := (zAE BK286.out 5).trans rfl
     have hfz11_0 := zAB BK286.out 0
     have hfz11_1 := zAB BK286.out 1
     have hfz11_2 := zAB BK286.out 2
     have hfz11_3 := zAB BK286.out 3
     have hfz11_4 := zAB BK286.out 4
     have hfz11_5 := zAB BK286.out 5
     go_wp2
     go_meet
     case rel => exact ⟨_, ((a0_4 == 3)), (by first | rfl | (simp; done) | (simp [*]; done)), H', ⟨by first | omega | exact Nat.le_refl _⟩, ⟨by (with_reducible repeat (first | refine zAI ?_ _ | refine zAJ ?_ | refine zAG ?_ _)); exact BK286.out⟩, ⟨by repeat (first | (with_reducible first | exact HB.out | apply zAC | apply zAA | apply zAD | refine zAH ?_ GE286.out) | exact HB.out)⟩⟩
    ·rw [if_neg c10] at H
     have c10b0 : (a0_0 == 2) = false := beq_eq_false_iff_ne.mpr c10
     have c10b1 : (a0_0 != 2) = true := bne_iff_ne.mpr c10
     have H' := Aside0.mk H
     clear H
     have hcz12_0 : w6.cell? ⟨gb286, 0, none⟩ = some (.int .i64 a0_0) := (zAE BK286.out 0).trans rfl
     have hcz12_1 : w6.cell? ⟨gb286, 1, none⟩ = some (.int .i64 a0_1) := (zAE BK286.out 1).trans rfl
     have hcz12_2 : w6.cell? ⟨gb286, 2, none⟩ = some (.int .i64 a0_2) := (zAE BK286.out 2).trans rfl
     have hcz12_3 : w6.cell? ⟨gb286, 3, none⟩ = some (.int .i64 a0_3) := (zAE BK286.out 3).trans rfl
     have hcz12_4 : w6.cell? ⟨gb286, 4, none⟩ = some (.int .i64 a0_4) := (zAE BK286.out 4).trans rfl
     have hcz12_5 : w6.cell? ⟨gb286, 5, none⟩ = some (.slice A0_5 l0_5.length c0_5) := (zAE BK286.out 5).trans rfl
     have hfz12_0 := zAB BK286.out 0
     have hfz12_1 := zAB BK286.out 1
     have hfz12_2 := zAB BK286.out 2
     have hfz12_3 := zAB BK286.out 3
     have hfz12_4 := zAB BK286.out 4
     have hfz12_5 := zAB BK286.out 5
     go_wp2
     go_meet
     case rel => exact ⟨_, (false), (by first | rfl | (simp; done) | (simp [*]; done)), H', ⟨by first | omega | exact Nat.le_refl _⟩, ⟨by (with_reducible repeat (first | refine zAI ?_ _ | refine zAJ ?_ | refine zAG ?_ _)); exact BK286.out⟩, ⟨by repeat (first | (with_reducible first | exact HB.out | apply zAC | apply zAA | apply zAD | refine zAH ?_ GE286.out) | exact HB.out)⟩⟩
  case rest =>
   clear HC5
   (try clear c1); (try clear c2); (try clear c2b0); (try clear c2b1); (try clear p2); (try clear c8); (try clear c8b0); (try clear c8b1); (try clear c10); (try clear c10b0); (try clear c10b1); (try clear hcz11_0); (try clear hcz11_1); (try clear hcz11_2); (try clear hcz11_3); (try clear hcz11_4); (try clear hcz11_5); (try clear hcz12_0); (try clear hcz12_1); (try clear hcz12_2); (try clear hcz12_3); (try clear hcz12_4); (try clear hcz12_5); (try clear hcz4_0); (try clear hcz4_1); (try clear hcz4_2); (try clear hcz4_3); (try clear hcz4_4); (try clear hcz4_5); (try clear hcz7_0); (try clear hcz7_1); (try clear hcz7_2); (try clear hcz7_3); (try clear hcz7_4); (try clear hcz7_5); (try clear hcz9_0); (try clear hcz9_1); (try clear hcz9_2); (try clear hcz9_3); (try clear hcz9_4); (try clear hcz9_5); (try clear hfz11_0); (try clear hfz11_1); (try clear hfz11_2); (try clear hfz11_3); (try clear hfz11_4); (try clear hfz11_5); (try clear hfz12_0); (try clear hfz12_1); (try clear hfz12_2); (try clear hfz12_3); (try clear hfz12_4); (try clear hfz12_5); (try clear hfz4_0); (try clear hfz4_1); (try clear hfz4_2); (try clear hfz4_3); (try clear hfz4_4); (try clear hfz4_5); (try clear hfz7_0); (try clear hfz7_1); (try clear hfz7_2); (try clear hfz7_3); (try clear hfz7_4); (try clear hfz7_5); (try clear hfz9_0); (try clear hfz9_1); (try clear hfz9_2); (try clear hfz9_3); (try clear hfz9_4); (try clear hfz9_5)
   obtain ⟨kq, x18_4, rfl, HA, HJ4, BK286, HB⟩ := hcut
   cases kq with
   | zero => exact absurd HA.out (by simp [swageref27_Latency.j0])
   | succ kj4 =>
    have H := HA.out
    clear HA
    simp only [swageref27_Latency.j0] at H
    by_cases c13 : x18_4 = true
    ·subst c13
     have H1 : (some 3) = some r := by rw [if_pos rfl] at H; exact H
     clear H
     have H := H1
     clear H1
     obtain rfl := Option.some.inj H
     go_wp2
     go_ret
     exact ⟨by first | rfl | (simp [zAO, zAN] <;> rfl) | (simp [*, zAO, zAN] <;> rfl), by repeat (first | (with_reducible first | exact HB.out | apply zAC | apply zAA | apply zAD | refine zAH ?_ GE286.out) | exact HB.out)⟩
    ·replace c13 := Bool.eq_false_iff.mpr c13
     subst c13
     have H1 : (if a0_0 = 2 then (if a0_4 = 4 then (some 8) else (if a0_4 = 5 then (some 8) else (some 1))) else (some 1)) = some r := by rw [if_neg (show ¬ (false = true) by decide)] at H; exact H
     clear H
     have H := H1
     clear H1
     by_cases c14 : a0_0 = 2
     ·rw [if_pos c14] at H
      have c14b0 : (a0_0 == 2) = true := beq_iff_eq.mpr c14
      have c14b1 : (a0_0 != 2) = false := bne_eq_false_iff_eq.mpr c14
      clear c14
      by_cases c15 : a0_4 = 4
      ·rw [if_pos c15] at H
       have c15b0 : (a0_4 == 4) = true := beq_iff_eq.mpr c15
       have c15b1 : (a0_4 != 4) = false := bne_eq_false_iff_eq.mpr c15
       clear c15
       obtain rfl := Option.some.inj H
       have hcz16_0 : wc.cell? ⟨gb286, 0, none⟩ = some (.int .i64 a0_0) := (zAE BK286.out 0).trans rfl
       have hcz16_1 : wc.cell? ⟨gb286, 1, none⟩ = some (.int .i64 a0_1) := (zAE BK286.out 1).trans rfl
       have hcz16_2 : wc.cell? ⟨gb286, 2, none⟩ = some (.int .i64 a0_2) := (zAE BK286.out 2).trans rfl
       have hcz16_3 : wc.cell? ⟨gb286, 3, none⟩ = some (.int .i64 a0_3) := (zAE BK286.out 3).trans rfl
       have hcz16_4 : wc.cell? ⟨gb286, 4, none⟩ = some (.int .i64 a0_4) := (zAE BK286.out 4).trans rfl
       have hcz16_5 : wc.cell? ⟨gb286, 5, none⟩ = some (.slice A0_5 l0_5.length c0_5) := (zAE BK286.out 5).trans rfl
       have hfz16_0 := zAB BK286.out 0
       have hfz16_1 := zAB BK286.out 1
       have hfz16_2 := zAB BK286.out 2
       have hfz16_3 := zAB BK286.out 3
       have hfz16_4 := zAB BK286.out 4
       have hfz16_5 := zAB BK286.out 5
       go_wp2
       go_ret
       exact ⟨by first | rfl | (simp [zAO, zAN] <;> rfl) | (simp [*, zAO, zAN] <;> rfl), by repeat (first | (with_reducible first | exact HB.out | apply zAC | apply zAA | apply zAD | refine zAH ?_ GE286.out) | exact HB.out)⟩
      ·rw [if_neg c15] at H
       have c15b0 : (a0_4 == 4) = false := beq_eq_false_iff_ne.mpr c15
       have c15b1 : (a0_4 != 4) = true := bne_iff_ne.mpr c15
       by_cases c17 : a0_4 = 5
       ·rw [if_pos c17] at H
        have c17b0 : (a0_4 == 5) = true := beq_iff_eq.mpr c17
        have c17b1 : (a0_4 != 5) = false := bne_eq_false_iff_eq.mpr c17
        clear c17
        obtain rfl := Option.some.inj H
        have hcz18_0 : wc.cell? ⟨gb286, 0, none⟩ = some (.int .i64 a0_0) := (zAE BK286.out 0).trans rfl
        have hcz18_1 : wc.cell? ⟨gb286, 1, none⟩ = some (.int .i64 a0_1) := (zAE BK286.out 1).trans rfl
        have hcz18_2 : wc.cell? ⟨gb286, 2, none⟩ = some (.int .i64 a0_2) := (zAE BK286.out 2).trans rfl
        have hcz18_3 : wc.cell? ⟨gb286, 3, none⟩ = some (.int .i64 a0_3) := (zAE BK286.out 3).trans rfl
        have hcz18_4 : wc.cell? ⟨gb286, 4, none⟩ = some (.int .i64 a0_4) := (zAE BK286.out 4).trans rfl
        have hcz18_5 : wc.cell? ⟨gb286, 5, none⟩ = some (.slice A0_5 l0_5.length c0_5) := (zAE BK286.out 5).trans rfl
        have hfz18_0 := zAB BK286.out 0
        have hfz18_1 := zAB BK286.out 1
        have hfz18_2 := zAB BK286.out 2
        have hfz18_3 := zAB BK286.out 3
        have hfz18_4 := zAB BK286.out 4
        have hfz18_5 := zAB BK286.out 5
        go_wp2
        go_ret
        exact ⟨by first | rfl | (simp [zAO, zAN] <;> rfl) | (simp [*, zAO, zAN] <;> rfl), by repeat (first | (with_reducible first | exact HB.out | apply zAC | apply zAA | apply zAD | refine zAH ?_ GE286.out) | exact HB.out)⟩
       ·rw [if_neg c17] at H
        have c17b0 : (a0_4 == 5) = false := beq_eq_false_iff_ne.mpr c17
        have c17b1 : (a0_4 != 5) = true := bne_iff_ne.mpr c17
        obtain rfl := Option.some.inj H
        have hcz19_0 : wc.cell? ⟨gb286, 0, none⟩ = some (.int .i64 a0_0) := (zAE BK286.out 0).trans rfl
        have hcz19_1 : wc.cell? ⟨gb286, 1, none⟩ = some (.int .i64 a0_1) := (zAE BK286.out 1).trans rfl
        have hcz19_2 : wc.cell? ⟨gb286, 2, none⟩ = some (.int .i64 a0_2) := (zAE BK286.out 2).trans rfl
        have hcz19_3 : wc.cell? ⟨gb286, 3, none⟩ = some (.int .i64 a0_3) := (zAE BK286.out 3).trans rfl
        have hcz19_4 : wc.cell? ⟨gb286, 4, none⟩ = some (.int .i64 a0_4) := (zAE BK286.out 4).trans rfl
        have hcz19_5 : wc.cell? ⟨gb286, 5, none⟩ = some (.slice A0_5 l0_5.length c0_5) := (zAE BK286.out 5).trans rfl
        have hfz19_0 := zAB BK286.out 0
        have hfz19_1 := zAB BK286.out 1
        have hfz19_2 := zAB BK286.out 2
        have hfz19_3 := zAB BK286.out 3
        have hfz19_4 := zAB BK286.out 4
        have hfz19_5 := zAB BK286.out 5
        go_wp2
        go_ret
        exact ⟨by first | rfl | (simp [zAO, zAN] <;> rfl) | (simp [*, zAO, zAN] <;> rfl), by repeat (first | (with_reducible first | exact HB.out | apply zAC | apply zAA | apply zAD | refine zAH ?_ GE286.out) | exact HB.out)⟩
     ·rw [if_neg c14] at H
      have c14b0 : (a0_0 == 2) = false := beq_eq_false_iff_ne.mpr c14
      have c14b1 : (a0_0 != 2) = true := bne_iff_ne.mpr c14
      obtain rfl := Option.some.inj H
      have hcz20_0 : wc.cell? ⟨gb286, 0, none⟩ = some (.int .i64 a0_0) := (zAE BK286.out 0).trans rfl
      have hcz20_1 : wc.cell? ⟨gb286, 1, none⟩ = some (.int .i64 a0_1) := (zAE BK286.out 1).trans rfl
      have hcz20_2 : wc.cell? ⟨gb286, 2, none⟩ = some (.int .i64 a0_2) := (zAE BK286.out 2).trans rfl
      have hcz20_3 : wc.cell? ⟨gb286, 3, none⟩ = some (.int .i64 a0_3) := (zAE BK286.out 3).trans rfl
      have hcz20_4 : wc.cell? ⟨gb286, 4, none⟩ = some (.int .i64 a0_4) := (zAE BK286.out 4).trans rfl
      have hcz20_5 : wc.cell? ⟨gb286, 5, none⟩ = some (.slice A0_5 l0_5.length c0_5) := (zAE BK286.out 5).trans rfl
      have hfz20_0 := zAB BK286.out 0
      have hfz20_1 := zAB BK286.out 1
      have hfz20_2 := zAB BK286.out 2
      have hfz20_3 := zAB BK286.out 3
      have hfz20_4 := zAB BK286.out 4
      have hfz20_5 := zAB BK286.out 5
      go_wp2
      go_ret
      exact ⟨by first | rfl | (simp [zAO, zAN] <;> rfl) | (simp [*, zAO, zAN] <;> rfl), by repeat (first | (with_reducible first | exact HB.out | apply zAC | apply zAA | apply zAD | refine zAH ?_ GE286.out) | exact HB.out)⟩
end Go.Proofs.Ytphmlkbmnmicpaa.A
namespace Go.Proofs.Ytphmlkbmnmicpaa.A
open Go.RowKit Go.Proofs.YtphmlkbmnmicpaaW.PrintWords Go.Proofs.YtphmlkbmnmicpaaW.PrintLast Go.Proofs.YtphmlkbmnmicpaaW.PrintMore
attribute [local go_sem] max2_int zBH max_two zBL zBB zBA zBI zBG   -- for this text's walks alone
def swageref27_has.l0 : Nat → List Int → Int → Int → Option (Bool)
 | 0, _, _, _ => none
 | k + 1, x0, x1, x5 => if x5 < (x0.length : Int) then (if 0 ≤ x5 then (if (rd x0 x5) = x1 then (if x1 = 0 then (swageref27_has.l0 k x0 x1 (wrap64 (x5 + 1))) else (some true)) else (swageref27_has.l0 k x0 x1 (wrap64 (x5 + 1)))) else (none)) else (some false)
def swageref27_has.f (k : Nat) (l0 : List Int) (a1 : Int) : Option (Bool) := swageref27_has.l0 k l0 a1 0
set_option maxHeartbeats 8000000 in
set_option maxRecDepth 100000 in
theorem swageref27_has.calls (k : Nat) (A0 : Option Addr) (c0 : Nat) (l0 : List Int) (a1 : Int) (r : Bool) (w : World) (hr0 : Kd.C (Kd.int .i64) w A0 l0.length l0) (hc0 : l0.length ≤ c0) (h : swageref27_has.f k l0 a1 = some r) :
  Calls Try.prog 44 #[.slice A0 l0.length c0, .int .i64 a1] w fun e w' => e = .returned (.bool r) ∧ Drawn0 w w' := by
 have HR0 := Aside0.mk hr0
 have HC0 := Aside0.mk hc0
 clear hr0 hc0
 have H : (swageref27_has.l0 k l0 a1 0) = some r := h
 clear h
 have H' := Aside0.mk H
 clear H
 go_enter Try.func44, Try.ntmps44
 go_wp2
 go_loopg [5] k (fun kq v5 w' => ∃ (x5_1 : Int), v5 = .int .i64 x5_1 ∧ Aside0 (swageref27_has.l0 kq l0 a1 x5_1 = some r) ∧ Aside0 (kq ≤ k) ∧ Drawn0 w w')
 case atStart => exact ⟨(0), (by first | rfl | (simp; done) | (simp [*]; done)), H', ⟨Nat.le_refl _⟩, by repeat (first | exact Drawn0.refl _ | apply Drawn0.step)⟩
 case round =>
  clear H'
  try clear p2
  obtain ⟨x5_1, rfl, HA, HK1, ⟨m1, rfl⟩⟩ := hrel
  cases gk with
  | zero => exact absurd HA.out (by simp [swageref27_has.l0])
  | succ k1 =>
   have H := HA.out
   clear HA
   simp only [swageref27_has.l0] at H
   by_cases c3 : x5_1 < (l0.length : Int)
   ·rw [if_pos c3] at H
    have c3b0 : decide (x5_1 < (l0.length : Int)) = true := decide_eq_true c3
    clear c3
    by_cases c4 : 0 ≤ x5_1
    ·rw [if_pos c4] at H
     have c4b0 : decide (0 ≤ x5_1) = true := decide_eq_true c4
     clear c4
     by_cases c5 : (rd l0 x5_1) = a1
     ·rw [if_pos c5] at H
      have c5b0 : ((rd l0 x5_1) == a1) = true := beq_iff_eq.mpr c5
      have c5b1 : ((rd l0 x5_1) != a1) = false := bne_eq_false_iff_eq.mpr c5
      clear c5
      by_cases c6 : a1 = 0
      ·rw [if_pos c6] at H
       have c6b0 : (a1 == 0) = true := beq_iff_eq.mpr c6
       have c6b1 : (a1 != 0) = false := bne_eq_false_iff_eq.mpr c6
       clear c6
       have H' := Aside0.mk H
       clear H
       have p239 : 0 ≤ (x5_1 : Int) := of_decide_eq_true (by first | (with_reducible assumption) | assumption)
       have q239 : x5_1 < (l0.length : Int) := of_decide_eq_true (by first | (with_reducible assumption) | assumption)
       obtain ⟨ad239, e239, hx239_0⟩ := Kd.at_int HR0.out x5_1 p239 q239
       cases e239
       replace p239 := eq_true p239
       replace q239 := eq_true q239
       go_wp2
       go_roundg k1
       case measure => have := HK1.out; omega
       case rel => exact ⟨(wrap64 (x5_1 + 1)), (by first | rfl | (simp; done) | (simp [*]; done)), H', ⟨by have := HK1.out; omega⟩, by repeat (first | exact Drawn0.refl _ | apply Drawn0.step)⟩
      ·rw [if_neg c6] at H
       have c6b0 : (a1 == 0) = false := beq_eq_false_iff_ne.mpr c6
       have c6b1 : (a1 != 0) = true := bne_iff_ne.mpr c6
       obtain rfl := Option.some.inj H
       have p239 : 0 ≤ (x5_1 : Int) := of_decide_eq_true (by first | (with_reducible assumption) | assumption)
       have q239 : x5_1 < (l0.length : Int) := of_decide_eq_true (by first | (with_reducible assumption) | assumption)
       obtain ⟨ad239, e239, hx239_0⟩ := Kd.at_int HR0.out x5_1 p239 q239
       cases e239
       replace p239 := eq_true p239
       replace q239 := eq_true q239
       go_wp2
       go_ret
       exact ⟨by first | rfl | (simp; done) | (simp [*]; done), by repeat (first | exact Drawn0.refl _ | apply Drawn0.step)⟩
     ·rw [if_neg c5] at H
      have c5b0 : ((rd l0 x5_1) == a1) = false := beq_eq_false_iff_ne.mpr c5
      have c5b1 : ((rd l0 x5_1) != a1) = true := bne_iff_ne.mpr c5
      have H' := Aside0.mk H
      clear H
      have p239 : 0 ≤ (x5_1 : Int) := of_decide_eq_true (by first | (with_reducible assumption) | assumption)
      have q239 : x5_1 < (l0.length : Int) := of_decide_eq_true (by first | (with_reducible assumption) | assumption)
      obtain ⟨ad239, e239, hx239_0⟩ := Kd.at_int HR0.out x5_1 p239 q239
      cases e239
      replace p239 := eq_true p239
      replace q239 := eq_true q239
      go_wp2
      go_roundg k1
      case measure => have := HK1.out; omega
      case rel => exact ⟨(wrap64 (x5_1 + 1)), (by first | rfl | (simp; done) | (simp [*]; done)), H', ⟨by have := HK1.out; omega⟩, by repeat (first | exact Drawn0.refl _ | apply Drawn0.step)⟩
    ·rw [if_neg c4] at H
     exact absurd H (by simp)
   ·rw [if_neg c3] at H
    have c3b0 : decide (x5_1 < (l0.length : Int)) = false := decide_eq_false c3
    clear c3
    obtain rfl := Option.some.inj H
    go_wp2
    go_ret
    exact ⟨by first | rfl | (simp; done) | (simp [*]; done), by repeat (first | exact Drawn0.refl _ | apply Drawn0.step)⟩
end Go.Proofs.Ytphmlkbmnmicpaa.A
namespace Go.Proofs.Ytphmlkbmnmicpaa.A
open Go.RowKit Go.Proofs.YtphmlkbmnmicpaaW.PrintWords Go.Proofs.YtphmlkbmnmicpaaW.PrintLast Go.Proofs.YtphmlkbmnmicpaaW.PrintMore
attribute [local go_sem] max2_int zBH max_two zBL zBB zBA zBI zBG   -- for this text's walks alone
mutual
def swageref14_Uses.j0 : Nat → Int → Bool → Int → Int → Int → Int → Int → List Int → Option (List Int)
 | 0, _, _, _, _, _, _, _, _ => none
 | k + 1, x4, x5, x241000, x241001, x241002, x241003, x241004, x241005 => if x5 = true then (some (([x241002, x241003] : List Int))) else (if x4 = 3 then (swageref14_Uses.j1 k x4 (x4 == 3) x241000 x241001 x241002 x241003 x241004 x241005) else (if x4 = 4 then (swageref14_Uses.j1 k x4 (x4 == 4) x241000 x241001 x241002 x241003 x241004 x241005) else (swageref14_Uses.j1 k x4 (x4 == 9) x241000 x241001 x241002 x241003 x241004 x241005)))
def swageref14_Uses.j1 : Nat → Int → Bool → Int → Int → Int → Int → Int → List Int → Option (List Int)
 | 0, _, _, _, _, _, _, _, _ => none
 | k + 1, x4, x13, x241000, x241001, x241002, x241003, x241004, x241005 => if x13 = true then (some (([x241002] : List Int))) else (if x4 = 7 then ((some (([] : List Int) : List Int)).bind fun y247 => (if y247.length + x241005.length < 17592186044416 then (some (y247 ++ x241005)) else (none))) else (some ([] : List Int)))
end
def swageref14_Uses.f (k : Nat) (a0_0 : Int) (a0_1 : Int) (a0_2 : Int) (a0_3 : Int) (a0_4 : Int) (l0_5 : List Int) : Option (List Int) := if a0_0 = 2 then (swageref14_Uses.j0 k a0_0 (a0_0 == 2) a0_0 a0_1 a0_2 a0_3 a0_4 l0_5) else (swageref14_Uses.j0 k a0_0 (a0_0 == 5) a0_0 a0_1 a0_2 a0_3 a0_4 l0_5)
set_option maxHeartbeats 8000000 in
set_option maxRecDepth 100000 in
theorem swageref14_Uses.calls (k : Nat) (a0_0 : Int) (a0_1 : Int) (a0_2 : Int) (a0_3 : Int) (a0_4 : Int) (A0_5 : Option Addr) (c0_5 : Nat) (l0_5 : List Int) (r : List Int) (w : World) (hr0_5 : Kd.C (Kd.int .i64) w A0_5 l0_5.length l0_5) (hc0_5 : l0_5.length ≤ c0_5) (h : swageref14_Uses.f k a0_0 a0_1 a0_2 a0_3 a0_4 l0_5 = some r) :
  Calls Try.prog 45 #[.agg #[.int .i64 a0_0, .int .i64 a0_1, .int .i64 a0_2, .int .i64 a0_3, .int .i64 a0_4, .slice A0_5 l0_5.length c0_5]] w fun e w' => ∃ v0_ : Value, e = .returned (v0_) ∧ Kd.R (Kd.int .i64) 3 w' w.heap.size (fun _ => True) v0_ r ∧ Below w.heap.size w w' := by
 have hu37 := Try.underlying37
 have HR0_5 := Aside0.mk hr0_5
 have HC0_5 := Aside0.mk hc0_5
 clear hr0_5 hc0_5
 have HB := Aside0.mk (Below.refl w.heap.size w)
 have H : (if a0_0 = 2 then (swageref14_Uses.j0 k a0_0 (a0_0 == 2) a0_0 a0_1 a0_2 a0_3 a0_4 l0_5) else (swageref14_Uses.j0 k a0_0 (a0_0 == 5) a0_0 a0_1 a0_2 a0_3 a0_4 l0_5)) = some r := h
 clear h
 have HC2 := Aside0.mk H
 clear H
 go_enter Try.func45, Try.ntmps45
 go_upto_if 5 with (first | ((with_reducible refine zAU (N := 1) rfl ?_); refine zAT ?hg (N := 1) ?hd (cs := #[.int .i64 a0_0, .int .i64 a0_1, .int .i64 a0_2, .int .i64 a0_3, .int .i64 a0_4, .slice A0_5 l0_5.length c0_5]) (t := 37) ?hr ?_; (case hd => rfl); (case hg => rfl); (case hr => first | (go_simp; done) | (go_simp; rfl)); intro gb240 hg w3 hbox hb; have n0_ := Aside0.mk (zAL (by repeat (first | (with_reducible first | exact HB.out | apply zAC | apply zAA | apply zAD) | exact HB.out)) hb); have n1_ := Aside0.mk (hbox); have n2_ := Aside0.mk ((by rw [hg]; exact (zAM (by repeat (first | (with_reducible first | exact HB.out | apply zAC | apply zAA | apply zAD) | exact HB.out))) : w.heap.size ≤ gb240)); have n3_ := Aside0.mk ((by rw [hg]; exact (zAM (by repeat (first | (with_reducible first | exact HB.out | apply zAC | apply zAA | apply zAD) | exact HB.out))) : w.heap.size ≤ gb240)); clear HB; have HB := n0_; have BK240 := n1_; have GW240 := n2_; have GE240 := n3_; clear n0_ n1_ n2_ n3_; clear hb hbox hg; have hcz4_0 : w3.cell? ⟨gb240, 0, none⟩ = some (.int .i64 a0_0) := (zAE BK240.out 0).trans rfl; have hcz4_1 : w3.cell? ⟨gb240, 1, none⟩ = some (.int .i64 a0_1) := (zAE BK240.out 1).trans rfl; have hcz4_2 : w3.cell? ⟨gb240, 2, none⟩ = some (.int .i64 a0_2) := (zAE BK240.out 2).trans rfl; have hcz4_3 : w3.cell? ⟨gb240, 3, none⟩ = some (.int .i64 a0_3) := (zAE BK240.out 3).trans rfl; have hcz4_4 : w3.cell? ⟨gb240, 4, none⟩ = some (.int .i64 a0_4) := (zAE BK240.out 4).trans rfl; have hcz4_5 : w3.cell? ⟨gb240, 5, none⟩ = some (.slice A0_5 l0_5.length c0_5) := (zAE BK240.out 5).trans rfl; have hfz4_0 := zAB BK240.out 0; have hfz4_1 := zAB BK240.out 1; have hfz4_2 := zAB BK240.out 2; have hfz4_3 := zAB BK240.out 3; have hfz4_4 := zAB BK240.out 4; have hfz4_5 := zAB BK240.out 5))
 (try simp only [Act.put, List.setIfInBounds_toArray, List.set_cons_zero, List.set_cons_succ])
 go_cut [5] (fun v5 wc => ∃ (kq : Nat) (x5_1 : Bool), v5 = .bool x5_1 ∧ Aside0 (swageref14_Uses.j0 kq a0_0 x5_1 a0_0 a0_1 a0_2 a0_3 a0_4 l0_5 = some r) ∧ Aside0 (kq ≤ k) ∧ Aside0 (wc.heap[gb240]? = some (.cells #[.int .i64 a0_0, .int .i64 a0_1, .int .i64 a0_2, .int .i64 a0_3, .int .i64 a0_4, (.slice A0_5 l0_5.length c0_5)] 37 (0, 0))) ∧ Aside0 (Below w.heap.size w wc))
 case first =>
  have H := HC2.out
  clear HC2
  by_cases c5 : a0_0 = 2
  ·rw [if_pos c5] at H
   have c5b0 : (a0_0 == 2) = true := beq_iff_eq.mpr c5
   have c5b1 : (a0_0 != 2) = false := bne_eq_false_iff_eq.mpr c5
   clear c5
   (first | rw [c5b0] | (simp only [i64_w, i32_w]; rw [c5b0]) | skip)
   have H' := Aside0.mk H
   clear H
   go_wp2
   go_meet
   case rel => exact ⟨_, ((a0_0 == 2)), (by first | rfl | (simp; done) | (simp [*]; done)), H', ⟨by first | omega | exact Nat.le_refl _⟩, ⟨by (with_reducible repeat (first | refine zAI ?_ _ | refine zAJ ?_ | refine zAG ?_ _)); exact BK240.out⟩, ⟨by repeat (first | (with_reducible first | exact HB.out | apply zAC | apply zAA | apply zAD | refine zAH ?_ GE240.out) | exact HB.out)⟩⟩
  ·rw [if_neg c5] at H
   have c5b0 : (a0_0 == 2) = false := beq_eq_false_iff_ne.mpr c5
   have c5b1 : (a0_0 != 2) = true := bne_iff_ne.mpr c5
   (first | rw [c5b0] | (simp only [i64_w, i32_w]; rw [c5b0]) | skip)
   have H' := Aside0.mk H
   clear H
   go_wp2
   go_meet
   case rel => exact ⟨_, ((a0_0 == 5)), (by first | rfl | (simp; done) | (simp [*]; done)), H', ⟨by first | omega | exact Nat.le_refl _⟩, ⟨by (with_reducible repeat (first | refine zAI ?_ _ | refine zAJ ?_ | refine zAG ?_ _)); exact BK240.out⟩, ⟨by repeat (first | (with_reducible first | exact HB.out | apply zAC | apply zAA | apply zAD | refine zAH ?_ GE240.out) | exact HB.out)⟩⟩
 case rest =>
  clear HC2
  (try clear p2); (try clear c4); (try clear c5); (try clear c5b0); (try clear c5b1); (try clear hcz4_0); (try clear hcz4_1); (try clear hcz4_2); (try clear hcz4_3); (try clear hcz4_4); (try clear hcz4_5); (try clear hfz4_0); (try clear hfz4_1); (try clear hfz4_2); (try clear hfz4_3); (try clear hfz4_4); (try clear hfz4_5)
  obtain ⟨kq, x5_1, rfl, HA, HJ1, BK240, HB⟩ := hcut
  cases kq with
  | zero => exact absurd HA.out (by simp [swageref14_Uses.j0])
  | succ kj1 =>
   have H := HA.out
   clear HA
   simp only [swageref14_Uses.j0] at H
   by_cases c6 : x5_1 = true
   ·subst c6
    have H1 : (some (([a0_2, a0_3] : List Int))) = some r := by rw [if_pos rfl] at H; exact H
    clear H
    have H := H1
    clear H1
    obtain ⟨y241, hy241⟩ : ∃ y_ : List Int, y_ = (([a0_2, a0_3] : List Int)) := ⟨_, rfl⟩
    replace H : (some y241) = some r := by first | (rw [hy241]; with_reducible exact H) | (have H2_ := (Option.bind_some _ _).symm.trans H; rw [hy241]; with_reducible exact H2_) | (have H2_ := (Option.bind_some _ _).symm.trans H; with_reducible exact H2_) | with_reducible exact H | (rw [hy241]; exact H) | exact H
    have Ny241 := Aside0.mk hy241
    clear hy241
    obtain rfl := Option.some.inj H
    have hcz7_0 : wc.cell? ⟨gb240, 0, none⟩ = some (.int .i64 a0_0) := (zAE BK240.out 0).trans rfl
    have hcz7_1 : wc.cell? ⟨gb240, 1, none⟩ = some (.int .i64 a0_1) := (zAE BK240.out 1).trans rfl
    have hcz7_2 : wc.cell? ⟨gb240, 2, none⟩ = some (.int .i64 a0_2) := (zAE BK240.out 2).trans rfl
    have hcz7_3 : wc.cell? ⟨gb240, 3, none⟩ = some (.int .i64 a0_3) := (zAE BK240.out 3).trans rfl
    have hcz7_4 : wc.cell? ⟨gb240, 4, none⟩ = some (.int .i64 a0_4) := (zAE BK240.out 4).trans rfl
    have hcz7_5 : wc.cell? ⟨gb240, 5, none⟩ = some (.slice A0_5 l0_5.length c0_5) := (zAE BK240.out 5).trans rfl
    have hfz7_0 := zAB BK240.out 0
    have hfz7_1 := zAB BK240.out 1
    have hfz7_2 := zAB BK240.out 2
    have hfz7_3 := zAB BK240.out 3
    have hfz7_4 := zAB BK240.out 4
    have hfz7_5 := zAB BK240.out 5
    go_wp2_with (first | ((with_reducible refine zAU (N := 12) rfl ?_); refine Kd.R_lit (Kd.int .i64) _ 3 ?hg (N := 12) ?hd (xs := ([a0_2, a0_3] : List Int)) (inner := [.int .i64 a0_2, .int .i64 a0_3]) (ok := fun _ => True) (okp := fun _ => True) ?hr ?hp (fun _ hk => hk) trivial (Below.refl _ _) (Nat.le_refl _) (by simp) ?_; (case hd => rfl); (case hg => rfl); (case hr => first | (go_simp; done) | (go_simp; rfl)); (case hp => exact (Reps.one (show Kd.M (Kd.int .i64) _ _ _ a0_2 [.int .i64 a0_2] from rfl) (Reps.one (show Kd.M (Kd.int .i64) _ _ _ a0_3 [.int .i64 a0_3] from rfl) (Reps.none _ _)))); intro v242 w8 ho9 hb hg_ hnew_; clear hg_ hnew_; (first | rw [← Ny241.out] at ho9 | (simp only [Int.reduceToNat] at ho9; rw [← Ny241.out] at ho9)); have n0_ := Aside0.mk (Kd.R_lower ho9 (zAM (by repeat (first | (with_reducible first | exact HB.out | apply zAC | apply zAA | apply zAD | refine zAH ?_ GE240.out) | exact HB.out)))); have n1_ := Aside0.mk (zAP (g := gb240) (o := .cells #[.int .i64 a0_0, .int .i64 a0_1, .int .i64 a0_2, .int .i64 a0_3, .int .i64 a0_4, .slice A0_5 l0_5.length c0_5] 37 (0, 0)) (by (with_reducible repeat (first | refine zAI ?_ _ | refine zAJ ?_ | refine zAG ?_ _)); exact BK240.out) hb); have n2_ := Aside0.mk (zAL (by repeat (first | (with_reducible first | exact HB.out | apply zAC | apply zAA | apply zAD | refine zAH ?_ GE240.out) | exact HB.out)) hb); clear BK240; clear HB; have HO243 := n0_; have BK240 := n1_; have HB := n2_; clear n0_ n1_ n2_; clear hb ho9))
    go_ret
    exact ⟨_, by first | rfl | (simp [zAO, zAN] <;> rfl) | (simp [*, zAO, zAN] <;> rfl), by (with_reducible repeat (first | apply Kd.R_alloc | apply Kd.R_drewN | apply Kd.R_drew)); exact HO243.out, by repeat (first | (with_reducible first | exact HB.out | apply zAC | apply zAA | apply zAD | refine zAH ?_ GE240.out) | exact HB.out)⟩
   ·replace c6 := Bool.eq_false_iff.mpr c6
    subst c6
    have H1 : (if a0_0 = 3 then (swageref14_Uses.j1 kj1 a0_0 (a0_0 == 3) a0_0 a0_1 a0_2 a0_3 a0_4 l0_5) else (if a0_0 = 4 then (swageref14_Uses.j1 kj1 a0_0 (a0_0 == 4) a0_0 a0_1 a0_2 a0_3 a0_4 l0_5) else (swageref14_Uses.j1 kj1 a0_0 (a0_0 == 9) a0_0 a0_1 a0_2 a0_3 a0_4 l0_5))) = some r := by rw [if_neg (show ¬ (false = true) by decide)] at H; exact H
    clear H
    have H := H1
    clear H1
    have HC10 := Aside0.mk H
    clear H
    go_upto_if 13 with (fail)
    go_cut [13] (fun v13 wc => ∃ (kq : Nat) (x13_9 : Bool), v13 = .bool x13_9 ∧ Aside0 (swageref14_Uses.j1 kq a0_0 x13_9 a0_0 a0_1 a0_2 a0_3 a0_4 l0_5 = some r) ∧ Aside0 (kq ≤ kj1) ∧ Aside0 (wc.heap[gb240]? = some (.cells #[.int .i64 a0_0, .int .i64 a0_1, .int .i64 a0_2, .int .i64 a0_3, .int .i64 a0_4, (.slice A0_5 l0_5.length c0_5)] 37 (0, 0))) ∧ Aside0 (Below w.heap.size w wc))
    case first =>
     have H := HC10.out
     clear HC10
     by_cases c11 : a0_0 = 3
     ·rw [if_pos c11] at H
      have c11b0 : (a0_0 == 3) = true := beq_iff_eq.mpr c11
      have c11b1 : (a0_0 != 3) = false := bne_eq_false_iff_eq.mpr c11
      clear c11
      (first | rw [c11b0] | (simp only [i64_w, i32_w]; rw [c11b0]) | skip)
      have H' := Aside0.mk H
      clear H
      go_wp2
      go_meet
      case rel => exact ⟨_, ((a0_0 == 3)), (by first | rfl | (simp; done) | (simp [*]; done)), H', ⟨by have := HJ1.out; first | omega | exact Nat.le_refl _⟩, ⟨by (with_reducible repeat (first | refine zAI ?_ _ | refine zAJ ?_ | refine zAG ?_ _)); exact BK240.out⟩, ⟨by repeat (first | (with_reducible first | exact HB.out | apply zAC | apply zAA | apply zAD | refine zAH ?_ GE240.out) | exact HB.out)⟩⟩
     ·rw [if_neg c11] at H
      have c11b0 : (a0_0 == 3) = false := beq_eq_false_iff_ne.mpr c11
      have c11b1 : (a0_0 != 3) = true := bne_iff_ne.mpr c11
      (first | rw [c11b0] | (simp only [i64_w, i32_w]; rw [c11b0]) | skip)
      by_cases c12 : a0_0 = 4
      ·rw [if_pos c12] at H
       have c12b0 : (a0_0 == 4) = true := beq_iff_eq.mpr c12
       have c12b1 : (a0_0 != 4) = false := bne_eq_false_iff_eq.mpr c12
       clear c12
       have H' := Aside0.mk H
       clear H
       go_wp2
       go_meet
       case rel => exact ⟨_, ((a0_0 == 4)), (by first | rfl | (simp; done) | (simp [*]; done)), H', ⟨by have := HJ1.out; first | omega | exact Nat.le_refl _⟩, ⟨by (with_reducible repeat (first | refine zAI ?_ _ | refine zAJ ?_ | refine zAG ?_ _)); exact BK240.out⟩, ⟨by repeat (first | (with_reducible first | exact HB.out | apply zAC | apply zAA | apply zAD | refine zAH ?_ GE240.out) | exact HB.out)⟩⟩
      ·rw [if_neg c12] at H
       have c12b0 : (a0_0 == 4) = false := beq_eq_false_iff_ne.mpr c12
       have c12b1 : (a0_0 != 4) = true := bne_iff_ne.mpr c12
       have H' := Aside0.mk H
       clear H
       go_wp2
       go_meet
       case rel => exact ⟨_, ((a0_0 == 9)), (by first | rfl | (simp; done) | (simp [*]; done)), H', ⟨by have := HJ1.out; first | omega | exact Nat.le_refl _⟩, ⟨by (with_reducible repeat (first | refine zAI ?_ _ | refine zAJ ?_ | refine zAG ?_ _)); exact BK240.out⟩, ⟨by repeat (first | (with_reducible first | exact HB.out | apply zAC | apply zAA | apply zAD | refine zAH ?_ GE240.out) | exact HB.out)⟩⟩
    case rest =>
     clear HC10
     (try clear c1); (try clear p2); (try clear c4); (try clear c5); (try clear c5b0); (try clear c5b1); (try clear c6); (try clear c11); (try clear c11b0); (try clear c11b1); (try clear c12); (try clear c12b0); (try clear c12b1); (try clear hcz4_0); (try clear hcz4_1); (try clear hcz4_2); (try clear hcz4_3); (try clear hcz4_4); (try clear hcz4_5); (try clear hcz7_0); (try clear hcz7_1); (try clear hcz7_2); (try clear hcz7_3); (try clear hcz7_4); (try clear hcz7_5); (try clear hfz4_0); (try clear hfz4_1); (try clear hfz4_2); (try clear hfz4_3); (try clear hfz4_4); (try clear hfz4_5); (try clear hfz7_0); (try clear hfz7_1); (try clear hfz7_2); (try clear hfz7_3); (try clear hfz7_4); (try clear hfz7_5); (try clear p2)
     obtain ⟨kq, x13_9, rfl, HA, HJ9, BK240, HB⟩ := hcut
     cases kq with
     | zero => exact absurd HA.out (by simp [swageref14_Uses.j1])
     | succ kj9 =>
      have H := HA.out
      clear HA
      simp only [swageref14_Uses.j1] at H
      by_cases c13 : x13_9 = true
      ·subst c13
       have H1 : (some (([a0_2] : List Int))) = some r := by rw [if_pos rfl] at H; exact H
       clear H
       have H := H1
       clear H1
       obtain ⟨y244, hy244⟩ : ∃ y_ : List Int, y_ = (([a0_2] : List Int)) := ⟨_, rfl⟩
       replace H : (some y244) = some r := by first | (rw [hy244]; with_reducible exact H) | (have H2_ := (Option.bind_some _ _).symm.trans H; rw [hy244]; with_reducible exact H2_) | (have H2_ := (Option.bind_some _ _).symm.trans H; with_reducible exact H2_) | with_reducible exact H | (rw [hy244]; exact H) | exact H
       have Ny244 := Aside0.mk hy244
       clear hy244
       obtain rfl := Option.some.inj H
       have hcz14_0 : wc.cell? ⟨gb240, 0, none⟩ = some (.int .i64 a0_0) := (zAE BK240.out 0).trans rfl
       have hcz14_1 : wc.cell? ⟨gb240, 1, none⟩ = some (.int .i64 a0_1) := (zAE BK240.out 1).trans rfl
       have hcz14_2 : wc.cell? ⟨gb240, 2, none⟩ = some (.int .i64 a0_2) := (zAE BK240.out 2).trans rfl
       have hcz14_3 : wc.cell? ⟨gb240, 3, none⟩ = some (.int .i64 a0_3) := (zAE BK240.out 3).trans rfl
       have hcz14_4 : wc.cell? ⟨gb240, 4, none⟩ = some (.int .i64 a0_4) := (zAE BK240.out 4).trans rfl
       have hcz14_5 : wc.cell? ⟨gb240, 5, none⟩ = some (.slice A0_5 l0_5.length c0_5) := (zAE BK240.out 5).trans rfl
       have hfz14_0 := zAB BK240.out 0
       have hfz14_1 := zAB BK240.out 1
       have hfz14_2 := zAB BK240.out 2
       have hfz14_3 := zAB BK240.out 3
       have hfz14_4 := zAB BK240.out 4
       have hfz14_5 := zAB BK240.out 5
       go_wp2_with (first | ((with_reducible refine zAU (N := 19) rfl ?_); refine Kd.R_lit (Kd.int .i64) _ 3 ?hg (N := 19) ?hd (xs := ([a0_2] : List Int)) (inner := [.int .i64 a0_2]) (ok := fun _ => True) (okp := fun _ => True) ?hr ?hp (fun _ hk => hk) trivial (Below.refl _ _) (Nat.le_refl _) (by simp) ?_; (case hd => rfl); (case hg => rfl); (case hr => first | (go_simp; done) | (go_simp; rfl)); (case hp => exact (Reps.one (show Kd.M (Kd.int .i64) _ _ _ a0_2 [.int .i64 a0_2] from rfl) (Reps.none _ _))); intro v245 w15 ho16 hb hg_ hnew_; clear hg_ hnew_; (first | rw [← Ny244.out] at ho16 | (simp only [Int.reduceToNat] at ho16; rw [← Ny244.out] at ho16)); have n0_ := Aside0.mk (Kd.R_lower ho16 (zAM (by repeat (first | (with_reducible first | exact HB.out | apply zAC | apply zAA | apply zAD | refine zAH ?_ GE240.out) | exact HB.out)))); have n1_ := Aside0.mk (zAP (g := gb240) (o := .cells #[.int .i64 a0_0, .int .i64 a0_1, .int .i64 a0_2, .int .i64 a0_3, .int .i64 a0_4, .slice A0_5 l0_5.length c0_5] 37 (0, 0)) (by (with_reducible repeat (first | refine zAI ?_ _ | refine zAJ ?_ | refine zAG ?_ _)); exact BK240.out) hb); have n2_ := Aside0.mk (zAL (by repeat (first | (with_reducible first | exact HB.out | apply zAC | apply zAA | apply zAD | refine zAH ?_ GE240.out) | exact HB.out)) hb); clear BK240; clear HB; have HO246 := n0_; have BK240 := n1_; have HB := n2_; clear n0_ n1_ n2_; clear hb ho16))
       go_ret
       exact ⟨_, by first | rfl | (simp [zAO, zAN] <;> rfl) | (simp [*, zAO, zAN] <;> rfl), by (with_reducible repeat (first | apply Kd.R_alloc | apply Kd.R_drewN | apply Kd.R_drew)); exact HO246.out, by repeat (first | (with_reducible first | exact HB.out | apply zAC | apply zAA | apply zAD | refine zAH ?_ GE240.out) | exact HB.out)⟩
      ·replace c13 := Bool.eq_false_iff.mpr c13
       subst c13
       have H1 : (if a0_0 = 7 then ((some (([] : List Int) : List Int)).bind fun y247 => (if y247.length + l0_5.length < 17592186044416 then (some (y247 ++ l0_5)) else (none))) else (some ([] : List Int))) = some r := by rw [if_neg (show ¬ (false = true) by decide)] at H; exact H
       clear H
       have H := H1
       clear H1
       by_cases c17 : a0_0 = 7
       ·rw [if_pos c17] at H
        have c17b0 : (a0_0 == 7) = true := beq_iff_eq.mpr c17
        have c17b1 : (a0_0 != 7) = false := bne_eq_false_iff_eq.mpr c17
        clear c17
        obtain ⟨y247, hy247⟩ : ∃ y_ : List Int, y_ = (([] : List Int)) := ⟨_, rfl⟩
        replace H : (if y247.length + l0_5.length < 17592186044416 then (some (y247 ++ l0_5)) else (none)) = some r := by first | (rw [hy247]; with_reducible exact H) | (have H2_ := (Option.bind_some _ _).symm.trans H; rw [hy247]; with_reducible exact H2_) | (have H2_ := (Option.bind_some _ _).symm.trans H; with_reducible exact H2_) | with_reducible exact H | (rw [hy247]; exact H) | exact H
        have Ny247 := Aside0.mk hy247
        clear hy247
        by_cases c18 : y247.length + l0_5.length < 17592186044416
        ·rw [if_pos c18] at H
         have LMc18 := Aside0.mk c18
         clear c18
         obtain ⟨y250, hy250⟩ : ∃ y_ : List Int, y_ = (y247 ++ l0_5) := ⟨_, rfl⟩
         replace H : (some y250) = some r := by first | (rw [hy250]; with_reducible exact H) | (have H2_ := (Option.bind_some _ _).symm.trans H; rw [hy250]; with_reducible exact H2_) | (have H2_ := (Option.bind_some _ _).symm.trans H; with_reducible exact H2_) | with_reducible exact H | (rw [hy250]; exact H) | exact H
         have Ny250 := Aside0.mk hy250
         clear hy250
         obtain rfl := Option.some.inj H
         go_wp2_with (first | ((with_reducible refine zAU (N := 22) rfl ?_); refine Kd.R_lit (Kd.int .i64) _ 3 ?hg (N := 22) ?hd (xs := ([] : List Int)) (inner := []) (ok := fun _ => True) (okp := fun _ => True) ?hr ?hp (fun _ hk => hk) trivial (Below.refl _ _) (Nat.le_refl _) (by simp) ?_; (case hd => rfl); (case hg => rfl); (case hr => first | (go_simp; done) | (go_simp; rfl)); (case hp => exact (Reps.none _ _)); intro v248 w19 ho20 hb hg_ hnew_; clear hg_ hnew_; (first | rw [← Ny247.out] at ho20 | (simp only [Int.reduceToNat] at ho20; rw [← Ny247.out] at ho20)); have n0_ := Aside0.mk (Kd.R_lower ho20 (zAM (by repeat (first | (with_reducible first | exact HB.out | apply zAC | apply zAA | apply zAD | refine zAH ?_ GE240.out) | exact HB.out)))); have n1_ := Aside0.mk (zAP (g := gb240) (o := .cells #[.int .i64 a0_0, .int .i64 a0_1, .int .i64 a0_2, .int .i64 a0_3, .int .i64 a0_4, .slice A0_5 l0_5.length c0_5] 37 (0, 0)) (by (with_reducible repeat (first | refine zAI ?_ _ | refine zAJ ?_ | refine zAG ?_ _)); exact BK240.out) hb); have n2_ := Aside0.mk (zAL (by repeat (first | (with_reducible first | exact HB.out | apply zAC | apply zAA | apply zAD | refine zAH ?_ GE240.out) | exact HB.out)) hb); clear BK240; clear HB; have HO249 := n0_; have BK240 := n1_; have HB := n2_; clear n0_ n1_ n2_; clear hb ho20; have hcz21_0 : w19.cell? ⟨gb240, 0, none⟩ = some (.int .i64 a0_0) := (zAE BK240.out 0).trans rfl; have hcz21_1 : w19.cell? ⟨gb240, 1, none⟩ = some (.int .i64 a0_1) := (zAE BK240.out 1).trans rfl; have hcz21_2 : w19.cell? ⟨gb240, 2, none⟩ = some (.int .i64 a0_2) := (zAE BK240.out 2).trans rfl; have hcz21_3 : w19.cell? ⟨gb240, 3, none⟩ = some (.int .i64 a0_3) := (zAE BK240.out 3).trans rfl; have hcz21_4 : w19.cell? ⟨gb240, 4, none⟩ = some (.int .i64 a0_4) := (zAE BK240.out 4).trans rfl; have hcz21_5 : w19.cell? ⟨gb240, 5, none⟩ = some (.slice A0_5 l0_5.length c0_5) := (zAE BK240.out 5).trans rfl; have hfz21_0 := zAB BK240.out 0; have hfz21_1 := zAB BK240.out 1; have hfz21_2 := zAB BK240.out 2; have hfz21_3 := zAB BK240.out 3; have hfz21_4 := zAB BK240.out 4; have hfz21_5 := zAB BK240.out 5) | ((with_reducible refine zBK (b := .append) (xs := #[.tmp 22, .tmp 24]) rfl ?_); at_builtin; refine Kd.R_append_rows (Kd.int .i64) (w0 := w) w.heap.size rfl (.tmp 22) (.tmp 24) 23 3 (.int .i64 0) 8 rfl Try.underlying23 info3 rfl (by decide) (by omega) v248 y247 l0_5 _ _ _ (fun _ => True) (fun _ => False) rfl rfl ?aO ?aR (fun _ _ h => h) (fun _ h => h.elim) ?aF ?aB ?aS ?aL ?_; (case aR => repeat (first | exact (Kd.C_below HR0_5.out HB.out) | (with_reducible refine Kd.C_alloc ?_ _) | (with_reducible refine Kd.C_drewN ?_ _) | (with_reducible refine Kd.C_drew ?_))); (case aB => exact (by repeat (first | (with_reducible first | exact HB.out | apply zAC | apply zAA | apply zAD | refine zAH ?_ GE240.out) | exact HB.out))); (case aF => exact (fun _ _ => trivial)); (case aO => exact (by (with_reducible repeat (first | apply Kd.R_alloc | apply Kd.R_drewN | apply Kd.R_drew)); exact HO249.out)); (case aS => exact (zAM (by repeat (first | (with_reducible first | exact HB.out | apply zAC | apply zAA | apply zAD | refine zAH ?_ GE240.out) | exact HB.out)))); (case aL => have := LMc18.out; omega); intro v251 w22 ho hb hg hat; rw [← Ny250.out] at ho; have n0_ := Aside0.mk (zAW (g := gb240) (o := .cells #[.int .i64 a0_0, .int .i64 a0_1, .int .i64 a0_2, .int .i64 a0_3, .int .i64 a0_4, .slice A0_5 l0_5.length c0_5] 37 (0, 0)) (by (with_reducible repeat (first | refine zAI ?_ _ | refine zAJ ?_ | refine zAG ?_ _)); exact BK240.out) hg (Kd.R_ne HO249.out BK240.out (by decide))); have n1_ := Aside0.mk (hb); have n2_ := Aside0.mk (ho); clear BK240; clear HB; clear HO249; have BK240 := n0_; have HB := n1_; have HO252 := n2_; clear n0_ n1_ n2_; clear ho hb hg hat))
         go_ret
         exact ⟨_, by first | rfl | (simp [zAO, zAN] <;> rfl) | (simp [*, zAO, zAN] <;> rfl), by (with_reducible repeat (first | apply Kd.R_alloc | apply Kd.R_drewN | apply Kd.R_drew)); exact HO252.out, by repeat (first | (with_reducible first | exact HB.out | apply zAC | apply zAA | apply zAD | refine zAH ?_ GE240.out) | exact HB.out)⟩
        ·rw [if_neg c18] at H
         exact absurd H (by simp)
       ·rw [if_neg c17] at H
        have c17b0 : (a0_0 == 7) = false := beq_eq_false_iff_ne.mpr c17
        have c17b1 : (a0_0 != 7) = true := bne_iff_ne.mpr c17
        obtain rfl := Option.some.inj H
        go_wp2
        go_ret
        exact ⟨_, by first | rfl | (simp [zAO, zAN] <;> rfl) | (simp [*, zAO, zAN] <;> rfl), by first | exact Kd.R_nil _ _ _ _ _ | exact Kd.N_nil _ _ _ _ _ | exact Kd.V_nil _ _ _ _ _ | exact Kd.Q_nil _ _ _ _ _ | exact Kd.S_nil _ _ _ _ _, by repeat (first | (with_reducible first | exact HB.out | apply zAC | apply zAA | apply zAD | refine zAH ?_ GE240.out) | exact HB.out)⟩
end Go.Proofs.Ytphmlkbmnmicpaa.A
namespace Go.Proofs.Ytphmlkbmnmicpaa.A
open Go.RowKit Go.Proofs.YtphmlkbmnmicpaaW.PrintWords Go.Proofs.YtphmlkbmnmicpaaW.PrintLast Go.Proofs.YtphmlkbmnmicpaaW.PrintMore
attribute [local go_sem] max2_int zBH max_two zBL zBB zBA zBI zBG   -- for this text's walks alone
def swageref14_Sets.f (a0_0 : Int) (a0_1 : Int) (a0_2 : Int) (a0_3 : Int) (a0_4 : Int) (l0_5 : List Int) : Option (Int) := if a0_0 < 1 then (some 0) else (if a0_0 > 8 then (some 0) else (if a0_0 = 5 then (some 0) else (some a0_1)))
set_option maxHeartbeats 8000000 in
set_option maxRecDepth 100000 in
theorem swageref14_Sets.calls (a0_0 : Int) (a0_1 : Int) (a0_2 : Int) (a0_3 : Int) (a0_4 : Int) (A0_5 : Option Addr) (c0_5 : Nat) (l0_5 : List Int) (r : Int) (w : World) (hr0_5 : Kd.C (Kd.int .i64) w A0_5 l0_5.length l0_5) (hc0_5 : l0_5.length ≤ c0_5) (h : swageref14_Sets.f a0_0 a0_1 a0_2 a0_3 a0_4 l0_5 = some r) :
  Calls Try.prog 46 #[.agg #[.int .i64 a0_0, .int .i64 a0_1, .int .i64 a0_2, .int .i64 a0_3, .int .i64 a0_4, .slice A0_5 l0_5.length c0_5]] w fun e w' => e = .returned (.int .i64 r) ∧ Below w.heap.size w w' := by
 have hu37 := Try.underlying37
 have HR0_5 := Aside0.mk hr0_5
 have HC0_5 := Aside0.mk hc0_5
 clear hr0_5 hc0_5
 have HB := Aside0.mk (Below.refl w.heap.size w)
 have H : (if a0_0 < 1 then (some 0) else (if a0_0 > 8 then (some 0) else (if a0_0 = 5 then (some 0) else (some a0_1)))) = some r := h
 clear h
 by_cases c2 : a0_0 < 1
 ·rw [if_pos c2] at H
  have c2b0 : decide (a0_0 < 1) = true := decide_eq_true c2
  clear c2
  obtain rfl := Option.some.inj H
  go_enter Try.func46, Try.ntmps46
  go_wp2_with (first | ((with_reducible refine zAU (N := 1) rfl ?_); refine zAT ?hg (N := 1) ?hd (cs := #[.int .i64 a0_0, .int .i64 a0_1, .int .i64 a0_2, .int .i64 a0_3, .int .i64 a0_4, .slice A0_5 l0_5.length c0_5]) (t := 37) ?hr ?_; (case hd => rfl); (case hg => rfl); (case hr => first | (go_simp; done) | (go_simp; rfl)); intro gb253 hg w3 hbox hb; have n0_ := Aside0.mk (zAL (by repeat (first | (with_reducible first | exact HB.out | apply zAC | apply zAA | apply zAD) | exact HB.out)) hb); have n1_ := Aside0.mk (hbox); have n2_ := Aside0.mk ((by rw [hg]; exact (zAM (by repeat (first | (with_reducible first | exact HB.out | apply zAC | apply zAA | apply zAD) | exact HB.out))) : w.heap.size ≤ gb253)); have n3_ := Aside0.mk ((by rw [hg]; exact (zAM (by repeat (first | (with_reducible first | exact HB.out | apply zAC | apply zAA | apply zAD) | exact HB.out))) : w.heap.size ≤ gb253)); clear HB; have HB := n0_; have BK253 := n1_; have GW253 := n2_; have GE253 := n3_; clear n0_ n1_ n2_ n3_; clear hb hbox hg; have hcz4_0 : w3.cell? ⟨gb253, 0, none⟩ = some (.int .i64 a0_0) := (zAE BK253.out 0).trans rfl; have hcz4_1 : w3.cell? ⟨gb253, 1, none⟩ = some (.int .i64 a0_1) := (zAE BK253.out 1).trans rfl; have hcz4_2 : w3.cell? ⟨gb253, 2, none⟩ = some (.int .i64 a0_2) := (zAE BK253.out 2).trans rfl; have hcz4_3 : w3.cell? ⟨gb253, 3, none⟩ = some (.int .i64 a0_3) := (zAE BK253.out 3).trans rfl; have hcz4_4 : w3.cell? ⟨gb253, 4, none⟩ = some (.int .i64 a0_4) := (zAE BK253.out 4).trans rfl; have hcz4_5 : w3.cell? ⟨gb253, 5, none⟩ = some (.slice A0_5 l0_5.length c0_5) := (zAE BK253.out 5).trans rfl; have hfz4_0 := zAB BK253.out 0; have hfz4_1 := zAB BK253.out 1; have hfz4_2 := zAB BK253.out 2; have hfz4_3 := zAB BK253.out 3; have hfz4_4 := zAB BK253.out 4; have hfz4_5 := zAB BK253.out 5))
  go_ret
  exact ⟨by first | rfl | (simp [zAO, zAN] <;> rfl) | (simp [*, zAO, zAN] <;> rfl), by repeat (first | (with_reducible first | exact HB.out | apply zAC | apply zAA | apply zAD | refine zAH ?_ GE253.out) | exact HB.out)⟩
 ·rw [if_neg c2] at H
  have c2b0 : decide (a0_0 < 1) = false := decide_eq_false c2
  clear c2
  by_cases c5 : a0_0 > 8
  ·rw [if_pos c5] at H
   have c5b0 : decide (8 < a0_0) = true := decide_eq_true c5
   clear c5
   obtain rfl := Option.some.inj H
   go_enter Try.func46, Try.ntmps46
   go_wp2_with (first | ((with_reducible refine zAU (N := 1) rfl ?_); refine zAT ?hg (N := 1) ?hd (cs := #[.int .i64 a0_0, .int .i64 a0_1, .int .i64 a0_2, .int .i64 a0_3, .int .i64 a0_4, .slice A0_5 l0_5.length c0_5]) (t := 37) ?hr ?_; (case hd => rfl); (case hg => rfl); (case hr => first | (go_simp; done) | (go_simp; rfl)); intro gb253 hg w6 hbox hb; have n0_ := Aside0.mk (zAL (by repeat (first | (with_reducible first | exact HB.out | apply zAC | apply zAA | apply zAD) | exact HB.out)) hb); have n1_ := Aside0.mk (hbox); have n2_ := Aside0.mk ((by rw [hg]; exact (zAM (by repeat (first | (with_reducible first | exact HB.out | apply zAC | apply zAA | apply zAD) | exact HB.out))) : w.heap.size ≤ gb253)); have n3_ := Aside0.mk ((by rw [hg]; exact (zAM (by repeat (first | (with_reducible first | exact HB.out | apply zAC | apply zAA | apply zAD) | exact HB.out))) : w.heap.size ≤ gb253)); clear HB; have HB := n0_; have BK253 := n1_; have GW253 := n2_; have GE253 := n3_; clear n0_ n1_ n2_ n3_; clear hb hbox hg; have hcz7_0 : w6.cell? ⟨gb253, 0, none⟩ = some (.int .i64 a0_0) := (zAE BK253.out 0).trans rfl; have hcz7_1 : w6.cell? ⟨gb253, 1, none⟩ = some (.int .i64 a0_1) := (zAE BK253.out 1).trans rfl; have hcz7_2 : w6.cell? ⟨gb253, 2, none⟩ = some (.int .i64 a0_2) := (zAE BK253.out 2).trans rfl; have hcz7_3 : w6.cell? ⟨gb253, 3, none⟩ = some (.int .i64 a0_3) := (zAE BK253.out 3).trans rfl; have hcz7_4 : w6.cell? ⟨gb253, 4, none⟩ = some (.int .i64 a0_4) := (zAE BK253.out 4).trans rfl; have hcz7_5 : w6.cell? ⟨gb253, 5, none⟩ = some (.slice A0_5 l0_5.length c0_5) := (zAE BK253.out 5).trans rfl; have hfz7_0 := zAB BK253.out 0; have hfz7_1 := zAB BK253.out 1; have hfz7_2 := zAB BK253.out 2; have hfz7_3 := zAB BK253.out 3; have hfz7_4 := zAB BK253.out 4; have hfz7_5 := zAB BK253.out 5))
   go_ret
   exact ⟨by first | rfl | (simp [zAO, zAN] <;> rfl) | (simp [*, zAO, zAN] <;> rfl), by repeat (first | (with_reducible first | exact HB.out | apply zAC | apply zAA | apply zAD | refine zAH ?_ GE253.out) | exact HB.out)⟩
  ·rw [if_neg c5] at H
   have c5b0 : decide (8 < a0_0) = false := decide_eq_false c5
   clear c5
   by_cases c8 : a0_0 = 5
   ·rw [if_pos c8] at H
    have c8b0 : (a0_0 == 5) = true := beq_iff_eq.mpr c8
    have c8b1 : (a0_0 != 5) = false := bne_eq_false_iff_eq.mpr c8
    clear c8
    obtain rfl := Option.some.inj H
    go_enter Try.func46, Try.ntmps46
    go_wp2_with (first | ((with_reducible refine zAU (N := 1) rfl ?_); refine zAT ?hg (N := 1) ?hd (cs := #[.int .i64 a0_0, .int .i64 a0_1, .int .i64 a0_2, .int .i64 a0_3, .int .i64 a0_4, .slice A0_5 l0_5.length c0_5]) (t := 37) ?hr ?_; (case hd => rfl); (case hg => rfl); (case hr => first | (go_simp; done) | (go_simp; rfl)); intro gb253 hg w9 hbox hb; have n0_ := Aside0.mk (zAL (by repeat (first | (with_reducible first | exact HB.out | apply zAC | apply zAA | apply zAD) | exact HB.out)) hb); have n1_ := Aside0.mk (hbox); have n2_ := Aside0.mk ((by rw [hg]; exact (zAM (by repeat (first | (with_reducible first | exact HB.out | apply zAC | apply zAA | apply zAD) | exact HB.out))) : w.heap.size ≤ gb253)); have n3_ := Aside0.mk ((by rw [hg]; exact (zAM (by repeat (first | (with_reducible first | exact HB.out | apply zAC | apply zAA | apply zAD) | exact HB.out))) : w.heap.size ≤ gb253)); clear HB; have HB := n0_; have BK253 := n1_; have GW253 := n2_; have GE253 := n3_; clear n0_ n1_ n2_ n3_; clear hb hbox hg; have hcz10_0 : w9.cell? ⟨gb253, 0, none⟩ = some (.int .i64 a0_0) := (zAE BK253.out 0).trans rfl; have hcz10_1 : w9.cell? ⟨gb253, 1, none⟩ = some (.int .i64 a0_1) := (zAE BK253.out 1).trans rfl; have hcz10_2 : w9.cell? ⟨gb253, 2, none⟩ = some (.int .i64 a0_2) := (zAE BK253.out 2).trans rfl; have hcz10_3 : w9.cell? ⟨gb253, 3, none⟩ = some (.int .i64 a0_3) := (zAE BK253.out 3).trans rfl; have hcz10_4 : w9.cell? ⟨gb253, 4, none⟩ = some (.int .i64 a0_4) := (zAE BK253.out 4).trans rfl; have hcz10_5 : w9.cell? ⟨gb253, 5, none⟩ = some (.slice A0_5 l0_5.length c0_5) := (zAE BK253.out 5).trans rfl; have hfz10_0 := zAB BK253.out 0; have hfz10_1 := zAB BK253.out 1; have hfz10_2 := zAB BK253.out 2; have hfz10_3 := zAB BK253.out 3; have hfz10_4 := zAB BK253.out 4; have hfz10_5 := zAB BK253.out 5))
    go_ret
    exact ⟨by first | rfl | (simp [zAO, zAN] <;> rfl) | (simp [*, zAO, zAN] <;> rfl), by repeat (first | (with_reducible first | exact HB.out | apply zAC | apply zAA | apply zAD | refine zAH ?_ GE253.out) | exact HB.out)⟩
   ·rw [if_neg c8] at H
    have c8b0 : (a0_0 == 5) = false := beq_eq_false_iff_ne.mpr c8
    have c8b1 : (a0_0 != 5) = true := bne_iff_ne.mpr c8
    obtain rfl := Option.some.inj H
    go_enter Try.func46, Try.ntmps46
    go_wp2_with (first | ((with_reducible refine zAU (N := 1) rfl ?_); refine zAT ?hg (N := 1) ?hd (cs := #[.int .i64 a0_0, .int .i64 a0_1, .int .i64 a0_2, .int .i64 a0_3, .int .i64 a0_4, .slice A0_5 l0_5.length c0_5]) (t := 37) ?hr ?_; (case hd => rfl); (case hg => rfl); (case hr => first | (go_simp; done) | (go_simp; rfl)); intro gb253 hg w11 hbox hb; have n0_ := Aside0.mk (zAL (by repeat (first | (with_reducible first | exact HB.out | apply zAC | apply zAA | apply zAD) | exact HB.out)) hb); have n1_ := Aside0.mk (hbox); have n2_ := Aside0.mk ((by rw [hg]; exact (zAM (by repeat (first | (with_reducible first | exact HB.out | apply zAC | apply zAA | apply zAD) | exact HB.out))) : w.heap.size ≤ gb253)); have n3_ := Aside0.mk ((by rw [hg]; exact (zAM (by repeat (first | (with_reducible first | exact HB.out | apply zAC | apply zAA | apply zAD) | exact HB.out))) : w.heap.size ≤ gb253)); clear HB; have HB := n0_; have BK253 := n1_; have GW253 := n2_; have GE253 := n3_; clear n0_ n1_ n2_ n3_; clear hb hbox hg; have hcz12_0 : w11.cell? ⟨gb253, 0, none⟩ = some (.int .i64 a0_0) := (zAE BK253.out 0).trans rfl; have hcz12_1 : w11.cell? ⟨gb253, 1, none⟩ = some (.int .i64 a0_1) := (zAE BK253.out 1).trans rfl; have hcz12_2 : w11.cell? ⟨gb253, 2, none⟩ = some (.int .i64 a0_2) := (zAE BK253.out 2).trans rfl; have hcz12_3 : w11.cell? ⟨gb253, 3, none⟩ = some (.int .i64 a0_3) := (zAE BK253.out 3).trans rfl; have hcz12_4 : w11.cell? ⟨gb253, 4, none⟩ = some (.int .i64 a0_4) := (zAE BK253.out 4).trans rfl; have hcz12_5 : w11.cell? ⟨gb253, 5, none⟩ = some (.slice A0_5 l0_5.length c0_5) := (zAE BK253.out 5).trans rfl; have hfz12_0 := zAB BK253.out 0; have hfz12_1 := zAB BK253.out 1; have hfz12_2 := zAB BK253.out 2; have hfz12_3 := zAB BK253.out 3; have hfz12_4 := zAB BK253.out 4; have hfz12_5 := zAB BK253.out 5))
    go_ret
    exact ⟨by first | rfl | (simp [zAO, zAN] <;> rfl) | (simp [*, zAO, zAN] <;> rfl), by repeat (first | (with_reducible first | exact HB.out | apply zAC | apply zAA | apply zAD | refine zAH ?_ GE253.out) | exact HB.out)⟩
end Go.Proofs.Ytphmlkbmnmicpaa.A
namespace Go.Proofs.Ytphmlkbmnmicpaa.A
open Go.RowKit Go.Proofs.YtphmlkbmnmicpaaW.PrintWords Go.Proofs.YtphmlkbmnmicpaaW.PrintLast Go.Proofs.YtphmlkbmnmicpaaW.PrintMore
attribute [local go_sem] max2_int zBH max_two zBL zBB zBA zBI zBG   -- for this text's walks alone
def swageref14_Pure.f (a0_0 : Int) (a0_1 : Int) (a0_2 : Int) (a0_3 : Int) (a0_4 : Int) (l0_5 : List Int) : Option (Bool) := if a0_0 = 2 then (if a0_4 = 4 then (some false) else (if a0_4 = 5 then (some false) else (if a0_4 = 9 then (some false) else (some (a0_4 != 10))))) else (if a0_0 = 1 then (some true) else (some (a0_0 == 3)))
set_option maxHeartbeats 8000000 in
set_option maxRecDepth 100000 in
theorem swageref14_Pure.calls (a0_0 : Int) (a0_1 : Int) (a0_2 : Int) (a0_3 : Int) (a0_4 : Int) (A0_5 : Option Addr) (c0_5 : Nat) (l0_5 : List Int) (r : Bool) (w : World) (hr0_5 : Kd.C (Kd.int .i64) w A0_5 l0_5.length l0_5) (hc0_5 : l0_5.length ≤ c0_5) (h : swageref14_Pure.f a0_0 a0_1 a0_2 a0_3 a0_4 l0_5 = some r) :
  Calls Try.prog 49 #[.agg #[.int .i64 a0_0, .int .i64 a0_1, .int .i64 a0_2, .int .i64 a0_3, .int .i64 a0_4, .slice A0_5 l0_5.length c0_5]] w fun e w' => e = .returned (.bool r) ∧ Below w.heap.size w w' := by
 have hu37 := Try.underlying37
 have HR0_5 := Aside0.mk hr0_5
 have HC0_5 := Aside0.mk hc0_5
 clear hr0_5 hc0_5
 have HB := Aside0.mk (Below.refl w.heap.size w)
 have H : (if a0_0 = 2 then (if a0_4 = 4 then (some false) else (if a0_4 = 5 then (some false) else (if a0_4 = 9 then (some false) else (some (a0_4 != 10))))) else (if a0_0 = 1 then (some true) else (some (a0_0 == 3)))) = some r := h
 clear h
 by_cases c2 : a0_0 = 2
 ·rw [if_pos c2] at H
  have c2b0 : (a0_0 == 2) = true := beq_iff_eq.mpr c2
  have c2b1 : (a0_0 != 2) = false := bne_eq_false_iff_eq.mpr c2
  clear c2
  by_cases c3 : a0_4 = 4
  ·rw [if_pos c3] at H
   have c3b0 : (a0_4 == 4) = true := beq_iff_eq.mpr c3
   have c3b1 : (a0_4 != 4) = false := bne_eq_false_iff_eq.mpr c3
   clear c3
   obtain rfl := Option.some.inj H
   go_enter Try.func49, Try.ntmps49
   go_wp2_with (first | ((with_reducible refine zAU (N := 1) rfl ?_); refine zAT ?hg (N := 1) ?hd (cs := #[.int .i64 a0_0, .int .i64 a0_1, .int .i64 a0_2, .int .i64 a0_3, .int .i64 a0_4, .slice A0_5 l0_5.length c0_5]) (t := 37) ?hr ?_; (case hd => rfl); (case hg => rfl); (case hr => first | (go_simp; done) | (go_simp; rfl)); intro gb254 hg w4 hbox hb; have n0_ := Aside0.mk (zAL (by repeat (first | (with_reducible first | exact HB.out | apply zAC | apply zAA | apply zAD) | exact HB.out)) hb); have n1_ := Aside0.mk (hbox); have n2_ := Aside0.mk ((by rw [hg]; exact (zAM (by repeat (first | (with_reducible first | exact HB.out | apply zAC | apply zAA | apply zAD) | exact HB.out))) : w.heap.size ≤ gb254)); have n3_ := Aside0.mk ((by rw [hg]; exact (zAM (by repeat (first | (with_reducible first | exact HB.out | apply zAC | apply zAA | apply zAD) | exact HB.out))) : w.heap.size ≤ gb254)); clear HB; have HB := n0_; have BK254 := n1_; have GW254 := n2_; have GE254 := n3_; clear n0_ n1_ n2_ n3_; clear hb hbox hg; have hcz5_0 : w4.cell? ⟨gb254, 0, none⟩ = some (.int .i64 a0_0) := (zAE BK254.out 0).trans rfl; have hcz5_1 : w4.cell? ⟨gb254, 1, none⟩ = some (.int .i64 a0_1) := (zAE BK254.out 1).trans rfl; have hcz5_2 : w4.cell? ⟨gb254, 2, none⟩ = some (.int .i64 a0_2) := (zAE BK254.out 2).trans rfl; have hcz5_3 : w4.cell? ⟨gb254, 3, none⟩ = some (.int .i64 a0_3) := (zAE BK254.out 3).trans rfl; have hcz5_4 : w4.cell? ⟨gb254, 4, none⟩ = some (.int .i64 a0_4) := (zAE BK254.out 4).trans rfl; have hcz5_5 : w4.cell? ⟨gb254, 5, none⟩ = some (.slice A0_5 l0_5.length c0_5) := (zAE BK254.out 5).trans rfl; have hfz5_0 := zAB BK254.out 0; have hfz5_1 := zAB BK254.out 1; have hfz5_2 := zAB BK254.out 2; have hfz5_3 := zAB BK254.out 3; have hfz5_4 := zAB BK254.out 4; have hfz5_5 := zAB BK254.out 5))
   go_ret
   exact ⟨by first | rfl | (simp [zAO, zAN] <;> rfl) | (simp [*, zAO, zAN] <;> rfl), by repeat (first | (with_reducible first | exact HB.out | apply zAC | apply zAA | apply zAD | refine zAH ?_ GE254.out) | exact HB.out)⟩
  ·rw [if_neg c3] at H
   have c3b0 : (a0_4 == 4) = false := beq_eq_false_iff_ne.mpr c3
   have c3b1 : (a0_4 != 4) = true := bne_iff_ne.mpr c3
   by_cases c6 : a0_4 = 5
   ·rw [if_pos c6] at H
    have c6b0 : (a0_4 == 5) = true := beq_iff_eq.mpr c6
    have c6b1 : (a0_4 != 5) = false := bne_eq_false_iff_eq.mpr c6
    clear c6
    obtain rfl := Option.some.inj H
    go_enter Try.func49, Try.ntmps49
    go_wp2_with (first | ((with_reducible refine zAU (N := 1) rfl ?_); refine zAT ?hg (N := 1) ?hd (cs := #[.int .i64 a0_0, .int .i64 a0_1, .int .i64 a0_2, .int .i64 a0_3, .int .i64 a0_4, .slice A0_5 l0_5.length c0_5]) (t := 37) ?hr ?_; (case hd => rfl); (case hg => rfl); (case hr => first | (go_simp; done) | (go_simp; rfl)); intro gb254 hg w7 hbox hb; have n0_ := Aside0.mk (zAL (by repeat (first | (with_reducible first | exact HB.out | apply zAC | apply zAA | apply zAD) | exact HB.out)) hb); have n1_ := Aside0.mk (hbox); have n2_ := Aside0.mk ((by rw [hg]; exact (zAM (by repeat (first | (with_reducible first | exact HB.out | apply zAC | apply zAA | apply zAD) | exact HB.out))) : w.heap.size ≤ gb254)); have n3_ := Aside0.mk ((by rw [hg]; exact (zAM (by repeat (first | (with_reducible first | exact HB.out | apply zAC | apply zAA | apply zAD) | exact HB.out))) : w.heap.size ≤ gb254)); clear HB; have HB := n0_; have BK254 := n1_; have GW254 := n2_; have GE254 := n3_; clear n0_ n1_ n2_ n3_; clear hb hbox hg; have hcz8_0 : w7.cell? ⟨gb254, 0, none⟩ = some (.int .i64 a0_0) := (zAE BK254.out 0).trans rfl; have hcz8_1 : w7.cell? ⟨gb254, 1, none⟩ = some (.int .i64 a0_1) := (zAE BK254.out 1).trans rfl; have hcz8_2 : w7.cell? ⟨gb254, 2, none⟩ = some (.int .i64 a0_2) := (zAE BK254.out 2).trans rfl; have hcz8_3 : w7.cell? ⟨gb254, 3, none⟩ = some (.int .i64 a0_3) := (zAE BK254.out 3).trans rfl; have hcz8_4 : w7.cell? ⟨gb254, 4, none⟩ = some (.int .i64 a0_4) := (zAE BK254.out 4).trans rfl; have hcz8_5 : w7.cell? ⟨gb254, 5, none⟩ = some (.slice A0_5 l0_5.length c0_5) := (zAE BK254.out 5).trans rfl; have hfz8_0 := zAB BK254.out 0; have hfz8_1 := zAB BK254.out 1; have hfz8_2 := zAB BK254.out 2; have hfz8_3 := zAB BK254.out 3; have hfz8_4 := zAB BK254.out 4; have hfz8_5 := zAB BK254.out 5))
    go_ret
    exact ⟨by first | rfl | (simp [zAO, zAN] <;> rfl) | (simp [*, zAO, zAN] <;> rfl), by repeat (first | (with_reducible first | exact HB.out | apply zAC | apply zAA | apply zAD | refine zAH ?_ GE254.out) | exact HB.out)⟩
   ·rw [if_neg c6] at H
    have c6b0 : (a0_4 == 5) = false := beq_eq_false_iff_ne.mpr c6
    have c6b1 : (a0_4 != 5) = true := bne_iff_ne.mpr c6
    by_cases c9 : a0_4 = 9
    ·rw [if_pos c9] at H
     have c9b0 : (a0_4 == 9) = true := beq_iff_eq.mpr c9
     have c9b1 : (a0_4 != 9) = false := bne_eq_false_iff_eq.mpr c9
     clear c9
     obtain rfl := Option.some.inj H
     go_enter Try.func49, Try.ntmps49
     go_wp2_with (first | ((with_reducible refine zAU (N := 1) rfl ?_); refine zAT ?hg (N := 1) ?hd (cs := #[.int .i64 a0_0, .int .i64 a0_1, .int .i64 a0_2, .int .i64 a0_3, .int .i64 a0_4, .slice A0_5 l0_5.length c0_5]) (t := 37) ?hr ?_; (case hd => rfl); (case hg => rfl); (case hr => first | (go_simp; done) | (go_simp; rfl)); intro gb254 hg w10 hbox hb; have n0_ := Aside0.mk (zAL (by repeat (first | (with_reducible first | exact HB.out | apply zAC | apply zAA | apply zAD) | exact HB.out)) hb); have n1_ := Aside0.mk (hbox); have n2_ := Aside0.mk ((by rw [hg]; exact (zAM (by repeat (first | (with_reducible first | exact HB.out | apply zAC | apply zAA | apply zAD) | exact HB.out))) : w.heap.size ≤ gb254)); have n3_ := Aside0.mk ((by rw [hg]; exact (zAM (by repeat (first | (with_reducible first | exact HB.out | apply zAC | apply zAA | apply zAD) | exact HB.out))) : w.heap.size ≤ gb254)); clear HB; have HB := n0_; have BK254 := n1_; have GW254 := n2_; have GE254 := n3_; clear n0_ n1_ n2_ n3_; clear hb hbox hg; have hcz11_0 : w10.cell? ⟨gb254, 0, none⟩ = some (.int .i64 a0_0) := (zAE BK254.out 0).trans rfl; have hcz11_1 : w10.cell? ⟨gb254, 1, none⟩ = some (.int .i64 a0_1) := (zAE BK254.out 1).trans rfl; have hcz11_2 : w10.cell? ⟨gb254, 2, none⟩ = some (.int .i64 a0_2) := (zAE BK254.out 2).trans rfl; have hcz11_3 : w10.cell? ⟨gb254, 3, none⟩ = some (.int .i64 a0_3) := (zAE BK254.out 3).trans rfl; have hcz11_4 : w10.cell? ⟨gb254, 4, none⟩ = some (.int .i64 a0_4) := (zAE BK254.out 4).trans rfl; have hcz11_5 : w10.cell? ⟨gb254, 5, none⟩ = some (.slice A0_5 l0_5.length c0_5) := (zAE BK254.out 5).trans rfl; have hfz11_0 := zAB BK254.out 0; have hfz11_1 := zAB BK254.out 1; have hfz11_2 := zAB BK254.out 2; have hfz11_3 := zAB BK254.out 3; have hfz11_4 := zAB BK254.out 4; have hfz11_5 := zAB BK254.out 5))
     go_ret
     exact ⟨by first | rfl | (simp [zAO, zAN] <;> rfl) | (simp [*, zAO, zAN] <;> rfl), by repeat (first | (with_reducible first | exact HB.out | apply zAC | apply zAA | apply zAD | refine zAH ?_ GE254.out) | exact HB.out)⟩
    ·rw [if_neg c9] at H
     have c9b0 : (a0_4 == 9) = false := beq_eq_false_iff_ne.mpr c9
     have c9b1 : (a0_4 != 9) = true := bne_iff_ne.mpr c9
     obtain rfl := Option.some.inj H
     go_enter Try.func49, Try.ntmps49
     go_wp2_with (first | ((with_reducible refine zAU (N := 1) rfl ?_); refine zAT ?hg (N := 1) ?hd (cs := #[.int .i64 a0_0, .int .i64 a0_1, .int .i64 a0_2, .int .i64 a0_3, .int .i64 a0_4, .slice A0_5 l0_5.length c0_5]) (t := 37) ?hr ?_; (case hd => rfl); (case hg => rfl); (case hr => first | (go_simp; done) | (go_simp; rfl)); intro gb254 hg w12 hbox hb; have n0_ := Aside0.mk (zAL (by repeat (first | (with_reducible first | exact HB.out | apply zAC | apply zAA | apply zAD) | exact HB.out)) hb); have n1_ := Aside0.mk (hbox); have n2_ := Aside0.mk ((by rw [hg]; exact (zAM (by repeat (first | (with_reducible first | exact HB.out | apply zAC | apply zAA | apply zAD) | exact HB.out))) : w.heap.size ≤ gb254)); have n3_ := Aside0.mk ((by rw [hg]; exact (zAM (by repeat (first | (with_reducible first | exact HB.out | apply zAC | apply zAA | apply zAD) | exact HB.out))) : w.heap.size ≤ gb254)); clear HB; have HB := n0_; have BK254 := n1_; have GW254 := n2_; have GE254 := n3_; clear n0_ n1_ n2_ n3_; clear hb hbox hg; have hcz13_0 : w12.cell? ⟨gb254, 0, none⟩ = some (.int .i64 a0_0) := (zAE BK254.out 0).trans rfl; have hcz13_1 : w12.cell? ⟨gb254, 1, none⟩ = some (.int .i64 a0_1) := (zAE BK254.out 1).trans rfl; have hcz13_2 : w12.cell? ⟨gb254, 2, none⟩ = some (.int .i64 a0_2) := (zAE BK254.out 2).trans rfl; have hcz13_3 : w12.cell? ⟨gb254, 3, none⟩ = some (.int .i64 a0_3) := (zAE BK254.out 3).trans rfl; have hcz13_4 : w12.cell? ⟨gb254, 4, none⟩ = some (.int .i64 a0_4) := (zAE BK254.out 4).trans rfl; have hcz13_5 : w12.cell? ⟨gb254, 5, none⟩ = some (.slice A0_5 l0_5.length c0_5) := (zAE BK254.out 5).trans rfl; have hfz13_0 := zAB BK254.out 0; have hfz13_1 := zAB BK254.out 1; have hfz13_2 := zAB BK254.out 2; have hfz13_3 := zAB BK254.out 3; have hfz13_4 := zAB BK254.out 4; have hfz13_5 := zAB BK254.out 5))
     go_ret
     exact ⟨by first | rfl | (simp [zAO, zAN] <;> rfl) | (simp [*, zAO, zAN] <;> rfl), by repeat (first | (with_reducible first | exact HB.out | apply zAC | apply zAA | apply zAD | refine zAH ?_ GE254.out) | exact HB.out)⟩
 ·rw [if_neg c2] at H
  have c2b0 : (a0_0 == 2) = false := beq_eq_false_iff_ne.mpr c2
  have c2b1 : (a0_0 != 2) = true := bne_iff_ne.mpr c2
  by_cases c14 : a0_0 = 1
  ·rw [if_pos c14] at H
   have c14b0 : (a0_0 == 1) = true := beq_iff_eq.mpr c14
   have c14b1 : (a0_0 != 1) = false := bne_eq_false_iff_eq.mpr c14
   clear c14
   obtain rfl := Option.some.inj H
   go_enter Try.func49, Try.ntmps49
   go_wp2_with (first | ((with_reducible refine zAU (N := 1) rfl ?_); refine zAT ?hg (N := 1) ?hd (cs := #[.int .i64 a0_0, .int .i64 a0_1, .int .i64 a0_2, .int .i64 a0_3, .int .i64 a0_4, .slice A0_5 l0_5.length c0_5]) (t := 37) ?hr ?_; (case hd => rfl); (case hg => rfl); (case hr => first | (go_simp; done) | (go_simp; rfl)); intro gb254 hg w15 hbox hb; have n0_ := Aside0.mk (zAL (by repeat (first | (with_reducible first | exact HB.out | apply zAC | apply zAA | apply zAD) | exact HB.out)) hb); have n1_ := Aside0.mk (hbox); have n2_ := Aside0.mk ((by rw [hg]; exact (zAM (by repeat (first | (with_reducible first | exact HB.out | apply zAC | apply zAA | apply zAD) | exact HB.out))) : w.heap.size ≤ gb254)); have n3_ := Aside0.mk ((by rw [hg]; exact (zAM (by repeat (first | (with_reducible first | exact HB.out | apply zAC | apply zAA | apply zAD) | exact HB.out))) : w.heap.size ≤ gb254)); clear HB; have HB := n0_; have BK254 := n1_; have GW254 := n2_; have GE254 := n3_; clear n0_ n1_ n2_ n3_; clear hb hbox hg; have hcz16_0 : w15.cell? ⟨gb254, 0, none⟩ = some (.int .i64 a0_0) := (zAE BK254.out 0).trans rfl; have hcz16_1 : w15.cell? ⟨gb254, 1, none⟩ = some (.int .i64 a0_1) := (zAE BK254.out 1).trans rfl; have hcz16_2 : w15.cell? ⟨gb254, 2, none⟩ = some (.int .i64 a0_2) := (zAE BK254.out 2).trans rfl; have hcz16_3 : w15.cell? ⟨gb254, 3, none⟩ = some (.int .i64 a0_3) := (zAE BK254.out 3).trans rfl; have hcz16_4 : w15.cell? ⟨gb254, 4, none⟩ = some (.int .i64 a0_4) := (zAE BK254.out 4).trans rfl; have hcz16_5 : w15.cell? ⟨gb254, 5, none⟩ = some (.slice A0_5 l0_5.length c0_5) := (zAE BK254.out 5).trans rfl; have hfz16_0 := zAB BK254.out 0; have hfz16_1 := zAB BK254.out 1; have hfz16_2 := zAB BK254.out 2; have hfz16_3 := zAB BK254.out 3; have hfz16_4 := zAB BK254.out 4; have hfz16_5 := zAB BK254.out 5))
   go_ret
   exact ⟨by first | rfl | (simp [zAO, zAN] <;> rfl) | (simp [*, zAO, zAN] <;> rfl), by repeat (first | (with_reducible first | exact HB.out | apply zAC | apply zAA | apply zAD | refine zAH ?_ GE254.out) | exact HB.out)⟩
  ·rw [if_neg c14] at H
   have c14b0 : (a0_0 == 1) = false := beq_eq_false_iff_ne.mpr c14
   have c14b1 : (a0_0 != 1) = true := bne_iff_ne.mpr c14
   obtain rfl := Option.some.inj H
   go_enter Try.func49, Try.ntmps49
   go_wp2_with (first | ((with_reducible refine zAU (N := 1) rfl ?_); refine zAT ?hg (N := 1) ?hd (cs := #[.int .i64 a0_0, .int .i64 a0_1, .int .i64 a0_2, .int .i64 a0_3, .int .i64 a0_4, .slice A0_5 l0_5.length c0_5]) (t := 37) ?hr ?_; (case hd => rfl); (case hg => rfl); (case hr => first | (go_simp; done) | (go_simp; rfl)); intro gb254 hg w17 hbox hb; have n0_ := Aside0.mk (zAL (by repeat (first | (with_reducible first | exact HB.out | apply zAC | apply zAA | apply zAD) | exact HB.out)) hb); have n1_ := Aside0.mk (hbox); have n2_ := Aside0.mk ((by rw [hg]; exact (zAM (by repeat (first | (with_reducible first | exact HB.out | apply zAC | apply zAA | apply zAD) | exact HB.out))) : w.heap.size ≤ gb254)); have n3_ := Aside0.mk ((by rw [hg]; exact (zAM (by repeat (first | (with_reducible first | exact HB.out | apply zAC | apply zAA | apply zAD) | exact HB.out))) : w.heap.size ≤ gb254)); clear HB; have HB := n0_; have BK254 := n1_; have GW254 := n2_; have GE254 := n3_; clear n0_ n1_ n2_ n3_; clear hb hbox hg; have hcz18_0 : w17.cell? ⟨gb254, 0, none⟩ = some (.int .i64 a0_0) := (zAE BK254.out 0).trans rfl; have hcz18_1 : w17.cell? ⟨gb254, 1, none⟩ = some (.int .i64 a0_1) := (zAE BK254.out 1).trans rfl; have hcz18_2 : w17.cell? ⟨gb254, 2, none⟩ = some (.int .i64 a0_2) := (zAE BK254.out 2).trans rfl; have hcz18_3 : w17.cell? ⟨gb254, 3, none⟩ = some (.int .i64 a0_3) := (zAE BK254.out 3).trans rfl; have hcz18_4 : w17.cell? ⟨gb254, 4, none⟩ = some (.int .i64 a0_4) := (zAE BK254.out 4).trans rfl; have hcz18_5 : w17.cell? ⟨gb254, 5, none⟩ = some (.slice A0_5 l0_5.length c0_5) := (zAE BK254.out 5).trans rfl; have hfz18_0 := zAB BK254.out 0; have hfz18_1 := zAB BK254.out 1; have hfz18_2 := zAB BK254.out 2; have hfz18_3 := zAB BK254.out 3; have hfz18_4 := zAB BK254.out 4; have hfz18_5 := zAB BK254.out 5))
   go_ret
   exact ⟨by first | rfl | (simp [zAO, zAN] <;> rfl) | (simp [*, zAO, zAN] <;> rfl), by repeat (first | (with_reducible first | exact HB.out | apply zAC | apply zAA | apply zAD | refine zAH ?_ GE254.out) | exact HB.out)⟩
end Go.Proofs.Ytphmlkbmnmicpaa.A
namespace Go.Proofs.Ytphmlkbmnmicpaa.A
open Go.RowKit Go.Proofs.YtphmlkbmnmicpaaW.PrintWords Go.Proofs.YtphmlkbmnmicpaaW.PrintLast Go.Proofs.YtphmlkbmnmicpaaW.PrintMore
attribute [local go_sem] max2_int zBH max_two zBL zBB zBA zBI zBG   -- for this text's walks alone
def swageref27_behind.j0 : Nat → Int → Int → Bool → Int → Int → Int → Int → Int → List Int → Int → Int → Int → Int → Int → List Int → Option (Bool)
 | 0, _, _, _, _, _, _, _, _, _, _, _, _, _, _, _ => none
 | k + 1, x5, x6, x7, x256000, x256001, x256002, x256003, x256004, x256005, x257000, x257001, x257002, x257003, x257004, x257005 => if x7 = true then (if x5 = 0 then ((swageref14_Uses.f k x257000 x257001 x257002 x257003 x257004 x257005).bind fun t261 => ((swageref27_has.f k t261 x5).bind fun t264 => (if t264 = true then (some true) else ((swageref14_Uses.f k x256000 x256001 x256002 x256003 x256004 x256005).bind fun t265 => ((swageref27_has.f k t265 x6).bind fun t268 => (some t268)))))) else (if x5 = x6 then (some true) else ((swageref14_Uses.f k x257000 x257001 x257002 x257003 x257004 x257005).bind fun t269 => ((swageref27_has.f k t269 x5).bind fun t272 => (if t272 = true then (some true) else ((swageref14_Uses.f k x256000 x256001 x256002 x256003 x256004 x256005).bind fun t273 => ((swageref27_has.f k t273 x6).bind fun t276 => (some t276)))))))) else (some true)
def swageref27_behind.f (k : Nat) (a0_0 : Int) (a0_1 : Int) (a0_2 : Int) (a0_3 : Int) (a0_4 : Int) (l0_5 : List Int) (a1_0 : Int) (a1_1 : Int) (a1_2 : Int) (a1_3 : Int) (a1_4 : Int) (l1_5 : List Int) : Option (Bool) := (swageref14_Sets.f a0_0 a0_1 a0_2 a0_3 a0_4 l0_5).bind fun t257 => ((swageref14_Sets.f a1_0 a1_1 a1_2 a1_3 a1_4 l1_5).bind fun t258 => ((swageref14_Pure.f a0_0 a0_1 a0_2 a0_3 a0_4 l0_5).bind fun t259 => (if t259 = true then (swageref27_behind.j0 k t257 t258 true a0_0 a0_1 a0_2 a0_3 a0_4 l0_5 a1_0 a1_1 a1_2 a1_3 a1_4 l1_5) else ((swageref14_Pure.f a1_0 a1_1 a1_2 a1_3 a1_4 l1_5).bind fun t260 => (swageref27_behind.j0 k t257 t258 t260 a0_0 a0_1 a0_2 a0_3 a0_4 l0_5 a1_0 a1_1 a1_2 a1_3 a1_4 l1_5)))))
set_option maxHeartbeats 8000000 in
set_option maxRecDepth 100000 in
theorem swageref27_behind.calls (k : Nat) (a0_0 : Int) (a0_1 : Int) (a0_2 : Int) (a0_3 : Int) (a0_4 : Int) (A0_5 : Option Addr) (c0_5 : Nat) (l0_5 : List Int) (a1_0 : Int) (a1_1 : Int) (a1_2 : Int) (a1_3 : Int) (a1_4 : Int) (A1_5 : Option Addr) (c1_5 : Nat) (l1_5 : List Int) (r : Bool) (w : World) (hr0_5 : Kd.C (Kd.int .i64) w A0_5 l0_5.length l0_5) (hc0_5 : l0_5.length ≤ c0_5) (hr1_5 : Kd.C (Kd.int .i64) w A1_5 l1_5.length l1_5) (hc1_5 : l1_5.length ≤ c1_5) (h : swageref27_behind.f k a0_0 a0_1 a0_2 a0_3 a0_4 l0_5 a1_0 a1_1 a1_2 a1_3 a1_4 l1_5 = some r) :
  Calls Try.prog 33 #[.agg #[.int .i64 a0_0, .int .i64 a0_1, .int .i64 a0_2, .int .i64 a0_3, .int .i64 a0_4, .slice A0_5 l0_5.length c0_5], .agg #[.int .i64 a1_0, .int .i64 a1_1, .int .i64 a1_2, .int .i64 a1_3, .int .i64 a1_4, .slice A1_5 l1_5.length c1_5]] w fun e w' => e = .returned (.bool r) ∧ Below w.heap.size w w' := by
 have hu37 := Try.underlying37
 have HR0_5 := Aside0.mk hr0_5
 have HC0_5 := Aside0.mk hc0_5
 clear hr0_5 hc0_5
 have HR1_5 := Aside0.mk hr1_5
 have HC1_5 := Aside0.mk hc1_5
 clear hr1_5 hc1_5
 have HB := Aside0.mk (Below.refl w.heap.size w)
 have H : ((swageref14_Sets.f a0_0 a0_1 a0_2 a0_3 a0_4 l0_5).bind fun t257 => ((swageref14_Sets.f a1_0 a1_1 a1_2 a1_3 a1_4 l1_5).bind fun t258 => ((swageref14_Pure.f a0_0 a0_1 a0_2 a0_3 a0_4 l0_5).bind fun t259 => (if t259 = true then (swageref27_behind.j0 k t257 t258 true a0_0 a0_1 a0_2 a0_3 a0_4 l0_5 a1_0 a1_1 a1_2 a1_3 a1_4 l1_5) else ((swageref14_Pure.f a1_0 a1_1 a1_2 a1_3 a1_4 l1_5).bind fun t260 => (swageref27_behind.j0 k t257 t258 t260 a0_0 a0_1 a0_2 a0_3 a0_4 l0_5 a1_0 a1_1 a1_2 a1_3 a1_4 l1_5)))))) = some r := h
 clear h
 replace H := Option.bind_eq_some_iff.mp H
 obtain ⟨t257, A30, H⟩ := H
 replace H : ((swageref14_Sets.f a1_0 a1_1 a1_2 a1_3 a1_4 l1_5).bind fun t258 => ((swageref14_Pure.f a0_0 a0_1 a0_2 a0_3 a0_4 l0_5).bind fun t259 => (if t259 = true then (swageref27_behind.j0 k t257 t258 true a0_0 a0_1 a0_2 a0_3 a0_4 l0_5 a1_0 a1_1 a1_2 a1_3 a1_4 l1_5) else ((swageref14_Pure.f a1_0 a1_1 a1_2 a1_3 a1_4 l1_5).bind fun t260 => (swageref27_behind.j0 k t257 t258 t260 a0_0 a0_1 a0_2 a0_3 a0_4 l0_5 a1_0 a1_1 a1_2 a1_3 a1_4 l1_5))))) = some r := H
 have A3 := Aside0.mk A30
 clear A30
 replace H := Option.bind_eq_some_iff.mp H
 obtain ⟨t258, A40, H⟩ := H
 replace H : ((swageref14_Pure.f a0_0 a0_1 a0_2 a0_3 a0_4 l0_5).bind fun t259 => (if t259 = true then (swageref27_behind.j0 k t257 t258 true a0_0 a0_1 a0_2 a0_3 a0_4 l0_5 a1_0 a1_1 a1_2 a1_3 a1_4 l1_5) else ((swageref14_Pure.f a1_0 a1_1 a1_2 a1_3 a1_4 l1_5).bind fun t260 => (swageref27_behind.j0 k t257 t258 t260 a0_0 a0_1 a0_2 a0_3 a0_4 l0_5 a1_0 a1_1 a1_2 a1_3 a1_4 l1_5)))) = some r := H
 have A4 := Aside0.mk A40
 clear A40
 have HC5 := Aside0.mk H
 clear H
 go_enter Try.func33, Try.ntmps33
 go_upto_region 3 with (first | ((with_reducible refine zAU (N := 2) rfl ?_); refine zAT ?hg (N := 2) ?hd (cs := #[.int .i64 a0_0, .int .i64 a0_1, .int .i64 a0_2, .int .i64 a0_3, .int .i64 a0_4, .slice A0_5 l0_5.length c0_5]) (t := 37) ?hr ?_; (case hd => rfl); (case hg => rfl); (case hr => first | (go_simp; done) | (go_simp; rfl)); intro gb255 hg w6 hbox hb; have n0_ := Aside0.mk (zAL (by repeat (first | (with_reducible first | exact HB.out | apply zAC | apply zAA | apply zAD) | exact HB.out)) hb); have n1_ := Aside0.mk (hbox); have n2_ := Aside0.mk ((by rw [hg]; exact (zAM (by repeat (first | (with_reducible first | exact HB.out | apply zAC | apply zAA | apply zAD) | exact HB.out))) : w.heap.size ≤ gb255)); have n3_ := Aside0.mk ((by rw [hg]; exact (zAM (by repeat (first | (with_reducible first | exact HB.out | apply zAC | apply zAA | apply zAD) | exact HB.out))) : w.heap.size ≤ gb255)); clear HB; have HB := n0_; have BK255 := n1_; have GW255 := n2_; have GE255 := n3_; clear n0_ n1_ n2_ n3_; clear hb hbox hg) | ((with_reducible refine zAU (N := 3) rfl ?_); refine zAT ?hg (N := 3) ?hd (cs := #[.int .i64 a1_0, .int .i64 a1_1, .int .i64 a1_2, .int .i64 a1_3, .int .i64 a1_4, .slice A1_5 l1_5.length c1_5]) (t := 37) ?hr ?_; (case hd => rfl); (case hg => rfl); (case hr => first | (go_simp; done) | (go_simp; rfl)); intro gb256 hg w7 hbox hb; have n0_ := Aside0.mk (zAP (g := gb255) (o := .cells #[.int .i64 a0_0, .int .i64 a0_1, .int .i64 a0_2, .int .i64 a0_3, .int .i64 a0_4, .slice A0_5 l0_5.length c0_5] 37 (0, 0)) (by (with_reducible repeat (first | refine zAI ?_ _ | refine zAJ ?_ | refine zAG ?_ _)); exact BK255.out) hb); have n1_ := Aside0.mk (zAL (by repeat (first | (with_reducible first | exact HB.out | apply zAC | apply zAA | apply zAD | refine zAH ?_ GE255.out) | exact HB.out)) hb); have n2_ := Aside0.mk (hbox); have n3_ := Aside0.mk ((by rw [hg]; exact (zAM (by repeat (first | (with_reducible first | exact HB.out | apply zAC | apply zAA | apply zAD | refine zAH ?_ GE255.out) | exact HB.out))) : w.heap.size ≤ gb256)); have n4_ := Aside0.mk ((by rw [hg]; exact (zAM (by repeat (first | (with_reducible first | exact HB.out | apply zAC | apply zAA | apply zAD | refine zAH ?_ GE255.out) | exact HB.out))) : w.heap.size ≤ gb256)); have n5_ := Aside0.mk ((by rw [hg]; exact Nat.ne_of_lt (zBE (g := gb255) (o := .cells #[.int .i64 a0_0, .int .i64 a0_1, .int .i64 a0_2, .int .i64 a0_3, .int .i64 a0_4, .slice A0_5 l0_5.length c0_5] 37 (0, 0)) (by (with_reducible repeat (first | refine zAI ?_ _ | refine zAJ ?_ | refine zAG ?_ _)); exact BK255.out)) : gb255 ≠ gb256)); have n6_ := Aside0.mk ((by rw [hg]; exact Nat.ne_of_gt (zBE (g := gb255) (o := .cells #[.int .i64 a0_0, .int .i64 a0_1, .int .i64 a0_2, .int .i64 a0_3, .int .i64 a0_4, .slice A0_5 l0_5.length c0_5] 37 (0, 0)) (by (with_reducible repeat (first | refine zAI ?_ _ | refine zAJ ?_ | refine zAG ?_ _)); exact BK255.out)) : gb256 ≠ gb255)); clear BK255; clear HB; have BK255 := n0_; have HB := n1_; have BK256 := n2_; have GW256 := n3_; have GE256 := n4_; have NB255_256 := n5_; have NB256_255 := n6_; clear n0_ n1_ n2_ n3_ n4_ n5_ n6_; clear hb hbox hg; have hnb8 := NB255_256.out; have hnc8 := NB256_255.out; have hcz9_0 : w7.cell? ⟨gb255, 0, none⟩ = some (.int .i64 a0_0) := (zAE BK255.out 0).trans rfl; have hcz9_1 : w7.cell? ⟨gb255, 1, none⟩ = some (.int .i64 a0_1) := (zAE BK255.out 1).trans rfl; have hcz9_2 : w7.cell? ⟨gb255, 2, none⟩ = some (.int .i64 a0_2) := (zAE BK255.out 2).trans rfl; have hcz9_3 : w7.cell? ⟨gb255, 3, none⟩ = some (.int .i64 a0_3) := (zAE BK255.out 3).trans rfl; have hcz9_4 : w7.cell? ⟨gb255, 4, none⟩ = some (.int .i64 a0_4) := (zAE BK255.out 4).trans rfl; have hcz9_5 : w7.cell? ⟨gb255, 5, none⟩ = some (.slice A0_5 l0_5.length c0_5) := (zAE BK255.out 5).trans rfl; have hfz9_0 := zAB BK255.out 0; have hfz9_1 := zAB BK255.out 1; have hfz9_2 := zAB BK255.out 2; have hfz9_3 := zAB BK255.out 3; have hfz9_4 := zAB BK255.out 4; have hfz9_5 := zAB BK255.out 5) | ((with_reducible refine zAV (f := 46) rfl ?_); refine zBO (some 9) rfl rfl Try.func46 (by kernel_rfl) rfl #[.agg #[.int .i64 a0_0, .int .i64 a0_1, .int .i64 a0_2, .int .i64 a0_3, .int .i64 a0_4, .slice A0_5 l0_5.length c0_5]] rfl (by (try simp only [List.map_toArray, List.map_cons, List.map_nil]); first | done | rfl | (simp only [List.length_drop, List.length_take]; rfl)) ?_; (with_reducible refine (swageref14_Sets.calls a0_0 a0_1 a0_2 a0_3 a0_4 _ _ l0_5 t257 _ ?side1 ?side2 A3.out).mono ?_); (case side1 => repeat (first | exact (Kd.C_below HR0_5.out HB.out) | (with_reducible refine Kd.C_alloc ?_ _) | (with_reducible refine Kd.C_drewN ?_ _) | (with_reducible refine Kd.C_drew ?_))); (case side2 => exact HC0_5.out); rintro e w10 ⟨rfl, hb⟩; refine ⟨_, rfl, ?_⟩; have n0_ := Aside0.mk (zAP (g := gb255) (o := .cells #[.int .i64 a0_0, .int .i64 a0_1, .int .i64 a0_2, .int .i64 a0_3, .int .i64 a0_4, .slice A0_5 l0_5.length c0_5] 37 (0, 0)) (by (with_reducible repeat (first | refine zAI ?_ _ | refine zAJ ?_ | refine zAG ?_ _)); exact BK255.out) hb); have n1_ := Aside0.mk (zAP (g := gb256) (o := .cells #[.int .i64 a1_0, .int .i64 a1_1, .int .i64 a1_2, .int .i64 a1_3, .int .i64 a1_4, .slice A1_5 l1_5.length c1_5] 37 (0, 0)) (by (with_reducible repeat (first | refine zAI ?_ _ | refine zAJ ?_ | refine zAG ?_ _)); exact BK256.out) hb); have n2_ := Aside0.mk (zAL (by repeat (first | (with_reducible first | exact HB.out | apply zAC | apply zAA | apply zAD | refine zAH ?_ GE255.out | refine zAH ?_ GE256.out) | exact HB.out)) hb); clear BK255; clear BK256; clear HB; have BK255 := n0_; have BK256 := n1_; have HB := n2_; clear n0_ n1_ n2_; (try clear hb); (try clear hb2); (try clear hk); (try clear hi); have hcz11_0 : w10.cell? ⟨gb256, 0, none⟩ = some (.int .i64 a1_0) := (zAE BK256.out 0).trans rfl; have hcz11_1 : w10.cell? ⟨gb256, 1, none⟩ = some (.int .i64 a1_1) := (zAE BK256.out 1).trans rfl; have hcz11_2 : w10.cell? ⟨gb256, 2, none⟩ = some (.int .i64 a1_2) := (zAE BK256.out 2).trans rfl; have hcz11_3 : w10.cell? ⟨gb256, 3, none⟩ = some (.int .i64 a1_3) := (zAE BK256.out 3).trans rfl; have hcz11_4 : w10.cell? ⟨gb256, 4, none⟩ = some (.int .i64 a1_4) := (zAE BK256.out 4).trans rfl; have hcz11_5 : w10.cell? ⟨gb256, 5, none⟩ = some (.slice A1_5 l1_5.length c1_5) := (zAE BK256.out 5).trans rfl; have hfz11_0 := zAB BK256.out 0; have hfz11_1 := zAB BK256.out 1; have hfz11_2 := zAB BK256.out 2; have hfz11_3 := zAB BK256.out 3; have hfz11_4 := zAB BK256.out 4; have hfz11_5 := zAB BK256.out 5) | ((with_reducible refine zAV (f := 46) rfl ?_); refine zBO (some 11) rfl rfl Try.func46 (by kernel_rfl) rfl #[.agg #[.int .i64 a1_0, .int .i64 a1_1, .int .i64 a1_2, .int .i64 a1_3, .int .i64 a1_4, .slice A1_5 l1_5.length c1_5]] rfl (by (try simp only [List.map_toArray, List.map_cons, List.map_nil]); first | done | rfl | (simp only [List.length_drop, List.length_take]; rfl)) ?_; (with_reducible refine (swageref14_Sets.calls a1_0 a1_1 a1_2 a1_3 a1_4 _ _ l1_5 t258 _ ?side1 ?side2 A4.out).mono ?_); (case side1 => repeat (first | exact (Kd.C_below HR1_5.out HB.out) | (with_reducible refine Kd.C_alloc ?_ _) | (with_reducible refine Kd.C_drewN ?_ _) | (with_reducible refine Kd.C_drew ?_))); (case side2 => exact HC1_5.out); rintro e w12 ⟨rfl, hb⟩; refine ⟨_, rfl, ?_⟩; have n0_ := Aside0.mk (zAP (g := gb255) (o := .cells #[.int .i64 a0_0, .int .i64 a0_1, .int .i64 a0_2, .int .i64 a0_3, .int .i64 a0_4, .slice A0_5 l0_5.length c0_5] 37 (0, 0)) (by (with_reducible repeat (first | refine zAI ?_ _ | refine zAJ ?_ | refine zAG ?_ _)); exact BK255.out) hb); have n1_ := Aside0.mk (zAP (g := gb256) (o := .cells #[.int .i64 a1_0, .int .i64 a1_1, .int .i64 a1_2, .int .i64 a1_3, .int .i64 a1_4, .slice A1_5 l1_5.length c1_5] 37 (0, 0)) (by (with_reducible repeat (first | refine zAI ?_ _ | refine zAJ ?_ | refine zAG ?_ _)); exact BK256.out) hb); have n2_ := Aside0.mk (zAL (by repeat (first | (with_reducible first | exact HB.out | apply zAC | apply zAA | apply zAD | refine zAH ?_ GE255.out | refine zAH ?_ GE256.out) | exact HB.out)) hb); clear BK255; clear BK256; clear HB; have BK255 := n0_; have BK256 := n1_; have HB := n2_; clear n0_ n1_ n2_; (try clear hb); (try clear hb2); (try clear hk); (try clear hi)))
 (try simp only [Act.put, List.setIfInBounds_toArray, List.set_cons_zero, List.set_cons_succ])
 go_cut [7] (fun v7 wc => ∃ (kq : Nat) (x7_4 : Bool), v7 = .bool x7_4 ∧ Aside0 (swageref27_behind.j0 kq t257 t258 x7_4 a0_0 a0_1 a0_2 a0_3 a0_4 l0_5 a1_0 a1_1 a1_2 a1_3 a1_4 l1_5 = some r) ∧ Aside0 (kq ≤ k) ∧ Aside0 (wc.heap[gb255]? = some (.cells #[.int .i64 a0_0, .int .i64 a0_1, .int .i64 a0_2, .int .i64 a0_3, .int .i64 a0_4, (.slice A0_5 l0_5.length c0_5)] 37 (0, 0))) ∧ Aside0 (wc.heap[gb256]? = some (.cells #[.int .i64 a1_0, .int .i64 a1_1, .int .i64 a1_2, .int .i64 a1_3, .int .i64 a1_4, (.slice A1_5 l1_5.length c1_5)] 37 (0, 0))) ∧ Aside0 (Below w.heap.size w wc))
 case first =>
  have H := HC5.out
  clear HC5
  replace H := Option.bind_eq_some_iff.mp H
  obtain ⟨t259, A130, H⟩ := H
  replace H : (if t259 = true then (swageref27_behind.j0 k t257 t258 true a0_0 a0_1 a0_2 a0_3 a0_4 l0_5 a1_0 a1_1 a1_2 a1_3 a1_4 l1_5) else ((swageref14_Pure.f a1_0 a1_1 a1_2 a1_3 a1_4 l1_5).bind fun t260 => (swageref27_behind.j0 k t257 t258 t260 a0_0 a0_1 a0_2 a0_3 a0_4 l0_5 a1_0 a1_1 a1_2 a1_3 a1_4 l1_5))) = some r := H
  have A13 := Aside0.mk A130
  clear A130
  by_cases c14 : t259 = true
  ·subst c14
   have H1 : (swageref27_behind.j0 k t257 t258 true a0_0 a0_1 a0_2 a0_3 a0_4 l0_5 a1_0 a1_1 a1_2 a1_3 a1_4 l1_5) = some r := by rw [if_pos rfl] at H; exact H
   clear H
   have H := H1
   clear H1
   have H' := Aside0.mk H
   clear H
   have hnb15 := NB255_256.out
   have hnc15 := NB256_255.out
   have hcz16_0 : w12.cell? ⟨gb255, 0, none⟩ = some (.int .i64 a0_0) := (zAE BK255.out 0).trans rfl
   have hcz16_1 : w12.cell? ⟨gb255, 1, none⟩ = some (.int .i64 a0_1) := (zAE BK255.out 1).trans rfl
   have hcz16_2 : w12.cell? ⟨gb255, 2, none⟩ = some (.int .i64 a0_2) := (zAE BK255.out 2).trans rfl
   have hcz16_3 : w12.cell? ⟨gb255, 3, none⟩ = some (.int .i64 a0_3) := (zAE BK255.out 3).trans rfl
   have hcz16_4 : w12.cell? ⟨gb255, 4, none⟩ = some (.int .i64 a0_4) := (zAE BK255.out 4).trans rfl
   have hcz16_5 : w12.cell? ⟨gb255, 5, none⟩ = some (.slice A0_5 l0_5.length c0_5) := (zAE BK255.out 5).trans rfl
   have hfz16_0 := zAB BK255.out 0
   have hfz16_1 := zAB BK255.out 1
   have hfz16_2 := zAB BK255.out 2
   have hfz16_3 := zAB BK255.out 3
   have hfz16_4 := zAB BK255.out 4
   have hfz16_5 := zAB BK255.out 5
   go_wp2_with (first | ((with_reducible refine zAV (f := 49) rfl ?_); refine zBO (some 13) rfl rfl Try.func49 (by kernel_rfl) rfl #[.agg #[.int .i64 a0_0, .int .i64 a0_1, .int .i64 a0_2, .int .i64 a0_3, .int .i64 a0_4, .slice A0_5 l0_5.length c0_5]] rfl (by (try simp only [List.map_toArray, List.map_cons, List.map_nil]); first | done | rfl | (simp only [List.length_drop, List.length_take]; rfl)) ?_; (with_reducible refine (swageref14_Pure.calls a0_0 a0_1 a0_2 a0_3 a0_4 _ _ l0_5 true _ ?side1 ?side2 A13.out).mono ?_); (case side1 => repeat (first | exact (Kd.C_below HR0_5.out HB.out) | (with_reducible refine Kd.C_alloc ?_ _) | (with_reducible refine Kd.C_drewN ?_ _) | (with_reducible refine Kd.C_drew ?_))); (case side2 => exact HC0_5.out); rintro e w17 ⟨rfl, hb⟩; refine ⟨_, rfl, ?_⟩; have n0_ := Aside0.mk (zAP (g := gb255) (o := .cells #[.int .i64 a0_0, .int .i64 a0_1, .int .i64 a0_2, .int .i64 a0_3, .int .i64 a0_4, .slice A0_5 l0_5.length c0_5] 37 (0, 0)) (by (with_reducible repeat (first | refine zAI ?_ _ | refine zAJ ?_ | refine zAG ?_ _)); exact BK255.out) hb); have n1_ := Aside0.mk (zAP (g := gb256) (o := .cells #[.int .i64 a1_0, .int .i64 a1_1, .int .i64 a1_2, .int .i64 a1_3, .int .i64 a1_4, .slice A1_5 l1_5.length c1_5] 37 (0, 0)) (by (with_reducible repeat (first | refine zAI ?_ _ | refine zAJ ?_ | refine zAG ?_ _)); exact BK256.out) hb); have n2_ := Aside0.mk (zAL (by repeat (first | (with_reducible first | exact HB.out | apply zAC | apply zAA | apply zAD | refine zAH ?_ GE255.out | refine zAH ?_ GE256.out) | exact HB.out)) hb); clear BK255; clear BK256; clear HB; have BK255 := n0_; have BK256 := n1_; have HB := n2_; clear n0_ n1_ n2_; (try clear hb); (try clear hb2); (try clear hk); (try clear hi)))
   go_meet
   case rel => exact ⟨_, (true), (by first | rfl | (simp; done) | (simp [*]; done)), H', ⟨by first | omega | exact Nat.le_refl _⟩, ⟨by (with_reducible repeat (first | refine zAI ?_ _ | refine zAJ ?_ | refine zAG ?_ _)); exact BK255.out⟩, ⟨by (with_reducible repeat (first | refine zAI ?_ _ | refine zAJ ?_ | refine zAG ?_ _)); exact BK256.out⟩, ⟨by repeat (first | (with_reducible first | exact HB.out | apply zAC | apply zAA | apply zAD | refine zAH ?_ GE255.out | refine zAH ?_ GE256.out) | exact HB.out)⟩⟩
  ·replace c14 := Bool.eq_false_iff.mpr c14
   subst c14
   have H1 : ((swageref14_Pure.f a1_0 a1_1 a1_2 a1_3 a1_4 l1_5).bind fun t260 => (swageref27_behind.j0 k t257 t258 t260 a0_0 a0_1 a0_2 a0_3 a0_4 l0_5 a1_0 a1_1 a1_2 a1_3 a1_4 l1_5)) = some r := by rw [if_neg (show ¬ (false = true) by decide)] at H; exact H
   clear H
   have H := H1
   clear H1
   replace H := Option.bind_eq_some_iff.mp H
   obtain ⟨t260, A180, H⟩ := H
   replace H : (swageref27_behind.j0 k t257 t258 t260 a0_0 a0_1 a0_2 a0_3 a0_4 l0_5 a1_0 a1_1 a1_2 a1_3 a1_4 l1_5) = some r := H
   have A18 := Aside0.mk A180
   clear A180
   have H' := Aside0.mk H
   clear H
   have hnb19 := NB255_256.out
   have hnc19 := NB256_255.out
   have hcz20_0 : w12.cell? ⟨gb255, 0, none⟩ = some (.int .i64 a0_0) := (zAE BK255.out 0).trans rfl
   have hcz20_1 : w12.cell? ⟨gb255, 1, none⟩ = some (.int .i64 a0_1) := (zAE BK255.out 1).trans rfl
   have hcz20_2 : w12.cell? ⟨gb255, 2, none⟩ = some (.int .i64 a0_2) := (zAE BK255.out 2).trans rfl
   have hcz20_3 : w12.cell? ⟨gb255, 3, none⟩ = some (.int .i64 a0_3) := (zAE BK255.out 3).trans rfl
   have hcz20_4 : w12.cell? ⟨gb255, 4, none⟩ = some (.int .i64 a0_4) := (zAE BK255.out 4).trans rfl
   have hcz20_5 : w12.cell? ⟨gb255, 5, none⟩ = some (.slice A0_5 l0_5.length c0_5) := (zAE BK255.out 5).trans rfl
   have hfz20_0 := zAB BK255.out 0
   have hfz20_1 := zAB BK255.out 1
   have hfz20_2 := zAB BK255.out 2
   have hfz20_3 := zAB BK255.out 3
   have hfz20_4 := zAB BK255.out 4
   have hfz20_5 := zAB BK255.out 5
   go_wp2_with (first | ((with_reducible refine zAV (f := 49) rfl ?_); refine zBO (some 13) rfl rfl Try.func49 (by kernel_rfl) rfl #[.agg #[.int .i64 a0_0, .int .i64 a0_1, .int .i64 a0_2, .int .i64 a0_3, .int .i64 a0_4, .slice A0_5 l0_5.length c0_5]] rfl (by (try simp only [List.map_toArray, List.map_cons, List.map_nil]); first | done | rfl | (simp only [List.length_drop, List.length_take]; rfl)) ?_; (with_reducible refine (swageref14_Pure.calls a0_0 a0_1 a0_2 a0_3 a0_4 _ _ l0_5 false _ ?side1 ?side2 A13.out).mono ?_); (case side1 => repeat (first | exact (Kd.C_below HR0_5.out HB.out) | (with_reducible refine Kd.C_alloc ?_ _) | (with_reducible refine Kd.C_drewN ?_ _) | (with_reducible refine Kd.C_drew ?_))); (case side2 => exact HC0_5.out); rintro e w21 ⟨rfl, hb⟩; refine ⟨_, rfl, ?_⟩; have n0_ := Aside0.mk (zAP (g := gb255) (o := .cells #[.int .i64 a0_0, .int .i64 a0_1, .int .i64 a0_2, .int .i64 a0_3, .int .i64 a0_4, .slice A0_5 l0_5.length c0_5] 37 (0, 0)) (by (with_reducible repeat (first | refine zAI ?_ _ | refine zAJ ?_ | refine zAG ?_ _)); exact BK255.out) hb); have n1_ := Aside0.mk (zAP (g := gb256) (o := .cells #[.int .i64 a1_0, .int .i64 a1_1, .int .i64 a1_2, .int .i64 a1_3, .int .i64 a1_4, .slice A1_5 l1_5.length c1_5] 37 (0, 0)) (by (with_reducible repeat (first | refine zAI ?_ _ | refine zAJ ?_ | refine zAG ?_ _)); exact BK256.out) hb); have n2_ := Aside0.mk (zAL (by repeat (first | (with_reducible first | exact HB.out | apply zAC | apply zAA | apply zAD | refine zAH ?_ GE255.out | refine zAH ?_ GE256.out) | exact HB.out)) hb); clear BK255; clear BK256; clear HB; have BK255 := n0_; have BK256 := n1_; have HB := n2_; clear n0_ n1_ n2_; (try clear hb); (try clear hb2); (try clear hk); (try clear hi); have hcz22_0 : w21.cell? ⟨gb256, 0, none⟩ = some (.int .i64 a1_0) := (zAE BK256.out 0).trans rfl; have hcz22_1 : w21.cell? ⟨gb256, 1, none⟩ = some (.int .i64 a1_1) := (zAE BK256.out 1).trans rfl; have hcz22_2 : w21.cell? ⟨gb256, 2, none⟩ = some (.int .i64 a1_2) := (zAE BK256.out 2).trans rfl; have hcz22_3 : w21.cell? ⟨gb256, 3, none⟩ = some (.int .i64 a1_3) := (zAE BK256.out 3).trans rfl; have hcz22_4 : w21.cell? ⟨gb256, 4, none⟩ = some (.int .i64 a1_4) := (zAE BK256.out 4).trans rfl; have hcz22_5 : w21.cell? ⟨gb256, 5, none⟩ = some (.slice A1_5 l1_5.length c1_5) := (zAE BK256.out 5).trans rfl; have hfz22_0 := zAB BK256.out 0; have hfz22_1 := zAB BK256.out 1; have hfz22_2 := zAB BK256.out 2; have hfz22_3 := zAB BK256.out 3; have hfz22_4 := zAB BK256.out 4; have hfz22_5 := zAB BK256.out 5) | (go_at_call 49; (with_reducible refine (swageref14_Pure.calls a1_0 a1_1 a1_2 a1_3 a1_4 _ _ l1_5 t260 _ ?side1 ?side2 A18.out).mono ?_); (case side1 => repeat (first | exact (Kd.C_below HR1_5.out HB.out) | (with_reducible refine Kd.C_alloc ?_ _) | (with_reducible refine Kd.C_drewN ?_ _) | (with_reducible refine Kd.C_drew ?_))); (case side2 => exact HC1_5.out); rintro e w23 ⟨rfl, hb⟩; have n0_ := Aside0.mk (zAP (g := gb255) (o := .cells #[.int .i64 a0_0, .int .i64 a0_1, .int .i64 a0_2, .int .i64 a0_3, .int .i64 a0_4, .slice A0_5 l0_5.length c0_5] 37 (0, 0)) (by (with_reducible repeat (first | refine zAI ?_ _ | refine zAJ ?_ | refine zAG ?_ _)); exact BK255.out) hb); have n1_ := Aside0.mk (zAP (g := gb256) (o := .cells #[.int .i64 a1_0, .int .i64 a1_1, .int .i64 a1_2, .int .i64 a1_3, .int .i64 a1_4, .slice A1_5 l1_5.length c1_5] 37 (0, 0)) (by (with_reducible repeat (first | refine zAI ?_ _ | refine zAJ ?_ | refine zAG ?_ _)); exact BK256.out) hb); have n2_ := Aside0.mk (zAL (by repeat (first | (with_reducible first | exact HB.out | apply zAC | apply zAA | apply zAD | refine zAH ?_ GE255.out | refine zAH ?_ GE256.out) | exact HB.out)) hb); clear BK255; clear BK256; clear HB; have BK255 := n0_; have BK256 := n1_; have HB := n2_; clear n0_ n1_ n2_; (try clear hb); (try clear hb2); (try clear hk); (try clear hi)))
   go_meet
   case rel => exact ⟨_, (t260), (by first | rfl | (simp; done) | (simp [*]; done)), H', ⟨by first | omega | exact Nat.le_refl _⟩, ⟨by (with_reducible repeat (first | refine zAI ?_ _ | refine zAJ ?_ | refine zAG ?_ _)); exact BK255.out⟩, ⟨by (with_reducible repeat (first | refine zAI ?_ _ | refine zAJ ?_ | refine zAG ?_ _)); exact BK256.out⟩, ⟨by repeat (first | (with_reducible first | exact HB.out | apply zAC | apply zAA | apply zAD | refine zAH ?_ GE255.out | refine zAH ?_ GE256.out) | exact HB.out)⟩⟩
 case rest =>
  clear HC5
  (try clear c1); (try clear p2); (try clear c3); (try clear c4); (try clear c8); (try clear c14); (try clear c15); (try clear c19); (try clear hcz11_0); (try clear hcz11_1); (try clear hcz11_2); (try clear hcz11_3); (try clear hcz11_4); (try clear hcz11_5); (try clear hcz16_0); (try clear hcz16_1); (try clear hcz16_2); (try clear hcz16_3); (try clear hcz16_4); (try clear hcz16_5); (try clear hcz20_0); (try clear hcz20_1); (try clear hcz20_2); (try clear hcz20_3); (try clear hcz20_4); (try clear hcz20_5); (try clear hcz22_0); (try clear hcz22_1); (try clear hcz22_2); (try clear hcz22_3); (try clear hcz22_4); (try clear hcz22_5); (try clear hcz9_0); (try clear hcz9_1); (try clear hcz9_2); (try clear hcz9_3); (try clear hcz9_4); (try clear hcz9_5); (try clear hfz11_0); (try clear hfz11_1); (try clear hfz11_2); (try clear hfz11_3); (try clear hfz11_4); (try clear hfz11_5); (try clear hfz16_0); (try clear hfz16_1); (try clear hfz16_2); (try clear hfz16_3); (try clear hfz16_4); (try clear hfz16_5); (try clear hfz20_0); (try clear hfz20_1); (try clear hfz20_2); (try clear hfz20_3); (try clear hfz20_4); (try clear hfz20_5); (try clear hfz22_0); (try clear hfz22_1); (try clear hfz22_2); (try clear hfz22_3); (try clear hfz22_4); (try clear hfz22_5); (try clear hfz9_0); (try clear hfz9_1); (try clear hfz9_2); (try clear hfz9_3); (try clear hfz9_4); (try clear hfz9_5)
  obtain ⟨kq, x7_4, rfl, HA, HJ4, BK255, BK256, HB⟩ := hcut
  cases kq with
  | zero => exact absurd HA.out (by simp [swageref27_behind.j0])
  | succ kj4 =>
   have H := HA.out
   clear HA
   simp only [swageref27_behind.j0] at H
   by_cases c24 : x7_4 = true
   ·subst c24
    have H1 : (if t257 = 0 then ((swageref14_Uses.f kj4 a1_0 a1_1 a1_2 a1_3 a1_4 l1_5).bind fun t261 => ((swageref27_has.f kj4 t261 t257).bind fun t264 => (if t264 = true then (some true) else ((swageref14_Uses.f kj4 a0_0 a0_1 a0_2 a0_3 a0_4 l0_5).bind fun t265 => ((swageref27_has.f kj4 t265 t258).bind fun t268 => (some t268)))))) else (if t257 = t258 then (some true) else ((swageref14_Uses.f kj4 a1_0 a1_1 a1_2 a1_3 a1_4 l1_5).bind fun t269 => ((swageref27_has.f kj4 t269 t257).bind fun t272 => (if t272 = true then (some true) else ((swageref14_Uses.f kj4 a0_0 a0_1 a0_2 a0_3 a0_4 l0_5).bind fun t273 => ((swageref27_has.f kj4 t273 t258).bind fun t276 => (some t276)))))))) = some r := by rw [if_pos rfl] at H; exact H
    clear H
    have H := H1
    clear H1
    by_cases c25 : t257 = 0
    ·rw [if_pos c25] at H
     have c25b0 : (t257 == 0) = true := beq_iff_eq.mpr c25
     have c25b1 : (t257 != 0) = false := bne_eq_false_iff_eq.mpr c25
     clear c25
     replace H := Option.bind_eq_some_iff.mp H
     obtain ⟨t261, A260, H⟩ := H
     replace H : ((swageref27_has.f kj4 t261 t257).bind fun t264 => (if t264 = true then (some true) else ((swageref14_Uses.f kj4 a0_0 a0_1 a0_2 a0_3 a0_4 l0_5).bind fun t265 => ((swageref27_has.f kj4 t265 t258).bind fun t268 => (some t268))))) = some r := H
     have A26 := Aside0.mk A260
     clear A260
     replace H := Option.bind_eq_some_iff.mp H
     obtain ⟨t264, A270, H⟩ := H
     replace H : (if t264 = true then (some true) else ((swageref14_Uses.f kj4 a0_0 a0_1 a0_2 a0_3 a0_4 l0_5).bind fun t265 => ((swageref27_has.f kj4 t265 t258).bind fun t268 => (some t268)))) = some r := H
     have A27 := Aside0.mk A270
     clear A270
     by_cases c28 : t264 = true
     ·subst c28
      have H1 : (some true) = some r := by rw [if_pos rfl] at H; exact H
      clear H
      have H := H1
      clear H1
      obtain rfl := Option.some.inj H
      have hnb29 := NB256_255.out
      have hnc29 := NB255_256.out
      have hcz30_0 : wc.cell? ⟨gb256, 0, none⟩ = some (.int .i64 a1_0) := (zAE BK256.out 0).trans rfl
      have hcz30_1 : wc.cell? ⟨gb256, 1, none⟩ = some (.int .i64 a1_1) := (zAE BK256.out 1).trans rfl
      have hcz30_2 : wc.cell? ⟨gb256, 2, none⟩ = some (.int .i64 a1_2) := (zAE BK256.out 2).trans rfl
      have hcz30_3 : wc.cell? ⟨gb256, 3, none⟩ = some (.int .i64 a1_3) := (zAE BK256.out 3).trans rfl
      have hcz30_4 : wc.cell? ⟨gb256, 4, none⟩ = some (.int .i64 a1_4) := (zAE BK256.out 4).trans rfl
      have hcz30_5 : wc.cell? ⟨gb256, 5, none⟩ = some (.slice A1_5 l1_5.length c1_5) := (zAE BK256.out 5).trans rfl
      have hfz30_0 := zAB BK256.out 0
      have hfz30_1 := zAB BK256.out 1
      have hfz30_2 := zAB BK256.out 2
      have hfz30_3 := zAB BK256.out 3
      have hfz30_4 := zAB BK256.out 4
      have hfz30_5 := zAB BK256.out 5
      go_wp2_with (first | (go_at_call 45; (with_reducible refine (swageref14_Uses.calls kj4 a1_0 a1_1 a1_2 a1_3 a1_4 _ _ l1_5 t261 _ ?side1 ?side2 A26.out).mono ?_); (case side1 => repeat (first | exact (Kd.C_below HR1_5.out HB.out) | (with_reducible refine Kd.C_alloc ?_ _) | (with_reducible refine Kd.C_drewN ?_ _) | (with_reducible refine Kd.C_drew ?_))); (case side2 => exact HC1_5.out); rintro e w31 ⟨v262, rfl, ho0, hb⟩; have n0_ := Aside0.mk (Kd.R_lower ho0 (zAM (by repeat (first | (with_reducible first | exact HB.out | apply zAC | apply zAA | apply zAD | refine zAH ?_ GE255.out | refine zAH ?_ GE256.out) | exact HB.out)))); have n1_ := Aside0.mk (zAP (g := gb255) (o := .cells #[.int .i64 a0_0, .int .i64 a0_1, .int .i64 a0_2, .int .i64 a0_3, .int .i64 a0_4, .slice A0_5 l0_5.length c0_5] 37 (0, 0)) (by (with_reducible repeat (first | refine zAI ?_ _ | refine zAJ ?_ | refine zAG ?_ _)); exact BK255.out) hb); have n2_ := Aside0.mk (zAP (g := gb256) (o := .cells #[.int .i64 a1_0, .int .i64 a1_1, .int .i64 a1_2, .int .i64 a1_3, .int .i64 a1_4, .slice A1_5 l1_5.length c1_5] 37 (0, 0)) (by (with_reducible repeat (first | refine zAI ?_ _ | refine zAJ ?_ | refine zAG ?_ _)); exact BK256.out) hb); have n3_ := Aside0.mk (zAL (by repeat (first | (with_reducible first | exact HB.out | apply zAC | apply zAA | apply zAD | refine zAH ?_ GE255.out | refine zAH ?_ GE256.out) | exact HB.out)) hb); clear BK255; clear BK256; clear HB; have HO263 := n0_; have BK255 := n1_; have BK256 := n2_; have HB := n3_; clear n0_ n1_ n2_ n3_; (try clear hb); (try clear hb2); (try clear hk); (try clear hi); (try clear ho0); obtain ⟨Ao32, co32, eo32⟩ := Kd.R_slice HO263.out; subst eo32) | (go_at_call 44; (with_reducible refine (swageref27_has.calls kj4 _ _ t261 t257 true _ ?side1 ?side2 A27.out).mono ?_); (case side1 => repeat (first | exact (Kd.R_reads' HO263.out).2.2 | (with_reducible refine Kd.C_alloc ?_ _) | (with_reducible refine Kd.C_drewN ?_ _) | (with_reducible refine Kd.C_drew ?_))); (case side2 => exact (Kd.R_reads' HO263.out).2.1); rintro e w' ⟨rfl, ⟨nd, rfl⟩⟩))
      go_ret
      exact ⟨by first | rfl | (simp [zAO, zAN] <;> rfl) | (simp [*, zAO, zAN] <;> rfl), by repeat (first | (with_reducible first | exact HB.out | apply zAC | apply zAA | apply zAD | refine zAH ?_ GE255.out | refine zAH ?_ GE256.out) | exact HB.out)⟩
     ·replace c28 := Bool.eq_false_iff.mpr c28
      subst c28
      have H1 : ((swageref14_Uses.f kj4 a0_0 a0_1 a0_2 a0_3 a0_4 l0_5).bind fun t265 => ((swageref27_has.f kj4 t265 t258).bind fun t268 => (some t268))) = some r := by rw [if_neg (show ¬ (false = true) by decide)] at H; exact H
      clear H
      have H := H1
      clear H1
      replace H := Option.bind_eq_some_iff.mp H
      obtain ⟨t265, A330, H⟩ := H
      replace H : ((swageref27_has.f kj4 t265 t258).bind fun t268 => (some t268)) = some r := H
      have A33 := Aside0.mk A330
      clear A330
      replace H := Option.bind_eq_some_iff.mp H
      obtain ⟨t268, A340, H⟩ := H
      replace H : (some t268) = some r := H
      have A34 := Aside0.mk A340
      clear A340
      obtain rfl := Option.some.inj H
      have hnb35 := NB256_255.out
      have hnc35 := NB255_256.out
      have hcz36_0 : wc.cell? ⟨gb256, 0, none⟩ = some (.int .i64 a1_0) := (zAE BK256.out 0).trans rfl
      have hcz36_1 : wc.cell? ⟨gb256, 1, none⟩ = some (.int .i64 a1_1) := (zAE BK256.out 1).trans rfl
      have hcz36_2 : wc.cell? ⟨gb256, 2, none⟩ = some (.int .i64 a1_2) := (zAE BK256.out 2).trans rfl
      have hcz36_3 : wc.cell? ⟨gb256, 3, none⟩ = some (.int .i64 a1_3) := (zAE BK256.out 3).trans rfl
      have hcz36_4 : wc.cell? ⟨gb256, 4, none⟩ = some (.int .i64 a1_4) := (zAE BK256.out 4).trans rfl
      have hcz36_5 : wc.cell? ⟨gb256, 5, none⟩ = some (.slice A1_5 l1_5.length c1_5) := (zAE BK256.out 5).trans rfl
      have hfz36_0 := zAB BK256.out 0
      have hfz36_1 := zAB BK256.out 1
      have hfz36_2 := zAB BK256.out 2
      have hfz36_3 := zAB BK256.out 3
      have hfz36_4 := zAB BK256.out 4
      have hfz36_5 := zAB BK256.out 5
      go_wp2_with (first | (go_at_call 45; (with_reducible refine (swageref14_Uses.calls kj4 a1_0 a1_1 a1_2 a1_3 a1_4 _ _ l1_5 t261 _ ?side1 ?side2 A26.out).mono ?_); (case side1 => repeat (first | exact (Kd.C_below HR1_5.out HB.out) | (with_reducible refine Kd.C_alloc ?_ _) | (with_reducible refine Kd.C_drewN ?_ _) | (with_reducible refine Kd.C_drew ?_))); (case side2 => exact HC1_5.out); rintro e w37 ⟨v262, rfl, ho0, hb⟩; have n0_ := Aside0.mk (Kd.R_lower ho0 (zAM (by repeat (first | (with_reducible first | exact HB.out | apply zAC | apply zAA | apply zAD | refine zAH ?_ GE255.out | refine zAH ?_ GE256.out) | exact HB.out)))); have n1_ := Aside0.mk (zAP (g := gb255) (o := .cells #[.int .i64 a0_0, .int .i64 a0_1, .int .i64 a0_2, .int .i64 a0_3, .int .i64 a0_4, .slice A0_5 l0_5.length c0_5] 37 (0, 0)) (by (with_reducible repeat (first | refine zAI ?_ _ | refine zAJ ?_ | refine zAG ?_ _)); exact BK255.out) hb); have n2_ := Aside0.mk (zAP (g := gb256) (o := .cells #[.int .i64 a1_0, .int .i64 a1_1, .int .i64 a1_2, .int .i64 a1_3, .int .i64 a1_4, .slice A1_5 l1_5.length c1_5] 37 (0, 0)) (by (with_reducible repeat (first | refine zAI ?_ _ | refine zAJ ?_ | refine zAG ?_ _)); exact BK256.out) hb); have n3_ := Aside0.mk (zAL (by repeat (first | (with_reducible first | exact HB.out | apply zAC | apply zAA | apply zAD | refine zAH ?_ GE255.out | refine zAH ?_ GE256.out) | exact HB.out)) hb); clear BK255; clear BK256; clear HB; have HO263 := n0_; have BK255 := n1_; have BK256 := n2_; have HB := n3_; clear n0_ n1_ n2_ n3_; (try clear hb); (try clear hb2); (try clear hk); (try clear hi); (try clear ho0); obtain ⟨Ao38, co38, eo38⟩ := Kd.R_slice HO263.out; subst eo38) | (go_at_call 44; (with_reducible refine (swageref27_has.calls kj4 _ _ t261 t257 false _ ?side1 ?side2 A27.out).mono ?_); (case side1 => repeat (first | exact (Kd.R_reads' HO263.out).2.2 | (with_reducible refine Kd.C_alloc ?_ _) | (with_reducible refine Kd.C_drewN ?_ _) | (with_reducible refine Kd.C_drew ?_))); (case side2 => exact (Kd.R_reads' HO263.out).2.1); rintro e w' ⟨rfl, ⟨nd, rfl⟩⟩; have hcz39_0 : w37.cell? ⟨gb255, 0, none⟩ = some (.int .i64 a0_0) := (zAE BK255.out 0).trans rfl; have hcz39_1 : w37.cell? ⟨gb255, 1, none⟩ = some (.int .i64 a0_1) := (zAE BK255.out 1).trans rfl; have hcz39_2 : w37.cell? ⟨gb255, 2, none⟩ = some (.int .i64 a0_2) := (zAE BK255.out 2).trans rfl; have hcz39_3 : w37.cell? ⟨gb255, 3, none⟩ = some (.int .i64 a0_3) := (zAE BK255.out 3).trans rfl; have hcz39_4 : w37.cell? ⟨gb255, 4, none⟩ = some (.int .i64 a0_4) := (zAE BK255.out 4).trans rfl; have hcz39_5 : w37.cell? ⟨gb255, 5, none⟩ = some (.slice A0_5 l0_5.length c0_5) := (zAE BK255.out 5).trans rfl; have hfz39_0 := zAB BK255.out 0; have hfz39_1 := zAB BK255.out 1; have hfz39_2 := zAB BK255.out 2; have hfz39_3 := zAB BK255.out 3; have hfz39_4 := zAB BK255.out 4; have hfz39_5 := zAB BK255.out 5) | (go_at_call 45; (with_reducible refine (swageref14_Uses.calls kj4 a0_0 a0_1 a0_2 a0_3 a0_4 _ _ l0_5 t265 _ ?side1 ?side2 A33.out).mono ?_); (case side1 => repeat (first | exact (Kd.C_below HR0_5.out (by repeat (first | (with_reducible first | exact HB.out | apply zAC | apply zAA | apply zAD | refine zAH ?_ GE255.out | refine zAH ?_ GE256.out) | exact HB.out))) | (with_reducible refine Kd.C_alloc ?_ _) | (with_reducible refine Kd.C_drewN ?_ _) | (with_reducible refine Kd.C_drew ?_))); (case side2 => exact HC0_5.out); rintro e w40 ⟨v266, rfl, ho0, hb⟩; have n0_ := Aside0.mk (Kd.R_elder' (by (with_reducible repeat (first | apply Kd.R_alloc | apply Kd.R_drewN | apply Kd.R_drew)); exact HO263.out) (Kd.R_base ho0) hb); have n1_ := Aside0.mk (Kd.R_lower (Kd.R_new' ho0 (Kd.R_lt (by (with_reducible repeat (first | apply Kd.R_alloc | apply Kd.R_drewN | apply Kd.R_drew)); exact HO263.out))) (zAM (by repeat (first | (with_reducible first | exact HB.out | apply zAC | apply zAA | apply zAD | refine zAH ?_ GE255.out | refine zAH ?_ GE256.out) | exact HB.out)))); have n2_ := Aside0.mk (zAP (g := gb255) (o := .cells #[.int .i64 a0_0, .int .i64 a0_1, .int .i64 a0_2, .int .i64 a0_3, .int .i64 a0_4, .slice A0_5 l0_5.length c0_5] 37 (0, 0)) (by (with_reducible repeat (first | refine zAI ?_ _ | refine zAJ ?_ | refine zAG ?_ _)); exact BK255.out) hb); have n3_ := Aside0.mk (zAP (g := gb256) (o := .cells #[.int .i64 a1_0, .int .i64 a1_1, .int .i64 a1_2, .int .i64 a1_3, .int .i64 a1_4, .slice A1_5 l1_5.length c1_5] 37 (0, 0)) (by (with_reducible repeat (first | refine zAI ?_ _ | refine zAJ ?_ | refine zAG ?_ _)); exact BK256.out) hb); have n4_ := Aside0.mk (zAL (by repeat (first | (with_reducible first | exact HB.out | apply zAC | apply zAA | apply zAD | refine zAH ?_ GE255.out | refine zAH ?_ GE256.out) | exact HB.out)) hb); clear HO263; clear BK255; clear BK256; clear HB; have HO263 := n0_; have HO267 := n1_; have BK255 := n2_; have BK256 := n3_; have HB := n4_; clear n0_ n1_ n2_ n3_ n4_; (try clear hb); (try clear hb2); (try clear hk); (try clear hi); (try clear ho0); obtain ⟨Ao41, co41, eo41⟩ := Kd.R_slice HO267.out; subst eo41) | (go_at_call 44; (with_reducible refine (swageref27_has.calls kj4 _ _ t265 t258 t268 _ ?side1 ?side2 A34.out).mono ?_); (case side1 => repeat (first | exact (Kd.R_reads' HO267.out).2.2 | (with_reducible refine Kd.C_alloc ?_ _) | (with_reducible refine Kd.C_drewN ?_ _) | (with_reducible refine Kd.C_drew ?_))); (case side2 => exact (Kd.R_reads' HO267.out).2.1); rintro e w' ⟨rfl, ⟨nd, rfl⟩⟩))
      go_ret
      exact ⟨by first | rfl | (simp [zAO, zAN] <;> rfl) | (simp [*, zAO, zAN] <;> rfl), by repeat (first | (with_reducible first | exact HB.out | apply zAC | apply zAA | apply zAD | refine zAH ?_ GE255.out | refine zAH ?_ GE256.out) | exact HB.out)⟩
    ·rw [if_neg c25] at H
     have c25b0 : (t257 == 0) = false := beq_eq_false_iff_ne.mpr c25
     have c25b1 : (t257 != 0) = true := bne_iff_ne.mpr c25
     by_cases c42 : t257 = t258
     ·rw [if_pos c42] at H
      have c42b0 : (t257 == t258) = true := beq_iff_eq.mpr c42
      have c42b1 : (t257 != t258) = false := bne_eq_false_iff_eq.mpr c42
      clear c42
      obtain rfl := Option.some.inj H
      go_wp2
      go_ret
      exact ⟨by first | rfl | (simp [zAO, zAN] <;> rfl) | (simp [*, zAO, zAN] <;> rfl), by repeat (first | (with_reducible first | exact HB.out | apply zAC | apply zAA | apply zAD | refine zAH ?_ GE255.out | refine zAH ?_ GE256.out) | exact HB.out)⟩
     ·rw [if_neg c42] at H
      have c42b0 : (t257 == t258) = false := beq_eq_false_iff_ne.mpr c42
      have c42b1 : (t257 != t258) = true := bne_iff_ne.mpr c42
      replace H := Option.bind_eq_some_iff.mp H
      obtain ⟨t269, A430, H⟩ := H
      replace H : ((swageref27_has.f kj4 t269 t257).bind fun t272 => (if t272 = true then (some true) else ((swageref14_Uses.f kj4 a0_0 a0_1 a0_2 a0_3 a0_4 l0_5).bind fun t273 => ((swageref27_has.f kj4 t273 t258).bind fun t276 => (some t276))))) = some r := H
      have A43 := Aside0.mk A430
      clear A430
      replace H := Option.bind_eq_some_iff.mp H
      obtain ⟨t272, A440, H⟩ := H
      replace H : (if t272 = true then (some true) else ((swageref14_Uses.f kj4 a0_0 a0_1 a0_2 a0_3 a0_4 l0_5).bind fun t273 => ((swageref27_has.f kj4 t273 t258).bind fun t276 => (some t276)))) = some r := H
      have A44 := Aside0.mk A440
      clear A440
      by_cases c45 : t272 = true
      ·subst c45
       have H1 : (some true) = some r := by rw [if_pos rfl] at H; exact H
       clear H
       have H := H1
       clear H1
       obtain rfl := Option.some.inj H
       have hnb46 := NB256_255.out
       have hnc46 := NB255_256.out
       have hcz47_0 : wc.cell? ⟨gb256, 0, none⟩ = some (.int .i64 a1_0) := (zAE BK256.out 0).trans rfl
       have hcz47_1 : wc.cell? ⟨gb256, 1, none⟩ = some (.int .i64 a1_1) := (zAE BK256.out 1).trans rfl
       have hcz47_2 : wc.cell? ⟨gb256, 2, none⟩ = some (.int .i64 a1_2) := (zAE BK256.out 2).trans rfl
       have hcz47_3 : wc.cell? ⟨gb256, 3, none⟩ = some (.int .i64 a1_3) := (zAE BK256.out 3).trans rfl
       have hcz47_4 : wc.cell? ⟨gb256, 4, none⟩ = some (.int .i64 a1_4) := (zAE BK256.out 4).trans rfl
       have hcz47_5 : wc.cell? ⟨gb256, 5, none⟩ = some (.slice A1_5 l1_5.length c1_5) := (zAE BK256.out 5).trans rfl
       have hfz47_0 := zAB BK256.out 0
       have hfz47_1 := zAB BK256.out 1
       have hfz47_2 := zAB BK256.out 2
       have hfz47_3 := zAB BK256.out 3
       have hfz47_4 := zAB BK256.out 4
       have hfz47_5 := zAB BK256.out 5
       go_wp2_with (first | (go_at_call 45; (with_reducible refine (swageref14_Uses.calls kj4 a1_0 a1_1 a1_2 a1_3 a1_4 _ _ l1_5 t269 _ ?side1 ?side2 A43.out).mono ?_); (case side1 => repeat (first | exact (Kd.C_below HR1_5.out HB.out) | (with_reducible refine Kd.C_alloc ?_ _) | (with_reducible refine Kd.C_drewN ?_ _) | (with_reducible refine Kd.C_drew ?_))); (case side2 => exact HC1_5.out); rintro e w48 ⟨v270, rfl, ho0, hb⟩; have n0_ := Aside0.mk (Kd.R_lower ho0 (zAM (by repeat (first | (with_reducible first | exact HB.out | apply zAC | apply zAA | apply zAD | refine zAH ?_ GE255.out | refine zAH ?_ GE256.out) | exact HB.out)))); have n1_ := Aside0.mk (zAP (g := gb255) (o := .cells #[.int .i64 a0_0, .int .i64 a0_1, .int .i64 a0_2, .int .i64 a0_3, .int .i64 a0_4, .slice A0_5 l0_5.length c0_5] 37 (0, 0)) (by (with_reducible repeat (first | refine zAI ?_ _ | refine zAJ ?_ | refine zAG ?_ _)); exact BK255.out) hb); have n2_ := Aside0.mk (zAP (g := gb256) (o := .cells #[.int .i64 a1_0, .int .i64 a1_1, .int .i64 a1_2, .int .i64 a1_3, .int .i64 a1_4, .slice A1_5 l1_5.length c1_5] 37 (0, 0)) (by (with_reducible repeat (first | refine zAI ?_ _ | refine zAJ ?_ | refine zAG ?_ _)); exact BK256.out) hb); have n3_ := Aside0.mk (zAL (by repeat (first | (with_reducible first | exact HB.out | apply zAC | apply zAA | apply zAD | refine zAH ?_ GE255.out | refine zAH ?_ GE256.out) | exact HB.out)) hb); clear BK255; clear BK256; clear HB; have HO271 := n0_; have BK255 := n1_; have BK256 := n2_; have HB := n3_; clear n0_ n1_ n2_ n3_; (try clear hb); (try clear hb2); (try clear hk); (try clear hi); (try clear ho0); obtain ⟨Ao49, co49, eo49⟩ := Kd.R_slice HO271.out; subst eo49) | (go_at_call 44; (with_reducible refine (swageref27_has.calls kj4 _ _ t269 t257 true _ ?side1 ?side2 A44.out).mono ?_); (case side1 => repeat (first | exact (Kd.R_reads' HO271.out).2.2 | (with_reducible refine Kd.C_alloc ?_ _) | (with_reducible refine Kd.C_drewN ?_ _) | (with_reducible refine Kd.C_drew ?_))); (case side2 => exact (Kd.R_reads' HO271.out).2.1); rintro e w' ⟨rfl, ⟨nd, rfl⟩⟩))
       go_ret
       exact ⟨by first | rfl | (simp [zAO, zAN] <;> rfl) | (simp [*, zAO, zAN] <;> rfl), by repeat (first | (with_reducible first | exact HB.out | apply zAC | apply zAA | apply zAD | refine zAH ?_ GE255.out | refine zAH ?_ GE256.out) | exact HB.out)⟩
      ·replace c45 := Bool.eq_false_iff.mpr c45
       subst c45
       have H1 : ((swageref14_Uses.f kj4 a0_0 a0_1 a0_2 a0_3 a0_4 l0_5).bind fun t273 => ((swageref27_has.f kj4 t273 t258).bind fun t276 => (some t276))) = some r := by rw [if_neg (show ¬ (false = true) by decide)] at H; exact H
       clear H
       have H := H1
       clear H1
       replace H := Option.bind_eq_some_iff.mp H
       obtain ⟨t273, A500, H⟩ := H
       replace H : ((swageref27_has.f kj4 t273 t258).bind fun t276 => (some t276)) = some r := H
       have A50 := Aside0.mk A500
       clear A500
       replace H := Option.bind_eq_some_iff.mp H
       obtain ⟨t276, A510, H⟩ := H
       replace H : (some t276) = some r := H
       have A51 := Aside0.mk A510
       clear A510
       obtain rfl := Option.some.inj H
       have hnb52 := NB256_255.out
       have hnc52 := NB255_256.out
       have hcz53_0 : wc.cell? ⟨gb256, 0, none⟩ = some (.int .i64 a1_0) := (zAE BK256.out 0).trans rfl
       have hcz53_1 : wc.cell? ⟨gb256, 1, none⟩ = some (.int .i64 a1_1) := (zAE BK256.out 1).trans rfl
       have hcz53_2 : wc.cell? ⟨gb256, 2, none⟩ = some (.int .i64 a1_2) := (zAE BK256.out 2).trans rfl
       have hcz53_3 : wc.cell? ⟨gb256, 3, none⟩ = some (.int .i64 a1_3) := (zAE BK256.out 3).trans rfl
       have hcz53_4 : wc.cell? ⟨gb256, 4, none⟩ = some (.int .i64 a1_4) := (zAE BK256.out 4).trans rfl
       have hcz53_5 : wc.cell? ⟨gb256, 5, none⟩ = some (.slice A1_5 l1_5.length c1_5) := (zAE BK256.out 5).trans rfl
       have hfz53_0 := zAB BK256.out 0
       have hfz53_1 := zAB BK256.out 1
       have hfz53_2 := zAB BK256.out 2
       have hfz53_3 := zAB BK256.out 3
       have hfz53_4 := zAB BK256.out 4
       have hfz53_5 := zAB BK256.out 5
       go_wp2_with (first | (go_at_call 45; (with_reducible refine (swageref14_Uses.calls kj4 a1_0 a1_1 a1_2 a1_3 a1_4 _ _ l1_5 t269 _ ?side1 ?side2 A43.out).mono ?_); (case side1 => repeat (first | exact (Kd.C_below HR1_5.out HB.out) | (with_reducible refine Kd.C_alloc ?_ _) | (with_reducible refine Kd.C_drewN ?_ _) | (with_reducible refine Kd.C_drew ?_))); (case side2 => exact HC1_5.out); rintro e w54 ⟨v270, rfl, ho0, hb⟩; have n0_ := Aside0.mk (Kd.R_lower ho0 (zAM (by repeat (first | (with_reducible first | exact HB.out | apply zAC | apply zAA | apply zAD | refine zAH ?_ GE255.out | refine zAH ?_ GE256.out) | exact HB.out)))); have n1_ := Aside0.mk (zAP (g := gb255) (o := .cells #[.int .i64 a0_0, .int .i64 a0_1, .int .i64 a0_2, .int .i64 a0_3, .int .i64 a0_4, .slice A0_5 l0_5.length c0_5] 37 (0, 0)) (by (with_reducible repeat (first | refine zAI ?_ _ | refine zAJ ?_ | refine zAG ?_ _)); exact BK255.out) hb); have n2_ := Aside0.mk (zAP (g := gb256) (o := .cells #[.int .i64 a1_0, .int .i64 a1_1, .int .i64 a1_2, .int .i64 a1_3, .int .i64 a1_4, .slice A1_5 l1_5.length c1_5] 37 (0, 0)) (by (with_reducible repeat (first | refine zAI ?_ _ | refine zAJ ?_ | refine zAG ?_ _)); exact BK256.out) hb); have n3_ := Aside0.mk (zAL (by repeat (first | (with_reducible first | exact HB.out | apply zAC | apply zAA | apply zAD | refine zAH ?_ GE255.out | refine zAH ?_ GE256.out) | exact HB.out)) hb); clear BK255; clear BK256; clear HB; have HO271 := n0_; have BK255 := n1_; have BK256 := n2_; have HB := n3_; clear n0_ n1_ n2_ n3_; (try clear hb); (try clear hb2); (try clear hk); (try clear hi); (try clear ho0); obtain ⟨Ao55, co55, eo55⟩ := Kd.R_slice HO271.out; subst eo55) | (go_at_call 44; (with_reducible refine (swageref27_has.calls kj4 _ _ t269 t257 false _ ?side1 ?side2 A44.out).mono ?_); (case side1 => repeat (first | exact (Kd.R_reads' HO271.out).2.2 | (with_reducible refine Kd.C_alloc ?_ _) | (with_reducible refine Kd.C_drewN ?_ _) | (with_reducible refine Kd.C_drew ?_))); (case side2 => exact (Kd.R_reads' HO271.out).2.1); rintro e w' ⟨rfl, ⟨nd, rfl⟩⟩; have hcz56_0 : w54.cell? ⟨gb255, 0, none⟩ = some (.int .i64 a0_0) := (zAE BK255.out 0).trans rfl; have hcz56_1 : w54.cell? ⟨gb255, 1, none⟩ = some (.int .i64 a0_1) := (zAE BK255.out 1).trans rfl; have hcz56_2 : w54.cell? ⟨gb255, 2, none⟩ = some (.int .i64 a0_2) := (zAE BK255.out 2).trans rfl; have hcz56_3 : w54.cell? ⟨gb255, 3, none⟩ = some (.int .i64 a0_3) := (zAE BK255.out 3).trans rfl; have hcz56_4 : w54.cell? ⟨gb255, 4, none⟩ = some (.int .i64 a0_4) := (zAE BK255.out 4).trans rfl; have hcz56_5 : w54.cell? ⟨gb255, 5, none⟩ = some (.slice A0_5 l0_5.length c0_5) := (zAE BK255.out 5).trans rfl; have hfz56_0 := zAB BK255.out 0; have hfz56_1 := zAB BK255.out 1; have hfz56_2 := zAB BK255.out 2; have hfz56_3 := zAB BK255.out 3; have hfz56_4 := zAB BK255.out 4; have hfz56_5 := zAB BK255.out 5) | (go_at_call 45; (with_reducible refine (swageref14_Uses.calls kj4 a0_0 a0_1 a0_2 a0_3 a0_4 _ _ l0_5 t273 _ ?side1 ?side2 A50.out).mono ?_); (case side1 => repeat (first | exact (Kd.C_below HR0_5.out (by repeat (first | (with_reducible first | exact HB.out | apply zAC | apply zAA | apply zAD | refine zAH ?_ GE255.out | refine zAH ?_ GE256.out) | exact HB.out))) | (with_reducible refine Kd.C_alloc ?_ _) | (with_reducible refine Kd.C_drewN ?_ _) | (with_reducible refine Kd.C_drew ?_))); (case side2 => exact HC0_5.out); rintro e w57 ⟨v274, rfl, ho0, hb⟩; have n0_ := Aside0.mk (Kd.R_elder' (by (with_reducible repeat (first | apply Kd.R_alloc | apply Kd.R_drewN | apply Kd.R_drew)); exact HO271.out) (Kd.R_base ho0) hb); have n1_ := Aside0.mk (Kd.R_lower (Kd.R_new' ho0 (Kd.R_lt (by (with_reducible repeat (first | apply Kd.R_alloc | apply Kd.R_drewN | apply Kd.R_drew)); exact HO271.out))) (zAM (by repeat (first | (with_reducible first | exact HB.out | apply zAC | apply zAA | apply zAD | refine zAH ?_ GE255.out | refine zAH ?_ GE256.out) | exact HB.out)))); have n2_ := Aside0.mk (zAP (g := gb255) (o := .cells #[.int .i64 a0_0, .int .i64 a0_1, .int .i64 a0_2, .int .i64 a0_3, .int .i64 a0_4, .slice A0_5 l0_5.length c0_5] 37 (0, 0)) (by (with_reducible repeat (first | refine zAI ?_ _ | refine zAJ ?_ | refine zAG ?_ _)); exact BK255.out) hb); have n3_ := Aside0.mk (zAP (g := gb256) (o := .cells #[.int .i64 a1_0, .int .i64 a1_1, .int .i64 a1_2, .int .i64 a1_3, .int .i64 a1_4, .slice A1_5 l1_5.length c1_5] 37 (0, 0)) (by (with_reducible repeat (first | refine zAI ?_ _ | refine zAJ ?_ | refine zAG ?_ _)); exact BK256.out) hb); have n4_ := Aside0.mk (zAL (by repeat (first | (with_reducible first | exact HB.out | apply zAC | apply zAA | apply zAD | refine zAH ?_ GE255.out | refine zAH ?_ GE256.out) | exact HB.out)) hb); clear HO271; clear BK255; clear BK256; clear HB; have HO271 := n0_; have HO275 := n1_; have BK255 := n2_; have BK256 := n3_; have HB := n4_; clear n0_ n1_ n2_ n3_ n4_; (try clear hb); (try clear hb2); (try clear hk); (try clear hi); (try clear ho0); obtain ⟨Ao58, co58, eo58⟩ := Kd.R_slice HO275.out; subst eo58) | (go_at_call 44; (with_reducible refine (swageref27_has.calls kj4 _ _ t273 t258 t276 _ ?side1 ?side2 A51.out).mono ?_); (case side1 => repeat (first | exact (Kd.R_reads' HO275.out).2.2 | (with_reducible refine Kd.C_alloc ?_ _) | (with_reducible refine Kd.C_drewN ?_ _) | (with_reducible refine Kd.C_drew ?_))); (case side2 => exact (Kd.R_reads' HO275.out).2.1); rintro e w' ⟨rfl, ⟨nd, rfl⟩⟩))
       go_ret
       exact ⟨by first | rfl | (simp [zAO, zAN] <;> rfl) | (simp [*, zAO, zAN] <;> rfl), by repeat (first | (with_reducible first | exact HB.out | apply zAC | apply zAA | apply zAD | refine zAH ?_ GE255.out | refine zAH ?_ GE256.out) | exact HB.out)⟩
   ·replace c24 := Bool.eq_false_iff.mpr c24
    subst c24
    have H1 : (some true) = some r := by rw [if_neg (show ¬ (false = true) by decide)] at H; exact H
    clear H
    have H := H1
    clear H1
    obtain rfl := Option.some.inj H
    go_wp2
    go_ret
    exact ⟨by first | rfl | (simp [zAO, zAN] <;> rfl) | (simp [*, zAO, zAN] <;> rfl), by repeat (first | (with_reducible first | exact HB.out | apply zAC | apply zAA | apply zAD | refine zAH ?_ GE255.out | refine zAH ?_ GE256.out) | exact HB.out)⟩
end Go.Proofs.Ytphmlkbmnmicpaa.A
