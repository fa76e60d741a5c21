/- Parts of the proof, in the order in which they rest on one another. -/
import Derived.Test.YtphmlkbmnmicpaaMTells5
import Derived.Below
import Derived.Deep.Draws
import Derived.Deep.AppendLies
import Derived.Maps.AppendAt
import Derived.OwnWalk
import Derived.Laws.BytesArg
import Derived.Laws.MakeOwn
import Derived.Laws.OwnMore
import Derived.Deep.OwnRows
import Derived.Tactics
import Derived.Lib.ConvBytes
import Derived.Laws.Slices
import Derived.WalkKit
import Derived.KernelRfl
import Derived.RowKit3
import Derived.Deep.LoopGhost
import Derived.Deep.QuietTactic
import Derived.BigQuiet
import Derived.WideLaws
import Derived.Deep.DeepCutAuto
import Derived.Deep.CutBlock
import Derived.Deep.RegionHeld3
import Derived.Laws.Rows
import Derived.Lib.AppendStr
import Derived.ArgAppend
import Derived.Laws.IdiomCopy
import Derived.RowKit
import Derived.OrdersHeld
import Derived.Laws.BitsLemmas
import Derived.Laws.StructEq
import Derived.Test.YtphmlkbmnmicpaaProg
import Derived.Shelf.Abstract
import Derived.Lib.Walk
import Derived.RangeFuncBox
import Derived.RangeFuncLeaves
import Derived.RangeFuncNested
import Derived.RangeFuncBound
import Derived.OwnWalkIn
import Derived.TacticsInMore
import Derived.LoopNIn
import Derived.LoopIn
import Derived.Outline
import Derived.Lib.QuietBelowIn
import Derived.OrdersIn
import Derived.StillTail
import Derived.Lib.SliceRun
import Derived.Deep.Slices
set_option linter.unusedVariables false
set_option linter.unusedSimpArgs false
namespace Go.Proofs.Ytphmlkbmnmicpaa.A
open Go.RowKit Go.Proofs.YtphmlkbmnmicpaaW.PrintWords Go.Proofs.YtphmlkbmnmicpaaW.PrintLast Go.Proofs.YtphmlkbmnmicpaaW.PrintMore
attribute [local go_sem] max2_int zBH max_two zBL zBB zBA zBI zBG   -- for this text's walks alone
mutual
def swageref27_Order.l0 : Nat → List (List Int) → List Int → List Int → Option (List Int)
 | 0, _, _, _ => none
 | k + 1, x3, x4, x5 => if (x5.length : Int) < (x3.length : Int) then (swageref27_Order.l1 k x3 x4 x5 (-1) 0) else (some x5)
def swageref27_Order.l1 : Nat → List (List Int) → List Int → List Int → Int → Int → Option (List Int)
 | 0, _, _, _, _, _ => none
 | k + 1, x3, x4, x5, x6, x7 => if x7 < (x3.length : Int) then ((swageref27_in.f k x5 x7).bind fun t312 => (swageref27_Order.l2 k x3 x4 x5 x6 x7 (!t312) 0)) else (if x5.length < 17592186044416 then (swageref27_Order.l0 k x3 x4 (x5 ++ [x6])) else (none))
def swageref27_Order.l2 : Nat → List (List Int) → List Int → List Int → Int → Int → Bool → Int → Option (List Int)
 | 0, _, _, _, _, _, _, _ => none
 | k + 1, x3, x4, x5, x6, x7, x8, x9 => if 0 ≤ x7 then (if x7 < (x3.length : Int) then (if x9 < ((rd_L1 x3 x7).length : Int) then (if x8 = true then (if 0 ≤ x9 then ((swageref27_in.f k x5 (rd (rd_L1 x3 x7) x9)).bind fun t316 => (swageref27_Order.l2 k x3 x4 x5 x6 x7 t316 (wrap64 (x9 + 1)))) else (none)) else (swageref27_Order.l2 k x3 x4 x5 x6 x7 false (wrap64 (x9 + 1)))) else (if x8 = true then (if x6 < 0 then (swageref27_Order.l1 k x3 x4 x5 x7 (wrap64 (x7 + 1))) else (if x7 < (x4.length : Int) then (if 0 ≤ x6 then (if x6 < (x4.length : Int) then (if (rd x4 x7) > (rd x4 x6) then (swageref27_Order.l1 k x3 x4 x5 x7 (wrap64 (x7 + 1))) else (swageref27_Order.l1 k x3 x4 x5 x6 (wrap64 (x7 + 1)))) else (none)) else (none)) else (none))) else (swageref27_Order.l1 k x3 x4 x5 x6 (wrap64 (x7 + 1))))) else (none)) else (none)
end
def swageref27_Order.f (k : Nat) (l0 : List (S37)) : Option (List Int) := (swageref27_Deps.f k l0).bind fun t303 => ((swageref27_Heights.f k l0).bind fun t306 => (swageref27_Order.l0 k t303 t306 ([] : List Int)))
set_option maxHeartbeats 8000000 in
set_option maxRecDepth 100000 in
theorem swageref27_Order.calls (k : Nat) (A0 : Option Addr) (c0 : Nat) (l0 : List (S37)) (r : List Int) (w : World) (hr0 : Kd.C k37 w A0 l0.length l0) (hc0 : l0.length ≤ c0) (h : swageref27_Order.f k l0 = some r) :
  Calls Try.prog 23 #[.slice A0 l0.length c0] w fun e w' => ∃ v0_ : Value, e = .returned (v0_) ∧ Kd.R (Kd.int .i64) 3 w' w.heap.size (fun _ => True) v0_ r ∧ Below w.heap.size w w' := by
 have HR0 := Aside0.mk hr0
 have HC0 := Aside0.mk hc0
 clear hr0 hc0
 have HB := Aside0.mk (Below.refl w.heap.size w)
 have H : ((swageref27_Deps.f k l0).bind fun t303 => ((swageref27_Heights.f k l0).bind fun t306 => (swageref27_Order.l0 k t303 t306 ([] : List Int)))) = some r := h
 clear h
 replace H := Option.bind_eq_some_iff.mp H
 obtain ⟨t303, A20, H⟩ := H
 replace H : ((swageref27_Heights.f k l0).bind fun t306 => (swageref27_Order.l0 k t303 t306 ([] : List Int))) = some r := H
 have A2 := Aside0.mk A20
 clear A20
 replace H := Option.bind_eq_some_iff.mp H
 obtain ⟨t306, A30, H⟩ := H
 replace H : (swageref27_Order.l0 k t303 t306 ([] : List Int)) = some r := H
 have A3 := Aside0.mk A30
 clear A30
 have H' := Aside0.mk H
 clear H
 go_enter Try.func23, Try.ntmps23
 go_wp2_with (first | (go_at_call 18; (with_reducible refine (swageref27_Deps.calls k _ _ l0 t303 _ ?side1 ?side2 A2.out).mono ?_); (case side1 => repeat (first | exact HR0.out | (with_reducible refine Kd.C_alloc ?_ _) | (with_reducible refine Kd.C_drewN ?_ _) | (with_reducible refine Kd.C_drew ?_))); (case side2 => exact HC0.out); rintro e w4 ⟨v304, rfl, ho0, hb⟩; have n0_ := Aside0.mk (Kd.S_lower ho0 (zAM (by repeat (first | (with_reducible first | exact HB.out | apply zAC | apply zAA | apply zAD) | exact HB.out)))); have n1_ := Aside0.mk (zAL (by repeat (first | (with_reducible first | exact HB.out | apply zAC | apply zAA | apply zAD) | exact HB.out)) hb); clear HB; have HO305 := n0_; have HB := n1_; clear n0_ n1_; (try clear hb); (try clear hb2); (try clear hk); (try clear hi); (try clear ho0)) | (go_at_call 21; (with_reducible refine (swageref27_Heights.calls k _ _ l0 t306 _ ?side1 ?side2 A3.out).mono ?_); (case side1 => repeat (first | exact (Kd.C_below HR0.out HB.out) | (with_reducible refine Kd.C_alloc ?_ _) | (with_reducible refine Kd.C_drewN ?_ _) | (with_reducible refine Kd.C_drew ?_))); (case side2 => exact HC0.out); rintro e w5 ⟨v307, rfl, ho0, hb⟩; have n0_ := Aside0.mk (Kd.S_elder' (by (with_reducible repeat (first | apply Kd.S_alloc | apply Kd.S_drewN | apply Kd.S_drew)); exact HO305.out) (Kd.R_base ho0) hb); have n1_ := Aside0.mk (Kd.R_lower ho0 (zAM (by repeat (first | (with_reducible first | exact HB.out | apply zAC | apply zAA | apply zAD) | exact HB.out)))); have n2_ := Aside0.mk (zAL (by repeat (first | (with_reducible first | exact HB.out | apply zAC | apply zAA | apply zAD) | exact HB.out)) hb); clear HO305; clear HB; have HO305 := n0_; have HO308 := n1_; have HB := n2_; clear n0_ n1_ n2_; (try clear hb); (try clear hb2); (try clear hk); (try clear hi); (try clear ho0)))
 repeat (go_quiet (first | (go_at_call 18; (with_reducible refine (swageref27_Deps.calls k _ _ l0 t303 _ ?side1 ?side2 A2.out).mono ?_); (case side1 => repeat (first | exact HR0.out | (with_reducible refine Kd.C_alloc ?_ _) | (with_reducible refine Kd.C_drewN ?_ _) | (with_reducible refine Kd.C_drew ?_))); (case side2 => exact HC0.out); rintro e w4 ⟨v304, rfl, ho0, hb⟩; have n0_ := Aside0.mk (Kd.S_lower ho0 (zAM (by repeat (first | (with_reducible first | exact HB.out | apply zAC | apply zAA | apply zAD) | exact HB.out)))); have n1_ := Aside0.mk (zAL (by repeat (first | (with_reducible first | exact HB.out | apply zAC | apply zAA | apply zAD) | exact HB.out)) hb); clear HB; have HO305 := n0_; have HB := n1_; clear n0_ n1_; (try clear hb); (try clear hb2); (try clear hk); (try clear hi); (try clear ho0)) | (go_at_call 21; (with_reducible refine (swageref27_Heights.calls k _ _ l0 t306 _ ?side1 ?side2 A3.out).mono ?_); (case side1 => repeat (first | exact (Kd.C_below HR0.out HB.out) | (with_reducible refine Kd.C_alloc ?_ _) | (with_reducible refine Kd.C_drewN ?_ _) | (with_reducible refine Kd.C_drew ?_))); (case side2 => exact HC0.out); rintro e w5 ⟨v307, rfl, ho0, hb⟩; have n0_ := Aside0.mk (Kd.S_elder' (by (with_reducible repeat (first | apply Kd.S_alloc | apply Kd.S_drewN | apply Kd.S_drew)); exact HO305.out) (Kd.R_base ho0) hb); have n1_ := Aside0.mk (Kd.R_lower ho0 (zAM (by repeat (first | (with_reducible first | exact HB.out | apply zAC | apply zAA | apply zAD) | exact HB.out)))); have n2_ := Aside0.mk (zAL (by repeat (first | (with_reducible first | exact HB.out | apply zAC | apply zAA | apply zAD) | exact HB.out)) hb); clear HO305; clear HB; have HO305 := n0_; have HO308 := n1_; have HB := n2_; clear n0_ n1_ n2_; (try clear hb); (try clear hb2); (try clear hk); (try clear hi); (try clear ho0))); try go_wp2_with (first | (go_at_call 18; (with_reducible refine (swageref27_Deps.calls k _ _ l0 t303 _ ?side1 ?side2 A2.out).mono ?_); (case side1 => repeat (first | exact HR0.out | (with_reducible refine Kd.C_alloc ?_ _) | (with_reducible refine Kd.C_drewN ?_ _) | (with_reducible refine Kd.C_drew ?_))); (case side2 => exact HC0.out); rintro e w4 ⟨v304, rfl, ho0, hb⟩; have n0_ := Aside0.mk (Kd.S_lower ho0 (zAM (by repeat (first | (with_reducible first | exact HB.out | apply zAC | apply zAA | apply zAD) | exact HB.out)))); have n1_ := Aside0.mk (zAL (by repeat (first | (with_reducible first | exact HB.out | apply zAC | apply zAA | apply zAD) | exact HB.out)) hb); clear HB; have HO305 := n0_; have HB := n1_; clear n0_ n1_; (try clear hb); (try clear hb2); (try clear hk); (try clear hi); (try clear ho0)) | (go_at_call 21; (with_reducible refine (swageref27_Heights.calls k _ _ l0 t306 _ ?side1 ?side2 A3.out).mono ?_); (case side1 => repeat (first | exact (Kd.C_below HR0.out HB.out) | (with_reducible refine Kd.C_alloc ?_ _) | (with_reducible refine Kd.C_drewN ?_ _) | (with_reducible refine Kd.C_drew ?_))); (case side2 => exact HC0.out); rintro e w5 ⟨v307, rfl, ho0, hb⟩; have n0_ := Aside0.mk (Kd.S_elder' (by (with_reducible repeat (first | apply Kd.S_alloc | apply Kd.S_drewN | apply Kd.S_drew)); exact HO305.out) (Kd.R_base ho0) hb); have n1_ := Aside0.mk (Kd.R_lower ho0 (zAM (by repeat (first | (with_reducible first | exact HB.out | apply zAC | apply zAA | apply zAD) | exact HB.out)))); have n2_ := Aside0.mk (zAL (by repeat (first | (with_reducible first | exact HB.out | apply zAC | apply zAA | apply zAD) | exact HB.out)) hb); clear HO305; clear HB; have HO305 := n0_; have HO308 := n1_; have HB := n2_; clear n0_ n1_ n2_; (try clear hb); (try clear hb2); (try clear hk); (try clear hi); (try clear ho0))))
 go_loopg [5] k (fun kq v5 w' => ∃ (x5_1 : List Int), Aside0 (swageref27_Order.l0 kq t303 t306 x5_1 = some r) ∧ Aside0 (kq ≤ k) ∧ Aside0 (Kd.S (Kd.slice 3 (Kd.int .i64)) 23 w' w.heap.size (fun k_ => some k_ ≠ (v307 : Value).ownBlock ∧ some k_ ≠ (v5 : Value).ownBlock) v304 t303) ∧ Aside0 (Kd.R (Kd.int .i64) 3 w' w.heap.size (fun k_ => some k_ ≠ (v5 : Value).ownBlock) v307 t306) ∧ Aside0 (Kd.R (Kd.int .i64) 3 w' w.heap.size (fun k_ => some k_ ≠ (v307 : Value).ownBlock) v5 x5_1) ∧ Aside0 (Below w.heap.size w w'))
 case atStart => exact ⟨(([] : List Int)), H', ⟨Nat.le_refl _⟩, ⟨by (with_reducible repeat (first | apply Kd.S_alloc | apply Kd.S_drewN | apply Kd.S_drew)); exact Kd.S_mono HO305.out (fun _ hk => ⟨hk.2, (by simp [Value.ownBlock])⟩)⟩, ⟨by (with_reducible repeat (first | apply Kd.R_alloc | apply Kd.R_drewN | apply Kd.R_drew)); exact Kd.R_mono HO308.out (fun _ hk => (by simp [Value.ownBlock]))⟩, ⟨by first | exact Kd.R_nil _ _ _ _ _ | exact Kd.N_nil _ _ _ _ _ | exact Kd.V_nil _ _ _ _ _ | exact Kd.Q_nil _ _ _ _ _ | exact Kd.S_nil _ _ _ _ _⟩, ⟨by repeat (first | (with_reducible first | exact HB.out | apply zAC | apply zAA | apply zAD) | exact HB.out)⟩⟩
 case round =>
  clear H'
  (try clear c2); (try clear p2)
  obtain ⟨x5_1, HA, HK1, HO_3, HO_4, HO_5, HB⟩ := hrel
  cases gk with
  | zero => exact absurd HA.out (by simp [swageref27_Order.l0])
  | succ k1 =>
   have H := HA.out
   clear HA
   simp only [swageref27_Order.l0] at H
   by_cases c6 : (x5_1.length : Int) < (t303.length : Int)
   ·rw [if_pos c6] at H
    have c6b0 : decide ((x5_1.length : Int) < (t303.length : Int)) = true := decide_eq_true c6
    have c6b1 : decide (x5_1.length < t303.length) = true := decide_eq_true (Int.ofNat_lt.mp c6)
    clear c6
    have H' := Aside0.mk H
    clear H
    obtain ⟨Ao7, co7, eo7⟩ := Kd.R_slice HO_5.out
    subst eo7
    obtain ⟨Ao8, co8, eo8⟩ := Kd.S_slice HO_3.out
    subst eo8
    go_wp2
    repeat (go_quiet (fail); try go_wp2)
    go_loopg [6, 7] k1 (fun kq v6 v7 w' => ∃ (x6_2 : Int) (x7_2 : Int), v6 = .int .i64 x6_2 ∧ v7 = .int .i64 x7_2 ∧ Aside0 (swageref27_Order.l1 kq t303 t306 x5_1 x6_2 x7_2 = some r) ∧ Aside0 (kq ≤ k1) ∧ Aside0 (Kd.S (Kd.slice 3 (Kd.int .i64)) 23 w' w.heap.size (fun k_ => some k_ ≠ (v307 : Value).ownBlock ∧ some k_ ≠ ((.slice Ao7 x5_1.length co7) : Value).ownBlock) (.slice Ao8 t303.length co8) t303) ∧ Aside0 (Kd.R (Kd.int .i64) 3 w' w.heap.size (fun k_ => some k_ ≠ ((.slice Ao7 x5_1.length co7) : Value).ownBlock) v307 t306) ∧ Aside0 (Kd.R (Kd.int .i64) 3 w' w.heap.size (fun k_ => some k_ ≠ (v307 : Value).ownBlock) (.slice Ao7 x5_1.length co7) x5_1) ∧ Aside0 (Below w.heap.size w w'))
    case atStart => exact ⟨((-1)), (0), (by first | rfl | (simp; done) | (simp [*]; done)), (by first | rfl | (simp; done) | (simp [*]; done)), H', ⟨Nat.le_refl _⟩, ⟨by (with_reducible repeat (first | apply Kd.S_alloc | apply Kd.S_drewN | apply Kd.S_drew)); exact HO_3.out⟩, ⟨by (with_reducible repeat (first | apply Kd.R_alloc | apply Kd.R_drewN | apply Kd.R_drew)); exact HO_4.out⟩, ⟨by (with_reducible repeat (first | apply Kd.R_alloc | apply Kd.R_drewN | apply Kd.R_drew)); exact HO_5.out⟩, ⟨by repeat (first | (with_reducible first | exact HB.out | apply zAC | apply zAA | apply zAD) | exact HB.out)⟩⟩
    case round =>
     clear H'
     (try clear c2); (try clear p2); (try clear c6); (try clear c6b0); (try clear c6b1); (try clear p2)
     obtain ⟨x6_2, x7_2, rfl, rfl, HA, HK2, HO_3, HO_4, HO_5, HB⟩ := hrel
     cases gk with
     | zero => exact absurd HA.out (by simp [swageref27_Order.l1])
     | succ k2 =>
      have H := HA.out
      clear HA
      simp only [swageref27_Order.l1] at H
      by_cases c9 : x7_2 < (t303.length : Int)
      ·rw [if_pos c9] at H
       have c9b0 : decide (x7_2 < (t303.length : Int)) = true := decide_eq_true c9
       clear c9
       replace H := Option.bind_eq_some_iff.mp H
       obtain ⟨t312, A100, H⟩ := H
       replace H : (swageref27_Order.l2 k2 t303 t306 x5_1 x6_2 x7_2 (!t312) 0) = some r := H
       have A10 := Aside0.mk A100
       clear A100
       have H' := Aside0.mk H
       clear H
       go_wp2_with (first | (go_at_call 35; (with_reducible refine (swageref27_in.calls k2 _ _ x5_1 x7_2 t312 _ ?side1 ?side2 A10.out).mono ?_); (case side1 => repeat (first | exact (Kd.R_reads' HO_5.out).2.2 | (with_reducible refine Kd.C_alloc ?_ _) | (with_reducible refine Kd.C_drewN ?_ _) | (with_reducible refine Kd.C_drew ?_))); (case side2 => exact (Kd.R_reads' HO_5.out).2.1); rintro e w' ⟨rfl, ⟨nd, rfl⟩⟩; (try first | exact ⟨rfl, _, World.drewN_drewN _ _ _⟩ | exact ⟨rfl, _, Eq.trans (World.drewN_drewN _ _ _) (congrArg (World.drewN _) (Nat.add_assoc _ _ _))⟩)))
       repeat (go_quiet (first | (go_at_call 35; (with_reducible refine (swageref27_in.calls k2 _ _ x5_1 x7_2 t312 _ ?side1 ?side2 A10.out).mono ?_); (case side1 => repeat (first | exact (Kd.R_reads' HO_5.out).2.2 | (with_reducible refine Kd.C_alloc ?_ _) | (with_reducible refine Kd.C_drewN ?_ _) | (with_reducible refine Kd.C_drew ?_))); (case side2 => exact (Kd.R_reads' HO_5.out).2.1); rintro e w' ⟨rfl, ⟨nd, rfl⟩⟩; (try first | exact ⟨rfl, _, World.drewN_drewN _ _ _⟩ | exact ⟨rfl, _, Eq.trans (World.drewN_drewN _ _ _) (congrArg (World.drewN _) (Nat.add_assoc _ _ _))⟩))); try go_wp2_with (first | (go_at_call 35; (with_reducible refine (swageref27_in.calls k2 _ _ x5_1 x7_2 t312 _ ?side1 ?side2 A10.out).mono ?_); (case side1 => repeat (first | exact (Kd.R_reads' HO_5.out).2.2 | (with_reducible refine Kd.C_alloc ?_ _) | (with_reducible refine Kd.C_drewN ?_ _) | (with_reducible refine Kd.C_drew ?_))); (case side2 => exact (Kd.R_reads' HO_5.out).2.1); rintro e w' ⟨rfl, ⟨nd, rfl⟩⟩; (try first | exact ⟨rfl, _, World.drewN_drewN _ _ _⟩ | exact ⟨rfl, _, Eq.trans (World.drewN_drewN _ _ _) (congrArg (World.drewN _) (Nat.add_assoc _ _ _))⟩))))
       go_loopg [8, 9] k2 (fun kq v8 v9 w' => ∃ (x8_3 : Bool) (x9_3 : Int), v8 = .bool x8_3 ∧ v9 = .int .i64 x9_3 ∧ Aside0 (swageref27_Order.l2 kq t303 t306 x5_1 x6_2 x7_2 x8_3 x9_3 = some r) ∧ Aside0 (kq ≤ k2) ∧ Aside0 (Kd.S (Kd.slice 3 (Kd.int .i64)) 23 w' w.heap.size (fun k_ => some k_ ≠ (v307 : Value).ownBlock ∧ some k_ ≠ ((.slice Ao7 x5_1.length co7) : Value).ownBlock) (.slice Ao8 t303.length co8) t303) ∧ Aside0 (Kd.R (Kd.int .i64) 3 w' w.heap.size (fun k_ => some k_ ≠ ((.slice Ao7 x5_1.length co7) : Value).ownBlock) v307 t306) ∧ Aside0 (Kd.R (Kd.int .i64) 3 w' w.heap.size (fun k_ => some k_ ≠ (v307 : Value).ownBlock) (.slice Ao7 x5_1.length co7) x5_1) ∧ Aside0 (Below w.heap.size w w'))
       case atStart => exact ⟨(!t312), (0), (by first | rfl | (simp; done) | (simp [*]; done)), (by first | rfl | (simp; done) | (simp [*]; done)), H', ⟨Nat.le_refl _⟩, ⟨by (with_reducible repeat (first | apply Kd.S_alloc | apply Kd.S_drewN | apply Kd.S_drew)); exact HO_3.out⟩, ⟨by (with_reducible repeat (first | apply Kd.R_alloc | apply Kd.R_drewN | apply Kd.R_drew)); exact HO_4.out⟩, ⟨by (with_reducible repeat (first | apply Kd.R_alloc | apply Kd.R_drewN | apply Kd.R_drew)); exact HO_5.out⟩, ⟨by repeat (first | (with_reducible first | exact HB.out | apply zAC | apply zAA | apply zAD) | exact HB.out)⟩⟩
       case round =>
        clear H'
        (try clear c2); (try clear p2); (try clear c6); (try clear c6b0); (try clear c6b1); (try clear c9); (try clear c9b0); (try clear p2)
        obtain ⟨x8_3, x9_3, rfl, rfl, HA, HK3, HO_3, HO_4, HO_5, HB⟩ := hrel
        cases gk with
        | zero => exact absurd HA.out (by simp [swageref27_Order.l2])
        | succ k3 =>
         have H := HA.out
         clear HA
         simp only [swageref27_Order.l2] at H
         by_cases c11 : 0 ≤ x7_2
         ·rw [if_pos c11] at H
          have c11b0 : decide (0 ≤ x7_2) = true := decide_eq_true c11
          clear c11
          by_cases c12 : x7_2 < (t303.length : Int)
          ·rw [if_pos c12] at H
           have c12b0 : decide (x7_2 < (t303.length : Int)) = true := decide_eq_true c12
           clear c12
           by_cases c13 : x9_3 < ((rd_L1 t303 x7_2).length : Int)
           ·rw [if_pos c13] at H
            have c13b0 : decide (x9_3 < ((rd_L1 t303 x7_2).length : Int)) = true := decide_eq_true c13
            clear c13
            by_cases c14 : x8_3 = true
            ·subst c14
             have H1 : (if 0 ≤ x9_3 then ((swageref27_in.f k3 x5_1 (rd (rd_L1 t303 x7_2) x9_3)).bind fun t316 => (swageref27_Order.l2 k3 t303 t306 x5_1 x6_2 x7_2 t316 (wrap64 (x9_3 + 1)))) else (none)) = some r := by rw [if_pos rfl] at H; exact H
             clear H
             have H := H1
             clear H1
             by_cases c15 : 0 ≤ x9_3
             ·rw [if_pos c15] at H
              have c15b0 : decide (0 ≤ x9_3) = true := decide_eq_true c15
              clear c15
              replace H := Option.bind_eq_some_iff.mp H
              obtain ⟨t316, A160, H⟩ := H
              replace H : (swageref27_Order.l2 k3 t303 t306 x5_1 x6_2 x7_2 t316 (wrap64 (x9_3 + 1))) = some r := H
              have A16 := Aside0.mk A160
              clear A160
              have H' := Aside0.mk H
              clear H
              have p313 : 0 ≤ (x7_2 : Int) := of_decide_eq_true (by first | (with_reducible assumption) | assumption)
              have q313 : x7_2 < (t303.length : Int) := of_decide_eq_true (by first | (with_reducible assumption) | assumption)
              obtain ⟨ad313, A313_0, c313_0, e313, hx313_0, hl313_0, hi313_0⟩ := at_L1 (Kd.S_reads' HO_3.out).2.2 x7_2 p313 q313
              cases e313
              obtain ⟨ce313, hce313, hMe313, hcc313⟩ := Kd.S_get HO_3.out [] x7_2 p313 (by first | exact q313 | exact of_decide_eq_true (by first | (with_reducible assumption) | assumption) | (have e_ := (Kd.S_reads' HO_3.out).1; omega))
              obtain ⟨ve313_0, rfl, ge313_0⟩ := hMe313
              have hv313_0 := hcc313 0 _ rfl
              rw [Nat.add_zero, show ((Kd.slice 3 (Kd.int .i64))).sz = 1 from rfl, Nat.mul_one] at hv313_0
              replace hv313_0 := Option.some.inj (hv313_0.symm.trans hx313_0)
              rw [hv313_0] at ge313_0
              have HL313_0 := Aside0.mk (show Kd.R (Kd.int .i64) 3 _ _ _ _ (rd_L1 t303 x7_2) from ge313_0)
              clear hv313_0 ge313_0
              clear hcc313 hce313
              have HR313_0 := Aside0.mk hi313_0
              have HC313_0 := Aside0.mk hl313_0
              clear hi313_0 hl313_0
              replace p313 := eq_true p313
              replace q313 := eq_true q313
              have p314 : 0 ≤ (x7_2 : Int) := of_decide_eq_true (by first | (with_reducible assumption) | assumption)
              have q314 : x7_2 < (t303.length : Int) := of_decide_eq_true (by first | (with_reducible assumption) | assumption)
              obtain ⟨ad314, A314_0, c314_0, e314, hx314_0, hl314_0, hi314_0⟩ := at_L1 (Kd.S_reads' HO_3.out).2.2 x7_2 p314 q314
              obtain rfl : ad313 = ad314 := (by injection e314)
              obtain ⟨ce314, hce314, hMe314, hcc314⟩ := Kd.S_get HO_3.out [] x7_2 p314 (by first | exact q314 | exact of_decide_eq_true (by first | (with_reducible assumption) | assumption) | (have e_ := (Kd.S_reads' HO_3.out).1; omega))
              obtain ⟨ve314_0, rfl, ge314_0⟩ := hMe314
              have hv314_0 := hcc314 0 _ rfl
              rw [Nat.add_zero, show ((Kd.slice 3 (Kd.int .i64))).sz = 1 from rfl, Nat.mul_one] at hv314_0
              replace hv314_0 := Option.some.inj (hv314_0.symm.trans hx314_0)
              rw [hv314_0] at ge314_0
              have HL314_0 := Aside0.mk (show Kd.R (Kd.int .i64) 3 _ _ _ _ (rd_L1 t303 x7_2) from ge314_0)
              clear hv314_0 ge314_0
              clear hcc314 hce314
              have HR314_0 := Aside0.mk hi314_0
              have HC314_0 := Aside0.mk hl314_0
              clear hi314_0 hl314_0
              replace p314 := eq_true p314
              replace q314 := eq_true q314
              have ea_ := Option.some.inj (hx313_0.symm.trans hx314_0)
              injection ea_ with ea_ en_ ec_
              subst ea_
              subst ec_
              clear en_
              have p315 : 0 ≤ (x9_3 : Int) := of_decide_eq_true (by first | (with_reducible assumption) | assumption)
              have q315 : x9_3 < ((rd_L1 t303 x7_2).length : Int) := of_decide_eq_true (by first | (with_reducible assumption) | assumption)
              obtain ⟨ad315, e315, hx315_0⟩ := Kd.at_int (by repeat (first | (with_reducible exact HR314_0.out) | (with_reducible refine Kd.C_alloc ?_ _) | (with_reducible refine Kd.C_drewN ?_ _) | (with_reducible refine Kd.C_drew ?_) | exact HR314_0.out)) x9_3 p315 q315
              cases e315
              replace p315 := eq_true p315
              replace q315 := eq_true q315
              go_wp2_with (first | (go_at_call 35; (with_reducible refine (swageref27_in.calls k3 _ _ x5_1 (rd (rd_L1 t303 x7_2) x9_3) t316 _ ?side1 ?side2 A16.out).mono ?_); (case side1 => repeat (first | exact (Kd.R_reads' HO_5.out).2.2 | (with_reducible refine Kd.C_alloc ?_ _) | (with_reducible refine Kd.C_drewN ?_ _) | (with_reducible refine Kd.C_drew ?_))); (case side2 => exact (Kd.R_reads' HO_5.out).2.1); rintro e w' ⟨rfl, ⟨nd, rfl⟩⟩; (try first | exact ⟨rfl, _, World.drewN_drewN _ _ _⟩ | exact ⟨rfl, _, Eq.trans (World.drewN_drewN _ _ _) (congrArg (World.drewN _) (Nat.add_assoc _ _ _))⟩)))
              repeat (go_quiet (first | (go_at_call 35; (with_reducible refine (swageref27_in.calls k3 _ _ x5_1 (rd (rd_L1 t303 x7_2) x9_3) t316 _ ?side1 ?side2 A16.out).mono ?_); (case side1 => repeat (first | exact (Kd.R_reads' HO_5.out).2.2 | (with_reducible refine Kd.C_alloc ?_ _) | (with_reducible refine Kd.C_drewN ?_ _) | (with_reducible refine Kd.C_drew ?_))); (case side2 => exact (Kd.R_reads' HO_5.out).2.1); rintro e w' ⟨rfl, ⟨nd, rfl⟩⟩; (try first | exact ⟨rfl, _, World.drewN_drewN _ _ _⟩ | exact ⟨rfl, _, Eq.trans (World.drewN_drewN _ _ _) (congrArg (World.drewN _) (Nat.add_assoc _ _ _))⟩))); try go_wp2_with (first | (go_at_call 35; (with_reducible refine (swageref27_in.calls k3 _ _ x5_1 (rd (rd_L1 t303 x7_2) x9_3) t316 _ ?side1 ?side2 A16.out).mono ?_); (case side1 => repeat (first | exact (Kd.R_reads' HO_5.out).2.2 | (with_reducible refine Kd.C_alloc ?_ _) | (with_reducible refine Kd.C_drewN ?_ _) | (with_reducible refine Kd.C_drew ?_))); (case side2 => exact (Kd.R_reads' HO_5.out).2.1); rintro e w' ⟨rfl, ⟨nd, rfl⟩⟩; (try first | exact ⟨rfl, _, World.drewN_drewN _ _ _⟩ | exact ⟨rfl, _, Eq.trans (World.drewN_drewN _ _ _) (congrArg (World.drewN _) (Nat.add_assoc _ _ _))⟩))))
              go_roundg k3
              case measure => have := HK1.out; have := HK2.out; have := HK3.out; omega
              case rel => exact ⟨(t316), (wrap64 (x9_3 + 1)), (by first | rfl | (simp; done) | (simp [*]; done)), (by first | rfl | (simp; done) | (simp [*]; done)), H', ⟨by have := HK1.out; have := HK2.out; have := HK3.out; omega⟩, ⟨by (with_reducible repeat (first | apply Kd.S_alloc | apply Kd.S_drewN | apply Kd.S_drew)); exact HO_3.out⟩, ⟨by (with_reducible repeat (first | apply Kd.R_alloc | apply Kd.R_drewN | apply Kd.R_drew)); exact HO_4.out⟩, ⟨by (with_reducible repeat (first | apply Kd.R_alloc | apply Kd.R_drewN | apply Kd.R_drew)); exact HO_5.out⟩, ⟨by repeat (first | (with_reducible first | exact HB.out | apply zAC | apply zAA | apply zAD) | exact HB.out)⟩⟩
             ·rw [if_neg c15] at H
              exact absurd H (by simp)
            ·replace c14 := Bool.eq_false_iff.mpr c14
             subst c14
             have H1 : (swageref27_Order.l2 k3 t303 t306 x5_1 x6_2 x7_2 false (wrap64 (x9_3 + 1))) = some r := by rw [if_neg (show ¬ (false = true) by decide)] at H; exact H
             clear H
             have H := H1
             clear H1
             have H' := Aside0.mk H
             clear H
             have p313 : 0 ≤ (x7_2 : Int) := of_decide_eq_true (by first | (with_reducible assumption) | assumption)
             have q313 : x7_2 < (t303.length : Int) := of_decide_eq_true (by first | (with_reducible assumption) | assumption)
             obtain ⟨ad313, A313_0, c313_0, e313, hx313_0, hl313_0, hi313_0⟩ := at_L1 (Kd.S_reads' HO_3.out).2.2 x7_2 p313 q313
             cases e313
             obtain ⟨ce313, hce313, hMe313, hcc313⟩ := Kd.S_get HO_3.out [] x7_2 p313 (by first | exact q313 | exact of_decide_eq_true (by first | (with_reducible assumption) | assumption) | (have e_ := (Kd.S_reads' HO_3.out).1; omega))
             obtain ⟨ve313_0, rfl, ge313_0⟩ := hMe313
             have hv313_0 := hcc313 0 _ rfl
             rw [Nat.add_zero, show ((Kd.slice 3 (Kd.int .i64))).sz = 1 from rfl, Nat.mul_one] at hv313_0
             replace hv313_0 := Option.some.inj (hv313_0.symm.trans hx313_0)
             rw [hv313_0] at ge313_0
             have HL313_0 := Aside0.mk (show Kd.R (Kd.int .i64) 3 _ _ _ _ (rd_L1 t303 x7_2) from ge313_0)
             clear hv313_0 ge313_0
             clear hcc313 hce313
             have HR313_0 := Aside0.mk hi313_0
             have HC313_0 := Aside0.mk hl313_0
             clear hi313_0 hl313_0
             replace p313 := eq_true p313
             replace q313 := eq_true q313
             go_wp2
             repeat (go_quiet (fail); try go_wp2)
             go_roundg k3
             case measure => have := HK1.out; have := HK2.out; have := HK3.out; omega
             case rel => exact ⟨(false), (wrap64 (x9_3 + 1)), (by first | rfl | (simp; done) | (simp [*]; done)), (by first | rfl | (simp; done) | (simp [*]; done)), H', ⟨by have := HK1.out; have := HK2.out; have := HK3.out; omega⟩, ⟨by (with_reducible repeat (first | apply Kd.S_alloc | apply Kd.S_drewN | apply Kd.S_drew)); exact HO_3.out⟩, ⟨by (with_reducible repeat (first | apply Kd.R_alloc | apply Kd.R_drewN | apply Kd.R_drew)); exact HO_4.out⟩, ⟨by (with_reducible repeat (first | apply Kd.R_alloc | apply Kd.R_drewN | apply Kd.R_drew)); exact HO_5.out⟩, ⟨by repeat (first | (with_reducible first | exact HB.out | apply zAC | apply zAA | apply zAD) | exact HB.out)⟩⟩
           ·rw [if_neg c13] at H
            have c13b0 : decide (x9_3 < ((rd_L1 t303 x7_2).length : Int)) = false := decide_eq_false c13
            clear c13
            by_cases c17 : x8_3 = true
            ·subst c17
             have H1 : (if x6_2 < 0 then (swageref27_Order.l1 k3 t303 t306 x5_1 x7_2 (wrap64 (x7_2 + 1))) else (if x7_2 < (t306.length : Int) then (if 0 ≤ x6_2 then (if x6_2 < (t306.length : Int) then (if (rd t306 x7_2) > (rd t306 x6_2) then (swageref27_Order.l1 k3 t303 t306 x5_1 x7_2 (wrap64 (x7_2 + 1))) else (swageref27_Order.l1 k3 t303 t306 x5_1 x6_2 (wrap64 (x7_2 + 1)))) else (none)) else (none)) else (none))) = some r := by rw [if_pos rfl] at H; exact H
             clear H
             have H := H1
             clear H1
             by_cases c18 : x6_2 < 0
             ·rw [if_pos c18] at H
              have c18b0 : decide (x6_2 < 0) = true := decide_eq_true c18
              clear c18
              have H' := Aside0.mk H
              clear H
              have p313 : 0 ≤ (x7_2 : Int) := of_decide_eq_true (by first | (with_reducible assumption) | assumption)
              have q313 : x7_2 < (t303.length : Int) := of_decide_eq_true (by first | (with_reducible assumption) | assumption)
              obtain ⟨ad313, A313_0, c313_0, e313, hx313_0, hl313_0, hi313_0⟩ := at_L1 (Kd.S_reads' HO_3.out).2.2 x7_2 p313 q313
              cases e313
              obtain ⟨ce313, hce313, hMe313, hcc313⟩ := Kd.S_get HO_3.out [] x7_2 p313 (by first | exact q313 | exact of_decide_eq_true (by first | (with_reducible assumption) | assumption) | (have e_ := (Kd.S_reads' HO_3.out).1; omega))
              obtain ⟨ve313_0, rfl, ge313_0⟩ := hMe313
              have hv313_0 := hcc313 0 _ rfl
              rw [Nat.add_zero, show ((Kd.slice 3 (Kd.int .i64))).sz = 1 from rfl, Nat.mul_one] at hv313_0
              replace hv313_0 := Option.some.inj (hv313_0.symm.trans hx313_0)
              rw [hv313_0] at ge313_0
              have HL313_0 := Aside0.mk (show Kd.R (Kd.int .i64) 3 _ _ _ _ (rd_L1 t303 x7_2) from ge313_0)
              clear hv313_0 ge313_0
              clear hcc313 hce313
              have HR313_0 := Aside0.mk hi313_0
              have HC313_0 := Aside0.mk hl313_0
              clear hi313_0 hl313_0
              replace p313 := eq_true p313
              replace q313 := eq_true q313
              go_wp2
              repeat (go_quiet (fail); try go_wp2)
              go_roundg k3
              case measure => have := HK1.out; have := HK2.out; have := HK3.out; omega
              case rel => exact ⟨(x7_2), (wrap64 (x7_2 + 1)), (by first | rfl | (simp; done) | (simp [*]; done)), (by first | rfl | (simp; done) | (simp [*]; done)), H', ⟨by have := HK1.out; have := HK2.out; have := HK3.out; omega⟩, ⟨by (with_reducible repeat (first | apply Kd.S_alloc | apply Kd.S_drewN | apply Kd.S_drew)); exact HO_3.out⟩, ⟨by (with_reducible repeat (first | apply Kd.R_alloc | apply Kd.R_drewN | apply Kd.R_drew)); exact HO_4.out⟩, ⟨by (with_reducible repeat (first | apply Kd.R_alloc | apply Kd.R_drewN | apply Kd.R_drew)); exact HO_5.out⟩, ⟨by repeat (first | (with_reducible first | exact HB.out | apply zAC | apply zAA | apply zAD) | exact HB.out)⟩⟩
             ·rw [if_neg c18] at H
              have c18b0 : decide (x6_2 < 0) = false := decide_eq_false c18
              clear c18
              by_cases c19 : x7_2 < (t306.length : Int)
              ·rw [if_pos c19] at H
               have c19b0 : decide (x7_2 < (t306.length : Int)) = true := decide_eq_true c19
               clear c19
               by_cases c20 : 0 ≤ x6_2
               ·rw [if_pos c20] at H
                have c20b0 : decide (0 ≤ x6_2) = true := decide_eq_true c20
                clear c20
                by_cases c21 : x6_2 < (t306.length : Int)
                ·rw [if_pos c21] at H
                 have c21b0 : decide (x6_2 < (t306.length : Int)) = true := decide_eq_true c21
                 clear c21
                 by_cases c22 : (rd t306 x7_2) > (rd t306 x6_2)
                 ·rw [if_pos c22] at H
                  have c22b0 : decide ((rd t306 x6_2) < (rd t306 x7_2)) = true := decide_eq_true c22
                  clear c22
                  have H' := Aside0.mk H
                  clear H
                  have p313 : 0 ≤ (x7_2 : Int) := of_decide_eq_true (by first | (with_reducible assumption) | assumption)
                  have q313 : x7_2 < (t303.length : Int) := of_decide_eq_true (by first | (with_reducible assumption) | assumption)
                  obtain ⟨ad313, A313_0, c313_0, e313, hx313_0, hl313_0, hi313_0⟩ := at_L1 (Kd.S_reads' HO_3.out).2.2 x7_2 p313 q313
                  cases e313
                  obtain ⟨ce313, hce313, hMe313, hcc313⟩ := Kd.S_get HO_3.out [] x7_2 p313 (by first | exact q313 | exact of_decide_eq_true (by first | (with_reducible assumption) | assumption) | (have e_ := (Kd.S_reads' HO_3.out).1; omega))
                  obtain ⟨ve313_0, rfl, ge313_0⟩ := hMe313
                  have hv313_0 := hcc313 0 _ rfl
                  rw [Nat.add_zero, show ((Kd.slice 3 (Kd.int .i64))).sz = 1 from rfl, Nat.mul_one] at hv313_0
                  replace hv313_0 := Option.some.inj (hv313_0.symm.trans hx313_0)
                  rw [hv313_0] at ge313_0
                  have HL313_0 := Aside0.mk (show Kd.R (Kd.int .i64) 3 _ _ _ _ (rd_L1 t303 x7_2) from ge313_0)
                  clear hv313_0 ge313_0
                  clear hcc313 hce313
                  have HR313_0 := Aside0.mk hi313_0
                  have HC313_0 := Aside0.mk hl313_0
                  clear hi313_0 hl313_0
                  replace p313 := eq_true p313
                  replace q313 := eq_true q313
                  obtain ⟨Ao23, co23, eo23⟩ := Kd.R_slice HO_4.out
                  subst eo23
                  have p317 : 0 ≤ (x7_2 : Int) := of_decide_eq_true (by first | (with_reducible assumption) | assumption)
                  have q317 : x7_2 < (t306.length : Int) := of_decide_eq_true (by first | (with_reducible assumption) | assumption)
                  obtain ⟨ad317, e317, hx317_0⟩ := Kd.at_int (Kd.R_reads' HO_4.out).2.2 x7_2 p317 q317
                  cases e317
                  replace p317 := eq_true p317
                  replace q317 := eq_true q317
                  have p318 : 0 ≤ (x6_2 : Int) := of_decide_eq_true (by first | (with_reducible assumption) | assumption)
                  have q318 : x6_2 < (t306.length : Int) := of_decide_eq_true (by first | (with_reducible assumption) | assumption)
                  obtain ⟨ad318, e318, hx318_0⟩ := Kd.at_int (Kd.R_reads' HO_4.out).2.2 x6_2 p318 q318
                  obtain rfl : ad317 = ad318 := (by injection e318)
                  replace p318 := eq_true p318
                  replace q318 := eq_true q318
                  go_wp2
                  repeat (go_quiet (fail); try go_wp2)
                  go_roundg k3
                  case measure => have := HK1.out; have := HK2.out; have := HK3.out; omega
                  case rel => exact ⟨(x7_2), (wrap64 (x7_2 + 1)), (by first | rfl | (simp; done) | (simp [*]; done)), (by first | rfl | (simp; done) | (simp [*]; done)), H', ⟨by have := HK1.out; have := HK2.out; have := HK3.out; omega⟩, ⟨by (with_reducible repeat (first | apply Kd.S_alloc | apply Kd.S_drewN | apply Kd.S_drew)); exact HO_3.out⟩, ⟨by (with_reducible repeat (first | apply Kd.R_alloc | apply Kd.R_drewN | apply Kd.R_drew)); exact HO_4.out⟩, ⟨by (with_reducible repeat (first | apply Kd.R_alloc | apply Kd.R_drewN | apply Kd.R_drew)); exact HO_5.out⟩, ⟨by repeat (first | (with_reducible first | exact HB.out | apply zAC | apply zAA | apply zAD) | exact HB.out)⟩⟩
                 ·rw [if_neg c22] at H
                  have c22b0 : decide ((rd t306 x6_2) < (rd t306 x7_2)) = false := decide_eq_false c22
                  clear c22
                  have H' := Aside0.mk H
                  clear H
                  have p313 : 0 ≤ (x7_2 : Int) := of_decide_eq_true (by first | (with_reducible assumption) | assumption)
                  have q313 : x7_2 < (t303.length : Int) := of_decide_eq_true (by first | (with_reducible assumption) | assumption)
                  obtain ⟨ad313, A313_0, c313_0, e313, hx313_0, hl313_0, hi313_0⟩ := at_L1 (Kd.S_reads' HO_3.out).2.2 x7_2 p313 q313
                  cases e313
                  obtain ⟨ce313, hce313, hMe313, hcc313⟩ := Kd.S_get HO_3.out [] x7_2 p313 (by first | exact q313 | exact of_decide_eq_true (by first | (with_reducible assumption) | assumption) | (have e_ := (Kd.S_reads' HO_3.out).1; omega))
                  obtain ⟨ve313_0, rfl, ge313_0⟩ := hMe313
                  have hv313_0 := hcc313 0 _ rfl
                  rw [Nat.add_zero, show ((Kd.slice 3 (Kd.int .i64))).sz = 1 from rfl, Nat.mul_one] at hv313_0
                  replace hv313_0 := Option.some.inj (hv313_0.symm.trans hx313_0)
                  rw [hv313_0] at ge313_0
                  have HL313_0 := Aside0.mk (show Kd.R (Kd.int .i64) 3 _ _ _ _ (rd_L1 t303 x7_2) from ge313_0)
                  clear hv313_0 ge313_0
                  clear hcc313 hce313
                  have HR313_0 := Aside0.mk hi313_0
                  have HC313_0 := Aside0.mk hl313_0
                  clear hi313_0 hl313_0
                  replace p313 := eq_true p313
                  replace q313 := eq_true q313
                  obtain ⟨Ao24, co24, eo24⟩ := Kd.R_slice HO_4.out
                  subst eo24
                  have p317 : 0 ≤ (x7_2 : Int) := of_decide_eq_true (by first | (with_reducible assumption) | assumption)
                  have q317 : x7_2 < (t306.length : Int) := of_decide_eq_true (by first | (with_reducible assumption) | assumption)
                  obtain ⟨ad317, e317, hx317_0⟩ := Kd.at_int (Kd.R_reads' HO_4.out).2.2 x7_2 p317 q317
                  cases e317
                  replace p317 := eq_true p317
                  replace q317 := eq_true q317
                  have p318 : 0 ≤ (x6_2 : Int) := of_decide_eq_true (by first | (with_reducible assumption) | assumption)
                  have q318 : x6_2 < (t306.length : Int) := of_decide_eq_true (by first | (with_reducible assumption) | assumption)
                  obtain ⟨ad318, e318, hx318_0⟩ := Kd.at_int (Kd.R_reads' HO_4.out).2.2 x6_2 p318 q318
                  obtain rfl : ad317 = ad318 := (by injection e318)
                  replace p318 := eq_true p318
                  replace q318 := eq_true q318
                  go_wp2
                  repeat (go_quiet (fail); try go_wp2)
                  go_roundg k3
                  case measure => have := HK1.out; have := HK2.out; have := HK3.out; omega
                  case rel => exact ⟨(x6_2), (wrap64 (x7_2 + 1)), (by first | rfl | (simp; done) | (simp [*]; done)), (by first | rfl | (simp; done) | (simp [*]; done)), H', ⟨by have := HK1.out; have := HK2.out; have := HK3.out; omega⟩, ⟨by (with_reducible repeat (first | apply Kd.S_alloc | apply Kd.S_drewN | apply Kd.S_drew)); exact HO_3.out⟩, ⟨by (with_reducible repeat (first | apply Kd.R_alloc | apply Kd.R_drewN | apply Kd.R_drew)); exact HO_4.out⟩, ⟨by (with_reducible repeat (first | apply Kd.R_alloc | apply Kd.R_drewN | apply Kd.R_drew)); exact HO_5.out⟩, ⟨by repeat (first | (with_reducible first | exact HB.out | apply zAC | apply zAA | apply zAD) | exact HB.out)⟩⟩
                ·rw [if_neg c21] at H
                 exact absurd H (by simp)
               ·rw [if_neg c20] at H
                exact absurd H (by simp)
              ·rw [if_neg c19] at H
               exact absurd H (by simp)
            ·replace c17 := Bool.eq_false_iff.mpr c17
             subst c17
             have H1 : (swageref27_Order.l1 k3 t303 t306 x5_1 x6_2 (wrap64 (x7_2 + 1))) = some r := by rw [if_neg (show ¬ (false = true) by decide)] at H; exact H
             clear H
             have H := H1
             clear H1
             have H' := Aside0.mk H
             clear H
             have p313 : 0 ≤ (x7_2 : Int) := of_decide_eq_true (by first | (with_reducible assumption) | assumption)
             have q313 : x7_2 < (t303.length : Int) := of_decide_eq_true (by first | (with_reducible assumption) | assumption)
             obtain ⟨ad313, A313_0, c313_0, e313, hx313_0, hl313_0, hi313_0⟩ := at_L1 (Kd.S_reads' HO_3.out).2.2 x7_2 p313 q313
             cases e313
             obtain ⟨ce313, hce313, hMe313, hcc313⟩ := Kd.S_get HO_3.out [] x7_2 p313 (by first | exact q313 | exact of_decide_eq_true (by first | (with_reducible assumption) | assumption) | (have e_ := (Kd.S_reads' HO_3.out).1; omega))
             obtain ⟨ve313_0, rfl, ge313_0⟩ := hMe313
             have hv313_0 := hcc313 0 _ rfl
             rw [Nat.add_zero, show ((Kd.slice 3 (Kd.int .i64))).sz = 1 from rfl, Nat.mul_one] at hv313_0
             replace hv313_0 := Option.some.inj (hv313_0.symm.trans hx313_0)
             rw [hv313_0] at ge313_0
             have HL313_0 := Aside0.mk (show Kd.R (Kd.int .i64) 3 _ _ _ _ (rd_L1 t303 x7_2) from ge313_0)
             clear hv313_0 ge313_0
             clear hcc313 hce313
             have HR313_0 := Aside0.mk hi313_0
             have HC313_0 := Aside0.mk hl313_0
             clear hi313_0 hl313_0
             replace p313 := eq_true p313
             replace q313 := eq_true q313
             go_wp2
             repeat (go_quiet (fail); try go_wp2)
             go_roundg k3
             case measure => have := HK1.out; have := HK2.out; have := HK3.out; omega
             case rel => exact ⟨(x6_2), (wrap64 (x7_2 + 1)), (by first | rfl | (simp; done) | (simp [*]; done)), (by first | rfl | (simp; done) | (simp [*]; done)), H', ⟨by have := HK1.out; have := HK2.out; have := HK3.out; omega⟩, ⟨by (with_reducible repeat (first | apply Kd.S_alloc | apply Kd.S_drewN | apply Kd.S_drew)); exact HO_3.out⟩, ⟨by (with_reducible repeat (first | apply Kd.R_alloc | apply Kd.R_drewN | apply Kd.R_drew)); exact HO_4.out⟩, ⟨by (with_reducible repeat (first | apply Kd.R_alloc | apply Kd.R_drewN | apply Kd.R_drew)); exact HO_5.out⟩, ⟨by repeat (first | (with_reducible first | exact HB.out | apply zAC | apply zAA | apply zAD) | exact HB.out)⟩⟩
          ·rw [if_neg c12] at H
           exact absurd H (by simp)
         ·rw [if_neg c11] at H
          exact absurd H (by simp)
      ·rw [if_neg c9] at H
       have c9b0 : decide (x7_2 < (t303.length : Int)) = false := decide_eq_false c9
       clear c9
       by_cases c25 : x5_1.length < 17592186044416
       ·rw [if_pos c25] at H
        have LMc25 := Aside0.mk c25
        clear c25
        obtain ⟨y309, hy309⟩ : ∃ y_ : List Int, y_ = (x5_1 ++ [x6_2]) := ⟨_, rfl⟩
        replace H : (swageref27_Order.l0 k2 t303 t306 y309) = some r := by first | (rw [hy309]; with_reducible exact H) | (have H2_ := (Option.bind_some _ _).symm.trans H; rw [hy309]; with_reducible exact H2_) | (have H2_ := (Option.bind_some _ _).symm.trans H; with_reducible exact H2_) | with_reducible exact H | (rw [hy309]; exact H) | exact H
        have Ny309 := Aside0.mk hy309
        clear hy309
        have H' := Aside0.mk H
        clear H
        go_wp2_with (first | ((with_reducible refine zBK (b := .append) (xs := #[.tmp 67, .tmp 69]) rfl ?_); at_builtin; refine Kd.R_append (Kd.int .i64) (w0 := w) w.heap.size rfl (.tmp 67) (.tmp 69) 23 3 (.int .i64 0) 8 rfl Try.underlying23 info3 rfl (by decide) (by omega) (.slice Ao7 x5_1.length co7) x5_1 x6_2 [.int .i64 x6_2] (fun k_ => some k_ ≠ (v307 : Value).ownBlock) (fun _ => False) rfl rfl ?aP (fun _ hk => hk.elim) ?aF ?aO ?aB ?aS ?aL ?_; (case aP => exact rfl); (case aB => exact (by repeat (first | (with_reducible first | exact HB.out | apply zAC | apply zAA | apply zAD) | exact HB.out))); (case aF => exact (fun k_ hk => Kd.fresh' (Kd.R_lt (by (with_reducible repeat (first | apply Kd.R_alloc | apply Kd.R_drewN | apply Kd.R_drew)); exact HO_4.out)) k_ hk)); (case aO => exact (by (with_reducible repeat (first | apply Kd.R_alloc | apply Kd.R_drewN | apply Kd.R_drew)); exact HO_5.out)); (case aS => exact (zAM (by repeat (first | (with_reducible first | exact HB.out | apply zAC | apply zAA | apply zAD) | exact HB.out)))); (case aL => have := LMc25.out; omega); intro v310 w26 ho hb hg hat; rw [← Ny309.out] at ho; have n0_ := Aside0.mk (Kd.S_after (ok := (fun k_ => some k_ ≠ (v307 : Value).ownBlock)) (by (with_reducible repeat (first | apply Kd.S_alloc | apply Kd.S_drewN | apply Kd.S_drew)); exact HO_3.out) hg hat); have n1_ := Aside0.mk (Kd.R_after (ok := (fun _ => True)) (by (with_reducible repeat (first | apply Kd.R_alloc | apply Kd.R_drewN | apply Kd.R_drew)); exact Kd.R_mono HO_4.out (fun _ hk => ⟨trivial, hk⟩)) hg hat); have n2_ := Aside0.mk (hb); have n3_ := Aside0.mk (ho); clear HO_3; clear HO_4; clear HB; clear HO_5; have HO_3 := n0_; have HO_4 := n1_; have HB := n2_; have HO311 := n3_; clear n0_ n1_ n2_ n3_; clear ho hb hg hat))
        repeat (go_quiet (first | ((with_reducible refine zBK (b := .append) (xs := #[.tmp 67, .tmp 69]) rfl ?_); at_builtin; refine Kd.R_append (Kd.int .i64) (w0 := w) w.heap.size rfl (.tmp 67) (.tmp 69) 23 3 (.int .i64 0) 8 rfl Try.underlying23 info3 rfl (by decide) (by omega) (.slice Ao7 x5_1.length co7) x5_1 x6_2 [.int .i64 x6_2] (fun k_ => some k_ ≠ (v307 : Value).ownBlock) (fun _ => False) rfl rfl ?aP (fun _ hk => hk.elim) ?aF ?aO ?aB ?aS ?aL ?_; (case aP => exact rfl); (case aB => exact (by repeat (first | (with_reducible first | exact HB.out | apply zAC | apply zAA | apply zAD) | exact HB.out))); (case aF => exact (fun k_ hk => Kd.fresh' (Kd.R_lt (by (with_reducible repeat (first | apply Kd.R_alloc | apply Kd.R_drewN | apply Kd.R_drew)); exact HO_4.out)) k_ hk)); (case aO => exact (by (with_reducible repeat (first | apply Kd.R_alloc | apply Kd.R_drewN | apply Kd.R_drew)); exact HO_5.out)); (case aS => exact (zAM (by repeat (first | (with_reducible first | exact HB.out | apply zAC | apply zAA | apply zAD) | exact HB.out)))); (case aL => have := LMc25.out; omega); intro v310 w26 ho hb hg hat; rw [← Ny309.out] at ho; have n0_ := Aside0.mk (Kd.S_after (ok := (fun k_ => some k_ ≠ (v307 : Value).ownBlock)) (by (with_reducible repeat (first | apply Kd.S_alloc | apply Kd.S_drewN | apply Kd.S_drew)); exact HO_3.out) hg hat); have n1_ := Aside0.mk (Kd.R_after (ok := (fun _ => True)) (by (with_reducible repeat (first | apply Kd.R_alloc | apply Kd.R_drewN | apply Kd.R_drew)); exact Kd.R_mono HO_4.out (fun _ hk => ⟨trivial, hk⟩)) hg hat); have n2_ := Aside0.mk (hb); have n3_ := Aside0.mk (ho); clear HO_3; clear HO_4; clear HB; clear HO_5; have HO_3 := n0_; have HO_4 := n1_; have HB := n2_; have HO311 := n3_; clear n0_ n1_ n2_ n3_; clear ho hb hg hat)); try go_wp2_with (first | ((with_reducible refine zBK (b := .append) (xs := #[.tmp 67, .tmp 69]) rfl ?_); at_builtin; refine Kd.R_append (Kd.int .i64) (w0 := w) w.heap.size rfl (.tmp 67) (.tmp 69) 23 3 (.int .i64 0) 8 rfl Try.underlying23 info3 rfl (by decide) (by omega) (.slice Ao7 x5_1.length co7) x5_1 x6_2 [.int .i64 x6_2] (fun k_ => some k_ ≠ (v307 : Value).ownBlock) (fun _ => False) rfl rfl ?aP (fun _ hk => hk.elim) ?aF ?aO ?aB ?aS ?aL ?_; (case aP => exact rfl); (case aB => exact (by repeat (first | (with_reducible first | exact HB.out | apply zAC | apply zAA | apply zAD) | exact HB.out))); (case aF => exact (fun k_ hk => Kd.fresh' (Kd.R_lt (by (with_reducible repeat (first | apply Kd.R_alloc | apply Kd.R_drewN | apply Kd.R_drew)); exact HO_4.out)) k_ hk)); (case aO => exact (by (with_reducible repeat (first | apply Kd.R_alloc | apply Kd.R_drewN | apply Kd.R_drew)); exact HO_5.out)); (case aS => exact (zAM (by repeat (first | (with_reducible first | exact HB.out | apply zAC | apply zAA | apply zAD) | exact HB.out)))); (case aL => have := LMc25.out; omega); intro v310 w26 ho hb hg hat; rw [← Ny309.out] at ho; have n0_ := Aside0.mk (Kd.S_after (ok := (fun k_ => some k_ ≠ (v307 : Value).ownBlock)) (by (with_reducible repeat (first | apply Kd.S_alloc | apply Kd.S_drewN | apply Kd.S_drew)); exact HO_3.out) hg hat); have n1_ := Aside0.mk (Kd.R_after (ok := (fun _ => True)) (by (with_reducible repeat (first | apply Kd.R_alloc | apply Kd.R_drewN | apply Kd.R_drew)); exact Kd.R_mono HO_4.out (fun _ hk => ⟨trivial, hk⟩)) hg hat); have n2_ := Aside0.mk (hb); have n3_ := Aside0.mk (ho); clear HO_3; clear HO_4; clear HB; clear HO_5; have HO_3 := n0_; have HO_4 := n1_; have HB := n2_; have HO311 := n3_; clear n0_ n1_ n2_ n3_; clear ho hb hg hat)))
        go_roundg k2
        case measure => have := HK1.out; have := HK2.out; omega
        case rel => exact ⟨(y309), H', ⟨by have := HK1.out; have := HK2.out; omega⟩, ⟨by (with_reducible repeat (first | apply Kd.S_alloc | apply Kd.S_drewN | apply Kd.S_drew)); exact HO_3.out⟩, ⟨by (with_reducible repeat (first | apply Kd.R_alloc | apply Kd.R_drewN | apply Kd.R_drew)); exact Kd.R_mono HO_4.out (fun _ hk => hk.2)⟩, ⟨by (with_reducible repeat (first | apply Kd.R_alloc | apply Kd.R_drewN | apply Kd.R_drew)); exact HO311.out⟩, ⟨by repeat (first | (with_reducible first | exact HB.out | apply zAC | apply zAA | apply zAD) | exact HB.out)⟩⟩
       ·rw [if_neg c25] at H
        exact absurd H (by simp)
   ·rw [if_neg c6] at H
    have c6b0 : decide ((x5_1.length : Int) < (t303.length : Int)) = false := decide_eq_false c6
    have c6b1 : decide (x5_1.length < t303.length) = false := decide_eq_false (fun h => c6 (Int.ofNat_lt.mpr h))
    clear c6
    obtain rfl := Option.some.inj H
    obtain ⟨Ao27, co27, eo27⟩ := Kd.R_slice HO_5.out
    subst eo27
    obtain ⟨Ao28, co28, eo28⟩ := Kd.S_slice HO_3.out
    subst eo28
    go_wp2
    repeat (go_quiet (fail); try go_wp2)
    go_ret
    exact ⟨_, by first | rfl | (simp [zAO, zAN] <;> rfl) | (simp [*, zAO, zAN] <;> rfl), by (with_reducible repeat (first | apply Kd.R_alloc | apply Kd.R_drewN | apply Kd.R_drew)); exact Kd.R_mono HO_5.out (fun _ hk => trivial), by repeat (first | (with_reducible first | exact HB.out | apply zAC | apply zAA | apply zAD) | exact HB.out)⟩
end Go.Proofs.Ytphmlkbmnmicpaa.A
namespace Go.Proofs.Ytphmlkbmnmicpaa.A
open Go.RowKit Go.Proofs.YtphmlkbmnmicpaaW.PrintWords Go.Proofs.YtphmlkbmnmicpaaW.PrintLast Go.Shelf
theorem rd_mkL (n : Nat) (f : Nat → Int) (p : Nat) (hp : p < n) : rd (mkL n f) (p : Int) = f p := by
 unfold rd
 rw [Int.toNat_natCast, List.getD_eq_getElem?_getD]
 simp [mkL, hp]
theorem ext_rd (a : List Int) (n : Nat) (h : a.length = n) : mkL n (fun p => rd a (p : Int)) = a := by
 apply List.ext_getElem
 ·rw [mkL_length, h]
 ·intro i h1 h2
  simp [mkL, rd, h2]
def hOut (n : Nat) (H : List Int) (i : Nat) (m : Int) : List Int := mkL n fun p => if p < i then 0 else if p = i then m else rd H (p : Int)
theorem hOut_length (n : Nat) (H : List Int) (i : Nat) (m : Int) : (hOut n H i m).length = n := mkL_length _ _
theorem hOut_set (n : Nat) (H : List Int) (i : Nat) (m v : Int) : (hOut n H i m).set i v = hOut n H i v := by
 unfold hOut
 rw [mkL_set]
 refine mkL_congr _ _ _ (fun p hp => ?_)
 by_cases h : p = i
 ·subst h; simp
 ·simp [h]
theorem hOut_at (n : Nat) (H : List Int) (i : Nat) (m : Int) (hi : i < n) : rd (hOut n H i m) (i : Int) = m := by
 unfold hOut
 rw [rd_mkL _ _ _ hi]
 simp
theorem hOut_up (n : Nat) (H : List Int) (i q : Nat) (m : Int) (hi : i < q) (hq : q < n) : rd (hOut n H i m) (q : Int) = rd H (q : Int) := by
 unfold hOut
 rw [rd_mkL _ _ _ hq, if_neg (by omega), if_neg (by omega)]
theorem hOut_zero (n : Nat) (H : List Int) (h : H.length = n) : hOut n H 0 (rd H (0 : Nat)) = H := by
 rw [← ext_rd H n h]
 unfold hOut
 refine mkL_congr _ _ _ (fun p hp => ?_)
 rw [ext_rd H n h]
 by_cases e : p = 0
 ·subst e; simp
 ·simp [e]
theorem hOut_down (n : Nat) (H : List Int) (i : Nat) : hOut n H (i + 1) (rd H ((i + 1 : Nat) : Int)) = hOut n H i 0 := by
 unfold hOut
 refine mkL_congr _ _ _ (fun p hp => ?_)
 by_cases a : p < i + 1
 ·rw [if_pos a]
  by_cases b : p < i
  ·rw [if_pos b]
  ·rw [if_neg b, if_pos (by omega)]
 ·rw [if_neg a, if_neg (show ¬ p < i by omega), if_neg (show ¬ p = i by omega)]
  by_cases b : p = i + 1
  ·rw [if_pos b, b]
  ·rw [if_neg b]
theorem hOut_start (n : Nat) (H : List Int) : hOut (n + 1) H n 0 = List.replicate (n + 1) 0 := by
 apply List.ext_getElem
 ·simp [hOut, mkL]
 ·intro i h1 h2
  have hi : i < n + 1 := by simpa using h2
  simp only [hOut, mkL, List.getElem_map, List.getElem_range, List.getElem_replicate]
  by_cases a : i < n
  ·rw [if_pos a]
  ·rw [if_neg a, if_pos (by omega)]
structure Top (d : List (List Int)) (H : List Int) (i k : Nat) (m : Int) : Prop where
 nn : 0 ≤ m
 ub : ∀ q : Nat, i < q → q < k → (i : Int) ∈ rd_L1 d (q : Int) → rd H (q : Int) ≤ m
 why : m = 0 ∨ ∃ q : Nat, i < q ∧ q < k ∧ (i : Int) ∈ rd_L1 d (q : Int) ∧ m = rd H (q : Int)
theorem Top.start (d : List (List Int)) (H : List Int) (i : Nat) : Top d H i (i + 1) 0 := ⟨by omega, fun q h1 h2 => by omega, .inl rfl⟩
theorem Top.no {d : List (List Int)} {H : List Int} {i k : Nat} {m : Int} (h : Top d H i k m) (hk : (i : Int) ∉ rd_L1 d (k : Int)) : Top d H i (k + 1) m := by
 refine ⟨h.nn, fun q h1 h2 h3 => ?_, ?_⟩
 ·by_cases e : q = k
  ·subst e; exact absurd h3 hk
  ·exact h.ub q h1 (by omega) h3
 ·rcases h.why with e | ⟨q, h1, h2, h3, h4⟩
  ·exact .inl e
  ·exact .inr ⟨q, h1, by omega, h3, h4⟩
theorem Top.yes {d : List (List Int)} {H : List Int} {i k : Nat} {m : Int} (h : Top d H i k m) (hik : i < k) (hk : (i : Int) ∈ rd_L1 d (k : Int)) : Top d H i (k + 1) (mx m (rd H (k : Int))) := by
 have hn := h.nn
 unfold mx
 by_cases c : m < rd H (k : Int)
 ·rw [if_pos c]
  refine ⟨by omega, fun q h1 h2 h3 => ?_, .inr ⟨k, hik, by omega, hk, rfl⟩⟩
  by_cases e : q = k
  ·subst e; omega
  ·have := h.ub q h1 (by omega) h3; omega
 ·rw [if_neg c]
  refine ⟨hn, fun q h1 h2 h3 => ?_, ?_⟩
  ·by_cases e : q = k
   ·subst e; omega
   ·exact h.ub q h1 (by omega) h3
  ·rcases h.why with e | ⟨q, h1, h2, h3, h4⟩
   ·exact .inl e
   ·exact .inr ⟨q, h1, by omega, h3, h4⟩
theorem Top.end_ {l : List S37} {d : List (List Int)} {H : List Int} (hH : High l d H) {i : Nat} {m : Int} (hi : i < l.length) (h : Top d H i l.length m) : m + lt_ l i = rd H (i : Int) := by
 have hn := h.nn
 have pos : ∀ q : Nat, q < l.length → 1 ≤ rd H (q : Int) := fun q hq => by
  have h1 := hH.lo q hq
  have h2 := (latOf_range (zAF l (q : Int))).1
  unfold lt_ at h1
  omega
 rcases hH.why i hi with e | ⟨k, h1, h2, h3, h4⟩
 ·rcases h.why with e2 | ⟨q, g1, g2, g3, g4⟩
  ·omega
  ·have := hH.row q g2 i g3
   have := pos q g2
   omega
 ·have hk := h.ub k h1 h2 h3
  have hkp := pos k h2
  rcases h.why with e2 | ⟨q, g1, g2, g3, g4⟩
  ·omega
  ·have := hH.row q g2 i g3
   omega
theorem rheights_inner (l : List S37) (hl : l.length ≤ 100) (i : Nat) (hi : i < l.length) (r : List Int)
  (hE : Ev (fun k => swageref27_Heights.l0 k l (zAX l) (hOut l.length (zBJ l) i (rd (zBJ l) (i : Int))) ((i : Int) - 1)) r) :
  ∀ (d q : Nat) (m : Int), q ≤ l.length → l.length - q = d → i < q → Top (zAX l) (zBJ l) i q m → Ev (fun k => swageref27_Heights.l1 k l (zAX l) (hOut l.length (zBJ l) i m) (i : Int) (q : Int)) r := by
 have hH := zCC l (by omega)
 have hdl := zBF l
 intro d
 induction d with
 | zero =>
  intro q m hq hd hiq hT
  obtain rfl : q = l.length := by omega
  have he := hT.end_ hH hi
  have h1 := hH.up i hi
  have h2 := hH.lo i hi
  have h3 := (latOf_range (zAF l (i : Int))).1
  have hol := hOut_length l.length (zBJ l) i m
  obtain ⟨K, hK⟩ := hE
  refine ⟨K + 2, fun k hk => ?_⟩
  obtain ⟨k, rfl⟩ : ∃ m, k = m + 2 := ⟨k - 2, by omega⟩
  have hK' := hK (k + 1) (by omega)
  simp only [swageref27_Heights.l1]
  rw [if_neg (by omega), if_pos (by omega), if_pos (by omega), if_pos (by omega), rlat _ _ (by omega), Option.bind_some, Int.toNat_natCast, hOut_at _ _ _ _ hi, hOut_set]
  unfold lt_ at he h2
  rw [he]
  have hw : wrap64 (rd (zBJ l) (i : Int)) = rd (zBJ l) (i : Int) := by unfold wrap64; omega
  have hw2 : wrap64 ((i : Int) - 1) = (i : Int) - 1 := by unfold wrap64; omega
  rw [hw, hw2]
  exact hK'
 | succ d ih =>
  intro q m hq hd hiq hT
  have hrow : rd_L1 (zAX l) (q : Int) = zBR l q q := zBZ l q (by omega)
  have hpl := zBQ l q q
  have hol := hOut_length l.length (zBJ l) i m
  by_cases hc : (i : Int) ∈ rd_L1 (zAX l) (q : Int)
  ·obtain ⟨K, hK⟩ := ih (q + 1) (mx m (rd (zBJ l) (q : Int))) (by omega) (by omega) (by omega) (hT.yes hiq hc)
   refine ⟨max K 2012 + 1, fun k hk => ?_⟩
   obtain ⟨k, rfl⟩ : ∃ m, k = m + 1 := ⟨k - 1, by omega⟩
   have hK' := hK k (by omega)
   simp only [swageref27_Heights.l1]
   rw [if_pos (by omega), if_pos (by omega), rin _ _ (by rw [hrow]; omega) k (by omega), Option.bind_some, if_pos (decide_eq_true hc), if_pos (by omega), if_pos (by omega), if_pos (by omega), Int.toNat_natCast, hOut_at _ _ _ _ hi, hOut_up _ _ _ _ _ hiq (by omega), hOut_set, zCE q (by omega)]
   exact hK'
  ·obtain ⟨K, hK⟩ := ih (q + 1) m (by omega) (by omega) (by omega) (hT.no hc)
   refine ⟨max K 2012 + 1, fun k hk => ?_⟩
   obtain ⟨k, rfl⟩ : ∃ m, k = m + 1 := ⟨k - 1, by omega⟩
   have hK' := hK k (by omega)
   simp only [swageref27_Heights.l1]
   rw [if_pos (by omega), if_pos (by omega), rin _ _ (by rw [hrow]; omega) k (by omega), Option.bind_some, if_neg (by simp [hc]), zCE q (by omega)]
   exact hK'
theorem rheights_outer (l : List S37) (hl : l.length ≤ 100) : ∀ i : Nat, i < l.length → Ev (fun k => swageref27_Heights.l0 k l (zAX l) (hOut l.length (zBJ l) i 0) (i : Int)) (zBJ l) := by
 have hH := zCC l (by omega)
 intro i
 induction i with
 | zero =>
  intro hi
  have h0 : Ev (fun k => swageref27_Heights.l0 k l (zAX l) (hOut l.length (zBJ l) 0 (rd (zBJ l) (0 : Nat))) (((0 : Nat) : Int) - 1)) (zBJ l) := by
   refine ⟨1, fun k hk => ?_⟩
   obtain ⟨k, rfl⟩ : ∃ m, k = m + 1 := ⟨k - 1, by omega⟩
   simp only [swageref27_Heights.l0]
   rw [if_neg (by omega), hOut_zero _ _ hH.len]
  obtain ⟨K, hK⟩ := rheights_inner l hl 0 hi _ h0 _ 1 0 (by omega) rfl (by omega) (Top.start _ _ 0)
  refine ⟨K + 1, fun k hk => ?_⟩
  obtain ⟨k, rfl⟩ : ∃ m, k = m + 1 := ⟨k - 1, by omega⟩
  have hK' := hK k (by omega)
  simp only [swageref27_Heights.l0]
  rw [if_pos (by omega), zCE 0 (by omega)]
  exact hK'
 | succ i ih =>
  intro hi
  have h0 := ih (by omega)
  rw [← hOut_down, show (i : Int) = ((i + 1 : Nat) : Int) - 1 from by omega] at h0
  obtain ⟨K, hK⟩ := rheights_inner l hl (i + 1) hi _ h0 _ (i + 2) 0 (by omega) rfl (by omega) (Top.start _ _ _)
  refine ⟨K + 1, fun k hk => ?_⟩
  obtain ⟨k, rfl⟩ : ∃ m, k = m + 1 := ⟨k - 1, by omega⟩
  have hK' := hK k (by omega)
  simp only [swageref27_Heights.l0]
  rw [if_pos (by omega), zCE (i + 1) (by omega)]
  exact hK'
theorem rheights (l : List S37) (hl : l.length ≤ 100) (hs : ∀ x ∈ l, x.f5.length ≤ 1000) : Ev (fun k => swageref27_Heights.f k l) (zBJ l) := by
 have hdl := zBF l
 have hH := zCC l (by omega)
 obtain ⟨K2, hK2⟩ := rdeps l (by omega) hs
 have h1 : Ev (fun k => swageref27_Heights.l0 k l (zAX l) (List.replicate l.length 0) (wrap64 ((l.length : Int) - 1))) (zBJ l) := by
  rcases hn : l.length with _ | n
  ·refine ⟨1, fun k hk => ?_⟩
   obtain ⟨k, rfl⟩ : ∃ m, k = m + 1 := ⟨k - 1, by omega⟩
   simp only [swageref27_Heights.l0]
   have hw : wrap64 (((0 : Nat) : Int) - 1) = -1 := by unfold wrap64; omega
   rw [hw, if_neg (by omega)]
   have := hH.len
   rw [hn] at this
   rw [List.eq_nil_of_length_eq_zero this]
   rfl
  ·have h2 := rheights_outer l hl n (by omega)
   rw [hn, hOut_start] at h2
   have hw : wrap64 (((n + 1 : Nat) : Int) - 1) = (n : Int) := by unfold wrap64; omega
   rw [hw]
   exact h2
 obtain ⟨K, hK⟩ := h1
 refine ⟨max K K2, fun k hk => ?_⟩
 have hK' := hK k (by omega)
 have hK2' := hK2 k (by omega)
 show swageref27_Heights.f k l = _
 unfold swageref27_Heights.f
 simp only at hK2'
 rw [hK2', Option.bind_some, if_pos (by omega), if_pos (by omega), hdl, Int.toNat_natCast]
 exact hK'
theorem ready_all {d : List (List Int)} {m : Nat} {s : List Bool × List Int} (hs : OS d m s) (hd : Back d) (i : Nat) (hi : i < d.length) :
  readyB s.1 d i = (decide ((i : Int) ∉ s.2) && (rd_L1 d (i : Int)).all fun a => decide (a ∈ s.2)) := by
 rw [Bool.eq_iff_iff, hs.ready_iff hd i hi]
 simp [List.all_eq_true]
theorem rorder_l2 (d : List (List Int)) (h : List Int) (hd : Back d) (hlen : d.length ≤ 100) (hh : h.length = d.length) (hrow : ∀ i : Nat, i < d.length → (rd_L1 d (i : Int)).length ≤ 100) {m : Nat} {s : List Bool × List Int} (hs : OS d m s) (hm : m ≤ 100) (i : Nat) (hi : i < d.length) (at_ : Int) (ha1 : -1 ≤ at_) (ha2 : at_ < d.length) (r : List Int)
  (hE : Ev (fun k => swageref27_Order.l1 k d h s.2 (bestStep h (readyB s.1 d) at_ i) ((i + 1 : Nat) : Int)) r) :
  ∀ (n j : Nat) (b : Bool), j ≤ (rd_L1 d (i : Int)).length → (rd_L1 d (i : Int)).length - j = n → (b && ((rd_L1 d (i : Int)).drop j).all fun a => decide (a ∈ s.2)) = readyB s.1 d i →
   Ev (fun k => swageref27_Order.l2 k d h s.2 at_ (i : Int) b (j : Int)) r := by
 have hsl := hs.l2
 intro n
 induction n with
 | zero =>
  intro j b hj hn hb
  obtain rfl : j = (rd_L1 d (i : Int)).length := by omega
  rw [List.drop_length, List.all_nil, Bool.and_true] at hb
  obtain ⟨K, hK⟩ := hE
  refine ⟨K + 1, fun k hk => ?_⟩
  obtain ⟨k, rfl⟩ : ∃ m, k = m + 1 := ⟨k - 1, by omega⟩
  have hK' := hK k (by omega)
  unfold bestStep at hK'
  rw [← hb] at hK'
  simp only [swageref27_Order.l2]
  rw [if_pos (by omega), if_pos (by omega), if_neg (by omega), zCE i (by omega)]
  cases b with
  | false =>
   rw [if_neg (by simp)]
   rw [if_neg (by simp)] at hK'
   exact hK'
  | true =>
   rw [if_pos rfl]
   by_cases c : at_ < 0
   ·rw [if_pos c]
    rw [if_pos (by simp [c])] at hK'
    exact hK'
   ·rw [if_neg c, if_pos (by omega), if_pos (by omega), if_pos (by omega)]
    by_cases c2 : rd h at_ < rd h (i : Int)
    ·rw [if_pos (by omega)]
     rw [if_pos (by simp [c2])] at hK'
     exact hK'
    ·rw [if_neg (by omega)]
     rw [if_neg (by simp [c, c2])] at hK'
     exact hK'
 | succ n ih =>
  intro j b hj hn hb
  have hjl : j < (rd_L1 d (i : Int)).length := by omega
  have hr : rd (rd_L1 d (i : Int)) (j : Int) = (rd_L1 d (i : Int))[j] := by simp [rd, hjl]
  have hrl := hrow i hi
  rw [List.drop_eq_getElem_cons hjl, List.all_cons] at hb
  cases b with
  | false =>
   obtain ⟨K, hK⟩ := ih (j + 1) false (by omega) (by omega) (by simpa using hb)
   refine ⟨K + 1, fun k hk => ?_⟩
   obtain ⟨k, rfl⟩ : ∃ m, k = m + 1 := ⟨k - 1, by omega⟩
   have hK' := hK k (by omega)
   simp only [swageref27_Order.l2]
   rw [if_pos (by omega), if_pos (by omega), if_pos (by omega), if_neg (by simp), zCE j (by omega)]
   exact hK'
  | true =>
   obtain ⟨K, hK⟩ := ih (j + 1) (decide ((rd_L1 d (i : Int))[j] ∈ s.2)) (by omega) (by omega) (by simpa using hb)
   refine ⟨max K 2012 + 1, fun k hk => ?_⟩
   obtain ⟨k, rfl⟩ : ∃ m, k = m + 1 := ⟨k - 1, by omega⟩
   have hK' := hK k (by omega)
   simp only [swageref27_Order.l2]
   rw [if_pos (by omega), if_pos (by omega), if_pos (by omega), if_pos trivial, if_pos (by omega), rin _ _ (by omega) k (by omega), Option.bind_some, zCE j (by omega), hr]
   exact hK'
theorem rorder_l1 (d : List (List Int)) (h : List Int) (hd : Back d) (hlen : d.length ≤ 100) (hh : h.length = d.length) (hrow : ∀ i : Nat, i < d.length → (rd_L1 d (i : Int)).length ≤ 100) {m : Nat} {s : List Bool × List Int} (hs : OS d m s) (hm : m ≤ 100) (r : List Int)
  (hE : Ev (fun k => swageref27_Order.l0 k d h (s.2 ++ [zBD h (readyB s.1 d) d.length])) r) :
  ∀ (n i : Nat), i ≤ d.length → d.length - i = n → Ev (fun k => swageref27_Order.l1 k d h s.2 (zBD h (readyB s.1 d) i) (i : Int)) r := by
 have hsl := hs.l2
 intro n
 induction n with
 | zero =>
  intro i hi hn
  obtain rfl : i = d.length := by omega
  obtain ⟨K, hK⟩ := hE
  refine ⟨K + 1, fun k hk => ?_⟩
  obtain ⟨k, rfl⟩ : ∃ m, k = m + 1 := ⟨k - 1, by omega⟩
  have hK' := hK k (by omega)
  simp only [swageref27_Order.l1]
  rw [if_neg (by omega), if_pos (by omega)]
  exact hK'
 | succ n ih =>
  intro i hi hn
  have h1 := ih (i + 1) (by omega) (by omega)
  rw [bestUpto_succ] at h1
  have hbr := bestUpto_range h (readyB s.1 d) i
  have hb2 : zBD h (readyB s.1 d) i < d.length := by
   have := hbr.2
   split at this <;> omega
  obtain ⟨K, hK⟩ := rorder_l2 d h hd hlen hh hrow hs hm i (by omega) _ hbr.1 hb2 r h1 _ 0 (decide ((i : Int) ∉ s.2)) (Nat.zero_le _) rfl (by rw [List.drop_zero]; exact (ready_all hs hd i (by omega)).symm)
  refine ⟨max K 2012 + 1, fun k hk => ?_⟩
  obtain ⟨k, rfl⟩ : ∃ m, k = m + 1 := ⟨k - 1, by omega⟩
  have hK' := hK k (by omega)
  simp only [swageref27_Order.l1]
  rw [if_pos (by omega), rin _ _ (by omega) k (by omega), Option.bind_some]
  have e : (!decide ((i : Int) ∈ s.2)) = decide ((i : Int) ∉ s.2) := by simp
  rw [e]
  exact hK'
theorem rorder_l0 (d : List (List Int)) (h : List Int) (hd : Back d) (hlen : d.length ≤ 100) (hh : h.length = d.length) (hrow : ∀ i : Nat, i < d.length → (rd_L1 d (i : Int)).length ≤ 100) :
  ∀ (n m : Nat), m ≤ d.length → d.length - m = n → OS d m (ordN h d m) → Ev (fun k => swageref27_Order.l0 k d h (ordN h d m).2) (ordN h d d.length).2 := by
 intro n
 induction n with
 | zero =>
  intro m hm hn hs
  obtain rfl : m = d.length := by omega
  have := hs.l2
  refine ⟨1, fun k hk => ?_⟩
  obtain ⟨k, rfl⟩ : ∃ m, k = m + 1 := ⟨k - 1, by omega⟩
  simp only [swageref27_Order.l0]
  rw [if_neg (by omega)]
 | succ n ih =>
  intro m hm hn hs
  have h1 := ih (m + 1) (by omega) (by omega) (hs.step hd (by omega))
  have hsl := hs.l2
  obtain ⟨K, hK⟩ := rorder_l1 d h hd hlen hh hrow hs (by omega) _ h1 _ 0 (Nat.zero_le _) rfl
  refine ⟨K + 1, fun k hk => ?_⟩
  obtain ⟨k, rfl⟩ : ∃ m, k = m + 1 := ⟨k - 1, by omega⟩
  have hK' := hK k (by omega)
  simp only [swageref27_Order.l0]
  rw [if_pos (by omega)]
  exact hK'
theorem rorder (l : List S37) (hl : l.length ≤ 100) (hs : ∀ x ∈ l, x.f5.length ≤ 1000) : Ev (fun k => swageref27_Order.f k l) (zCG l) := by
 have hdl := zBF l
 have hH := zCC l (by omega)
 refine Ev.bind (rdeps l (by omega) hs) ?_
 refine Ev.bind (rheights l hl hs) ?_
 refine rorder_l0 (zAX l) (zBJ l) (zBU l) (by omega) (by rw [hH.len, hdl]) (fun i hi => ?_) _ 0 (Nat.zero_le _) rfl (OS.zero _ _)
 rw [zBZ l i (by omega)]
 have := zBQ l i i
 omega
end Go.Proofs.Ytphmlkbmnmicpaa.A
namespace Go.Proofs.Ytphmlkbmnmicpaa.A
open Go.RowKit Go.Proofs.YtphmlkbmnmicpaaW.PrintWords Go.Proofs.YtphmlkbmnmicpaaW.PrintLast Go.Proofs.YtphmlkbmnmicpaaW.PrintMore
attribute [local go_sem] max2_int zBH max_two zBL zBB zBA zBI zBG   -- for this text's walks alone
mutual
def swageref14_Copy.l0 : Nat → Int → Int → List (S29) → Int → List (S29) → Option (Int × (List (S29)))
 | 0, _, _, _, _, _ => none
 | k + 1, x4, x204000, x204001, x206000, x206001 => if x4 < (x204001.length : Int) then (if 0 ≤ x4 then (swageref14_Copy.l1 k x4 0 x204000 x204001 x206000 x206001 ([] : List (S37)) ((zAQ x204001 x4).f1.f0) ((zAQ x204001 x4).f1.f1) ((zAQ x204001 x4).f1.f2) ((zAQ x204001 x4).f1.f3)) else (none)) else (some (x206000, x206001))
def swageref14_Copy.l1 : Nat → Int → Int → Int → List (S29) → Int → List (S29) → List (S37) → Int → Int → Int → Int → Option (Int × (List (S29)))
 | 0, _, _, _, _, _, _, _, _, _, _, _ => none
 | k + 1, x4, x6, x204000, x204001, x206000, x206001, x208000, x208001, x208002, x208003, x208004 => if 0 ≤ x4 then (if x4 < (x204001.length : Int) then (if x6 < (((zAQ x204001 x4).f0).length : Int) then (if 0 ≤ x6 then ((some (([] : List Int) : List Int)).bind fun y212 => (if y212.length + ((zAF ((zAQ x204001 x4).f0) x6).f5).length < 17592186044416 then (if x208000.length < 2199023255552 then (swageref14_Copy.l1 k x4 (wrap64 (x6 + 1)) x204000 x204001 x206000 x206001 (x208000 ++ [(⟨(zAF ((zAQ x204001 x4).f0) x6).f0, (zAF ((zAQ x204001 x4).f0) x6).f1, (zAF ((zAQ x204001 x4).f0) x6).f2, (zAF ((zAQ x204001 x4).f0) x6).f3, (zAF ((zAQ x204001 x4).f0) x6).f4, (y212 ++ ((zAF ((zAQ x204001 x4).f0) x6).f5))⟩ : S37)]) x208001 x208002 x208003 x208004) else (none)) else (none))) else (none)) else (if x206001.length < 2513169434916 then (swageref14_Copy.l0 k (wrap64 (x4 + 1)) x204000 x204001 x206000 (x206001 ++ [(⟨x208000, (⟨x208001, x208002, x208003, x208004⟩ : S27)⟩ : S29)])) else (none))) else (none)) else (none)
end
def swageref14_Copy.f (k : Nat) (a0_0 : Int) (l0_1 : List (S29)) : Option (Int × (List (S29))) := swageref14_Copy.l0 k 0 a0_0 l0_1 a0_0 ([] : List (S29))
set_option maxHeartbeats 8000000 in
set_option maxRecDepth 100000 in
theorem swageref14_Copy.calls (k : Nat) (a0_0 : Int) (A0_1 : Option Addr) (c0_1 : Nat) (l0_1 : List (S29)) (r1 : Int) (r2 : List (S29)) (w : World) (hr0_1 : Kd.C k29 w A0_1 l0_1.length l0_1) (hc0_1 : l0_1.length ≤ c0_1) (h : swageref14_Copy.f k a0_0 l0_1 = some (r1, r2)) :
  Calls Try.prog 10 #[.agg #[.int .i64 a0_0, .slice A0_1 l0_1.length c0_1]] w fun e w' => ∃ v1_ : Value, e = .returned (.agg #[.int .i64 r1, v1_]) ∧ Kd.R k29 29 w' w.heap.size (fun _ => True) v1_ r2 ∧ Below w.heap.size w w' := by
 have hu32 := Try.underlying32
 have hu27 := Try.underlying27
 have hu29 := Try.underlying29
 have hu37 := Try.underlying37
 have HR0_1 := Aside0.mk hr0_1
 have HC0_1 := Aside0.mk hc0_1
 clear hr0_1 hc0_1
 have HB := Aside0.mk (Below.refl w.heap.size w)
 have H : (swageref14_Copy.l0 k 0 a0_0 l0_1 a0_0 ([] : List (S29))) = some (r1, r2) := h
 clear h
 have H' := Aside0.mk H
 clear H
 go_enter Try.func10, Try.ntmps10
 go_wp2_with (first | ((with_reducible refine zAU (N := 1) rfl ?_); refine zAT ?hg (N := 1) ?hd (cs := #[.int .i64 a0_0, .slice A0_1 l0_1.length c0_1]) (t := 32) ?hr ?_; (case hd => rfl); (case hg => rfl); (case hr => first | (go_simp; done) | (go_simp; rfl)); intro gb203 hg w2 hbox hb; have n0_ := Aside0.mk (zAL (by repeat (first | (with_reducible first | exact HB.out | apply zAC | apply zAA | apply zAD) | exact HB.out)) hb); have n1_ := Aside0.mk (hbox); have n2_ := Aside0.mk ((by rw [hg]; exact (zAM (by repeat (first | (with_reducible first | exact HB.out | apply zAC | apply zAA | apply zAD) | exact HB.out))) : w.heap.size ≤ gb203)); have n3_ := Aside0.mk ((by rw [hg]; exact (zAM (by repeat (first | (with_reducible first | exact HB.out | apply zAC | apply zAA | apply zAD) | exact HB.out))) : w.heap.size ≤ gb203)); clear HB; have HB := n0_; have BK203 := n1_; have GW203 := n2_; have GE203 := n3_; clear n0_ n1_ n2_ n3_; clear hb hbox hg) | ((with_reducible refine zAU (N := 2) rfl ?_); refine zAT ?hg (N := 2) ?hd (cs := #[.int .i64 0, .slice none 0 0]) (t := 32) ?hr ?_; (case hd => rfl); (case hg => rfl); (case hr => first | (go_simp; done) | (go_simp; rfl)); intro gb204 hg w3 hbox hb; have n0_ := Aside0.mk (zAP (g := gb203) (o := .cells #[.int .i64 a0_0, .slice A0_1 l0_1.length c0_1] 32 (0, 0)) (by (with_reducible repeat (first | refine zAI ?_ _ | refine zAJ ?_ | refine zAG ?_ _)); exact BK203.out) hb); have n1_ := Aside0.mk (zAL (by repeat (first | (with_reducible first | exact HB.out | apply zAC | apply zAA | apply zAD | refine zAH ?_ GE203.out) | exact HB.out)) hb); have n2_ := Aside0.mk (hbox); have n3_ := Aside0.mk ((by rw [hg]; exact (zAM (by repeat (first | (with_reducible first | exact HB.out | apply zAC | apply zAA | apply zAD | refine zAH ?_ GE203.out) | exact HB.out))) : w.heap.size ≤ gb204)); have n4_ := Aside0.mk ((by rw [hg]; exact (zAM (by repeat (first | (with_reducible first | exact HB.out | apply zAC | apply zAA | apply zAD | refine zAH ?_ GE203.out) | exact HB.out))) : w.heap.size ≤ gb204)); have n5_ := Aside0.mk ((by rw [hg]; exact Nat.ne_of_lt (zBE (g := gb203) (o := .cells #[.int .i64 a0_0, .slice A0_1 l0_1.length c0_1] 32 (0, 0)) (by (with_reducible repeat (first | refine zAI ?_ _ | refine zAJ ?_ | refine zAG ?_ _)); exact BK203.out)) : gb203 ≠ gb204)); have n6_ := Aside0.mk ((by rw [hg]; exact Nat.ne_of_gt (zBE (g := gb203) (o := .cells #[.int .i64 a0_0, .slice A0_1 l0_1.length c0_1] 32 (0, 0)) (by (with_reducible repeat (first | refine zAI ?_ _ | refine zAJ ?_ | refine zAG ?_ _)); exact BK203.out)) : gb204 ≠ gb203)); clear BK203; clear HB; have BK203 := n0_; have HB := n1_; have BK204 := n2_; have GW204 := n3_; have GE204 := n4_; have NB203_204 := n5_; have NB204_203 := n6_; clear n0_ n1_ n2_ n3_ n4_ n5_ n6_; clear hb hbox hg; have hnb4 := NB203_204.out; have hnc4 := NB204_203.out; have hcz5_0 : w3.cell? ⟨gb203, 0, none⟩ = some (.int .i64 a0_0) := (zAE BK203.out 0).trans rfl; have hcz5_1 : w3.cell? ⟨gb203, 1, none⟩ = some (.slice A0_1 l0_1.length c0_1) := (zAE BK203.out 1).trans rfl; have hfz5_0 := zAB BK203.out 0; have hfz5_1 := zAB BK203.out 1) | ((with_reducible refine zAU (N := 3) rfl ?_); refine zAT ?hg (N := 3) ?hd (cs := #[.int .i64 0, .slice none 0 0]) (t := 32) ?hr ?_; (case hd => rfl); (case hg => rfl); (case hr => first | (go_simp; done) | (go_simp; rfl)); intro gb205 hg w6 hbox hb; have n0_ := Aside0.mk (zAP (g := gb203) (o := .cells #[.int .i64 a0_0, .slice A0_1 l0_1.length c0_1] 32 (0, 0)) (by (with_reducible repeat (first | refine zAI ?_ _ | refine zAJ ?_ | refine zAG ?_ _)); exact BK203.out) hb); have n1_ := Aside0.mk (zAP (g := gb204) (o := .cells #[.int .i64 0, .slice none 0 0] 32 (0, 0)) (by (with_reducible repeat (first | refine zAI ?_ _ | refine zAJ ?_ | refine zAG ?_ _)); exact BK204.out) hb); have n2_ := Aside0.mk (zAL (by repeat (first | (with_reducible first | exact HB.out | apply zAC | apply zAA | apply zAD | refine zAH ?_ GE203.out | refine zAH ?_ GE204.out) | exact HB.out)) hb); have n3_ := Aside0.mk (hbox); have n4_ := Aside0.mk ((by rw [hg]; exact (zAM (by repeat (first | (with_reducible first | exact HB.out | apply zAC | apply zAA | apply zAD | refine zAH ?_ GE203.out | refine zAH ?_ GE204.out) | exact HB.out))) : w.heap.size ≤ gb205)); have n5_ := Aside0.mk ((by rw [hg]; exact (zAM (by repeat (first | (with_reducible first | exact HB.out | apply zAC | apply zAA | apply zAD | refine zAH ?_ GE203.out | refine zAH ?_ GE204.out) | exact HB.out))) : w.heap.size ≤ gb205)); have n6_ := Aside0.mk ((by rw [hg]; exact Nat.ne_of_lt (zBE (g := gb203) (o := .cells #[.int .i64 a0_0, .slice A0_1 l0_1.length c0_1] 32 (0, 0)) (by (with_reducible repeat (first | refine zAI ?_ _ | refine zAJ ?_ | refine zAG ?_ _)); exact BK203.out)) : gb203 ≠ gb205)); have n7_ := Aside0.mk ((by rw [hg]; exact Nat.ne_of_gt (zBE (g := gb203) (o := .cells #[.int .i64 a0_0, .slice A0_1 l0_1.length c0_1] 32 (0, 0)) (by (with_reducible repeat (first | refine zAI ?_ _ | refine zAJ ?_ | refine zAG ?_ _)); exact BK203.out)) : gb205 ≠ gb203)); have n8_ := Aside0.mk ((by rw [hg]; exact Nat.ne_of_lt (zBE (g := gb204) (o := .cells #[.int .i64 0, .slice none 0 0] 32 (0, 0)) (by (with_reducible repeat (first | refine zAI ?_ _ | refine zAJ ?_ | refine zAG ?_ _)); exact BK204.out)) : gb204 ≠ gb205)); have n9_ := Aside0.mk ((by rw [hg]; exact Nat.ne_of_gt (zBE (g := gb204) (o := .cells #[.int .i64 0, .slice none 0 0] 32 (0, 0)) (by (with_reducible repeat (first | refine zAI ?_ _ | refine zAJ ?_ | refine zAG ?_ _)); exact BK204.out)) : gb205 ≠ gb204)); clear BK203; clear BK204; clear HB; have BK203 := n0_; have BK204 := n1_; have HB := n2_; have BK205 := n3_; have GW205 := n4_; have GE205 := n5_; have NB203_205 := n6_; have NB205_203 := n7_; have NB204_205 := n8_; have NB205_204 := n9_; clear n0_ n1_ n2_ n3_ n4_ n5_ n6_ n7_ n8_ n9_; clear hb hbox hg; have hnb7 := NB205_203.out; have hnc7 := NB203_205.out; have hnb8 := NB205_204.out; have hnc8 := NB204_205.out; have hcz9_0 : w6.cell? ⟨gb205, 0, none⟩ = some (.int .i64 0) := (zAE BK205.out 0).trans rfl; have hcz9_1 : w6.cell? ⟨gb205, 1, none⟩ = some (.slice none 0 0) := (zAE BK205.out 1).trans rfl; have hfz9_0 := zAB BK205.out 0; have hfz9_1 := zAB BK205.out 1))
 go_loopg [4] k (fun kq v4 w' => ∃ (x4_1 : Int) (x206001_1 : List (S29)) (u206001 : Value), v4 = .int .i64 x4_1 ∧ Aside0 (swageref14_Copy.l0 kq x4_1 a0_0 l0_1 a0_0 x206001_1 = some (r1, r2)) ∧ Aside0 (kq ≤ k) ∧ Aside0 (Kd.R k29 29 w' w.heap.size (fun _ => True) u206001 x206001_1) ∧ Aside0 (w'.heap[gb203]? = some (.cells #[.int .i64 a0_0, (.slice A0_1 l0_1.length c0_1)] 32 (0, 0))) ∧ Aside0 (w'.heap[gb204]? = some (.cells #[.int .i64 0, (.slice none 0 0)] 32 (0, 0))) ∧ Aside0 (w'.heap[gb205]? = some (.cells #[.int .i64 a0_0, u206001] 32 (0, 0))) ∧ Aside0 (Below w.heap.size w w'))
 case atStart => exact ⟨(0), (([] : List (S29))), (.slice none 0 0), (by first | rfl | (simp; done) | (simp [*]; done)), H', ⟨Nat.le_refl _⟩, ⟨by first | exact Kd.R_nil _ _ _ _ _ | exact Kd.N_nil _ _ _ _ _ | exact Kd.V_nil _ _ _ _ _ | exact Kd.Q_nil _ _ _ _ _ | exact Kd.S_nil _ _ _ _ _⟩, ⟨by (with_reducible repeat (first | refine zAI ?_ _ | refine zAJ ?_ | refine zAG ?_ _)); refine zAS ?_ NB203_205.out _; (with_reducible repeat (first | refine zAI ?_ _ | refine zAJ ?_ | refine zAG ?_ _)); refine zAS ?_ NB203_205.out _; (with_reducible repeat (first | refine zAI ?_ _ | refine zAJ ?_ | refine zAG ?_ _)); exact BK203.out⟩, ⟨by (with_reducible repeat (first | refine zAI ?_ _ | refine zAJ ?_ | refine zAG ?_ _)); refine zAS ?_ NB204_205.out _; (with_reducible repeat (first | refine zAI ?_ _ | refine zAJ ?_ | refine zAG ?_ _)); refine zAS ?_ NB204_205.out _; (with_reducible repeat (first | refine zAI ?_ _ | refine zAJ ?_ | refine zAG ?_ _)); exact BK204.out⟩, ⟨by (with_reducible repeat (first | refine zAI ?_ _ | refine zAJ ?_ | refine zAG ?_ _)); refine zAR (cs := #[.int .i64 a0_0, .slice none 0 0]) ?_ 1 _ rfl; (with_reducible repeat (first | refine zAI ?_ _ | refine zAJ ?_ | refine zAG ?_ _)); refine zAR (cs := #[.int .i64 0, .slice none 0 0]) ?_ 0 _ rfl; (with_reducible repeat (first | refine zAI ?_ _ | refine zAJ ?_ | refine zAG ?_ _)); exact BK205.out⟩, ⟨by repeat (first | (with_reducible first | exact HB.out | apply zAC | apply zAA | apply zAD | refine zAH ?_ GE203.out | refine zAH ?_ GE204.out | refine zAH ?_ GE205.out) | exact HB.out)⟩⟩
 case round =>
  clear H'
  (try clear c1); (try clear p2); (try clear c4); (try clear c7); (try clear c8); (try clear hcz5_0); (try clear hcz5_1); (try clear hcz9_0); (try clear hcz9_1); (try clear hfz5_0); (try clear hfz5_1); (try clear hfz9_0); (try clear hfz9_1)
  obtain ⟨x4_1, x206001_1, u206001, rfl, HA, HK1, HO_206001, BK203, BK204, BK205, HB⟩ := hrel
  cases gk with
  | zero => exact absurd HA.out (by simp [swageref14_Copy.l0])
  | succ k1 =>
   have H := HA.out
   clear HA
   simp only [swageref14_Copy.l0] at H
   by_cases c10 : x4_1 < (l0_1.length : Int)
   ·rw [if_pos c10] at H
    have c10b0 : decide (x4_1 < (l0_1.length : Int)) = true := decide_eq_true c10
    clear c10
    by_cases c11 : 0 ≤ x4_1
    ·rw [if_pos c11] at H
     have c11b0 : decide (0 ≤ x4_1) = true := decide_eq_true c11
     clear c11
     have H' := Aside0.mk H
     clear H
     have hnb12 := NB203_204.out
     have hnc12 := NB204_203.out
     have hnb13 := NB203_205.out
     have hnc13 := NB205_203.out
     have hcz14_0 : wr.cell? ⟨gb203, 0, none⟩ = some (.int .i64 a0_0) := (zAE BK203.out 0).trans rfl
     have hcz14_1 : wr.cell? ⟨gb203, 1, none⟩ = some (.slice A0_1 l0_1.length c0_1) := (zAE BK203.out 1).trans rfl
     have hfz14_0 := zAB BK203.out 0
     have hfz14_1 := zAB BK203.out 1
     have p206 : 0 ≤ (x4_1 : Int) := of_decide_eq_true (by first | (with_reducible assumption) | assumption)
     have q206 : x4_1 < (l0_1.length : Int) := of_decide_eq_true (by first | (with_reducible assumption) | assumption)
     obtain ⟨ad206, A206_0, c206_0, e206, hx206_0, hx206_1, hx206_2, hx206_3, hx206_4, hl206_0, hi206_0⟩ := at_T29 HR0_1.out x4_1 p206 q206
     cases e206
     replace hx206_0 := (HB.out.cell (World.block_lt_of_cell? w _ hx206_0)).trans hx206_0
     replace hx206_1 := (HB.out.cell (World.block_lt_of_cell? w _ hx206_1)).trans hx206_1
     replace hx206_2 := (HB.out.cell (World.block_lt_of_cell? w _ hx206_2)).trans hx206_2
     replace hx206_3 := (HB.out.cell (World.block_lt_of_cell? w _ hx206_3)).trans hx206_3
     replace hx206_4 := (HB.out.cell (World.block_lt_of_cell? w _ hx206_4)).trans hx206_4
     have HR206_0 := Aside0.mk hi206_0
     have HC206_0 := Aside0.mk hl206_0
     clear hi206_0 hl206_0
     replace p206 := eq_true p206
     replace q206 := eq_true q206
     go_wp2_with (first | ((with_reducible refine zAU (N := 5) rfl ?_); refine zAT ?hg (N := 5) ?hd (cs := #[.slice none 0 0, .int .i64 0, .int .i64 0, .int .i64 0, .int .i64 0]) (t := 29) ?hr ?_; (case hd => rfl); (case hg => rfl); (case hr => first | (go_simp; done) | (go_simp; rfl)); intro gb207 hg w15 hbox hb; have n0_ := Aside0.mk (Kd.R_below (Kd.R_elderB (by (with_reducible repeat (first | apply Kd.R_alloc | apply Kd.R_drewN | apply Kd.R_drew)); exact HO_206001.out) gb207 (Nat.le_of_eq hg.symm)) hb); have n1_ := Aside0.mk (zAP (g := gb203) (o := .cells #[.int .i64 a0_0, .slice (some ad206) l0_1.length c0_1] 32 (0, 0)) (by (with_reducible repeat (first | refine zAI ?_ _ | refine zAJ ?_ | refine zAG ?_ _)); exact BK203.out) hb); have n2_ := Aside0.mk (zAP (g := gb204) (o := .cells #[.int .i64 0, .slice none 0 0] 32 (0, 0)) (by (with_reducible repeat (first | refine zAI ?_ _ | refine zAJ ?_ | refine zAG ?_ _)); exact BK204.out) hb); have n3_ := Aside0.mk (zAP (g := gb205) (o := .cells #[.int .i64 a0_0, u206001] 32 (0, 0)) (by (with_reducible repeat (first | refine zAI ?_ _ | refine zAJ ?_ | refine zAG ?_ _)); exact BK205.out) hb); have n4_ := Aside0.mk (zAL (by repeat (first | (with_reducible first | exact HB.out | apply zAC | apply zAA | apply zAD | refine zAH ?_ GE203.out | refine zAH ?_ GE204.out | refine zAH ?_ GE205.out) | exact HB.out)) hb); have n5_ := Aside0.mk (hbox); have n6_ := Aside0.mk ((by rw [hg]; exact (zAM (by repeat (first | (with_reducible first | exact HB.out | apply zAC | apply zAA | apply zAD | refine zAH ?_ GE203.out | refine zAH ?_ GE204.out | refine zAH ?_ GE205.out) | exact HB.out))) : w.heap.size ≤ gb207)); have n7_ := Aside0.mk ((by rw [hg]; exact (zAM (by repeat (first | (with_reducible first | exact HB.out | apply zAC | apply zAA | apply zAD | refine zAH ?_ GE203.out | refine zAH ?_ GE204.out | refine zAH ?_ GE205.out) | exact HB.out))) : w.heap.size ≤ gb207)); have n8_ := Aside0.mk ((by rw [hg]; exact Nat.ne_of_lt (zBE (g := gb203) (o := .cells #[.int .i64 a0_0, .slice (some ad206) l0_1.length c0_1] 32 (0, 0)) (by (with_reducible repeat (first | refine zAI ?_ _ | refine zAJ ?_ | refine zAG ?_ _)); exact BK203.out)) : gb203 ≠ gb207)); have n9_ := Aside0.mk ((by rw [hg]; exact Nat.ne_of_gt (zBE (g := gb203) (o := .cells #[.int .i64 a0_0, .slice (some ad206) l0_1.length c0_1] 32 (0, 0)) (by (with_reducible repeat (first | refine zAI ?_ _ | refine zAJ ?_ | refine zAG ?_ _)); exact BK203.out)) : gb207 ≠ gb203)); have n10_ := Aside0.mk ((by rw [hg]; exact Nat.ne_of_lt (zBE (g := gb204) (o := .cells #[.int .i64 0, .slice none 0 0] 32 (0, 0)) (by (with_reducible repeat (first | refine zAI ?_ _ | refine zAJ ?_ | refine zAG ?_ _)); exact BK204.out)) : gb204 ≠ gb207)); have n11_ := Aside0.mk ((by rw [hg]; exact Nat.ne_of_gt (zBE (g := gb204) (o := .cells #[.int .i64 0, .slice none 0 0] 32 (0, 0)) (by (with_reducible repeat (first | refine zAI ?_ _ | refine zAJ ?_ | refine zAG ?_ _)); exact BK204.out)) : gb207 ≠ gb204)); have n12_ := Aside0.mk ((by rw [hg]; exact Nat.ne_of_lt (zBE (g := gb205) (o := .cells #[.int .i64 a0_0, u206001] 32 (0, 0)) (by (with_reducible repeat (first | refine zAI ?_ _ | refine zAJ ?_ | refine zAG ?_ _)); exact BK205.out)) : gb205 ≠ gb207)); have n13_ := Aside0.mk ((by rw [hg]; exact Nat.ne_of_gt (zBE (g := gb205) (o := .cells #[.int .i64 a0_0, u206001] 32 (0, 0)) (by (with_reducible repeat (first | refine zAI ?_ _ | refine zAJ ?_ | refine zAG ?_ _)); exact BK205.out)) : gb207 ≠ gb205)); clear HO_206001; clear BK203; clear BK204; clear BK205; clear HB; have HO_206001 := n0_; have BK203 := n1_; have BK204 := n2_; have BK205 := n3_; have HB := n4_; have BK207 := n5_; have GW207 := n6_; have GE207 := n7_; have NB203_207 := n8_; have NB207_203 := n9_; have NB204_207 := n10_; have NB207_204 := n11_; have NB205_207 := n12_; have NB207_205 := n13_; clear n0_ n1_ n2_ n3_ n4_ n5_ n6_ n7_ n8_ n9_ n10_ n11_ n12_ n13_; clear hb hbox hg; have hnb16 := NB207_203.out; have hnc16 := NB203_207.out; have hnb17 := NB207_204.out; have hnc17 := NB204_207.out; have hnb18 := NB207_205.out; have hnc18 := NB205_207.out; have hcz19_0 : w15.cell? ⟨gb207, 0, none⟩ = some (.slice none 0 0) := (zAE BK207.out 0).trans rfl; have hcz19_1 : w15.cell? ⟨gb207, 1, none⟩ = some (.int .i64 0) := (zAE BK207.out 1).trans rfl; have hcz19_2 : w15.cell? ⟨gb207, 2, none⟩ = some (.int .i64 0) := (zAE BK207.out 2).trans rfl; have hcz19_3 : w15.cell? ⟨gb207, 3, none⟩ = some (.int .i64 0) := (zAE BK207.out 3).trans rfl; have hcz19_4 : w15.cell? ⟨gb207, 4, none⟩ = some (.int .i64 0) := (zAE BK207.out 4).trans rfl; have hfz19_0 := zAB BK207.out 0; have hfz19_1 := zAB BK207.out 1; have hfz19_2 := zAB BK207.out 2; have hfz19_3 := zAB BK207.out 3; have hfz19_4 := zAB BK207.out 4))
     go_loopg [6] k1 (fun kq v6 w' => ∃ (x6_2 : Int) (x208000_2 : List (S37)) (u208000 : Value), v6 = .int .i64 x6_2 ∧ Aside0 (swageref14_Copy.l1 kq x4_1 x6_2 a0_0 l0_1 a0_0 x206001_1 x208000_2 ((zAQ l0_1 x4_1).f1.f0) ((zAQ l0_1 x4_1).f1.f1) ((zAQ l0_1 x4_1).f1.f2) ((zAQ l0_1 x4_1).f1.f3) = some (r1, r2)) ∧ Aside0 (kq ≤ k1) ∧ Aside0 (Kd.R k29 29 w' w.heap.size (fun k_ => some k_ ≠ (u208000 : Value).ownBlock ∧ k_ ≠ gb207) u206001 x206001_1) ∧ Aside0 (Kd.S k37 37 w' w.heap.size (fun _ => True) u208000 x208000_2) ∧ Aside0 (w'.heap[gb203]? = some (.cells #[.int .i64 a0_0, (.slice (some ad206) l0_1.length c0_1)] 32 (0, 0))) ∧ Aside0 (w'.heap[gb204]? = some (.cells #[.int .i64 0, (.slice none 0 0)] 32 (0, 0))) ∧ Aside0 (w'.heap[gb205]? = some (.cells #[.int .i64 a0_0, u206001] 32 (0, 0))) ∧ Aside0 (w'.heap[gb207]? = some (.cells #[u208000, .int .i64 ((zAQ l0_1 x4_1).f1.f0), .int .i64 ((zAQ l0_1 x4_1).f1.f1), .int .i64 ((zAQ l0_1 x4_1).f1.f2), .int .i64 ((zAQ l0_1 x4_1).f1.f3)] 29 (0, 0))) ∧ Aside0 (Below w.heap.size w w'))
     case atStart => exact ⟨(0), (([] : List (S37))), (.slice none 0 0), (by first | rfl | (simp; done) | (simp [*]; done)), H', ⟨Nat.le_refl _⟩, ⟨by (with_reducible repeat (first | apply Kd.R_alloc | apply Kd.R_drewN | apply Kd.R_drew)); exact Kd.R_mono (Kd.R_far (p := ⟨gb207, 4, none⟩) (Kd.R_far (p := ⟨gb207, 3, none⟩) (Kd.R_far (p := ⟨gb207, 2, none⟩) (Kd.R_far (p := ⟨gb207, 1, none⟩) (Kd.R_far (p := ⟨gb207, 0, none⟩) (Kd.R_mono HO_206001.out (fun k_ hk => (⟨hk, hk.2⟩ : _ ∧ k_ ≠ gb207))) (fun _ hk => hk.2) (.slice none 0 0)) (fun _ hk => hk.2) (.int .i64 ((zAQ l0_1 x4_1).f1.f0))) (fun _ hk => hk.2) (.int .i64 ((zAQ l0_1 x4_1).f1.f1))) (fun _ hk => hk.2) (.int .i64 ((zAQ l0_1 x4_1).f1.f2))) (fun _ hk => hk.2) (.int .i64 ((zAQ l0_1 x4_1).f1.f3))) (fun _ hk => ⟨(by simp [Value.ownBlock]), hk.1.2⟩)⟩, ⟨by first | exact Kd.S_nil _ _ _ _ _ | exact Kd.N_nil _ _ _ _ _ | exact Kd.V_nil _ _ _ _ _ | exact Kd.Q_nil _ _ _ _ _ | exact Kd.R_nil _ _ _ _ _⟩, ⟨by (with_reducible repeat (first | refine zAI ?_ _ | refine zAJ ?_ | refine zAG ?_ _)); refine zAS ?_ NB203_207.out _; (with_reducible repeat (first | refine zAI ?_ _ | refine zAJ ?_ | refine zAG ?_ _)); refine zAS ?_ NB203_207.out _; (with_reducible repeat (first | refine zAI ?_ _ | refine zAJ ?_ | refine zAG ?_ _)); refine zAS ?_ NB203_207.out _; (with_reducible repeat (first | refine zAI ?_ _ | refine zAJ ?_ | refine zAG ?_ _)); refine zAS ?_ NB203_207.out _; (with_reducible repeat (first | refine zAI ?_ _ | refine zAJ ?_ | refine zAG ?_ _)); refine zAS ?_ NB203_207.out _; (with_reducible repeat (first | refine zAI ?_ _ | refine zAJ ?_ | refine zAG ?_ _)); exact BK203.out⟩, ⟨by (with_reducible repeat (first | refine zAI ?_ _ | refine zAJ ?_ | refine zAG ?_ _)); refine zAS ?_ NB204_207.out _; (with_reducible repeat (first | refine zAI ?_ _ | refine zAJ ?_ | refine zAG ?_ _)); refine zAS ?_ NB204_207.out _; (with_reducible repeat (first | refine zAI ?_ _ | refine zAJ ?_ | refine zAG ?_ _)); refine zAS ?_ NB204_207.out _; (with_reducible repeat (first | refine zAI ?_ _ | refine zAJ ?_ | refine zAG ?_ _)); refine zAS ?_ NB204_207.out _; (with_reducible repeat (first | refine zAI ?_ _ | refine zAJ ?_ | refine zAG ?_ _)); refine zAS ?_ NB204_207.out _; (with_reducible repeat (first | refine zAI ?_ _ | refine zAJ ?_ | refine zAG ?_ _)); exact BK204.out⟩, ⟨by (with_reducible repeat (first | refine zAI ?_ _ | refine zAJ ?_ | refine zAG ?_ _)); refine zAS ?_ NB205_207.out _; (with_reducible repeat (first | refine zAI ?_ _ | refine zAJ ?_ | refine zAG ?_ _)); refine zAS ?_ NB205_207.out _; (with_reducible repeat (first | refine zAI ?_ _ | refine zAJ ?_ | refine zAG ?_ _)); refine zAS ?_ NB205_207.out _; (with_reducible repeat (first | refine zAI ?_ _ | refine zAJ ?_ | refine zAG ?_ _)); refine zAS ?_ NB205_207.out _; (with_reducible repeat (first | refine zAI ?_ _ | refine zAJ ?_ | refine zAG ?_ _)); refine zAS ?_ NB205_207.out _; (with_reducible repeat (first | refine zAI ?_ _ | refine zAJ ?_ | refine zAG ?_ _)); exact BK205.out⟩, ⟨by (with_reducible repeat (first | refine zAI ?_ _ | refine zAJ ?_ | refine zAG ?_ _)); refine zAR (cs := #[.slice none 0 0, .int .i64 ((zAQ l0_1 x4_1).f1.f0), .int .i64 ((zAQ l0_1 x4_1).f1.f1), .int .i64 ((zAQ l0_1 x4_1).f1.f2), .int .i64 0]) ?_ 4 _ rfl; (with_reducible repeat (first | refine zAI ?_ _ | refine zAJ ?_ | refine zAG ?_ _)); refine zAR (cs := #[.slice none 0 0, .int .i64 ((zAQ l0_1 x4_1).f1.f0), .int .i64 ((zAQ l0_1 x4_1).f1.f1), .int .i64 0, .int .i64 0]) ?_ 3 _ rfl; (with_reducible repeat (first | refine zAI ?_ _ | refine zAJ ?_ | refine zAG ?_ _)); refine zAR (cs := #[.slice none 0 0, .int .i64 ((zAQ l0_1 x4_1).f1.f0), .int .i64 0, .int .i64 0, .int .i64 0]) ?_ 2 _ rfl; (with_reducible repeat (first | refine zAI ?_ _ | refine zAJ ?_ | refine zAG ?_ _)); refine zAR (cs := #[.slice none 0 0, .int .i64 0, .int .i64 0, .int .i64 0, .int .i64 0]) ?_ 1 _ rfl; (with_reducible repeat (first | refine zAI ?_ _ | refine zAJ ?_ | refine zAG ?_ _)); refine zAR (cs := #[.slice none 0 0, .int .i64 0, .int .i64 0, .int .i64 0, .int .i64 0]) ?_ 0 _ rfl; (with_reducible repeat (first | refine zAI ?_ _ | refine zAJ ?_ | refine zAG ?_ _)); exact BK207.out⟩, ⟨by repeat (first | (with_reducible first | exact HB.out | apply zAC | apply zAA | apply zAD | refine zAH ?_ GE203.out | refine zAH ?_ GE204.out | refine zAH ?_ GE205.out | refine zAH ?_ GE207.out) | exact HB.out)⟩⟩
     case round =>
      clear H'
      (try clear c1); (try clear c2); (try clear p2); (try clear q2); (try clear hx2); (try clear c4); (try clear c7); (try clear c8); (try clear c10); (try clear c10b0); (try clear c11); (try clear c11b0); (try clear c12); (try clear c13); (try clear c16); (try clear c17); (try clear c18); (try clear hcz14_0); (try clear hcz14_1); (try clear hcz19_0); (try clear hcz19_1); (try clear hcz19_2); (try clear hcz19_3); (try clear hcz19_4); (try clear hcz5_0); (try clear hcz5_1); (try clear hcz9_0); (try clear hcz9_1); (try clear hfz14_0); (try clear hfz14_1); (try clear hfz19_0); (try clear hfz19_1); (try clear hfz19_2); (try clear hfz19_3); (try clear hfz19_4); (try clear hfz5_0); (try clear hfz5_1); (try clear hfz9_0); (try clear hfz9_1); (try clear hx206_0); (try clear hx206_1); (try clear hx206_2); (try clear hx206_3); (try clear hx206_4); (try clear p2); (try clear p206); (try clear q206)
      obtain ⟨x6_2, x208000_2, u208000, rfl, HA, HK2, HO_206001, HO_208000, BK203, BK204, BK205, BK207, HB⟩ := hrel
      cases gk with
      | zero => exact absurd HA.out (by simp [swageref14_Copy.l1])
      | succ k2 =>
       have H := HA.out
       clear HA
       simp only [swageref14_Copy.l1] at H
       by_cases c20 : 0 ≤ x4_1
       ·rw [if_pos c20] at H
        have c20b0 : decide (0 ≤ x4_1) = true := decide_eq_true c20
        clear c20
        by_cases c21 : x4_1 < (l0_1.length : Int)
        ·rw [if_pos c21] at H
         have c21b0 : decide (x4_1 < (l0_1.length : Int)) = true := decide_eq_true c21
         clear c21
         by_cases c22 : x6_2 < (((zAQ l0_1 x4_1).f0).length : Int)
         ·rw [if_pos c22] at H
          have c22b0 : decide (x6_2 < (((zAQ l0_1 x4_1).f0).length : Int)) = true := decide_eq_true c22
          clear c22
          by_cases c23 : 0 ≤ x6_2
          ·rw [if_pos c23] at H
           have c23b0 : decide (0 ≤ x6_2) = true := decide_eq_true c23
           clear c23
           obtain ⟨y212, hy212⟩ : ∃ y_ : List Int, y_ = (([] : List Int)) := ⟨_, rfl⟩
           replace H : (if y212.length + ((zAF ((zAQ l0_1 x4_1).f0) x6_2).f5).length < 17592186044416 then (if x208000_2.length < 2199023255552 then (swageref14_Copy.l1 k2 x4_1 (wrap64 (x6_2 + 1)) a0_0 l0_1 a0_0 x206001_1 (x208000_2 ++ [(⟨(zAF ((zAQ l0_1 x4_1).f0) x6_2).f0, (zAF ((zAQ l0_1 x4_1).f0) x6_2).f1, (zAF ((zAQ l0_1 x4_1).f0) x6_2).f2, (zAF ((zAQ l0_1 x4_1).f0) x6_2).f3, (zAF ((zAQ l0_1 x4_1).f0) x6_2).f4, (y212 ++ ((zAF ((zAQ l0_1 x4_1).f0) x6_2).f5))⟩ : S37)]) ((zAQ l0_1 x4_1).f1.f0) ((zAQ l0_1 x4_1).f1.f1) ((zAQ l0_1 x4_1).f1.f2) ((zAQ l0_1 x4_1).f1.f3)) else (none)) else (none)) = some (r1, r2) := by first | (rw [hy212]; with_reducible exact H) | (have H2_ := (Option.bind_some _ _).symm.trans H; rw [hy212]; with_reducible exact H2_) | (have H2_ := (Option.bind_some _ _).symm.trans H; with_reducible exact H2_) | with_reducible exact H | (rw [hy212]; exact H) | exact H
           have Ny212 := Aside0.mk hy212
           clear hy212
           by_cases c24 : y212.length + ((zAF ((zAQ l0_1 x4_1).f0) x6_2).f5).length < 17592186044416
           ·rw [if_pos c24] at H
            have LMc24 := Aside0.mk c24
            clear c24
            obtain ⟨y215, hy215⟩ : ∃ y_ : List Int, y_ = (y212 ++ ((zAF ((zAQ l0_1 x4_1).f0) x6_2).f5)) := ⟨_, rfl⟩
            replace H : (if x208000_2.length < 2199023255552 then (swageref14_Copy.l1 k2 x4_1 (wrap64 (x6_2 + 1)) a0_0 l0_1 a0_0 x206001_1 (x208000_2 ++ [(⟨(zAF ((zAQ l0_1 x4_1).f0) x6_2).f0, (zAF ((zAQ l0_1 x4_1).f0) x6_2).f1, (zAF ((zAQ l0_1 x4_1).f0) x6_2).f2, (zAF ((zAQ l0_1 x4_1).f0) x6_2).f3, (zAF ((zAQ l0_1 x4_1).f0) x6_2).f4, y215⟩ : S37)]) ((zAQ l0_1 x4_1).f1.f0) ((zAQ l0_1 x4_1).f1.f1) ((zAQ l0_1 x4_1).f1.f2) ((zAQ l0_1 x4_1).f1.f3)) else (none)) = some (r1, r2) := by first | (rw [hy215]; with_reducible exact H) | (have H2_ := (Option.bind_some _ _).symm.trans H; rw [hy215]; with_reducible exact H2_) | (have H2_ := (Option.bind_some _ _).symm.trans H; with_reducible exact H2_) | with_reducible exact H | (rw [hy215]; exact H) | exact H
            have Ny215 := Aside0.mk hy215
            clear hy215
            by_cases c25 : x208000_2.length < 2199023255552
            ·rw [if_pos c25] at H
             have LMc25 := Aside0.mk c25
             clear c25
             obtain ⟨y218, hy218⟩ : ∃ y_ : List (S37), y_ = (x208000_2 ++ [(⟨(zAF ((zAQ l0_1 x4_1).f0) x6_2).f0, (zAF ((zAQ l0_1 x4_1).f0) x6_2).f1, (zAF ((zAQ l0_1 x4_1).f0) x6_2).f2, (zAF ((zAQ l0_1 x4_1).f0) x6_2).f3, (zAF ((zAQ l0_1 x4_1).f0) x6_2).f4, y215⟩ : S37)]) := ⟨_, rfl⟩
             replace H : (swageref14_Copy.l1 k2 x4_1 (wrap64 (x6_2 + 1)) a0_0 l0_1 a0_0 x206001_1 y218 ((zAQ l0_1 x4_1).f1.f0) ((zAQ l0_1 x4_1).f1.f1) ((zAQ l0_1 x4_1).f1.f2) ((zAQ l0_1 x4_1).f1.f3)) = some (r1, r2) := by first | (rw [hy218]; with_reducible exact H) | (have H2_ := (Option.bind_some _ _).symm.trans H; rw [hy218]; with_reducible exact H2_) | (have H2_ := (Option.bind_some _ _).symm.trans H; with_reducible exact H2_) | with_reducible exact H | (rw [hy218]; exact H) | exact H
             have Ny218 := Aside0.mk hy218
             clear hy218
             have H' := Aside0.mk H
             clear H
             have hnb26 := NB203_204.out
             have hnc26 := NB204_203.out
             have hnb27 := NB203_205.out
             have hnc27 := NB205_203.out
             have hnb28 := NB203_207.out
             have hnc28 := NB207_203.out
             have hcz29_0 : wr.cell? ⟨gb203, 0, none⟩ = some (.int .i64 a0_0) := (zAE BK203.out 0).trans rfl
             have hcz29_1 : wr.cell? ⟨gb203, 1, none⟩ = some (.slice (some ad206) l0_1.length c0_1) := (zAE BK203.out 1).trans rfl
             have hfz29_0 := zAB BK203.out 0
             have hfz29_1 := zAB BK203.out 1
             have p208 : 0 ≤ (x4_1 : Int) := of_decide_eq_true (by first | (with_reducible assumption) | assumption)
             have q208 : x4_1 < (l0_1.length : Int) := of_decide_eq_true (by first | (with_reducible assumption) | assumption)
             obtain ⟨ad208, A208_0, c208_0, e208, hx208_0, hx208_1, hx208_2, hx208_3, hx208_4, hl208_0, hi208_0⟩ := at_T29 HR0_1.out x4_1 p208 q208
             obtain rfl : ad206 = ad208 := (by injection e208)
             replace hx208_0 := (HB.out.cell (World.block_lt_of_cell? w _ hx208_0)).trans hx208_0
             replace hx208_1 := (HB.out.cell (World.block_lt_of_cell? w _ hx208_1)).trans hx208_1
             replace hx208_2 := (HB.out.cell (World.block_lt_of_cell? w _ hx208_2)).trans hx208_2
             replace hx208_3 := (HB.out.cell (World.block_lt_of_cell? w _ hx208_3)).trans hx208_3
             replace hx208_4 := (HB.out.cell (World.block_lt_of_cell? w _ hx208_4)).trans hx208_4
             have HR208_0 := Aside0.mk hi208_0
             have HC208_0 := Aside0.mk hl208_0
             clear hi208_0 hl208_0
             replace p208 := eq_true p208
             replace q208 := eq_true q208
             have p209 : 0 ≤ (x4_1 : Int) := of_decide_eq_true (by first | (with_reducible assumption) | assumption)
             have q209 : x4_1 < (l0_1.length : Int) := of_decide_eq_true (by first | (with_reducible assumption) | assumption)
             obtain ⟨ad209, A209_0, c209_0, e209, hx209_0, hx209_1, hx209_2, hx209_3, hx209_4, hl209_0, hi209_0⟩ := at_T29 HR0_1.out x4_1 p209 q209
             obtain rfl : ad206 = ad209 := (by injection e209)
             replace hx209_0 := (HB.out.cell (World.block_lt_of_cell? w _ hx209_0)).trans hx209_0
             replace hx209_1 := (HB.out.cell (World.block_lt_of_cell? w _ hx209_1)).trans hx209_1
             replace hx209_2 := (HB.out.cell (World.block_lt_of_cell? w _ hx209_2)).trans hx209_2
             replace hx209_3 := (HB.out.cell (World.block_lt_of_cell? w _ hx209_3)).trans hx209_3
             replace hx209_4 := (HB.out.cell (World.block_lt_of_cell? w _ hx209_4)).trans hx209_4
             have HR209_0 := Aside0.mk hi209_0
             have HC209_0 := Aside0.mk hl209_0
             clear hi209_0 hl209_0
             replace p209 := eq_true p209
             replace q209 := eq_true q209
             have ea_ := Option.some.inj (hx208_0.symm.trans hx209_0)
             injection ea_ with ea_ en_ ec_
             subst ea_
             subst ec_
             clear en_
             have p210 : 0 ≤ (x6_2 : Int) := of_decide_eq_true (by first | (with_reducible assumption) | assumption)
             have q210 : x6_2 < (((zAQ l0_1 x4_1).f0).length : Int) := of_decide_eq_true (by first | (with_reducible assumption) | assumption)
             obtain ⟨ad210, A210_5, c210_5, e210, hx210_0, hx210_1, hx210_2, hx210_3, hx210_4, hx210_5, hl210_5, hi210_5⟩ := zBT HR209_0.out x6_2 p210 q210
             cases e210
             replace hx210_0 := (HB.out.cell (World.block_lt_of_cell? w _ hx210_0)).trans hx210_0
             replace hx210_1 := (HB.out.cell (World.block_lt_of_cell? w _ hx210_1)).trans hx210_1
             replace hx210_2 := (HB.out.cell (World.block_lt_of_cell? w _ hx210_2)).trans hx210_2
             replace hx210_3 := (HB.out.cell (World.block_lt_of_cell? w _ hx210_3)).trans hx210_3
             replace hx210_4 := (HB.out.cell (World.block_lt_of_cell? w _ hx210_4)).trans hx210_4
             replace hx210_5 := (HB.out.cell (World.block_lt_of_cell? w _ hx210_5)).trans hx210_5
             have HR210_5 := Aside0.mk hi210_5
             have HC210_5 := Aside0.mk hl210_5
             clear hi210_5 hl210_5
             replace p210 := eq_true p210
             replace q210 := eq_true q210
             go_wp2_with (first | ((with_reducible refine zAU (N := 7) rfl ?_); refine zAT ?hg (N := 7) ?hd (cs := #[.int .i64 0, .int .i64 0, .int .i64 0, .int .i64 0, .int .i64 0, .slice none 0 0]) (t := 37) ?hr ?_; (case hd => rfl); (case hg => rfl); (case hr => first | (go_simp; done) | (go_simp; rfl)); intro gb211 hg w30 hbox hb; have n0_ := Aside0.mk (Kd.R_below (Kd.R_elderB (by (with_reducible repeat (first | apply Kd.R_alloc | apply Kd.R_drewN | apply Kd.R_drew)); exact HO_206001.out) gb211 (Nat.le_of_eq hg.symm)) hb); have n1_ := Aside0.mk (Kd.S_below (Kd.S_elderB (by (with_reducible repeat (first | apply Kd.S_alloc | apply Kd.S_drewN | apply Kd.S_drew)); exact HO_208000.out) gb211 (Nat.le_of_eq hg.symm)) hb); have n2_ := Aside0.mk (zAP (g := gb203) (o := .cells #[.int .i64 a0_0, .slice (some ad206) l0_1.length c0_1] 32 (0, 0)) (by (with_reducible repeat (first | refine zAI ?_ _ | refine zAJ ?_ | refine zAG ?_ _)); exact BK203.out) hb); have n3_ := Aside0.mk (zAP (g := gb204) (o := .cells #[.int .i64 0, .slice none 0 0] 32 (0, 0)) (by (with_reducible repeat (first | refine zAI ?_ _ | refine zAJ ?_ | refine zAG ?_ _)); exact BK204.out) hb); have n4_ := Aside0.mk (zAP (g := gb205) (o := .cells #[.int .i64 a0_0, u206001] 32 (0, 0)) (by (with_reducible repeat (first | refine zAI ?_ _ | refine zAJ ?_ | refine zAG ?_ _)); exact BK205.out) hb); have n5_ := Aside0.mk (zAP (g := gb207) (o := .cells #[u208000, .int .i64 ((zAQ l0_1 x4_1).f1.f0), .int .i64 ((zAQ l0_1 x4_1).f1.f1), .int .i64 ((zAQ l0_1 x4_1).f1.f2), .int .i64 ((zAQ l0_1 x4_1).f1.f3)] 29 (0, 0)) (by (with_reducible repeat (first | refine zAI ?_ _ | refine zAJ ?_ | refine zAG ?_ _)); exact BK207.out) hb); have n6_ := Aside0.mk (zAL (by repeat (first | (with_reducible first | exact HB.out | apply zAC | apply zAA | apply zAD | refine zAH ?_ GE203.out | refine zAH ?_ GE204.out | refine zAH ?_ GE205.out | refine zAH ?_ GE207.out) | exact HB.out)) hb); have n7_ := Aside0.mk (hbox); have n8_ := Aside0.mk ((by rw [hg]; exact (zAM (by repeat (first | (with_reducible first | exact HB.out | apply zAC | apply zAA | apply zAD | refine zAH ?_ GE203.out | refine zAH ?_ GE204.out | refine zAH ?_ GE205.out | refine zAH ?_ GE207.out) | exact HB.out))) : w.heap.size ≤ gb211)); have n9_ := Aside0.mk ((by rw [hg]; exact (zAM (by repeat (first | (with_reducible first | exact HB.out | apply zAC | apply zAA | apply zAD | refine zAH ?_ GE203.out | refine zAH ?_ GE204.out | refine zAH ?_ GE205.out | refine zAH ?_ GE207.out) | exact HB.out))) : w.heap.size ≤ gb211)); have n10_ := Aside0.mk ((by rw [hg]; exact Nat.ne_of_lt (zBE (g := gb203) (o := .cells #[.int .i64 a0_0, .slice (some ad206) l0_1.length c0_1] 32 (0, 0)) (by (with_reducible repeat (first | refine zAI ?_ _ | refine zAJ ?_ | refine zAG ?_ _)); exact BK203.out)) : gb203 ≠ gb211)); have n11_ := Aside0.mk ((by rw [hg]; exact Nat.ne_of_gt (zBE (g := gb203) (o := .cells #[.int .i64 a0_0, .slice (some ad206) l0_1.length c0_1] 32 (0, 0)) (by (with_reducible repeat (first | refine zAI ?_ _ | refine zAJ ?_ | refine zAG ?_ _)); exact BK203.out)) : gb211 ≠ gb203)); have n12_ := Aside0.mk ((by rw [hg]; exact Nat.ne_of_lt (zBE (g := gb204) (o := .cells #[.int .i64 0, .slice none 0 0] 32 (0, 0)) (by (with_reducible repeat (first | refine zAI ?_ _ | refine zAJ ?_ | refine zAG ?_ _)); exact BK204.out)) : gb204 ≠ gb211)); have n13_ := Aside0.mk ((by rw [hg]; exact Nat.ne_of_gt (zBE (g := gb204) (o := .cells #[.int .i64 0, .slice none 0 0] 32 (0, 0)) (by (with_reducible repeat (first | refine zAI ?_ _ | refine zAJ ?_ | refine zAG ?_ _)); exact BK204.out)) : gb211 ≠ gb204)); have n14_ := Aside0.mk ((by rw [hg]; exact Nat.ne_of_lt (zBE (g := gb205) (o := .cells #[.int .i64 a0_0, u206001] 32 (0, 0)) (by (with_reducible repeat (first | refine zAI ?_ _ | refine zAJ ?_ | refine zAG ?_ _)); exact BK205.out)) : gb205 ≠ gb211)); have n15_ := Aside0.mk ((by rw [hg]; exact Nat.ne_of_gt (zBE (g := gb205) (o := .cells #[.int .i64 a0_0, u206001] 32 (0, 0)) (by (with_reducible repeat (first | refine zAI ?_ _ | refine zAJ ?_ | refine zAG ?_ _)); exact BK205.out)) : gb211 ≠ gb205)); have n16_ := Aside0.mk ((by rw [hg]; exact Nat.ne_of_lt (zBE (g := gb207) (o := .cells #[u208000, .int .i64 ((zAQ l0_1 x4_1).f1.f0), .int .i64 ((zAQ l0_1 x4_1).f1.f1), .int .i64 ((zAQ l0_1 x4_1).f1.f2), .int .i64 ((zAQ l0_1 x4_1).f1.f3)] 29 (0, 0)) (by (with_reducible repeat (first | refine zAI ?_ _ | refine zAJ ?_ | refine zAG ?_ _)); exact BK207.out)) : gb207 ≠ gb211)); have n17_ := Aside0.mk ((by rw [hg]; exact Nat.ne_of_gt (zBE (g := gb207) (o := .cells #[u208000, .int .i64 ((zAQ l0_1 x4_1).f1.f0), .int .i64 ((zAQ l0_1 x4_1).f1.f1), .int .i64 ((zAQ l0_1 x4_1).f1.f2), .int .i64 ((zAQ l0_1 x4_1).f1.f3)] 29 (0, 0)) (by (with_reducible repeat (first | refine zAI ?_ _ | refine zAJ ?_ | refine zAG ?_ _)); exact BK207.out)) : gb211 ≠ gb207)); clear HO_206001; clear HO_208000; clear BK203; clear BK204; clear BK205; clear BK207; clear HB; have HO_206001 := n0_; have HO_208000 := n1_; have BK203 := n2_; have BK204 := n3_; have BK205 := n4_; have BK207 := n5_; have HB := n6_; have BK211 := n7_; have GW211 := n8_; have GE211 := n9_; have NB203_211 := n10_; have NB211_203 := n11_; have NB204_211 := n12_; have NB211_204 := n13_; have NB205_211 := n14_; have NB211_205 := n15_; have NB207_211 := n16_; have NB211_207 := n17_; clear n0_ n1_ n2_ n3_ n4_ n5_ n6_ n7_ n8_ n9_ n10_ n11_ n12_ n13_ n14_ n15_ n16_ n17_; clear hb hbox hg; have hnb31 := NB211_203.out; have hnc31 := NB203_211.out; have hnb32 := NB211_204.out; have hnc32 := NB204_211.out; have hnb33 := NB211_205.out; have hnc33 := NB205_211.out; have hnb34 := NB211_207.out; have hnc34 := NB207_211.out; have hcz35_0 : w30.cell? ⟨gb211, 0, none⟩ = some (.int .i64 0) := (zAE BK211.out 0).trans rfl; have hcz35_1 : w30.cell? ⟨gb211, 1, none⟩ = some (.int .i64 0) := (zAE BK211.out 1).trans rfl; have hcz35_2 : w30.cell? ⟨gb211, 2, none⟩ = some (.int .i64 0) := (zAE BK211.out 2).trans rfl; have hcz35_3 : w30.cell? ⟨gb211, 3, none⟩ = some (.int .i64 0) := (zAE BK211.out 3).trans rfl; have hcz35_4 : w30.cell? ⟨gb211, 4, none⟩ = some (.int .i64 0) := (zAE BK211.out 4).trans rfl; have hcz35_5 : w30.cell? ⟨gb211, 5, none⟩ = some (.slice none 0 0) := (zAE BK211.out 5).trans rfl; have hfz35_0 := zAB BK211.out 0; have hfz35_1 := zAB BK211.out 1; have hfz35_2 := zAB BK211.out 2; have hfz35_3 := zAB BK211.out 3; have hfz35_4 := zAB BK211.out 4; have hfz35_5 := zAB BK211.out 5) | ((with_reducible refine zAU (N := 45) rfl ?_); refine Kd.R_lit (Kd.int .i64) _ 3 ?hg (N := 45) ?hd (xs := ([] : List Int)) (inner := []) (ok := fun _ => True) (okp := fun _ => True) ?hr ?hp (fun _ hk => hk) trivial (Below.refl _ _) (Nat.le_refl _) (by simp) ?_; (case hd => rfl); (case hg => rfl); (case hr => first | (go_simp; done) | (go_simp; rfl)); (case hp => exact (Reps.none _ _)); intro v213 w36 ho37 hb hg_ hnew_; clear hg_ hnew_; (first | rw [← Ny212.out] at ho37 | (simp only [Int.reduceToNat] at ho37; rw [← Ny212.out] at ho37)); have n0_ := Aside0.mk (Kd.R_elder' (by (with_reducible repeat (first | apply Kd.R_alloc | apply Kd.R_drewN | apply Kd.R_drew)); exact (Kd.R_mono (Kd.R_far (p := ⟨gb211, 5, none⟩) (Kd.R_far (p := ⟨gb211, 4, none⟩) (Kd.R_far (p := ⟨gb211, 3, none⟩) (Kd.R_far (p := ⟨gb211, 2, none⟩) (Kd.R_far (p := ⟨gb211, 1, none⟩) (Kd.R_far (p := ⟨gb211, 0, none⟩) (Kd.R_mono HO_206001.out (fun k_ hk => (⟨hk, hk.2⟩ : _ ∧ k_ ≠ gb211))) (fun _ hk => hk.2) (.int .i64 ((zAF ((zAQ l0_1 x4_1).f0) x6_2).f0))) (fun _ hk => hk.2) (.int .i64 ((zAF ((zAQ l0_1 x4_1).f0) x6_2).f1))) (fun _ hk => hk.2) (.int .i64 ((zAF ((zAQ l0_1 x4_1).f0) x6_2).f2))) (fun _ hk => hk.2) (.int .i64 ((zAF ((zAQ l0_1 x4_1).f0) x6_2).f3))) (fun _ hk => hk.2) (.int .i64 ((zAF ((zAQ l0_1 x4_1).f0) x6_2).f4))) (fun _ hk => hk.2) (.slice A210_5 ((zAF ((zAQ l0_1 x4_1).f0) x6_2).f5).length c210_5)) (fun _ h_ => h_.1))) (Kd.R_base ho37) hb); have n1_ := Aside0.mk (Kd.S_elder' (by (with_reducible repeat (first | apply Kd.S_alloc | apply Kd.S_drewN | apply Kd.S_drew)); exact (Kd.S_mono (Kd.S_far (p := ⟨gb211, 5, none⟩) (Kd.S_far (p := ⟨gb211, 4, none⟩) (Kd.S_far (p := ⟨gb211, 3, none⟩) (Kd.S_far (p := ⟨gb211, 2, none⟩) (Kd.S_far (p := ⟨gb211, 1, none⟩) (Kd.S_far (p := ⟨gb211, 0, none⟩) (Kd.S_mono HO_208000.out (fun k_ hk => (⟨hk, hk.2⟩ : _ ∧ k_ ≠ gb211))) (fun _ hk => hk.2) (.int .i64 ((zAF ((zAQ l0_1 x4_1).f0) x6_2).f0))) (fun _ hk => hk.2) (.int .i64 ((zAF ((zAQ l0_1 x4_1).f0) x6_2).f1))) (fun _ hk => hk.2) (.int .i64 ((zAF ((zAQ l0_1 x4_1).f0) x6_2).f2))) (fun _ hk => hk.2) (.int .i64 ((zAF ((zAQ l0_1 x4_1).f0) x6_2).f3))) (fun _ hk => hk.2) (.int .i64 ((zAF ((zAQ l0_1 x4_1).f0) x6_2).f4))) (fun _ hk => hk.2) (.slice A210_5 ((zAF ((zAQ l0_1 x4_1).f0) x6_2).f5).length c210_5)) (fun _ h_ => h_.1))) (Kd.R_base ho37) hb); have n2_ := Aside0.mk (Kd.R_lower ho37 (zAM (by repeat (first | (with_reducible first | exact HB.out | apply zAC | apply zAA | apply zAD | refine zAH ?_ GE203.out | refine zAH ?_ GE204.out | refine zAH ?_ GE205.out | refine zAH ?_ GE207.out | refine zAH ?_ GE211.out) | exact HB.out)))); have n3_ := Aside0.mk (zAP (g := gb203) (o := .cells #[.int .i64 a0_0, .slice (some ad206) l0_1.length c0_1] 32 (0, 0)) (by (with_reducible repeat (first | refine zAI ?_ _ | refine zAJ ?_ | refine zAG ?_ _)); refine zAS ?_ NB203_211.out _; (with_reducible repeat (first | refine zAI ?_ _ | refine zAJ ?_ | refine zAG ?_ _)); refine zAS ?_ NB203_211.out _; (with_reducible repeat (first | refine zAI ?_ _ | refine zAJ ?_ | refine zAG ?_ _)); refine zAS ?_ NB203_211.out _; (with_reducible repeat (first | refine zAI ?_ _ | refine zAJ ?_ | refine zAG ?_ _)); refine zAS ?_ NB203_211.out _; (with_reducible repeat (first | refine zAI ?_ _ | refine zAJ ?_ | refine zAG ?_ _)); refine zAS ?_ NB203_211.out _; (with_reducible repeat (first | refine zAI ?_ _ | refine zAJ ?_ | refine zAG ?_ _)); refine zAS ?_ NB203_211.out _; (with_reducible repeat (first | refine zAI ?_ _ | refine zAJ ?_ | refine zAG ?_ _)); exact BK203.out) hb); have n4_ := Aside0.mk (zAP (g := gb204) (o := .cells #[.int .i64 0, .slice none 0 0] 32 (0, 0)) (by (with_reducible repeat (first | refine zAI ?_ _ | refine zAJ ?_ | refine zAG ?_ _)); refine zAS ?_ NB204_211.out _; (with_reducible repeat (first | refine zAI ?_ _ | refine zAJ ?_ | refine zAG ?_ _)); refine zAS ?_ NB204_211.out _; (with_reducible repeat (first | refine zAI ?_ _ | refine zAJ ?_ | refine zAG ?_ _)); refine zAS ?_ NB204_211.out _; (with_reducible repeat (first | refine zAI ?_ _ | refine zAJ ?_ | refine zAG ?_ _)); refine zAS ?_ NB204_211.out _; (with_reducible repeat (first | refine zAI ?_ _ | refine zAJ ?_ | refine zAG ?_ _)); refine zAS ?_ NB204_211.out _; (with_reducible repeat (first | refine zAI ?_ _ | refine zAJ ?_ | refine zAG ?_ _)); refine zAS ?_ NB204_211.out _; (with_reducible repeat (first | refine zAI ?_ _ | refine zAJ ?_ | refine zAG ?_ _)); exact BK204.out) hb); have n5_ := Aside0.mk (zAP (g := gb205) (o := .cells #[.int .i64 a0_0, u206001] 32 (0, 0)) (by (with_reducible repeat (first | refine zAI ?_ _ | refine zAJ ?_ | refine zAG ?_ _)); refine zAS ?_ NB205_211.out _; (with_reducible repeat (first | refine zAI ?_ _ | refine zAJ ?_ | refine zAG ?_ _)); refine zAS ?_ NB205_211.out _; (with_reducible repeat (first | refine zAI ?_ _ | refine zAJ ?_ | refine zAG ?_ _)); refine zAS ?_ NB205_211.out _; (with_reducible repeat (first | refine zAI ?_ _ | refine zAJ ?_ | refine zAG ?_ _)); refine zAS ?_ NB205_211.out _; (with_reducible repeat (first | refine zAI ?_ _ | refine zAJ ?_ | refine zAG ?_ _)); refine zAS ?_ NB205_211.out _; (with_reducible repeat (first | refine zAI ?_ _ | refine zAJ ?_ | refine zAG ?_ _)); refine zAS ?_ NB205_211.out _; (with_reducible repeat (first | refine zAI ?_ _ | refine zAJ ?_ | refine zAG ?_ _)); exact BK205.out) hb); have n6_ := Aside0.mk (zAP (g := gb207) (o := .cells #[u208000, .int .i64 ((zAQ l0_1 x4_1).f1.f0), .int .i64 ((zAQ l0_1 x4_1).f1.f1), .int .i64 ((zAQ l0_1 x4_1).f1.f2), .int .i64 ((zAQ l0_1 x4_1).f1.f3)] 29 (0, 0)) (by (with_reducible repeat (first | refine zAI ?_ _ | refine zAJ ?_ | refine zAG ?_ _)); refine zAS ?_ NB207_211.out _; (with_reducible repeat (first | refine zAI ?_ _ | refine zAJ ?_ | refine zAG ?_ _)); refine zAS ?_ NB207_211.out _; (with_reducible repeat (first | refine zAI ?_ _ | refine zAJ ?_ | refine zAG ?_ _)); refine zAS ?_ NB207_211.out _; (with_reducible repeat (first | refine zAI ?_ _ | refine zAJ ?_ | refine zAG ?_ _)); refine zAS ?_ NB207_211.out _; (with_reducible repeat (first | refine zAI ?_ _ | refine zAJ ?_ | refine zAG ?_ _)); refine zAS ?_ NB207_211.out _; (with_reducible repeat (first | refine zAI ?_ _ | refine zAJ ?_ | refine zAG ?_ _)); refine zAS ?_ NB207_211.out _; (with_reducible repeat (first | refine zAI ?_ _ | refine zAJ ?_ | refine zAG ?_ _)); exact BK207.out) hb); have n7_ := Aside0.mk (zAP (g := gb211) (o := .cells #[.int .i64 ((zAF ((zAQ l0_1 x4_1).f0) x6_2).f0), .int .i64 ((zAF ((zAQ l0_1 x4_1).f0) x6_2).f1), .int .i64 ((zAF ((zAQ l0_1 x4_1).f0) x6_2).f2), .int .i64 ((zAF ((zAQ l0_1 x4_1).f0) x6_2).f3), .int .i64 ((zAF ((zAQ l0_1 x4_1).f0) x6_2).f4), .slice A210_5 ((zAF ((zAQ l0_1 x4_1).f0) x6_2).f5).length c210_5] 37 (0, 0)) (by (with_reducible repeat (first | refine zAI ?_ _ | refine zAJ ?_ | refine zAG ?_ _)); refine zAR (cs := #[.int .i64 ((zAF ((zAQ l0_1 x4_1).f0) x6_2).f0), .int .i64 ((zAF ((zAQ l0_1 x4_1).f0) x6_2).f1), .int .i64 ((zAF ((zAQ l0_1 x4_1).f0) x6_2).f2), .int .i64 ((zAF ((zAQ l0_1 x4_1).f0) x6_2).f3), .int .i64 ((zAF ((zAQ l0_1 x4_1).f0) x6_2).f4), .slice none 0 0]) ?_ 5 _ rfl; (with_reducible repeat (first | refine zAI ?_ _ | refine zAJ ?_ | refine zAG ?_ _)); refine zAR (cs := #[.int .i64 ((zAF ((zAQ l0_1 x4_1).f0) x6_2).f0), .int .i64 ((zAF ((zAQ l0_1 x4_1).f0) x6_2).f1), .int .i64 ((zAF ((zAQ l0_1 x4_1).f0) x6_2).f2), .int .i64 ((zAF ((zAQ l0_1 x4_1).f0) x6_2).f3), .int .i64 0, .slice none 0 0]) ?_ 4 _ rfl; (with_reducible repeat (first | refine zAI ?_ _ | refine zAJ ?_ | refine zAG ?_ _)); refine zAR (cs := #[.int .i64 ((zAF ((zAQ l0_1 x4_1).f0) x6_2).f0), .int .i64 ((zAF ((zAQ l0_1 x4_1).f0) x6_2).f1), .int .i64 ((zAF ((zAQ l0_1 x4_1).f0) x6_2).f2), .int .i64 0, .int .i64 0, .slice none 0 0]) ?_ 3 _ rfl; (with_reducible repeat (first | refine zAI ?_ _ | refine zAJ ?_ | refine zAG ?_ _)); refine zAR (cs := #[.int .i64 ((zAF ((zAQ l0_1 x4_1).f0) x6_2).f0), .int .i64 ((zAF ((zAQ l0_1 x4_1).f0) x6_2).f1), .int .i64 0, .int .i64 0, .int .i64 0, .slice none 0 0]) ?_ 2 _ rfl; (with_reducible repeat (first | refine zAI ?_ _ | refine zAJ ?_ | refine zAG ?_ _)); refine zAR (cs := #[.int .i64 ((zAF ((zAQ l0_1 x4_1).f0) x6_2).f0), .int .i64 0, .int .i64 0, .int .i64 0, .int .i64 0, .slice none 0 0]) ?_ 1 _ rfl; (with_reducible repeat (first | refine zAI ?_ _ | refine zAJ ?_ | refine zAG ?_ _)); refine zAR (cs := #[.int .i64 0, .int .i64 0, .int .i64 0, .int .i64 0, .int .i64 0, .slice none 0 0]) ?_ 0 _ rfl; (with_reducible repeat (first | refine zAI ?_ _ | refine zAJ ?_ | refine zAG ?_ _)); exact BK211.out) hb); have n8_ := Aside0.mk (zAL (by repeat (first | (with_reducible first | exact HB.out | apply zAC | apply zAA | apply zAD | refine zAH ?_ GE203.out | refine zAH ?_ GE204.out | refine zAH ?_ GE205.out | refine zAH ?_ GE207.out | refine zAH ?_ GE211.out) | exact HB.out)) hb); clear HO_206001; clear HO_208000; clear BK203; clear BK204; clear BK205; clear BK207; clear BK211; clear HB; have HO_206001 := n0_; have HO_208000 := n1_; have HO214 := n2_; have BK203 := n3_; have BK204 := n4_; have BK205 := n5_; have BK207 := n6_; have BK211 := n7_; have HB := n8_; clear n0_ n1_ n2_ n3_ n4_ n5_ n6_ n7_ n8_; clear hb ho37; have hcz38_0 : w36.cell? ⟨gb211, 0, none⟩ = some (.int .i64 ((zAF ((zAQ l0_1 x4_1).f0) x6_2).f0)) := (zAE BK211.out 0).trans rfl; have hcz38_1 : w36.cell? ⟨gb211, 1, none⟩ = some (.int .i64 ((zAF ((zAQ l0_1 x4_1).f0) x6_2).f1)) := (zAE BK211.out 1).trans rfl; have hcz38_2 : w36.cell? ⟨gb211, 2, none⟩ = some (.int .i64 ((zAF ((zAQ l0_1 x4_1).f0) x6_2).f2)) := (zAE BK211.out 2).trans rfl; have hcz38_3 : w36.cell? ⟨gb211, 3, none⟩ = some (.int .i64 ((zAF ((zAQ l0_1 x4_1).f0) x6_2).f3)) := (zAE BK211.out 3).trans rfl; have hcz38_4 : w36.cell? ⟨gb211, 4, none⟩ = some (.int .i64 ((zAF ((zAQ l0_1 x4_1).f0) x6_2).f4)) := (zAE BK211.out 4).trans rfl; have hcz38_5 : w36.cell? ⟨gb211, 5, none⟩ = some (.slice A210_5 ((zAF ((zAQ l0_1 x4_1).f0) x6_2).f5).length c210_5) := (zAE BK211.out 5).trans rfl; have hfz38_0 := zAB BK211.out 0; have hfz38_1 := zAB BK211.out 1; have hfz38_2 := zAB BK211.out 2; have hfz38_3 := zAB BK211.out 3; have hfz38_4 := zAB BK211.out 4; have hfz38_5 := zAB BK211.out 5) | ((with_reducible refine zBK (b := .append) (xs := #[.tmp 45, .tmp 47]) rfl ?_); at_builtin; refine Kd.R_append_rows (Kd.int .i64) (w0 := w) w.heap.size rfl (.tmp 45) (.tmp 47) 23 3 (.int .i64 0) 8 rfl Try.underlying23 info3 rfl (by decide) (by omega) v213 y212 ((zAF ((zAQ l0_1 x4_1).f0) x6_2).f5) _ _ _ (fun _ => True) (fun _ => False) rfl rfl ?aO ?aR (fun _ _ h => h) (fun _ h => h.elim) ?aF ?aB ?aS ?aL ?_; (case aR => repeat (first | exact (Kd.C_below HR210_5.out HB.out) | (with_reducible refine Kd.C_alloc ?_ _) | (with_reducible refine Kd.C_drewN ?_ _) | (with_reducible refine Kd.C_drew ?_))); (case aB => exact (by repeat (first | (with_reducible first | exact HB.out | apply zAC | apply zAA | apply zAD | refine zAH ?_ GE203.out | refine zAH ?_ GE204.out | refine zAH ?_ GE205.out | refine zAH ?_ GE207.out | refine zAH ?_ GE211.out) | exact HB.out))); (case aF => exact (fun _ _ => trivial)); (case aO => exact (by (with_reducible repeat (first | apply Kd.R_alloc | apply Kd.R_drewN | apply Kd.R_drew)); exact HO214.out)); (case aS => exact (zAM (by repeat (first | (with_reducible first | exact HB.out | apply zAC | apply zAA | apply zAD | refine zAH ?_ GE203.out | refine zAH ?_ GE204.out | refine zAH ?_ GE205.out | refine zAH ?_ GE207.out | refine zAH ?_ GE211.out) | exact HB.out)))); (case aL => have := LMc24.out; omega); intro v216 w39 ho hb hg hat; rw [← Ny215.out] at ho; have n0_ := Aside0.mk (Kd.R_after (ok := (fun k_ => some k_ ≠ (u208000 : Value).ownBlock ∧ k_ ≠ gb207 ∧ k_ ≠ gb211)) (by (with_reducible repeat (first | apply Kd.R_alloc | apply Kd.R_drewN | apply Kd.R_drew)); exact Kd.R_mono HO_206001.out (fun _ hk => ⟨⟨hk.1.1.1, ⟨hk.1.1.2, hk.1.2⟩⟩, hk.2⟩)) hg hat); have n1_ := Aside0.mk (Kd.S_after (ok := (fun k_ => k_ ≠ gb211)) (by (with_reducible repeat (first | apply Kd.S_alloc | apply Kd.S_drewN | apply Kd.S_drew)); exact Kd.S_mono HO_208000.out (fun _ hk => ⟨hk.1.2, hk.2⟩)) hg hat); have n2_ := Aside0.mk (zAW (g := gb203) (o := .cells #[.int .i64 a0_0, .slice (some ad206) l0_1.length c0_1] 32 (0, 0)) (by (with_reducible repeat (first | refine zAI ?_ _ | refine zAJ ?_ | refine zAG ?_ _)); exact BK203.out) hg (Kd.R_ne HO214.out BK203.out (by decide))); have n3_ := Aside0.mk (zAW (g := gb204) (o := .cells #[.int .i64 0, .slice none 0 0] 32 (0, 0)) (by (with_reducible repeat (first | refine zAI ?_ _ | refine zAJ ?_ | refine zAG ?_ _)); exact BK204.out) hg (Kd.R_ne HO214.out BK204.out (by decide))); have n4_ := Aside0.mk (zAW (g := gb205) (o := .cells #[.int .i64 a0_0, u206001] 32 (0, 0)) (by (with_reducible repeat (first | refine zAI ?_ _ | refine zAJ ?_ | refine zAG ?_ _)); exact BK205.out) hg (Kd.R_ne HO214.out BK205.out (by decide))); have n5_ := Aside0.mk (zAW (g := gb207) (o := .cells #[u208000, .int .i64 ((zAQ l0_1 x4_1).f1.f0), .int .i64 ((zAQ l0_1 x4_1).f1.f1), .int .i64 ((zAQ l0_1 x4_1).f1.f2), .int .i64 ((zAQ l0_1 x4_1).f1.f3)] 29 (0, 0)) (by (with_reducible repeat (first | refine zAI ?_ _ | refine zAJ ?_ | refine zAG ?_ _)); exact BK207.out) hg (Kd.R_ne HO214.out BK207.out (by decide))); have n6_ := Aside0.mk (zAW (g := gb211) (o := .cells #[.int .i64 ((zAF ((zAQ l0_1 x4_1).f0) x6_2).f0), .int .i64 ((zAF ((zAQ l0_1 x4_1).f0) x6_2).f1), .int .i64 ((zAF ((zAQ l0_1 x4_1).f0) x6_2).f2), .int .i64 ((zAF ((zAQ l0_1 x4_1).f0) x6_2).f3), .int .i64 ((zAF ((zAQ l0_1 x4_1).f0) x6_2).f4), .slice A210_5 ((zAF ((zAQ l0_1 x4_1).f0) x6_2).f5).length c210_5] 37 (0, 0)) (by (with_reducible repeat (first | refine zAI ?_ _ | refine zAJ ?_ | refine zAG ?_ _)); exact BK211.out) hg (Kd.R_ne HO214.out BK211.out (by decide))); have n7_ := Aside0.mk (hb); have n8_ := Aside0.mk (ho); clear HO_206001; clear HO_208000; clear BK203; clear BK204; clear BK205; clear BK207; clear BK211; clear HB; clear HO214; have HO_206001 := n0_; have HO_208000 := n1_; have BK203 := n2_; have BK204 := n3_; have BK205 := n4_; have BK207 := n5_; have BK211 := n6_; have HB := n7_; have HO217 := n8_; clear n0_ n1_ n2_ n3_ n4_ n5_ n6_ n7_ n8_; clear ho hb hg hat; obtain ⟨Ao40, co40, eo40⟩ := Kd.R_slice HO217.out; subst eo40; have hcz41_0 : w39.cell? ⟨gb211, 0, none⟩ = some (.int .i64 ((zAF ((zAQ l0_1 x4_1).f0) x6_2).f0)) := (zAE BK211.out 0).trans rfl; have hcz41_1 : w39.cell? ⟨gb211, 1, none⟩ = some (.int .i64 ((zAF ((zAQ l0_1 x4_1).f0) x6_2).f1)) := (zAE BK211.out 1).trans rfl; have hcz41_2 : w39.cell? ⟨gb211, 2, none⟩ = some (.int .i64 ((zAF ((zAQ l0_1 x4_1).f0) x6_2).f2)) := (zAE BK211.out 2).trans rfl; have hcz41_3 : w39.cell? ⟨gb211, 3, none⟩ = some (.int .i64 ((zAF ((zAQ l0_1 x4_1).f0) x6_2).f3)) := (zAE BK211.out 3).trans rfl; have hcz41_4 : w39.cell? ⟨gb211, 4, none⟩ = some (.int .i64 ((zAF ((zAQ l0_1 x4_1).f0) x6_2).f4)) := (zAE BK211.out 4).trans rfl; have hcz41_5 : w39.cell? ⟨gb211, 5, none⟩ = some (.slice A210_5 ((zAF ((zAQ l0_1 x4_1).f0) x6_2).f5).length c210_5) := (zAE BK211.out 5).trans rfl; have hfz41_0 := zAB BK211.out 0; have hfz41_1 := zAB BK211.out 1; have hfz41_2 := zAB BK211.out 2; have hfz41_3 := zAB BK211.out 3; have hfz41_4 := zAB BK211.out 4; have hfz41_5 := zAB BK211.out 5) | ((with_reducible refine gate_store (t := 23) (p := 49) rfl ?_); refine store_event (t := 23) (p := 49) (v := ?vo_w42) (w1 := (w39.setCell ⟨gb211, 5, none⟩ (.slice Ao40 y215.length co40))) ?hg ?ho ?hn ?hr ?_; (case ho => rfl); (case hg => rfl); (case hn => rfl); (case hr => first | (go_simp; done) | (go_simp; rfl)); intro w42 hw; have n0_ : Aside0 (Kd.R k29 29 w42 w.heap.size (fun k_ => some k_ ≠ (u208000 : Value).ownBlock ∧ some k_ ≠ (.slice Ao40 y215.length co40 : Value).ownBlock ∧ k_ ≠ gb207 ∧ k_ ≠ gb211) u206001 x206001_1) := ⟨(by rw [hw]; exact (by (with_reducible repeat (first | apply Kd.R_alloc | apply Kd.R_drewN | apply Kd.R_drew)); exact Kd.R_mono (Kd.R_far (p := ⟨gb211, 5, none⟩) (Kd.R_mono HO_206001.out (fun k_ hk => (⟨hk, hk.1.2.2⟩ : _ ∧ k_ ≠ gb211))) (fun _ hk => hk.2) (.slice Ao40 y215.length co40)) (fun _ hk => ⟨hk.1.1.1, ⟨hk.1.2, ⟨hk.1.1.2.1, hk.1.1.2.2⟩⟩⟩)))⟩; have n1_ : Aside0 (Kd.S k37 37 w42 w.heap.size (fun k_ => some k_ ≠ (.slice Ao40 y215.length co40 : Value).ownBlock ∧ k_ ≠ gb211) u208000 x208000_2) := ⟨(by rw [hw]; exact (by (with_reducible repeat (first | apply Kd.S_alloc | apply Kd.S_drewN | apply Kd.S_drew)); exact Kd.S_mono (Kd.S_far (p := ⟨gb211, 5, none⟩) (Kd.S_mono HO_208000.out (fun k_ hk => (⟨hk, hk.1⟩ : _ ∧ k_ ≠ gb211))) (fun _ hk => hk.2) (.slice Ao40 y215.length co40)) (fun _ hk => ⟨hk.1.2, hk.1.1⟩)))⟩; have n2_ : Aside0 (Kd.R (Kd.int .i64) 3 w42 w.heap.size (fun _ => True) (.slice Ao40 y215.length co40) y215) := ⟨(by rw [hw]; exact (by (with_reducible repeat (first | apply Kd.R_alloc | apply Kd.R_drewN | apply Kd.R_drew)); exact Kd.R_mono (Kd.R_far (p := ⟨gb211, 5, none⟩) (Kd.R_types HO217.out BK211.out (by decide)) (fun _ hk => hk.2) (.slice Ao40 y215.length co40)) (fun _ hk => trivial)))⟩; have n3_ : Aside0 (w42.heap[gb203]? = some (.cells #[.int .i64 a0_0, .slice (some ad206) l0_1.length c0_1] 32 (0, 0))) := ⟨(by rw [hw]; exact (by (with_reducible repeat (first | refine zAI ?_ _ | refine zAJ ?_ | refine zAG ?_ _)); refine zAS ?_ NB203_211.out _; (with_reducible repeat (first | refine zAI ?_ _ | refine zAJ ?_ | refine zAG ?_ _)); exact BK203.out))⟩; have n4_ : Aside0 (w42.heap[gb204]? = some (.cells #[.int .i64 0, .slice none 0 0] 32 (0, 0))) := ⟨(by rw [hw]; exact (by (with_reducible repeat (first | refine zAI ?_ _ | refine zAJ ?_ | refine zAG ?_ _)); refine zAS ?_ NB204_211.out _; (with_reducible repeat (first | refine zAI ?_ _ | refine zAJ ?_ | refine zAG ?_ _)); exact BK204.out))⟩; have n5_ : Aside0 (w42.heap[gb205]? = some (.cells #[.int .i64 a0_0, u206001] 32 (0, 0))) := ⟨(by rw [hw]; exact (by (with_reducible repeat (first | refine zAI ?_ _ | refine zAJ ?_ | refine zAG ?_ _)); refine zAS ?_ NB205_211.out _; (with_reducible repeat (first | refine zAI ?_ _ | refine zAJ ?_ | refine zAG ?_ _)); exact BK205.out))⟩; have n6_ : Aside0 (w42.heap[gb207]? = some (.cells #[u208000, .int .i64 ((zAQ l0_1 x4_1).f1.f0), .int .i64 ((zAQ l0_1 x4_1).f1.f1), .int .i64 ((zAQ l0_1 x4_1).f1.f2), .int .i64 ((zAQ l0_1 x4_1).f1.f3)] 29 (0, 0))) := ⟨(by rw [hw]; exact (by (with_reducible repeat (first | refine zAI ?_ _ | refine zAJ ?_ | refine zAG ?_ _)); refine zAS ?_ NB207_211.out _; (with_reducible repeat (first | refine zAI ?_ _ | refine zAJ ?_ | refine zAG ?_ _)); exact BK207.out))⟩; have n7_ : Aside0 (w42.heap[gb211]? = some (.cells #[.int .i64 ((zAF ((zAQ l0_1 x4_1).f0) x6_2).f0), .int .i64 ((zAF ((zAQ l0_1 x4_1).f0) x6_2).f1), .int .i64 ((zAF ((zAQ l0_1 x4_1).f0) x6_2).f2), .int .i64 ((zAF ((zAQ l0_1 x4_1).f0) x6_2).f3), .int .i64 ((zAF ((zAQ l0_1 x4_1).f0) x6_2).f4), .slice Ao40 y215.length co40] 37 (0, 0))) := ⟨(by rw [hw]; exact (by (with_reducible repeat (first | refine zAI ?_ _ | refine zAJ ?_ | refine zAG ?_ _)); refine zAR (cs := #[.int .i64 ((zAF ((zAQ l0_1 x4_1).f0) x6_2).f0), .int .i64 ((zAF ((zAQ l0_1 x4_1).f0) x6_2).f1), .int .i64 ((zAF ((zAQ l0_1 x4_1).f0) x6_2).f2), .int .i64 ((zAF ((zAQ l0_1 x4_1).f0) x6_2).f3), .int .i64 ((zAF ((zAQ l0_1 x4_1).f0) x6_2).f4), .slice A210_5 ((zAF ((zAQ l0_1 x4_1).f0) x6_2).f5).length c210_5]) ?_ 5 _ rfl; (with_reducible repeat (first | refine zAI ?_ _ | refine zAJ ?_ | refine zAG ?_ _)); exact BK211.out))⟩; have n8_ : Aside0 (Below w.heap.size w w42) := ⟨(by rw [hw]; exact (by repeat (first | (with_reducible first | exact HB.out | apply zAC | apply zAA | apply zAD | refine zAH ?_ GE203.out | refine zAH ?_ GE204.out | refine zAH ?_ GE205.out | refine zAH ?_ GE207.out | refine zAH ?_ GE211.out) | exact HB.out)))⟩; clear hw; clear HO_206001; clear HO_208000; clear HO217; clear BK203; clear BK204; clear BK205; clear BK207; clear BK211; clear HB; have HO_206001 := n0_; have HO_208000 := n1_; have HO217 := n2_; have BK203 := n3_; have BK204 := n4_; have BK205 := n5_; have BK207 := n6_; have BK211 := n7_; have HB := n8_; clear n0_ n1_ n2_ n3_ n4_ n5_ n6_ n7_ n8_; have hnb43 := NB207_204.out; have hnc43 := NB204_207.out; have hnb44 := NB207_205.out; have hnc44 := NB205_207.out; have hcz45_0 : w42.cell? ⟨gb207, 0, none⟩ = some (u208000) := (zAE BK207.out 0).trans rfl; have hcz45_1 : w42.cell? ⟨gb207, 1, none⟩ = some (.int .i64 ((zAQ l0_1 x4_1).f1.f0)) := (zAE BK207.out 1).trans rfl; have hcz45_2 : w42.cell? ⟨gb207, 2, none⟩ = some (.int .i64 ((zAQ l0_1 x4_1).f1.f1)) := (zAE BK207.out 2).trans rfl; have hcz45_3 : w42.cell? ⟨gb207, 3, none⟩ = some (.int .i64 ((zAQ l0_1 x4_1).f1.f2)) := (zAE BK207.out 3).trans rfl; have hcz45_4 : w42.cell? ⟨gb207, 4, none⟩ = some (.int .i64 ((zAQ l0_1 x4_1).f1.f3)) := (zAE BK207.out 4).trans rfl; have hfz45_0 := zAB BK207.out 0; have hfz45_1 := zAB BK207.out 1; have hfz45_2 := zAB BK207.out 2; have hfz45_3 := zAB BK207.out 3; have hfz45_4 := zAB BK207.out 4; have hcz46_0 : w42.cell? ⟨gb211, 0, none⟩ = some (.int .i64 ((zAF ((zAQ l0_1 x4_1).f0) x6_2).f0)) := (zAE BK211.out 0).trans rfl; have hcz46_1 : w42.cell? ⟨gb211, 1, none⟩ = some (.int .i64 ((zAF ((zAQ l0_1 x4_1).f0) x6_2).f1)) := (zAE BK211.out 1).trans rfl; have hcz46_2 : w42.cell? ⟨gb211, 2, none⟩ = some (.int .i64 ((zAF ((zAQ l0_1 x4_1).f0) x6_2).f2)) := (zAE BK211.out 2).trans rfl; have hcz46_3 : w42.cell? ⟨gb211, 3, none⟩ = some (.int .i64 ((zAF ((zAQ l0_1 x4_1).f0) x6_2).f3)) := (zAE BK211.out 3).trans rfl; have hcz46_4 : w42.cell? ⟨gb211, 4, none⟩ = some (.int .i64 ((zAF ((zAQ l0_1 x4_1).f0) x6_2).f4)) := (zAE BK211.out 4).trans rfl; have hcz46_5 : w42.cell? ⟨gb211, 5, none⟩ = some (.slice Ao40 y215.length co40) := (zAE BK211.out 5).trans rfl; have hfz46_0 := zAB BK211.out 0; have hfz46_1 := zAB BK211.out 1; have hfz46_2 := zAB BK211.out 2; have hfz46_3 := zAB BK211.out 3; have hfz46_4 := zAB BK211.out 4; have hfz46_5 := zAB BK211.out 5) | ((with_reducible refine zBK (b := .append) (xs := #[.tmp 51, .tmp 53]) rfl ?_); at_builtin; refine Kd.S_append k37 (w0 := w) w.heap.size rfl (.tmp 51) (.tmp 53) 22 37 (.agg #[(.int .i64 0), (.int .i64 0), (.int .i64 0), (.int .i64 0), (.int .i64 0), (.slice none 0 0)]) 64 rfl Try.underlying22 info37 rfl (by decide) (by omega) u208000 x208000_2 (⟨(zAF ((zAQ l0_1 x4_1).f0) x6_2).f0, (zAF ((zAQ l0_1 x4_1).f0) x6_2).f1, (zAF ((zAQ l0_1 x4_1).f0) x6_2).f2, (zAF ((zAQ l0_1 x4_1).f0) x6_2).f3, (zAF ((zAQ l0_1 x4_1).f0) x6_2).f4, y215⟩ : S37) [.int .i64 ((zAF ((zAQ l0_1 x4_1).f0) x6_2).f0), .int .i64 ((zAF ((zAQ l0_1 x4_1).f0) x6_2).f1), .int .i64 ((zAF ((zAQ l0_1 x4_1).f0) x6_2).f2), .int .i64 ((zAF ((zAQ l0_1 x4_1).f0) x6_2).f3), .int .i64 ((zAF ((zAQ l0_1 x4_1).f0) x6_2).f4), .slice Ao40 y215.length co40] (fun k_ => k_ ≠ gb211) (fun k_ => some k_ = (.slice Ao40 y215.length co40 : Value).ownBlock) rfl rfl ?aP (fun k_ hk_ => ((Kd.R_mono (ok' := fun k_ => ((fun k_ => k_ ≠ gb211)) k_ ∧ some k_ ≠ (u208000 : Value).ownBlock) (Kd.R_types (Kd.R_apart' (HO217.out) (Kd.S_typed HO_208000.out) (by decide)) BK211.out (by decide)) (fun k_ hk => ⟨hk.2, hk.1.2⟩))).1 k_ hk_.symm) ?aF ?aO ?aB ?aS ?aL ?_; (case aP => exact k37_mkM _ _ _ (⟨(zAF ((zAQ l0_1 x4_1).f0) x6_2).f0, (zAF ((zAQ l0_1 x4_1).f0) x6_2).f1, (zAF ((zAQ l0_1 x4_1).f0) x6_2).f2, (zAF ((zAQ l0_1 x4_1).f0) x6_2).f3, (zAF ((zAQ l0_1 x4_1).f0) x6_2).f4, y215⟩ : S37) (Kd.R_mono (Kd.R_tight rfl (Kd.R_mono (ok' := fun k_ => ((fun k_ => k_ ≠ gb211)) k_ ∧ some k_ ≠ (u208000 : Value).ownBlock) (Kd.R_types (Kd.R_apart' (HO217.out) (Kd.S_typed HO_208000.out) (by decide)) BK211.out (by decide)) (fun k_ hk => ⟨hk.2, hk.1.2⟩))) (fun _ h_ => h_))); (case aB => exact (by repeat (first | (with_reducible first | exact HB.out | apply zAC | apply zAA | apply zAD | refine zAH ?_ GE203.out | refine zAH ?_ GE204.out | refine zAH ?_ GE205.out | refine zAH ?_ GE207.out | refine zAH ?_ GE211.out) | exact HB.out))); (case aF => exact (fun k_ hk => Kd.freshB (g := gb211) (o := .cells #[.int .i64 ((zAF ((zAQ l0_1 x4_1).f0) x6_2).f0), .int .i64 ((zAF ((zAQ l0_1 x4_1).f0) x6_2).f1), .int .i64 ((zAF ((zAQ l0_1 x4_1).f0) x6_2).f2), .int .i64 ((zAF ((zAQ l0_1 x4_1).f0) x6_2).f3), .int .i64 ((zAF ((zAQ l0_1 x4_1).f0) x6_2).f4), .slice Ao40 y215.length co40] 37 (0, 0)) (by (with_reducible repeat (first | refine zAI ?_ _ | refine zAJ ?_ | refine zAG ?_ _)); exact BK211.out) k_ hk)); (case aO => exact (by (with_reducible repeat (first | apply Kd.S_alloc | apply Kd.S_drewN | apply Kd.S_drew)); exact Kd.S_mono HO_208000.out (fun k_ hk => ⟨hk.2, fun e_ => hk.1 e_⟩))); (case aS => exact (zAM (by repeat (first | (with_reducible first | exact HB.out | apply zAC | apply zAA | apply zAD | refine zAH ?_ GE203.out | refine zAH ?_ GE204.out | refine zAH ?_ GE205.out | refine zAH ?_ GE207.out | refine zAH ?_ GE211.out) | exact HB.out)))); (case aL => have := LMc25.out; omega); intro v219 w47 ho hb hg hat; rw [← Ny218.out] at ho; have n0_ := Aside0.mk (Kd.R_after (ok := (fun k_ => some k_ ≠ (.slice Ao40 y215.length co40 : Value).ownBlock ∧ k_ ≠ gb207 ∧ k_ ≠ gb211)) (by (with_reducible repeat (first | apply Kd.R_alloc | apply Kd.R_drewN | apply Kd.R_drew)); exact Kd.R_mono HO_206001.out (fun _ hk => ⟨⟨hk.2.1, ⟨hk.2.2.1, hk.2.2.2⟩⟩, hk.1⟩)) hg hat); have n1_ := Aside0.mk (zAW (g := gb203) (o := .cells #[.int .i64 a0_0, .slice (some ad206) l0_1.length c0_1] 32 (0, 0)) (by (with_reducible repeat (first | refine zAI ?_ _ | refine zAJ ?_ | refine zAG ?_ _)); exact BK203.out) hg (Kd.S_ne HO_208000.out BK203.out (by decide))); have n2_ := Aside0.mk (zAW (g := gb204) (o := .cells #[.int .i64 0, .slice none 0 0] 32 (0, 0)) (by (with_reducible repeat (first | refine zAI ?_ _ | refine zAJ ?_ | refine zAG ?_ _)); exact BK204.out) hg (Kd.S_ne HO_208000.out BK204.out (by decide))); have n3_ := Aside0.mk (zAW (g := gb205) (o := .cells #[.int .i64 a0_0, u206001] 32 (0, 0)) (by (with_reducible repeat (first | refine zAI ?_ _ | refine zAJ ?_ | refine zAG ?_ _)); exact BK205.out) hg (Kd.S_ne HO_208000.out BK205.out (by decide))); have n4_ := Aside0.mk (zAW (g := gb207) (o := .cells #[u208000, .int .i64 ((zAQ l0_1 x4_1).f1.f0), .int .i64 ((zAQ l0_1 x4_1).f1.f1), .int .i64 ((zAQ l0_1 x4_1).f1.f2), .int .i64 ((zAQ l0_1 x4_1).f1.f3)] 29 (0, 0)) (by (with_reducible repeat (first | refine zAI ?_ _ | refine zAJ ?_ | refine zAG ?_ _)); exact BK207.out) hg (Kd.S_ne HO_208000.out BK207.out (by decide))); have n5_ := Aside0.mk (zAW (g := gb211) (o := .cells #[.int .i64 ((zAF ((zAQ l0_1 x4_1).f0) x6_2).f0), .int .i64 ((zAF ((zAQ l0_1 x4_1).f0) x6_2).f1), .int .i64 ((zAF ((zAQ l0_1 x4_1).f0) x6_2).f2), .int .i64 ((zAF ((zAQ l0_1 x4_1).f0) x6_2).f3), .int .i64 ((zAF ((zAQ l0_1 x4_1).f0) x6_2).f4), .slice Ao40 y215.length co40] 37 (0, 0)) (by (with_reducible repeat (first | refine zAI ?_ _ | refine zAJ ?_ | refine zAG ?_ _)); exact BK211.out) hg (Kd.S_away HO_208000.out (fun _ hk => hk.2))); have n6_ := Aside0.mk (hb); have n7_ := Aside0.mk (ho); clear HO_206001; clear BK203; clear BK204; clear BK205; clear BK207; clear BK211; clear HB; clear HO_208000; clear HO217; have HO_206001 := n0_; have BK203 := n1_; have BK204 := n2_; have BK205 := n3_; have BK207 := n4_; have BK211 := n5_; have HB := n6_; have HO220 := n7_; clear n0_ n1_ n2_ n3_ n4_ n5_ n6_ n7_; clear ho hb hg hat; obtain ⟨Ao48, co48, eo48⟩ := Kd.S_slice HO220.out; subst eo48; have hcz49_0 : w47.cell? ⟨gb207, 0, none⟩ = some (u208000) := (zAE BK207.out 0).trans rfl; have hcz49_1 : w47.cell? ⟨gb207, 1, none⟩ = some (.int .i64 ((zAQ l0_1 x4_1).f1.f0)) := (zAE BK207.out 1).trans rfl; have hcz49_2 : w47.cell? ⟨gb207, 2, none⟩ = some (.int .i64 ((zAQ l0_1 x4_1).f1.f1)) := (zAE BK207.out 2).trans rfl; have hcz49_3 : w47.cell? ⟨gb207, 3, none⟩ = some (.int .i64 ((zAQ l0_1 x4_1).f1.f2)) := (zAE BK207.out 3).trans rfl; have hcz49_4 : w47.cell? ⟨gb207, 4, none⟩ = some (.int .i64 ((zAQ l0_1 x4_1).f1.f3)) := (zAE BK207.out 4).trans rfl; have hfz49_0 := zAB BK207.out 0; have hfz49_1 := zAB BK207.out 1; have hfz49_2 := zAB BK207.out 2; have hfz49_3 := zAB BK207.out 3; have hfz49_4 := zAB BK207.out 4))
             go_roundg k2
             case measure => have := HK1.out; have := HK2.out; omega
             case rel => exact ⟨(wrap64 (x6_2 + 1)), (y218), (.slice Ao48 y218.length co48), (by first | rfl | (simp; done) | (simp [*]; done)), H', ⟨by have := HK1.out; have := HK2.out; omega⟩, ⟨by (with_reducible repeat (first | apply Kd.R_alloc | apply Kd.R_drewN | apply Kd.R_drew)); exact Kd.R_mono (Kd.R_far (p := ⟨gb207, 0, none⟩) (Kd.R_mono HO_206001.out (fun k_ hk => (⟨hk, hk.1.2.1⟩ : _ ∧ k_ ≠ gb207))) (fun _ hk => hk.2) (.slice Ao48 y218.length co48)) (fun _ hk => ⟨hk.1.2, hk.1.1.2.1⟩)⟩, ⟨by (with_reducible repeat (first | apply Kd.S_alloc | apply Kd.S_drewN | apply Kd.S_drew)); exact Kd.S_mono (Kd.S_far (p := ⟨gb207, 0, none⟩) (Kd.S_types HO220.out BK207.out (by decide)) (fun _ hk => hk.2) (.slice Ao48 y218.length co48)) (fun _ hk => trivial)⟩, ⟨by (with_reducible repeat (first | refine zAI ?_ _ | refine zAJ ?_ | refine zAG ?_ _)); refine zAS ?_ NB203_207.out _; (with_reducible repeat (first | refine zAI ?_ _ | refine zAJ ?_ | refine zAG ?_ _)); exact BK203.out⟩, ⟨by (with_reducible repeat (first | refine zAI ?_ _ | refine zAJ ?_ | refine zAG ?_ _)); refine zAS ?_ NB204_207.out _; (with_reducible repeat (first | refine zAI ?_ _ | refine zAJ ?_ | refine zAG ?_ _)); exact BK204.out⟩, ⟨by (with_reducible repeat (first | refine zAI ?_ _ | refine zAJ ?_ | refine zAG ?_ _)); refine zAS ?_ NB205_207.out _; (with_reducible repeat (first | refine zAI ?_ _ | refine zAJ ?_ | refine zAG ?_ _)); exact BK205.out⟩, ⟨by (with_reducible repeat (first | refine zAI ?_ _ | refine zAJ ?_ | refine zAG ?_ _)); refine zAR (cs := #[u208000, .int .i64 ((zAQ l0_1 x4_1).f1.f0), .int .i64 ((zAQ l0_1 x4_1).f1.f1), .int .i64 ((zAQ l0_1 x4_1).f1.f2), .int .i64 ((zAQ l0_1 x4_1).f1.f3)]) ?_ 0 _ rfl; (with_reducible repeat (first | refine zAI ?_ _ | refine zAJ ?_ | refine zAG ?_ _)); exact BK207.out⟩, ⟨by repeat (first | (with_reducible first | exact HB.out | apply zAC | apply zAA | apply zAD | refine zAH ?_ GE203.out | refine zAH ?_ GE204.out | refine zAH ?_ GE205.out | refine zAH ?_ GE207.out | refine zAH ?_ GE211.out) | exact HB.out)⟩⟩
            ·rw [if_neg c25] at H
             exact absurd H (by simp)
           ·rw [if_neg c24] at H
            exact absurd H (by simp)
          ·rw [if_neg c23] at H
           exact absurd H (by simp)
         ·rw [if_neg c22] at H
          have c22b0 : decide (x6_2 < (((zAQ l0_1 x4_1).f0).length : Int)) = false := decide_eq_false c22
          clear c22
          by_cases c50 : x206001_1.length < 2513169434916
          ·rw [if_pos c50] at H
           have LMc50 := Aside0.mk c50
           clear c50
           obtain ⟨y221, hy221⟩ : ∃ y_ : List (S29), y_ = (x206001_1 ++ [(⟨x208000_2, (⟨((zAQ l0_1 x4_1).f1.f0), ((zAQ l0_1 x4_1).f1.f1), ((zAQ l0_1 x4_1).f1.f2), ((zAQ l0_1 x4_1).f1.f3)⟩ : S27)⟩ : S29)]) := ⟨_, rfl⟩
           replace H : (swageref14_Copy.l0 k2 (wrap64 (x4_1 + 1)) a0_0 l0_1 a0_0 y221) = some (r1, r2) := by first | (rw [hy221]; with_reducible exact H) | (have H2_ := (Option.bind_some _ _).symm.trans H; rw [hy221]; with_reducible exact H2_) | (have H2_ := (Option.bind_some _ _).symm.trans H; with_reducible exact H2_) | with_reducible exact H | (rw [hy221]; exact H) | exact H
           have Ny221 := Aside0.mk hy221
           clear hy221
           have H' := Aside0.mk H
           clear H
           have hnb51 := NB203_204.out
           have hnc51 := NB204_203.out
           have hnb52 := NB203_205.out
           have hnc52 := NB205_203.out
           have hnb53 := NB203_207.out
           have hnc53 := NB207_203.out
           have hcz54_0 : wr.cell? ⟨gb203, 0, none⟩ = some (.int .i64 a0_0) := (zAE BK203.out 0).trans rfl
           have hcz54_1 : wr.cell? ⟨gb203, 1, none⟩ = some (.slice (some ad206) l0_1.length c0_1) := (zAE BK203.out 1).trans rfl
           have hfz54_0 := zAB BK203.out 0
           have hfz54_1 := zAB BK203.out 1
           have p208 : 0 ≤ (x4_1 : Int) := of_decide_eq_true (by first | (with_reducible assumption) | assumption)
           have q208 : x4_1 < (l0_1.length : Int) := of_decide_eq_true (by first | (with_reducible assumption) | assumption)
           obtain ⟨ad208, A208_0, c208_0, e208, hx208_0, hx208_1, hx208_2, hx208_3, hx208_4, hl208_0, hi208_0⟩ := at_T29 HR0_1.out x4_1 p208 q208
           obtain rfl : ad206 = ad208 := (by injection e208)
           replace hx208_0 := (HB.out.cell (World.block_lt_of_cell? w _ hx208_0)).trans hx208_0
           replace hx208_1 := (HB.out.cell (World.block_lt_of_cell? w _ hx208_1)).trans hx208_1
           replace hx208_2 := (HB.out.cell (World.block_lt_of_cell? w _ hx208_2)).trans hx208_2
           replace hx208_3 := (HB.out.cell (World.block_lt_of_cell? w _ hx208_3)).trans hx208_3
           replace hx208_4 := (HB.out.cell (World.block_lt_of_cell? w _ hx208_4)).trans hx208_4
           have HR208_0 := Aside0.mk hi208_0
           have HC208_0 := Aside0.mk hl208_0
           clear hi208_0 hl208_0
           replace p208 := eq_true p208
           replace q208 := eq_true q208
           have hnb55 := NB205_204.out
           have hnc55 := NB204_205.out
           have hnb56 := NB205_207.out
           have hnc56 := NB207_205.out
           have hcz57_0 : wr.cell? ⟨gb205, 0, none⟩ = some (.int .i64 a0_0) := (zAE BK205.out 0).trans rfl
           have hcz57_1 : wr.cell? ⟨gb205, 1, none⟩ = some (u206001) := (zAE BK205.out 1).trans rfl
           have hfz57_0 := zAB BK205.out 0
           have hfz57_1 := zAB BK205.out 1
           have hnb58 := NB207_204.out
           have hnc58 := NB204_207.out
           have hcz59_0 : wr.cell? ⟨gb207, 0, none⟩ = some (u208000) := (zAE BK207.out 0).trans rfl
           have hcz59_1 : wr.cell? ⟨gb207, 1, none⟩ = some (.int .i64 ((zAQ l0_1 x4_1).f1.f0)) := (zAE BK207.out 1).trans rfl
           have hcz59_2 : wr.cell? ⟨gb207, 2, none⟩ = some (.int .i64 ((zAQ l0_1 x4_1).f1.f1)) := (zAE BK207.out 2).trans rfl
           have hcz59_3 : wr.cell? ⟨gb207, 3, none⟩ = some (.int .i64 ((zAQ l0_1 x4_1).f1.f2)) := (zAE BK207.out 3).trans rfl
           have hcz59_4 : wr.cell? ⟨gb207, 4, none⟩ = some (.int .i64 ((zAQ l0_1 x4_1).f1.f3)) := (zAE BK207.out 4).trans rfl
           have hfz59_0 := zAB BK207.out 0
           have hfz59_1 := zAB BK207.out 1
           have hfz59_2 := zAB BK207.out 2
           have hfz59_3 := zAB BK207.out 3
           have hfz59_4 := zAB BK207.out 4
           obtain ⟨Ao61, co61, eo61⟩ := Kd.S_slice HO_208000.out
           subst eo61
           go_wp2_with (first | ((with_reducible refine zBK (b := .append) (xs := #[.tmp 57, .tmp 59]) rfl ?_); at_builtin; refine Kd.R_append k29 (w0 := w) w.heap.size rfl (.tmp 57) (.tmp 59) 30 29 (.agg #[(.slice none 0 0), (.int .i64 0), (.int .i64 0), (.int .i64 0), (.int .i64 0)]) 56 rfl Try.underlying30 info29 rfl (by decide) (by omega) u206001 x206001_1 (⟨x208000_2, (⟨((zAQ l0_1 x4_1).f1.f0), ((zAQ l0_1 x4_1).f1.f1), ((zAQ l0_1 x4_1).f1.f2), ((zAQ l0_1 x4_1).f1.f3)⟩ : S27)⟩ : S29) [.slice Ao61 x208000_2.length co61, .int .i64 ((zAQ l0_1 x4_1).f1.f0), .int .i64 ((zAQ l0_1 x4_1).f1.f1), .int .i64 ((zAQ l0_1 x4_1).f1.f2), .int .i64 ((zAQ l0_1 x4_1).f1.f3)] (fun k_ => k_ ≠ gb207) (fun k_ => ((fun k_ => k_ ≠ gb207)) k_ ∧ some k_ ≠ (u206001 : Value).ownBlock) rfl rfl ?aP (fun _ hk => hk) ?aF ?aO ?aB ?aS ?aL ?_; (case aP => exact k29_mkM _ _ _ (⟨x208000_2, (⟨((zAQ l0_1 x4_1).f1.f0), ((zAQ l0_1 x4_1).f1.f1), ((zAQ l0_1 x4_1).f1.f2), ((zAQ l0_1 x4_1).f1.f3)⟩ : S27)⟩ : S29) (Kd.R_mono (Kd.R_types (Kd.R_apart' ((Kd.S_R HO_208000.out)) (Kd.R_typed HO_206001.out) (by decide)) BK207.out (by decide)) (fun k_ hk => ⟨hk.2, hk.1.2⟩))); (case aB => exact (by repeat (first | (with_reducible first | exact HB.out | apply zAC | apply zAA | apply zAD | refine zAH ?_ GE203.out | refine zAH ?_ GE204.out | refine zAH ?_ GE205.out | refine zAH ?_ GE207.out) | exact HB.out))); (case aF => exact (fun k_ hk => Kd.freshB (g := gb207) (o := .cells #[.slice Ao61 x208000_2.length co61, .int .i64 ((zAQ l0_1 x4_1).f1.f0), .int .i64 ((zAQ l0_1 x4_1).f1.f1), .int .i64 ((zAQ l0_1 x4_1).f1.f2), .int .i64 ((zAQ l0_1 x4_1).f1.f3)] 29 (0, 0)) (by (with_reducible repeat (first | refine zAI ?_ _ | refine zAJ ?_ | refine zAG ?_ _)); exact BK207.out) k_ hk)); (case aO => exact (by (with_reducible repeat (first | apply Kd.R_alloc | apply Kd.R_drewN | apply Kd.R_drew)); exact Kd.R_mono HO_206001.out (fun _ hk => hk.2))); (case aS => exact (zAM (by repeat (first | (with_reducible first | exact HB.out | apply zAC | apply zAA | apply zAD | refine zAH ?_ GE203.out | refine zAH ?_ GE204.out | refine zAH ?_ GE205.out | refine zAH ?_ GE207.out) | exact HB.out)))); (case aL => have := LMc50.out; omega); intro v222 w60 ho hb hg hat; rw [← Ny221.out] at ho; have n0_ := Aside0.mk (zAW (g := gb203) (o := .cells #[.int .i64 a0_0, .slice (some ad206) l0_1.length c0_1] 32 (0, 0)) (by (with_reducible repeat (first | refine zAI ?_ _ | refine zAJ ?_ | refine zAG ?_ _)); exact BK203.out) hg (Kd.R_ne HO_206001.out BK203.out (by decide))); have n1_ := Aside0.mk (zAW (g := gb204) (o := .cells #[.int .i64 0, .slice none 0 0] 32 (0, 0)) (by (with_reducible repeat (first | refine zAI ?_ _ | refine zAJ ?_ | refine zAG ?_ _)); exact BK204.out) hg (Kd.R_ne HO_206001.out BK204.out (by decide))); have n2_ := Aside0.mk (zAW (g := gb205) (o := .cells #[.int .i64 a0_0, u206001] 32 (0, 0)) (by (with_reducible repeat (first | refine zAI ?_ _ | refine zAJ ?_ | refine zAG ?_ _)); exact BK205.out) hg (Kd.R_ne HO_206001.out BK205.out (by decide))); have n3_ := Aside0.mk (zAW (g := gb207) (o := .cells #[.slice Ao61 x208000_2.length co61, .int .i64 ((zAQ l0_1 x4_1).f1.f0), .int .i64 ((zAQ l0_1 x4_1).f1.f1), .int .i64 ((zAQ l0_1 x4_1).f1.f2), .int .i64 ((zAQ l0_1 x4_1).f1.f3)] 29 (0, 0)) (by (with_reducible repeat (first | refine zAI ?_ _ | refine zAJ ?_ | refine zAG ?_ _)); exact BK207.out) hg (Kd.R_away HO_206001.out (fun _ hk => hk.2))); have n4_ := Aside0.mk (hb); have n5_ := Aside0.mk (ho); clear BK203; clear BK204; clear BK205; clear BK207; clear HB; clear HO_206001; clear HO_208000; have BK203 := n0_; have BK204 := n1_; have BK205 := n2_; have BK207 := n3_; have HB := n4_; have HO223 := n5_; clear n0_ n1_ n2_ n3_ n4_ n5_; clear ho hb hg hat; obtain ⟨Ao62, co62, eo62⟩ := Kd.R_slice HO223.out; subst eo62; have hcz63_0 : w60.cell? ⟨gb205, 0, none⟩ = some (.int .i64 a0_0) := (zAE BK205.out 0).trans rfl; have hcz63_1 : w60.cell? ⟨gb205, 1, none⟩ = some (u206001) := (zAE BK205.out 1).trans rfl; have hfz63_0 := zAB BK205.out 0; have hfz63_1 := zAB BK205.out 1))
           go_roundg k2
           case measure => have := HK1.out; have := HK2.out; omega
           case rel => exact ⟨(wrap64 (x4_1 + 1)), (y221), (.slice Ao62 y221.length co62), (by first | rfl | (simp; done) | (simp [*]; done)), H', ⟨by have := HK1.out; have := HK2.out; omega⟩, ⟨by (with_reducible repeat (first | apply Kd.R_alloc | apply Kd.R_drewN | apply Kd.R_drew)); exact Kd.R_mono (Kd.R_far (p := ⟨gb205, 1, none⟩) (Kd.R_types HO223.out BK205.out (by decide)) (fun _ hk => hk.2) (.slice Ao62 y221.length co62)) (fun _ hk => trivial)⟩, ⟨by (with_reducible repeat (first | refine zAI ?_ _ | refine zAJ ?_ | refine zAG ?_ _)); refine zAS ?_ NB203_205.out _; (with_reducible repeat (first | refine zAI ?_ _ | refine zAJ ?_ | refine zAG ?_ _)); exact BK203.out⟩, ⟨by (with_reducible repeat (first | refine zAI ?_ _ | refine zAJ ?_ | refine zAG ?_ _)); refine zAS ?_ NB204_205.out _; (with_reducible repeat (first | refine zAI ?_ _ | refine zAJ ?_ | refine zAG ?_ _)); exact BK204.out⟩, ⟨by (with_reducible repeat (first | refine zAI ?_ _ | refine zAJ ?_ | refine zAG ?_ _)); refine zAR (cs := #[.int .i64 a0_0, u206001]) ?_ 1 _ rfl; (with_reducible repeat (first | refine zAI ?_ _ | refine zAJ ?_ | refine zAG ?_ _)); exact BK205.out⟩, ⟨by repeat (first | (with_reducible first | exact HB.out | apply zAC | apply zAA | apply zAD | refine zAH ?_ GE203.out | refine zAH ?_ GE204.out | refine zAH ?_ GE205.out | refine zAH ?_ GE207.out) | exact HB.out)⟩⟩
          ·rw [if_neg c50] at H
           exact absurd H (by simp)
        ·rw [if_neg c21] at H
         exact absurd H (by simp)
       ·rw [if_neg c20] at H
        exact absurd H (by simp)
    ·rw [if_neg c11] at H
     exact absurd H (by simp)
   ·rw [if_neg c10] at H
    have c10b0 : decide (x4_1 < (l0_1.length : Int)) = false := decide_eq_false c10
    clear c10
    simp only [Option.some.injEq, Prod.mk.injEq] at H
    obtain ⟨rfl, rfl⟩ := H
    have hnb64 := NB203_204.out
    have hnc64 := NB204_203.out
    have hnb65 := NB203_205.out
    have hnc65 := NB205_203.out
    have hcz66_0 : wr.cell? ⟨gb203, 0, none⟩ = some (.int .i64 a0_0) := (zAE BK203.out 0).trans rfl
    have hcz66_1 : wr.cell? ⟨gb203, 1, none⟩ = some (.slice A0_1 l0_1.length c0_1) := (zAE BK203.out 1).trans rfl
    have hfz66_0 := zAB BK203.out 0
    have hfz66_1 := zAB BK203.out 1
    have hnb67 := NB205_204.out
    have hnc67 := NB204_205.out
    have hcz68_0 : wr.cell? ⟨gb205, 0, none⟩ = some (.int .i64 a0_0) := (zAE BK205.out 0).trans rfl
    have hcz68_1 : wr.cell? ⟨gb205, 1, none⟩ = some (u206001) := (zAE BK205.out 1).trans rfl
    have hfz68_0 := zAB BK205.out 0
    have hfz68_1 := zAB BK205.out 1
    have hcz69_0 : wr.cell? ⟨gb204, 0, none⟩ = some (.int .i64 0) := (zAE BK204.out 0).trans rfl
    have hcz69_1 : wr.cell? ⟨gb204, 1, none⟩ = some (.slice none 0 0) := (zAE BK204.out 1).trans rfl
    have hfz69_0 := zAB BK204.out 0
    have hfz69_1 := zAB BK204.out 1
    obtain ⟨Ao70, co70, eo70⟩ := Kd.R_slice HO_206001.out
    subst eo70
    go_wp2
    refine bodyPost_ret (results_cell_row rfl _ _ gb204 32 #[.int .i64 a0_0, .slice Ao70 x206001_1.length co70] (0, 0) _ rfl (by (with_reducible repeat (first | refine zAI ?_ _ | refine zAJ ?_ | refine zAG ?_ _)); refine zAR (cs := #[.int .i64 a0_0, .slice none 0 0]) ?_ 1 _ rfl; (with_reducible repeat (first | refine zAI ?_ _ | refine zAJ ?_ | refine zAG ?_ _)); refine zAR (cs := #[.int .i64 0, .slice none 0 0]) ?_ 0 _ rfl; (with_reducible repeat (first | refine zAI ?_ _ | refine zAJ ?_ | refine zAG ?_ _)); exact BK204.out) Try.underlying32 rfl (by kernel_rfl)) rfl ?_
    exact ⟨_, by first | rfl | (simp [zAO, zAN] <;> rfl) | (simp [*, zAO, zAN] <;> rfl), by (with_reducible repeat (first | apply Kd.R_alloc | apply Kd.R_drewN | apply Kd.R_drew)); exact Kd.R_mono (Kd.R_far (p := ⟨gb204, 1, none⟩) (Kd.R_far (p := ⟨gb204, 0, none⟩) (Kd.R_types HO_206001.out BK204.out (by decide)) (fun _ hk => hk.2) (.int .i64 a0_0)) (fun _ hk => hk.2) (.slice Ao70 x206001_1.length co70)) (fun _ hk => trivial), by repeat (first | (with_reducible first | exact HB.out | apply zAC | apply zAA | apply zAD | refine zAH ?_ GE203.out | refine zAH ?_ GE204.out | refine zAH ?_ GE205.out) | exact HB.out)⟩
end Go.Proofs.Ytphmlkbmnmicpaa.A
namespace Go.Proofs.Ytphmlkbmnmicpaa.A
open Go.RowKit Go.Proofs.YtphmlkbmnmicpaaW.PrintWords Go.Proofs.YtphmlkbmnmicpaaW.PrintLast Go.Shelf
theorem rd29_one (x : S29) : zAQ [x] 0 = x := rfl
theorem f0_29 (l : List S37) (t : S27) : (⟨l, t⟩ : S29).f0 = l := rfl
theorem f1_29 (l : List S37) (t : S27) : (⟨l, t⟩ : S29).f1 = t := rfl
theorem rd37_get (l : List S37) (j : Nat) (h : j < l.length) : zAF l (j : Int) = l[j] := by
 unfold zAF
 rw [Int.toNat_natCast, List.getD_eq_getElem?_getD, List.getElem?_eq_getElem h]
 rfl
theorem rd37_mem (l : List S37) (j : Nat) (h : j < l.length) : zAF l (j : Int) ∈ l := by
 rw [rd37_get l j h]
 exact List.getElem_mem h
theorem rcopy_inner (l : List S37) (t : S27) (hl : l.length ≤ 4096) (hs : ∀ x ∈ l, x.f5.length ≤ 1000) :
  ∀ (d j : Nat), j ≤ l.length → l.length - j = d → Ev (fun k => swageref14_Copy.l1 k 0 (j : Int) 0 [(⟨l, t⟩ : S29)] 0 [] (l.take j) t.f0 t.f1 t.f2 t.f3) (0, [(⟨l, t⟩ : S29)]) := by
 intro d
 induction d with
 | zero =>
  intro j hj hd
  obtain rfl : j = l.length := by omega
  refine ⟨2, fun k hk => ?_⟩
  obtain ⟨k, rfl⟩ : ∃ m, k = m + 2 := ⟨k - 2, by omega⟩
  have c0 : (0 : Int) ≤ 0 := by omega
  have c1 : (0 : Int) < (([(⟨l, t⟩ : S29)].length : Nat) : Int) := by simp
  have cn : ¬ ((l.length : Nat) : Int) < ((l.length : Nat) : Int) := by omega
  simp only [swageref14_Copy.l1]
  rw [rd29_one, f0_29, if_pos c0, if_pos c1, if_neg cn, if_pos (by simp)]
  simp only [swageref14_Copy.l0]
  have hw : wrap64 ((0 : Int) + 1) = 1 := by unfold wrap64; omega
  rw [hw, if_neg (by simp), List.take_length]
  rfl
 | succ d ih =>
  intro j hj hd
  have hjl : j < l.length := by omega
  obtain ⟨K, hK⟩ := ih (j + 1) (by omega) (by omega)
  have hx := hs _ (rd37_mem l j hjl)
  refine ⟨K + 1, fun k hk => ?_⟩
  obtain ⟨k, rfl⟩ : ∃ m, k = m + 1 := ⟨k - 1, by omega⟩
  have hK' := hK k (by omega)
  have htk : l.take (j + 1) = l.take j ++ [zAF l (j : Int)] := by rw [rd37_get l j hjl, List.take_succ_eq_append_getElem hjl]
  rw [htk] at hK'
  have c0 : (0 : Int) ≤ 0 := by omega
  have c1 : (0 : Int) < (([(⟨l, t⟩ : S29)].length : Nat) : Int) := by simp
  have cj : (j : Int) < ((l.length : Nat) : Int) := by omega
  have c2 : (0 : Int) ≤ (j : Int) := by omega
  simp only [swageref14_Copy.l1]
  rw [rd29_one, f0_29, if_pos c0, if_pos c1, if_pos cj, if_pos c2, Option.bind_some, if_pos (by simp; omega), if_pos (by rw [List.length_take]; omega), zCE j (by omega), List.nil_append]
  exact hK'
theorem rcopy (l : List S37) (t : S27) (hl : l.length ≤ 4096) (hs : ∀ x ∈ l, x.f5.length ≤ 1000) : Ev (fun k => swageref14_Copy.f k 0 [(⟨l, t⟩ : S29)]) (0, [(⟨l, t⟩ : S29)]) := by
 obtain ⟨K, hK⟩ := rcopy_inner l t hl hs l.length 0 (Nat.zero_le _) rfl
 refine ⟨K + 1, fun k hk => ?_⟩
 obtain ⟨k, rfl⟩ : ∃ m, k = m + 1 := ⟨k - 1, by omega⟩
 have hK' := hK k (by omega)
 show swageref14_Copy.l0 (k + 1) 0 0 [(⟨l, t⟩ : S29)] 0 [] = _
 simp only [swageref14_Copy.l0]
 rw [rd29_one, f1_29, if_pos (by simp), if_pos (by omega)]
 exact hK'
theorem rints (xs : List Int) (hl : xs.length ≤ 1000) : Ev (fun k => swageref02_Ints.f k xs xs) true := by
 obtain ⟨K, hK⟩ := ints_same xs hl xs.length 0 (Nat.zero_le _) rfl
 refine ⟨K, fun k hk => ?_⟩
 show swageref02_Ints.f k xs xs = _
 unfold swageref02_Ints.f
 rw [if_pos rfl]
 exact hK k hk
theorem rrows0 (d : List (List Int)) (hl : d.length ≤ 1000) (hs : ∀ i : Nat, i < d.length → (rd_L1 d (i : Int)).length ≤ 1000) :
  ∀ (n i : Nat), i ≤ d.length → d.length - i = n → Ev (fun k => swageref06_Rows.l0 k d d (i : Int)) true := by
 intro n
 induction n with
 | zero =>
  intro i hi hn
  refine ⟨1, fun k hk => ?_⟩
  obtain ⟨k, rfl⟩ : ∃ m, k = m + 1 := ⟨k - 1, by omega⟩
  simp only [swageref06_Rows.l0]
  rw [if_neg (by omega)]
 | succ n ih =>
  intro i hi hn
  obtain ⟨K, hK⟩ := ih (i + 1) (by omega) (by omega)
  obtain ⟨K2, hK2⟩ := rints _ (hs i (by omega))
  refine ⟨max K K2 + 1, fun k hk => ?_⟩
  obtain ⟨k, rfl⟩ : ∃ m, k = m + 1 := ⟨k - 1, by omega⟩
  have hK' := hK k (by omega)
  have hK2' := hK2 k (by omega)
  simp only at hK2'
  simp only [swageref06_Rows.l0]
  rw [if_pos (by omega), if_pos (by omega), if_pos (by omega), hK2', Option.bind_some, if_pos rfl, zCE i (by omega)]
  exact hK'
theorem rrows (l : List S37) (hl : l.length ≤ 100) : Ev (fun k => swageref06_Rows.f k (zAX l) (zAX l)) true := by
 have hdl := zBF l
 obtain ⟨K, hK⟩ := rrows0 (zAX l) (by omega) (fun i hi => by
  rw [zBZ l i (by omega)]
  have := zBQ l i i
  omega) _ 0 (Nat.zero_le _) rfl
 refine ⟨K, fun k hk => ?_⟩
 show swageref06_Rows.f k (zAX l) (zAX l) = _
 unfold swageref06_Rows.f
 rw [if_pos rfl]
 exact hK k hk
end Go.Proofs.Ytphmlkbmnmicpaa.A
namespace Go.Proofs.Ytphmlkbmnmicpaa.A
open Go.RowKit Go.Proofs.YtphmlkbmnmicpaaW.PrintWords Go.Proofs.YtphmlkbmnmicpaaW.PrintLast Go.Shelf
theorem C29_one {W : World} {g n c : Nat} {A : Option Addr} {l : List S37} {t : S27} (hb : W.heap[g]? = some (.cells #[.slice A n c, .int .i64 t.f0, .int .i64 t.f1, .int .i64 t.f2, .int .i64 t.f3] 29 (0, 0)))
  (hn : n = l.length) (hC : Kd.C k37 W A l.length l) (hc : l.length ≤ c) : Kd.C k29 W (some ⟨g, 0, none⟩) [(⟨l, t⟩ : S29)].length [(⟨l, t⟩ : S29)] := by
 subst hn
 refine ⟨rfl, by simp, fun _ => ⟨⟨g, 0, none⟩, rfl, ?_⟩⟩
 intro j p hj
 rcases j with _ | j
 ·simp only [List.getElem?_cons_zero, Option.some.injEq] at hj
  subst hj
  refine ⟨_, rfl, k29_mk W ⟨l, t⟩ hc hC, fun i u hu => ?_⟩
  rw [add_at, Nat.zero_add, Nat.zero_mul, Nat.zero_add, zAE hb i]
  rw [← hu]
  simp
 ·simp at hj
structure RBI (w : World) (g2 g3 g5 gb M : Nat) (Ac Ao : Option Addr) (cb cc co n : Nat) (t : S27) (l : List S37) (O : List Int) (xs : List S37) (u v : Value) (W : World) : Prop where
 hz : W.heap[g2]? = some (.cells #[.slice none 0 0, .int .i64 0, .int .i64 0, .int .i64 0, .int .i64 0] 29 (0, 0))
 hc : W.heap[g3]? = some (.cells #[.int .i64 0, .slice (some ⟨gb, 0, none⟩) 1 cb] 32 (0, 0))
 ho : W.heap[g5]? = some (.cells #[u, .int .i64 t.f0, .int .i64 t.f1, .int .i64 t.f2, .int .i64 t.f3] 29 (0, 0))
 hb : ∃ cells : Array Value, W.heap[gb]? = some (.cells cells 29 (0, 0)) ∧ cells[0]? = some (.slice Ac n cc)
 hl : Kd.R k37 37 W w.heap.size (fun k => k < M ∧ k ≠ g5 ∧ k ≠ g2) (.slice Ac n cc) l
 hO : Kd.R (Kd.int .i64) 3 W w.heap.size (fun k => k < M ∧ k ≠ g5 ∧ k ≠ g2) (.slice Ao n co) O
 hv : Kd.N k37 37 W w.heap.size (fun k => k ≠ g5 ∧ k ≠ g2) v xs
 own : ∀ k, v.ownBlock = some k → M ≤ k
 hB : Below w.heap.size w W
 lt : w.heap.size ≤ g2 ∧ w.heap.size ≤ g5 ∧ g2 < M ∧ g3 < M ∧ g5 < M ∧ gb < M ∧ g2 ≠ g5 ∧ g3 ≠ g5 ∧ gb ≠ g5 ∧ M ≤ W.heap.size
section
variable {w : World} {g2 g3 g5 gb M : Nat} {Ac Ao : Option Addr} {cb cc co n : Nat} {t : S27} {l : List S37} {O : List Int} {xs : List S37} {u v : Value} {W W1 : World}
theorem RBI.below (h : RBI w g2 g3 g5 gb M Ac Ao cb cc co n t l O xs u v W) (hb : Below W.heap.size W W1) : RBI w g2 g3 g5 gb M Ac Ao cb cc co n t l O xs u v W1 := by
 obtain ⟨cells, hb1, hb2⟩ := h.hb
 obtain ⟨l1, l2, l3, l4, l5, l6, l7, l8, l9, l10⟩ := h.lt
 exact ⟨zAP h.hz hb, zAP h.hc hb, zAP h.ho hb, ⟨cells, zAP hb1 hb, hb2⟩, Kd.R_below h.hl hb, Kd.R_below h.hO hb, Kd.N_below h.hv hb, h.own, zBW h.hB h.hB.size hb, l1, l2, l3, l4, l5, l6, l7, l8, l9, Nat.le_trans l10 hb.size⟩
theorem RBI.cell (h : RBI w g2 g3 g5 gb M Ac Ao cb cc co n t l O xs u v W) : W.cell? ⟨g5, 0, none⟩ = some u := (zAE h.ho 0).trans rfl
theorem RBI.cellc (h : RBI w g2 g3 g5 gb M Ac Ao cb cc co n t l O xs u v W) : W.cell? ⟨g3, 1, none⟩ = some (.slice (some ⟨gb, 0, none⟩) 1 cb) := (zAE h.hc 1).trans rfl
theorem RBI.cellb (h : RBI w g2 g3 g5 gb M Ac Ao cb cc co n t l O xs u v W) : W.cell? ⟨gb, 0, none⟩ = some (.slice Ac n cc) := by
 obtain ⟨cells, hb1, hb2⟩ := h.hb
 exact (zAE hb1 0).trans hb2
theorem RBI.grown {ys : List S37} {v1 : Value} (h : RBI w g2 g3 g5 gb M Ac Ao cb cc co n t l O xs u v W) (hv : Kd.N k37 37 W1 w.heap.size (fun k => k ≠ g5 ∧ k ≠ g2) v1 ys) (hB : Below w.heap.size w W1) (hg : W.grownBy W1 v.ownBlock) (hat : v1.ownBlock = v.ownBlock ∨ ∃ b, v1.ownBlock = some b ∧ W.heap.size ≤ b) : RBI w g2 g3 g5 gb M Ac Ao cb cc co n t l O ys u v1 W1 := by
 obtain ⟨cells, hb1, hb2⟩ := h.hb
 obtain ⟨l1, l2, l3, l4, l5, l6, l7, l8, l9, l10⟩ := h.lt
 have hne : ∀ k, k < M → some k ≠ v.ownBlock := fun k hk he => by have := h.own k he.symm; omega
 refine ⟨zAW h.hz hg (hne _ l3), zAW h.hc hg (hne _ l4), zAW h.ho hg (hne _ l5), ⟨cells, zAW hb1 hg (hne _ l6), hb2⟩, Kd.R_grown h.hl hg (fun k hk => hne k hk.1), Kd.R_grown h.hO hg (fun k hk => hne k hk.1), hv, fun k hk => ?_, hB, l1, l2, l3, l4, l5, l6, l7, l8, l9, Nat.le_trans l10 hg.size⟩
 rcases hat with e | ⟨b, e, hb⟩
 ·exact h.own k (by rw [← e]; exact hk)
 ·rw [e] at hk
  injection hk with hk
  omega
theorem RBI.set (h : RBI w g2 g3 g5 gb M Ac Ao cb cc co n t l O xs u v W) (z : Value) : RBI w g2 g3 g5 gb M Ac Ao cb cc co n t l O xs z v (W.setCell ⟨g5, 0, none⟩ z) := by
 obtain ⟨cells, hb1, hb2⟩ := h.hb
 obtain ⟨l1, l2, l3, l4, l5, l6, l7, l8, l9, l10⟩ := h.lt
 refine ⟨zAS h.hz (p := ⟨g5, 0, none⟩) l7 _, zAS h.hc (p := ⟨g5, 0, none⟩) l8 _, ?_, ⟨cells, zAS hb1 (p := ⟨g5, 0, none⟩) l9 _, hb2⟩, Kd.R_far h.hl (p := ⟨g5, 0, none⟩) (fun k hk => hk.2.1) _, Kd.R_far h.hO (p := ⟨g5, 0, none⟩) (fun k hk => hk.2.1) _, Kd.N_far h.hv (p := ⟨g5, 0, none⟩) (fun k hk => hk.1) _, h.own, h.hB.setCell (p := ⟨g5, 0, none⟩) l2 _, l1, l2, l3, l4, l5, l6, l7, l8, l9, by simpa using l10⟩
 have := blk_set h.ho 0 z
 simpa using this
end
set_option maxRecDepth 100000 in
set_option maxHeartbeats 4000000 in
theorem rblock_calls (l : List S37) (t : S27) (hlen : l.length ≤ 100) (hs : ∀ x ∈ l, x.f5.length ≤ 1000) (A : Option Addr) (c : Nat) (w : World) (hr : Kd.C k37 w A l.length l) (hc : l.length ≤ c) :
  Calls Try.prog 13 #[.agg #[.slice A l.length c, .int .i64 t.f0, .int .i64 t.f1, .int .i64 t.f2, .int .i64 t.f3]] w fun e w' =>
   ∃ Av cv, e = .returned (.agg #[.slice Av (again l).length cv, .int .i64 t.f0, .int .i64 t.f1, .int .i64 t.f2, .int .i64 t.f3]) ∧ (again l).length ≤ cv ∧ Kd.C k37 w' Av (again l).length (again l) ∧ Below w.heap.size w w' := by
 have hu29 := Try.underlying29
 have hu32 := Try.underlying32
 have hu27 := Try.underlying27
 have hu37 := Try.underlying37
 obtain ⟨K1, hK1⟩ := (rcopy l t (by omega) hs).rounds
 obtain ⟨K2, hK2⟩ := (rorder l hlen hs).rounds
 have hOl := zCB l
 have hOr := Aside0.mk (orderOf_rng l)
 have hal : (zCG l).map (fun k => zAF l k) = again l := rfl
 have hcall10 : Aside0 (∀ (A : Option Addr) (c : Nat) (W : World), Kd.C k29 W A [(⟨l, t⟩ : S29)].length [(⟨l, t⟩ : S29)] → [(⟨l, t⟩ : S29)].length ≤ c → Calls Try.prog 10 #[.agg #[.int .i64 0, .slice A [(⟨l, t⟩ : S29)].length c]] W fun e w' => ∃ v1_ : Value, e = .returned (.agg #[.int .i64 0, v1_]) ∧ Kd.R k29 29 w' W.heap.size (fun _ => True) v1_ [(⟨l, t⟩ : S29)] ∧ Below W.heap.size W w') := ⟨fun A c W h h2 => swageref14_Copy.calls K1 0 A c _ _ _ W h h2 hK1⟩
 have hcall23 : Aside0 (∀ W, Below w.heap.size w W → Calls Try.prog 23 #[.slice A l.length c] W fun e w' => ∃ v0_ : Value, e = .returned (v0_) ∧ Kd.R (Kd.int .i64) 3 w' W.heap.size (fun _ => True) v0_ (zCG l) ∧ Below W.heap.size W w') := ⟨fun W hW => swageref27_Order.calls K2 A c l _ W (Kd.C_below hr hW) hc hK2⟩
 generalize zCG l = O at hOl hOr hal hcall23
 rw [← hal]
 clear hK1 hK2 hal
 obtain ⟨wa, hwa⟩ : ∃ wa, w.alloc (.cells #[.slice A l.length c, .int .i64 t.f0, .int .i64 t.f1, .int .i64 t.f2, .int .i64 t.f3] 29) = wa := ⟨_, rfl⟩
 obtain ⟨wb, hwb⟩ : ∃ wb, wa.alloc (.cells #[.slice none 0 0, .int .i64 0, .int .i64 0, .int .i64 0, .int .i64 0] 29) = wb := ⟨_, rfl⟩
 obtain ⟨wc, hwc⟩ : ∃ wc, wb.alloc (.cells #[.slice A l.length c, .int .i64 t.f0, .int .i64 t.f1, .int .i64 t.f2, .int .i64 t.f3] 29) = wc := ⟨_, rfl⟩
 have ba := Aside0.mk (show wa.heap[w.heap.size]? = some (.cells #[.slice A l.length c, .int .i64 t.f0, .int .i64 t.f1, .int .i64 t.f2, .int .i64 t.f3] 29 (0, 0)) by rw [← hwa]; exact zBV _ _)
 have Ba := Aside0.mk (show Below w.heap.size w wa by rw [← hwa]; exact zAC (Below.refl _ _) _)
 have Bb := Aside0.mk (show Below wa.heap.size wa wb by rw [← hwb]; exact zAC (Below.refl _ _) _)
 have Bc := Aside0.mk (show Below wb.heap.size wb wc by rw [← hwc]; exact zAC (Below.refl _ _) _)
 have bb := Aside0.mk (show wb.heap[wa.heap.size]? = some (.cells #[.slice none 0 0, .int .i64 0, .int .i64 0, .int .i64 0, .int .i64 0] 29 (0, 0)) by rw [← hwb]; exact zBV _ _)
 have bc := Aside0.mk (show wc.heap[wb.heap.size]? = some (.cells #[.slice A l.length c, .int .i64 t.f0, .int .i64 t.f1, .int .i64 t.f2, .int .i64 t.f3] 29 (0, 0)) by rw [← hwc]; exact zBV _ _)
 have s1 : w.heap.size < wa.heap.size := by rw [← hwa]; simp
 have s2 : wa.heap.size < wb.heap.size := by rw [← hwb]; simp
 have s3 : wb.heap.size < wc.heap.size := by rw [← hwc]; simp
 have x0 : wb.cell? ⟨w.heap.size, 0, none⟩ = some (.slice A l.length c) := (zAE (zAP ba.out Bb.out) 0).trans rfl
 have x1 : wb.cell? ⟨w.heap.size, 1, none⟩ = some (.int .i64 t.f0) := (zAE (zAP ba.out Bb.out) 1).trans rfl
 have x2 : wb.cell? ⟨w.heap.size, 2, none⟩ = some (.int .i64 t.f1) := (zAE (zAP ba.out Bb.out) 2).trans rfl
 have x3 : wb.cell? ⟨w.heap.size, 3, none⟩ = some (.int .i64 t.f2) := (zAE (zAP ba.out Bb.out) 3).trans rfl
 have x4 : wb.cell? ⟨w.heap.size, 4, none⟩ = some (.int .i64 t.f3) := (zAE (zAP ba.out Bb.out) 4).trans rfl
 have Hwc := Aside0.mk (zAL (zAL Ba.out Bb.out) Bc.out)
 have hr' := Aside0.mk hr
 clear hr
 go_enter Try.func13, Try.ntmps13
 go_wp2_with fail
 have hcc := hcall10.out (some ⟨wb.heap.size, 0, none⟩) 1 wc (C29_one bc.out rfl (Kd.C_below hr'.out Hwc.out) hc) (Nat.le_refl _)
 refine hcc.mono ?_
 rintro e w1 ⟨v1, rfl, hv1, B1⟩
 clear hcc hcall10 x0 x1 x2 x3 x4
 obtain ⟨gb, cb, rfl, hgb1, hgb2, cells, hgb3⟩ := Kd.R_form hv1 (by simp)
 have hv1' : Kd.R k29 29 w1 wc.heap.size (fun _ => True) (.slice (some ⟨gb, 0, none⟩) 1 cb) [(⟨l, t⟩ : S29)] := hv1
 obtain ⟨c9, hcl, hM, hcc9⟩ := Kd.R_getA hv1' z29 0 (by omega) (by omega)
 obtain ⟨v0, rfl, hl0⟩ := k29_openM (x := ⟨l, t⟩) hM
 obtain ⟨Ac, cc, rfl⟩ := Kd.R_slice hl0
 have hcells : cells[0]? = some (.slice Ac l.length cc) := by
  have h1 := hcc9 0 _ rfl
  rw [add_at] at h1
  exact (zAE hgb3 0).symm.trans h1
 obtain ⟨n, hn⟩ : ∃ n, l.length = n := ⟨_, rfl⟩
 have hl1 : Aside0 (Kd.R k37 37 w1 w.heap.size (fun k => k < w1.heap.size) (.slice Ac n cc) l) := ⟨by rw [← hn]; exact Kd.R_lower (Kd.R_mono (Kd.R_bound hl0) (fun k hk => hk.2.2.1)) (by omega)⟩
 have hgb := Aside0.mk (show ∃ cells : Array Value, w1.heap[gb]? = some (.cells cells 29 (0, 0)) ∧ cells[0]? = some (.slice Ac n cc) from ⟨cells, hgb3, by rw [← hn]; exact hcells⟩)
 have h4096 : decide ((4096 : Int) < (n : Int)) = false := decide_eq_false (by omega)
 have h4096' : ¬ 4096 < n := by omega
 have Hw1 := Aside0.mk (zAL Hwc.out B1)
 have ba1 := Aside0.mk (zAP ba.out ((Bb.out.trans (Bc.out.mono (by omega))).trans (B1.mono (by omega))))
 have bz1 := Aside0.mk (zAP bb.out (Bc.out.trans (B1.mono (by omega))))
 obtain ⟨wd, hwd⟩ : ∃ wd, w1.alloc (.cells #[.int .i64 0, .slice (some ⟨gb, 0, none⟩) 1 cb] 32) = wd := ⟨_, rfl⟩
 have Bd := Aside0.mk (show Below w1.heap.size w1 wd by rw [← hwd]; exact zAC (Below.refl _ _) _)
 have bd := Aside0.mk (show wd.heap[w1.heap.size]? = some (.cells #[.int .i64 0, .slice (some ⟨gb, 0, none⟩) 1 cb] 32 (0, 0)) by rw [← hwd]; exact zBV _ _)
 have s4 : w1.heap.size < wd.heap.size := by rw [← hwd]; simp
 have s5 : wc.heap.size ≤ w1.heap.size := B1.size
 have y0 : wd.cell? ⟨w.heap.size, 0, none⟩ = some (.slice A n c) := by rw [← hn]; exact (zAE (zAP ba1.out Bd.out) 0).trans rfl
 rw [hn] at hcall23 hOl hlen hc ⊢
 have hc23 := hcall23.out wd (zAL Hw1.out Bd.out)
 clear hv1 hv1' hM hcc9 hl0 hcells hgb3 hcl hcall23
 have hn' := Aside0.mk hn
 clear hn hwa hwb hwc
 go_wp2_with fail
 refine hc23.mono ?_
 rintro e w2 ⟨v2, rfl, hv2, B2⟩
 clear hc23 y0 hwd
 obtain ⟨Ao, co, rfl⟩ := Kd.R_slice hv2
 rw [hOl] at hv2 ⊢
 have s6 : wd.heap.size ≤ w2.heap.size := B2.size
 obtain ⟨we, hwe⟩ : ∃ we, w2.alloc (.cells #[.slice none 0 0, .int .i64 t.f0, .int .i64 t.f1, .int .i64 t.f2, .int .i64 t.f3] 29) = we := ⟨_, rfl⟩
 have Be := Aside0.mk (show Below w2.heap.size w2 we by rw [← hwe]; exact zAC (Below.refl _ _) _)
 have be := Aside0.mk (show we.heap[w2.heap.size]? = some (.cells #[.slice none 0 0, .int .i64 t.f0, .int .i64 t.f1, .int .i64 t.f2, .int .i64 t.f3] 29 (0, 0)) by rw [← hwe]; exact zBV _ _)
 have s7 : w2.heap.size < we.heap.size := by rw [← hwe]; simp
 have B12 : Aside0 (Below w1.heap.size w1 w2) := ⟨Bd.out.trans (B2.mono (by omega))⟩
 have B1e : Aside0 (Below w1.heap.size w1 we) := ⟨B12.out.trans (Be.out.mono (by omega))⟩
 have z1 : w2.cell? ⟨w.heap.size, 1, none⟩ = some (.int .i64 t.f0) := (zAE (zAP ba1.out B12.out) 1).trans rfl
 have z2 : w2.cell? ⟨w.heap.size, 2, none⟩ = some (.int .i64 t.f1) := (zAE (zAP ba1.out B12.out) 2).trans rfl
 have z3 : w2.cell? ⟨w.heap.size, 3, none⟩ = some (.int .i64 t.f2) := (zAE (zAP ba1.out B12.out) 3).trans rfl
 have z4 : w2.cell? ⟨w.heap.size, 4, none⟩ = some (.int .i64 t.f3) := (zAE (zAP ba1.out B12.out) 4).trans rfl
 obtain ⟨g2, hg2⟩ : ∃ g2, wa.heap.size = g2 := ⟨_, rfl⟩
 obtain ⟨g3, hg3⟩ : ∃ g3, w1.heap.size = g3 := ⟨_, rfl⟩
 obtain ⟨g5, hg5⟩ : ∃ g5, w2.heap.size = g5 := ⟨_, rfl⟩
 obtain ⟨M, hM⟩ : ∃ M, we.heap.size = M := ⟨_, rfl⟩
 have hL0 : Aside0 (RBI w g2 g3 g5 gb M Ac Ao cb cc co n t l O ((O.take 0).map fun k => zAF l k) (.slice none 0 0) (.slice none 0 0) we) := ⟨by
  rw [hg2] at bz1
  rw [hg3] at bd
  rw [hg5] at be
  have hz := zAP bz1.out B1e.out
  refine ⟨hz, zAP bd.out ((B2.mono (by omega)).trans (Be.out.mono (by omega))), be.out, ?_, ?_, ?_, Kd.N_nil _ _ _ _ _, fun k hk => by simp [Value.ownBlock] at hk, zAL Hw1.out B1e.out, by omega, by omega, by omega, by omega, by omega, by omega, by omega, by omega, by omega, by omega⟩
  ·obtain ⟨cells, h1, h2⟩ := hgb.out
   exact ⟨cells, zAP h1 B1e.out, h2⟩
  ·exact Kd.R_mono (Kd.R_types (Kd.R_below hl1.out B1e.out) hz (by decide)) (fun k hk => ⟨by omega, by omega, hk.2⟩)
  ·exact Kd.R_mono (Kd.R_types (Kd.R_lower (Kd.R_below (Kd.R_bound hv2) Be.out) (by omega)) hz (by decide)) (fun k hk => ⟨by have := hk.1.2.2.1; omega, by have := hk.1.2.2.1; omega, hk.2⟩)⟩
 clear hv2 be bd hl1 hgb ba1 bz1 Hwc ba bb bc
 go_wp2_with fail
 clear z1 z2 z3 z4 hwe
 go_loopw [6] (fun s wr => ∃ (m : Nat) (vo : Value), m ≤ n ∧ s = .int .i64 m ∧ Aside0 (RBI w g2 g3 g5 gb M Ac Ao cb cc co n t l O ((O.take m).map fun k => zAF l k) vo vo wr))
  (fun s _ => n - (RowKit.intOf s).toNat)
 case atStart => exact ⟨0, _, Nat.zero_le _, rfl, hL0⟩
 case round =>
  clear hL0
  obtain ⟨m, vo, hm, rfl, hL⟩ := hrel
  by_cases hlt : m < n
  ·have hmn : decide ((m : Int) < (n : Int)) = true := decide_eq_true (by omega)
   have hml : m < O.length := by omega
   have hO := (Kd.R_reads' hL.out.hO)
   obtain ⟨oad, hoe, ho1⟩ := Kd.at_int hO.2.2 (m : Int) (by omega) (by omega)
   subst hoe
   rw [Int.toNat_natCast] at ho1
   have hrdm : rd O (m : Int) = O[m] := by simp [rd, hml]
   rw [hrdm] at ho1
   have htk : ((O.take (m + 1)).map fun k => zAF l k) = ((O.take m).map fun k => zAF l k) ++ [zAF l O[m]] := by
    rw [List.take_succ_eq_append_getElem hml, List.map_append]
    rfl
   have hk := hOr.out O[m] (List.getElem_mem hml)
   rw [hn'.out] at hk
   have htk' := Aside0.mk htk
   clear htk hrdm hO
   generalize O[m] = k at ho1 hk htk'
   obtain ⟨hk0, hk1⟩ := hk
   obtain ⟨ld, rfl⟩ : ∃ ld, Ac = some ld := by
    obtain ⟨g, cap, e, _⟩ := Kd.R_form hL.out.hl (by have := hn'.out; omega)
    injection e with e _ _
    exact ⟨_, e⟩
   obtain ⟨c8, hcl, hMx, hc8⟩ := Kd.R_getA hL.out.hl z37 k hk0 hk1
   have hxs := Aside0.mk (hs (zAF l k) (by unfold zAF; rw [List.getD_eq_getElem?_getD, List.getElem?_eq_getElem (show k.toNat < l.length by have := hn'.out; omega)]; exact List.getElem_mem _))
   have hMx' : k37.M wr w.heap.size (fun k => (k < M ∧ k ≠ g5 ∧ k ≠ g2) ∧ some k ≠ (Value.slice (some ld) n cc).ownBlock) (zAF l k) c8 := hMx
   have hxl : Aside0 (((O.take m).map fun k => zAF l k).length ≤ 4096) := ⟨by simp; omega⟩
   generalize zAF l k = x at hMx' htk' hxs
   generalize ((O.take m).map fun k => zAF l k) = xs at hL htk' hxl
   obtain ⟨v5, rfl, h5⟩ := k37_openM hMx'
   obtain ⟨A5, c5, rfl⟩ := Kd.R_slice h5
   have hF := Aside0.mk (Kd.FK_mono (Kd.FK_of_M hMx') (fun k hk => hk.1))
   have hc8' : ∀ j u, [Value.int .i64 x.f0, .int .i64 x.f1, .int .i64 x.f2, .int .i64 x.f3, .int .i64 x.f4, .slice A5 x.f5.length c5][j]? = some u → wr.cell? (ld.add (k.toNat * 6 + j)) = some u := hc8
   have q0 : wr.cell? (ld.add (k.toNat * 6)) = some (.int .i64 x.f0) := hc8' 0 _ rfl
   have q1 : wr.cell? ⟨(ld.add (k.toNat * 6)).block, (ld.add (k.toNat * 6)).off + 1, none⟩ = some (.int .i64 x.f1) := by rw [← zBP _ _ 1 (by omega)]; exact hc8' 1 _ rfl
   have q2 : wr.cell? ⟨(ld.add (k.toNat * 6)).block, (ld.add (k.toNat * 6)).off + 2, none⟩ = some (.int .i64 x.f2) := by rw [← zBP _ _ 2 (by omega)]; exact hc8' 2 _ rfl
   have q3 : wr.cell? ⟨(ld.add (k.toNat * 6)).block, (ld.add (k.toNat * 6)).off + 3, none⟩ = some (.int .i64 x.f3) := by rw [← zBP _ _ 3 (by omega)]; exact hc8' 3 _ rfl
   have q4 : wr.cell? ⟨(ld.add (k.toNat * 6)).block, (ld.add (k.toNat * 6)).off + 4, none⟩ = some (.int .i64 x.f4) := by rw [← zBP _ _ 4 (by omega)]; exact hc8' 4 _ rfl
   have q5 : wr.cell? ⟨(ld.add (k.toNat * 6)).block, (ld.add (k.toNat * 6)).off + 5, none⟩ = some (.slice A5 x.f5.length c5) := by rw [← zBP _ _ 5 (by omega)]; exact hc8' 5 _ rfl
   have hc0 := hL.out.cell
   have hc1 := hL.out.cellc
   have hc2 := hL.out.cellb
   clear hMx hMx' hc8 hc8' h5 hcl
   go_wp2_with fail
   refine zCA (n := 17) (S := fun w' => w'.cell? ⟨g5, 0, none⟩ = some vo ∧ w'.cell? ⟨g3, 1, none⟩ = some (.slice (some ⟨gb, 0, none⟩) 1 cb) ∧ w'.cell? ⟨gb, 0, none⟩ = some (.slice (some ld) n cc) ∧ w'.cell? (oad.add m) = some (.int .i64 k) ∧ w'.cell? (ld.add (k.toNat * 6)) = some (.int .i64 x.f0) ∧ w'.cell? ⟨(ld.add (k.toNat * 6)).block, (ld.add (k.toNat * 6)).off + 1, none⟩ = some (.int .i64 x.f1) ∧ w'.cell? ⟨(ld.add (k.toNat * 6)).block, (ld.add (k.toNat * 6)).off + 2, none⟩ = some (.int .i64 x.f2) ∧ w'.cell? ⟨(ld.add (k.toNat * 6)).block, (ld.add (k.toNat * 6)).off + 3, none⟩ = some (.int .i64 x.f3) ∧ w'.cell? ⟨(ld.add (k.toNat * 6)).block, (ld.add (k.toNat * 6)).off + 4, none⟩ = some (.int .i64 x.f4) ∧ w'.cell? ⟨(ld.add (k.toNat * 6)).block, (ld.add (k.toNat * 6)).off + 5, none⟩ = some (.slice A5 x.f5.length c5)) (ds := [14, 16]) #[fF,fF,fF,fF,fF,fF,fF,fF,fF,fF,fF,fF,fF,fF,fF,fF,fF] (by kernel_rfl) rfl rfl ⟨hc0, hc1, hc2, ho1, q0, q1, q2, q3, q4, q5⟩ (fun hHeld => ?_)
   have hL1 : Aside0 (RBI w g2 g3 g5 gb M (some ld) (some oad) cb cc co n t l O xs vo vo wr.drew) := ⟨hL.out.below (zAA (Below.refl _ _) 1)⟩
   have hF1 : Aside0 (Kd.FK k37 wr.drew (fun k => k < M ∧ k ≠ g5 ∧ k ≠ g2) x [.int .i64 x.f0, .int .i64 x.f1, .int .i64 x.f2, .int .i64 x.f3, .int .i64 x.f4, .slice A5 x.f5.length c5]) := ⟨Kd.FK_below hF.out (zAA (Below.refl _ _) 1)⟩
   clear hL hF hc0 hc1 hc2 q0 q1 q2 q3 q4 q5 ho1
   generalize wr.drew = W1 at hL1 hF1 hHeld ⊢
   refine pure_ (i := 0) (N := some 31) (v := ?_) (a' := ?_) #[tT,fF,fF,fF,fF,fF,fF,fF,fF,fF,fF,fF,fF,fF,fF,fF,fF] rfl rfl (by kernel_rfl) (fun _ _ _ h => h) (Or.inl ⟨by rfl, ?_⟩) ?_ ?_
   rotate_left
   ·intro w'
    go_simp
    try with_reducible rfl
   rotate_left
   ·simp only [Act.put, List.setIfInBounds_toArray, List.set_cons_zero, List.set_cons_succ, i64_w, i32_w]
    rfl
   refine take_ (i := 1) (N := some 32) (v := ?_) (a' := ?_) #[tT,tT,fF,fF,fF,fF,fF,fF,fF,fF,fF,fF,fF,fF,fF,fF,fF] rfl rfl (by kernel_rfl) (fun _ _ _ h => h) (Or.inl ⟨by rfl, ?_⟩) hHeld ?_ ?_
   rotate_left
   ·rintro w' ⟨s0, s1, s2, s3, s4, s5, s6, s7, s8, s9⟩
    go_simp
    try with_reducible rfl
   rotate_left
   ·simp only [Act.put, List.setIfInBounds_toArray, List.set_cons_zero, List.set_cons_succ, i64_w, i32_w]
    rfl
   refine pure_ (i := 2) (N := some 33) (v := ?_) (a' := ?_) #[tT,tT,tT,fF,fF,fF,fF,fF,fF,fF,fF,fF,fF,fF,fF,fF,fF] rfl rfl (by kernel_rfl) (fun _ _ _ h => h) (Or.inl ⟨by rfl, ?_⟩) ?_ ?_
   rotate_left
   ·intro w'
    go_simp
    try with_reducible rfl
   rotate_left
   ·simp only [Act.put, List.setIfInBounds_toArray, List.set_cons_zero, List.set_cons_succ, i64_w, i32_w]
    rfl
   refine take_ (i := 3) (N := some 34) (v := ?_) (a' := ?_) #[tT,tT,tT,tT,fF,fF,fF,fF,fF,fF,fF,fF,fF,fF,fF,fF,fF] rfl rfl (by kernel_rfl) (fun _ _ _ h => h) (Or.inl ⟨by rfl, ?_⟩) hHeld ?_ ?_
   rotate_left
   ·rintro w' ⟨s0, s1, s2, s3, s4, s5, s6, s7, s8, s9⟩
    go_simp
    try with_reducible rfl
   rotate_left
   ·simp only [Act.put, List.setIfInBounds_toArray, List.set_cons_zero, List.set_cons_succ, i64_w, i32_w]
    rfl
   refine pure_ (i := 4) (N := some 35) (v := ?_) (a' := ?_) #[tT,tT,tT,tT,tT,fF,fF,fF,fF,fF,fF,fF,fF,fF,fF,fF,fF] rfl rfl (by kernel_rfl) (fun _ _ _ h => h) (Or.inl ⟨by rfl, ?_⟩) ?_ ?_
   rotate_left
   ·intro w'
    go_simp
    try with_reducible rfl
   rotate_left
   ·simp only [Act.put, List.setIfInBounds_toArray, List.set_cons_zero, List.set_cons_succ, i64_w, i32_w]
    rfl
   refine pure_ (i := 5) (N := some 36) (v := ?_) (a' := ?_) #[tT,tT,tT,tT,tT,tT,fF,fF,fF,fF,fF,fF,fF,fF,fF,fF,fF] rfl rfl (by kernel_rfl) (fun _ _ _ h => h) (Or.inl ⟨by rfl, ?_⟩) ?_ ?_
   rotate_left
   ·intro w'
    go_simp
    try with_reducible rfl
   rotate_left
   ·simp only [Act.put, List.setIfInBounds_toArray, List.set_cons_zero, List.set_cons_succ, i64_w, i32_w]
    rfl
   refine take_ (i := 6) (N := some 37) (v := ?_) (a' := ?_) #[tT,tT,tT,tT,tT,tT,tT,fF,fF,fF,fF,fF,fF,fF,fF,fF,fF] rfl rfl (by kernel_rfl) (fun _ _ _ h => h) (Or.inl ⟨by rfl, ?_⟩) hHeld ?_ ?_
   rotate_left
   ·rintro w' ⟨s0, s1, s2, s3, s4, s5, s6, s7, s8, s9⟩
    go_simp
    try with_reducible rfl
   rotate_left
   ·simp only [Act.put, List.setIfInBounds_toArray, List.set_cons_zero, List.set_cons_succ, i64_w, i32_w]
    rfl
   refine pure_ (i := 7) (N := some 38) (v := ?_) (a' := ?_) #[tT,tT,tT,tT,tT,tT,tT,tT,fF,fF,fF,fF,fF,fF,fF,fF,fF] rfl rfl (by kernel_rfl) (fun _ _ _ h => h) (Or.inl ⟨by rfl, ?_⟩) ?_ ?_
   rotate_left
   ·intro w'
    go_simp
    try with_reducible rfl
   rotate_left
   ·simp only [Act.put, List.setIfInBounds_toArray, List.set_cons_zero, List.set_cons_succ, i64_w, i32_w]
    rfl
   refine pure_ (i := 8) (N := some 39) (v := ?_) (a' := ?_) #[tT,tT,tT,tT,tT,tT,tT,tT,tT,fF,fF,fF,fF,fF,fF,fF,fF] rfl rfl (by kernel_rfl) (fun _ _ _ h => h) (Or.inl ⟨by rfl, ?_⟩) ?_ ?_
   rotate_left
   ·intro w'
    go_simp
    try with_reducible rfl
   rotate_left
   ·simp only [Act.put, List.setIfInBounds_toArray, List.set_cons_zero, List.set_cons_succ, i64_w, i32_w]
    rfl
   refine pure_ (i := 9) (N := some 40) (v := ?_) (a' := ?_) #[tT,tT,tT,tT,tT,tT,tT,tT,tT,tT,fF,fF,fF,fF,fF,fF,fF] rfl rfl (by kernel_rfl) (fun _ _ _ h => h) (Or.inl ⟨by rfl, ?_⟩) ?_ ?_
   rotate_left
   ·intro w'
    go_simp
    try with_reducible rfl
   rotate_left
   ·simp only [Act.put, List.setIfInBounds_toArray, List.set_cons_zero, List.set_cons_succ, i64_w, i32_w]
    rfl
   refine take_ (i := 10) (N := some 41) (v := ?_) (a' := ?_) #[tT,tT,tT,tT,tT,tT,tT,tT,tT,tT,tT,fF,fF,fF,fF,fF,fF] rfl rfl (by kernel_rfl) (fun _ _ _ h => h) (Or.inl ⟨by rfl, ?_⟩) hHeld ?_ ?_
   rotate_left
   ·rintro w' ⟨s0, s1, s2, s3, s4, s5, s6, s7, s8, s9⟩
    go_simp
    try with_reducible rfl
   rotate_left
   ·simp only [Act.put, List.setIfInBounds_toArray, List.set_cons_zero, List.set_cons_succ, i64_w, i32_w]
    rfl
   refine pure_ (i := 11) (N := some 42) (v := ?_) (a' := ?_) #[tT,tT,tT,tT,tT,tT,tT,tT,tT,tT,tT,tT,fF,fF,fF,fF,fF] rfl rfl (by kernel_rfl) (fun _ _ _ h => h) (Or.inl ⟨by rfl, ?_⟩) ?_ ?_
   rotate_left
   ·intro w'
    go_simp
    try with_reducible rfl
   rotate_left
   ·simp only [Act.put, List.setIfInBounds_toArray, List.set_cons_zero, List.set_cons_succ, i64_w, i32_w]
    rfl
   refine take_ (i := 12) (N := some 43) (v := ?_) (a' := ?_) #[tT,tT,tT,tT,tT,tT,tT,tT,tT,tT,tT,tT,tT,fF,fF,fF,fF] rfl rfl (by kernel_rfl) (fun _ _ _ h => h) (Or.inl ⟨by rfl, ?_⟩) hHeld ?_ ?_
   rotate_left
   ·rintro w' ⟨s0, s1, s2, s3, s4, s5, s6, s7, s8, s9⟩
    go_simp
    try with_reducible rfl
   rotate_left
   ·simp only [Act.put, List.setIfInBounds_toArray, List.set_cons_zero, List.set_cons_succ, i64_w, i32_w]
    rfl
   refine one_ (i := 13) (N := some 44) #[tT,tT,tT,tT,tT,tT,tT,tT,tT,tT,tT,tT,tT,tT,fF,fF,fF] rfl rfl (by kernel_rfl) (by decide) (fun K hK => ?_)
   refine value_ (w1 := ?_) (v := ?_) (by rfl) rfl ?_ ?_
   rotate_left 2
   ·go_simp
    constructor
    ·rfl
    ·rfl
   refine hK.out _ _ ⟨zAK (zAC (Below.refl _ _) _) hHeld.1, zAK (zAC (Below.refl _ _) _) hHeld.2.1, zAK (zAC (Below.refl _ _) _) hHeld.2.2.1, zAK (zAC (Below.refl _ _) _) hHeld.2.2.2.1, zAK (zAC (Below.refl _ _) _) hHeld.2.2.2.2.1, zAK (zAC (Below.refl _ _) _) hHeld.2.2.2.2.2.1, zAK (zAC (Below.refl _ _) _) hHeld.2.2.2.2.2.2.1, zAK (zAC (Below.refl _ _) _) hHeld.2.2.2.2.2.2.2.1, zAK (zAC (Below.refl _ _) _) hHeld.2.2.2.2.2.2.2.2.1, zAK (zAC (Below.refl _ _) _) hHeld.2.2.2.2.2.2.2.2.2⟩ (fun hHeld => ?_)
   clear hK K
   refine norm_ (a' := ?_) ?_ ?_
   rotate_left
   ·show Act.put _ (some 44) _ = _
    simp only [Act.put, List.setIfInBounds_toArray, List.set_cons_zero, List.set_cons_succ, i64_w, i32_w]
    rfl
   refine last_ (i := 14) (N := some 45) #[tT,tT,tT,tT,tT,tT,tT,tT,tT,tT,tT,tT,tT,tT,tT,fF,fF] rfl rfl (by kernel_rfl) (by decide) (fun K hK => ?_)
   refine Kd.N_append_step k37 (w0 := w) w.heap.size (by rfl) (.tmp 32) (.tmp 44) 22 37 (.agg #[(.int .i64 0), (.int .i64 0), (.int .i64 0), (.int .i64 0), (.int .i64 0), (.slice none 0 0)]) 64 rfl Try.underlying22 info37 rfl (by decide) (by omega) vo xs x [.int .i64 x.f0, .int .i64 x.f1, .int .i64 x.f2, .int .i64 x.f3, .int .i64 x.f4, .slice A5 x.f5.length c5] (fun k => k ≠ g5 ∧ k ≠ g2) (fun k => k < M ∧ k ≠ g5 ∧ k ≠ g2) rfl rfl hF1.out ?aK ?aF ?aO ?aB ?aS ?aL ?_
   (case aK => intro k hk; exact ⟨hk.2, fun he => by have := hL1.out.own k he.symm; omega⟩)
   (case aF => intro k hk; have := hL1.out.lt; omega)
   (case aO => exact hL1.out.hv)
   (case aB => exact hL1.out.hB)
   (case aS => exact hL1.out.hB.size)
   (case aL => have := hxl.out; omega)
   intro v1 w4 hv1 hb4 hg4 hat4
   have hL4 := Aside0.mk (hL1.out.grown hv1 hb4 hg4 hat4)
   obtain ⟨Av, cv, hve⟩ := Kd.N_slice hv1
   rw [show (xs ++ [x]).length = xs.length + 1 by simp] at hve
   subst hve
   refine hK.out _ _ ?_
   clear hK K
   refine norm_ (a' := ?_) ?_ ?_
   rotate_left
   ·show Act.put _ (some 45) _ = _
    simp only [Act.put, List.setIfInBounds_toArray, List.set_cons_zero, List.set_cons_succ, i64_w, i32_w]
    rfl
   refine pure_ (i := 15) (N := some 46) (v := ?_) (a' := ?_) #[tT,tT,tT,tT,tT,tT,tT,tT,tT,tT,tT,tT,tT,tT,tT,tT,fF] rfl rfl (by kernel_rfl) (fun _ _ _ h => h) (Or.inl ⟨by rfl, ?_⟩) ?_ ?_
   rotate_left
   ·intro w'
    go_simp
    try with_reducible rfl
   rotate_left
   ·simp only [Act.put, List.setIfInBounds_toArray, List.set_cons_zero, List.set_cons_succ, i64_w, i32_w]
    rfl
   refine last_ (i := 16) (N := none) #[tT,tT,tT,tT,tT,tT,tT,tT,tT,tT,tT,tT,tT,tT,tT,tT,tT] rfl rfl (by kernel_rfl) (by decide) (fun K hK => ?_)
   have s0 := hL4.out.cell
   have s1 := zAB hL4.out.ho 0
   refine skip_ (w1 := ?_) (by rfl) rfl ?_ ?_
   rotate_left
   ·go_simp
    rfl
   have hL5 := Aside0.mk (hL4.out.set (.slice Av (xs.length + 1) cv))
   refine hK.out _ _ ?_
   clear hK K
   refine done_ (by kernel_rfl) ?_
   try go_wp2
   go_roundw
   case rel => exact ⟨m + 1, _, by omega, by go_num, by rw [htk'.out]; exact hL5⟩
   case measure => simp [RowKit.intOf]; omega
  ·obtain rfl : m = n := by omega
   have hmn : decide ((m : Int) < (m : Int)) = false := decide_eq_false (by omega)
   obtain ⟨Av, cv, hve⟩ := Kd.N_slice hL.out.hv
   rw [show ((O.take m).map fun k => zAF l k).length = m by simp; omega] at hve
   subst hve
   have hc0 := hL.out.cell
   have hc1 : wr.cell? ⟨g5, 1, none⟩ = some (.int .i64 t.f0) := (zAE hL.out.ho 1).trans rfl
   have hc2 : wr.cell? ⟨g5, 2, none⟩ = some (.int .i64 t.f1) := (zAE hL.out.ho 2).trans rfl
   have hc3 : wr.cell? ⟨g5, 3, none⟩ = some (.int .i64 t.f2) := (zAE hL.out.ho 3).trans rfl
   have hc4 : wr.cell? ⟨g5, 4, none⟩ = some (.int .i64 t.f3) := (zAE hL.out.ho 4).trans rfl
   have hz0 : wr.cell? ⟨g2, 0, none⟩ = some (.slice none 0 0) := (zAE hL.out.hz 0).trans rfl
   have hz1 : wr.cell? ⟨g2, 1, none⟩ = some (.int .i64 0) := (zAE hL.out.hz 1).trans rfl
   have hz2 : wr.cell? ⟨g2, 2, none⟩ = some (.int .i64 0) := (zAE hL.out.hz 2).trans rfl
   have hz3 : wr.cell? ⟨g2, 3, none⟩ = some (.int .i64 0) := (zAE hL.out.hz 3).trans rfl
   have hz4 : wr.cell? ⟨g2, 4, none⟩ = some (.int .i64 0) := (zAE hL.out.hz 4).trans rfl
   have hf0 := zAB hL.out.hz 0
   have hf1 := zAB hL.out.hz 1
   have hf2 := zAB hL.out.hz 2
   have hf3 := zAB hL.out.hz 3
   have hf4 := zAB hL.out.hz 4
   have hend := hL.out.hv
   rw [show List.take m O = O by rw [← hOl, List.take_length]] at hend
   have hend' := Aside0.mk hend
   have hB := Aside0.mk hL.out.hB
   clear hend
   have hL' := Aside0.mk hL.out
   clear hL
   go_wp2_with fail
   refine bodyPost_ret (results_cell_row rfl _ _ g2 29 #[.slice Av m cv, .int .i64 t.f0, .int .i64 t.f1, .int .i64 t.f2, .int .i64 t.f3] (0, 0) _ rfl (by refine zAR (cs := #[.slice Av m cv, .int .i64 t.f0, .int .i64 t.f1, .int .i64 t.f2, .int .i64 0]) ?_ 4 _ rfl; refine zAR (cs := #[.slice Av m cv, .int .i64 t.f0, .int .i64 t.f1, .int .i64 0, .int .i64 0]) ?_ 3 _ rfl; refine zAR (cs := #[.slice Av m cv, .int .i64 t.f0, .int .i64 0, .int .i64 0, .int .i64 0]) ?_ 2 _ rfl; refine zAR (cs := #[.slice Av m cv, .int .i64 0, .int .i64 0, .int .i64 0, .int .i64 0]) ?_ 1 _ rfl; refine zAR (cs := #[.slice none 0 0, .int .i64 0, .int .i64 0, .int .i64 0, .int .i64 0]) ?_ 0 _ rfl; exact hL'.out.hz) Try.underlying29 rfl (by kernel_rfl)) rfl ?_
   have ge : w.heap.size ≤ g2 := hL'.out.lt.1
   have hne : ∀ k, (k ≠ g5 ∧ k ≠ g2) → k ≠ g2 := fun k hk => hk.2
   have hN := Kd.N_far (p := ⟨g2, 4, none⟩) (Kd.N_far (p := ⟨g2, 3, none⟩) (Kd.N_far (p := ⟨g2, 2, none⟩) (Kd.N_far (p := ⟨g2, 1, none⟩) (Kd.N_far (p := ⟨g2, 0, none⟩) hend'.out hne (.slice Av m cv)) hne (.int .i64 t.f0)) hne (.int .i64 t.f1)) hne (.int .i64 t.f2)) hne (.int .i64 t.f3)
   have hr5 := Kd.N_reads' hN
   have hlen2 : (O.map fun k => zAF l k).length = m := by rw [List.length_map]; exact hOl
   rw [hlen2] at hr5 ⊢
   refine ⟨_, _, rfl, hr5.2.1, hr5.2.2, ?_⟩
   exact zAH (zAH (zAH (zAH (zAH hB.out ge) ge) ge) ge) ge
end Go.Proofs.Ytphmlkbmnmicpaa.A
