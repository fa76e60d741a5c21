/- Parts of the proof, in the order in which they rest on one another. -/
import Derived.Test.YtkmbhknmjnbanaaMOrders3
import Derived.Below
import Derived.Deep.Draws
import Derived.Deep.AppendLies
import Derived.Maps.AppendAt
import Derived.OwnWalk
import Derived.Laws.BytesArg
import Derived.Laws.MakeOwn
import Derived.Laws.OwnMore
import Derived.Deep.OwnRows
import Derived.Tactics
import Derived.Lib.ConvBytes
import Derived.Laws.Slices
import Derived.WalkKit
import Derived.KernelRfl
import Derived.RowKit3
import Derived.Deep.LoopGhost
import Derived.Deep.QuietTactic
import Derived.BigQuiet
import Derived.WideLaws
import Derived.Deep.DeepCutAuto
import Derived.Deep.CutBlock
import Derived.Deep.RegionHeld3
import Derived.Laws.Rows
import Derived.Lib.AppendStr
import Derived.ArgAppend
import Derived.Laws.IdiomCopy
import Derived.RowKit
import Derived.OrdersHeld
import Derived.Laws.BitsLemmas
import Derived.Laws.StructEq
import Derived.Test.YtkmbhknmjnbanaaProg
import Derived.Shelf.Abstract
import Derived.Lib.Walk
import Derived.RangeFuncWrites
import Derived.RangeFuncNested
import Derived.RangeFuncBound
import Derived.RangeFuncCalls
import Derived.RangeFuncLeaves
import Derived.Shelf.RegionOpen
import Derived.OwnWalkIn
import Derived.TacticsInMore
import Derived.LoopNIn
import Derived.LoopIn
import Derived.Laws.EntriesVeiled
import Derived.RangeFuncBox
import Derived.Laws.CopyOwn
import Derived.Deep.RegionLaw
import Derived.BigRegion
import Derived.WalkSpells
import Derived.Shelf.SlIterI.Nil
import Derived.Shelf.SortM.Plain
import Derived.Shelf.SortM.SortNone
import Derived.Ground.GgzProg
import Derived.Ground.SlgmProg
import Derived.Shelf.SlGeneric
import Derived.Maps.Own
import Derived.Maps.OwnOps
import Derived.Maps.OwnSet
import Derived.Maps.Views
import Derived.RangeFuncRecord
import Derived.Deep.RegionLawGrows
import Derived.Deep.Upon
import Derived.Maps.OwnRows
import Derived.Maps.GroupsBeside
namespace Go.Proofs.Ytkmbhknmjnbanaa.A
open Go.RowKit Go.Proofs.YtkmbhknmjnbanaaW.PrintWords Go.Proofs.YtkmbhknmjnbanaaW.PrintLast Go.Proofs.YtkmbhknmjnbanaaW.PrintMore
attribute [local go_sem] max2_int min2_int max_two min_two max_three min_three max_four min_four   -- for this text's walks alone
set_option linter.unusedVariables false
set_option linter.unusedSimpArgs false

mutual
def swageref06_Places.l0 : Nat → List Int → List Int → Int → Option (List Int)
  | 0, _, _, _ => none
  | k + 1, x3, x4, x5 => if x5 < (x4.length : Int) then (if 0 ≤ x5 then (swageref06_Places.l0 k x3 (x4.set (x5 : Int).toNat (-1)) (wrap64 (x5 + 1))) else (none)) else (swageref06_Places.l1 k x3 x4 0)
def swageref06_Places.l1 : Nat → List Int → List Int → Int → Option (List Int)
  | 0, _, _, _ => none
  | k + 1, x3, x4, x6 => if x6 < (x3.length : Int) then (if 0 ≤ x6 then (if 0 ≤ (rd x3 x6) then (if (rd x3 x6) < (x4.length : Int) then (swageref06_Places.l1 k x3 (x4.set ((rd x3 x6) : Int).toNat x6) (wrap64 (x6 + 1))) else (none)) else (none)) else (none)) else (some x4)
end
def swageref06_Places.f (k : Nat) (l0 : List (List Int)) : Option (List Int) := (swageref06_Order.f k l0).bind fun t394 => (if 0 ≤ (l0.length : Int) then (if ((l0.length : Int) : Int).toNat ≤ 35184372088832 then (swageref06_Places.l0 k t394 (List.replicate ((l0.length : Int) : Int).toNat 0) 0) else (none)) else (none))
set_option maxHeartbeats 8000000 in
set_option maxRecDepth 100000 in
theorem swageref06_Places.calls (k : Nat) (A0 : Option Addr) (c0 : Nat) (l0 : List (List Int)) (r : List Int) (w : World) (hr0 : Kd.C (Kd.slice 3 (Kd.int .i64)) w A0 l0.length l0) (hc0 : l0.length ≤ c0) (h : swageref06_Places.f k l0 = some r) :
    Calls Try.prog 55 #[.slice A0 l0.length c0] w fun e w' => ∃ v0_ : Value, e = .returned (v0_) ∧ Kd.R (Kd.int .i64) 3 w' w.heap.size (fun _ => True) v0_ r ∧ Below w.heap.size w w' := by
  have HR0 := Aside0.mk hr0
  have HC0 := Aside0.mk hc0
  clear hr0 hc0
  have HB := Aside0.mk (Below.refl w.heap.size w)
  have H : ((swageref06_Order.f k l0).bind fun t394 => (if 0 ≤ (l0.length : Int) then (if ((l0.length : Int) : Int).toNat ≤ 35184372088832 then (swageref06_Places.l0 k t394 (List.replicate ((l0.length : Int) : Int).toNat 0) 0) else (none)) else (none))) = some r := h
  clear h
  replace H := Option.bind_eq_some_iff.mp H
  obtain ⟨t394, A20, H⟩ := H
  replace H : (if 0 ≤ (l0.length : Int) then (if ((l0.length : Int) : Int).toNat ≤ 35184372088832 then (swageref06_Places.l0 k t394 (List.replicate ((l0.length : Int) : Int).toNat 0) 0) else (none)) else (none)) = some r := H
  have A2 := Aside0.mk A20
  clear A20
  by_cases c3 : 0 ≤ (l0.length : Int)
  · rw [if_pos c3] at H
    have c3b0 := eq_true c3
    have c3b1 : decide (0 ≤ (l0.length : Int)) = true := decide_eq_true c3
    clear c3
    by_cases c4 : ((l0.length : Int) : Int).toNat ≤ 35184372088832
    · rw [if_pos c4] at H
      have c4b0 := eq_true c4
      have c4b1 : decide (((l0.length : Int) : Int).toNat ≤ 35184372088832) = true := decide_eq_true c4
      clear c4
      obtain ⟨y397, hy397⟩ : ∃ y_ : List Int, y_ = (List.replicate ((l0.length : Int) : Int).toNat 0) := ⟨_, rfl⟩
      replace H : (swageref06_Places.l0 k t394 y397 0) = some r := by first | (rw [hy397]; with_reducible exact H) | (have H2_ := (Option.bind_some _ _).symm.trans H; rw [hy397]; with_reducible exact H2_) | (have H2_ := (Option.bind_some _ _).symm.trans H; with_reducible exact H2_) | with_reducible exact H | (rw [hy397]; exact H) | exact H
      have Ny397 := Aside0.mk hy397
      clear hy397
      have H' := Aside0.mk H
      clear H
      go_enter Try.func55, Try.ntmps55
      go_wp2_with (first | ((with_reducible refine gate_callee (f := 29) rfl ?_); refine goesL_ (some 8) rfl rfl Try.func29 (by kernel_rfl) rfl #[.slice A0 l0.length c0] rfl (by (try simp only [List.map_toArray, List.map_cons, List.map_nil]); first | done | rfl | (simp only [List.length_drop, List.length_take]; rfl)) ?_; (with_reducible refine (swageref06_Order.calls k _ _ l0 t394 _ ?side1 ?side2 A2.out).mono ?_); (case side1 => repeat (first | exact HR0.out | (with_reducible refine Kd.C_alloc ?_ _) | (with_reducible refine Kd.C_drewN ?_ _) | (with_reducible refine Kd.C_drew ?_))); (case side2 => exact HC0.out); rintro e w5 ⟨v395, rfl, ho0, hb⟩; refine ⟨_, rfl, ?_⟩; have n0_ := Aside0.mk (Kd.R_lower ho0 (below_size (by repeat (first | (with_reducible first | exact HB.out | apply below_alloc | apply pw_below_drewN | apply below_drew1) | exact HB.out)))); have n1_ := Aside0.mk (below_step (by repeat (first | (with_reducible first | exact HB.out | apply below_alloc | apply pw_below_drewN | apply below_drew1) | exact HB.out)) hb); clear HB; have HO396 := n0_; have HB := n1_; clear n0_ n1_; (try clear hb); (try clear hb2); (try clear hk); (try clear hi); (try clear ho0)) | ((with_reducible refine gate_dst (N := 11) rfl ?_); refine Kd.R_make (Kd.int .i64) _ 3 rfl (N := 11) rfl 27 _ _ rfl (l0.length : Int) rfl rfl Try.underlying27 (.int .i64 0) 8 info3 rfl (by decide) (by omega) 0 (ok := fun _ => True) (okp := fun _ => True) rfl (fun _ hk => hk) trivial (of_decide_eq_true (by first | (with_reducible assumption) | assumption)) (Nat.le_trans (Nat.mul_le_mul_right _ (of_decide_eq_true (by first | (with_reducible assumption) | assumption) : (l0.length : Int).toNat ≤ 35184372088832)) (by omega)) (Below.refl _ _) (Nat.le_refl _) ?_; intro v398 w6 ho7 hb hg_ hnew_; clear hg_ hnew_; (first | rw [← Ny397.out] at ho7 | (simp only [Int.reduceToNat] at ho7; rw [← Ny397.out] at ho7)); have n0_ := Aside0.mk (Kd.R_elder' (by (with_reducible repeat (first | apply Kd.R_alloc | apply Kd.R_drewN | apply Kd.R_drew)); exact HO396.out) (Kd.R_base ho7) hb); have n1_ := Aside0.mk (Kd.R_lower (Kd.R_new' ho7 (Kd.R_lt (by (with_reducible repeat (first | apply Kd.R_alloc | apply Kd.R_drewN | apply Kd.R_drew)); exact HO396.out))) (below_size (by repeat (first | (with_reducible first | exact HB.out | apply below_alloc | apply pw_below_drewN | apply below_drew1) | exact HB.out)))); have n2_ := Aside0.mk (below_step (by repeat (first | (with_reducible first | exact HB.out | apply below_alloc | apply pw_below_drewN | apply below_drew1) | exact HB.out)) hb); clear HO396; clear HB; have HO396 := n0_; have HO399 := n1_; have HB := n2_; clear n0_ n1_ n2_; clear hb ho7))
      go_loopg [5] k (fun kq v5 w' => ∃ (x4_1 : List Int) (x5_1 : Int), v5 = .int .i64 x5_1 ∧ Aside0 (swageref06_Places.l0 kq t394 x4_1 x5_1 = some r) ∧ Aside0 (kq ≤ k) ∧ Aside0 (Kd.R (Kd.int .i64) 3 w' w.heap.size (fun k_ => some k_ ≠ (v398 : Value).ownBlock) v395 t394) ∧ Aside0 (Kd.R (Kd.int .i64) 3 w' w.heap.size (fun k_ => some k_ ≠ (v395 : Value).ownBlock) v398 x4_1) ∧ Aside0 (Below w.heap.size w w'))
      case atStart => exact ⟨(y397), (0), (by first | rfl | (simp; done) | (simp [*]; done)), H', ⟨Nat.le_refl _⟩, ⟨by (with_reducible repeat (first | apply Kd.R_alloc | apply Kd.R_drewN | apply Kd.R_drew)); exact Kd.R_mono HO396.out (fun _ hk => hk.2)⟩, ⟨by (with_reducible repeat (first | apply Kd.R_alloc | apply Kd.R_drewN | apply Kd.R_drew)); exact Kd.R_mono HO399.out (fun _ hk => hk.2)⟩, ⟨by repeat (first | (with_reducible first | exact HB.out | apply below_alloc | apply pw_below_drewN | apply below_drew1) | exact HB.out)⟩⟩
      case round =>
        clear H'
        try clear c2
        try clear p2
        try clear c3
        try clear c3b0
        try clear c3b1
        try clear c4
        try clear c4b0
        try clear c4b1
        try clear c5
        obtain ⟨x4_1, x5_1, rfl, HA, HK1, HO_3, HO_4, HB⟩ := hrel
        cases gk with
        | zero => exact absurd HA.out (by simp [swageref06_Places.l0])
        | succ k1 =>
          have H := HA.out
          clear HA
          simp only [swageref06_Places.l0] at H
          by_cases c8 : x5_1 < (x4_1.length : Int)
          · rw [if_pos c8] at H
            have c8b0 : decide (x5_1 < (x4_1.length : Int)) = true := decide_eq_true c8
            clear c8
            by_cases c9 : 0 ≤ x5_1
            · rw [if_pos c9] at H
              have c9b0 : decide (0 ≤ x5_1) = true := decide_eq_true c9
              clear c9
              obtain ⟨y400, hy400⟩ : ∃ y_ : List Int, y_ = (x4_1.set (x5_1 : Int).toNat (-1)) := ⟨_, rfl⟩
              replace H : (swageref06_Places.l0 k1 t394 y400 (wrap64 (x5_1 + 1))) = some r := by first | (rw [hy400]; with_reducible exact H) | (have H2_ := (Option.bind_some _ _).symm.trans H; rw [hy400]; with_reducible exact H2_) | (have H2_ := (Option.bind_some _ _).symm.trans H; with_reducible exact H2_) | with_reducible exact H | (rw [hy400]; exact H) | exact H
              have Ny400 := Aside0.mk hy400
              clear hy400
              have H' := Aside0.mk H
              clear H
              obtain ⟨Ao11, co11, eo11⟩ := Kd.R_slice HO_4.out
              subst eo11
              have p10 : 0 ≤ (x5_1 : Int) := of_decide_eq_true (by first | (with_reducible assumption) | assumption)
              have q10 : (x5_1 : Int) < ((x4_1.length : Int) : Int) := of_decide_eq_true (by first | (with_reducible assumption) | assumption)
              obtain ⟨go10, co10, eo10, gb10, gl10, cl10, HG10⟩ := Kd.R_form HO_4.out (by omega)
              (first | cases eo10 | (injection eo10 with ea_ en_ ec_; (first | subst ea_ | (injection ea_ with ea_; subst ea_)); subst ec_; clear en_))
              have GB10 := Aside0.mk gb10
              have GG10 := Aside0.mk HG10
              clear gb10 gl10 HG10
              obtain ⟨hx10_0, hf10_0⟩ := Kd.R_celln 0 HO_4.out (x5_1 : Int) p10 q10
              replace p10 := eq_true p10
              replace q10 := eq_true q10
              have HP12 := Kd.R_putg HO_4.out (x5_1 : Int) (-1)
              go_wp2_with (first | ((with_reducible refine gate_store (t := 3) (p := 20) rfl ?_); refine store_event (t := 3) (p := 20) (v := ?vo_w13) (w1 := (wr.setCell ⟨go10, (x5_1 : Int).toNat, none⟩ (.int .i64 (-1)))) ?hg ?ho ?hn ?hr ?_; (case ho => rfl); (case hg => rfl); (case hn => rfl); (case hr => first | (go_simp; done) | (go_simp; rfl)); intro w13 hw; have hg : wr.grownBy w13 (some go10) := (by rw [hw]; exact HP12.2); have hp_ : Kd.R (Kd.int .i64) 3 w13 w.heap.size (fun k_ => some k_ ≠ (v395 : Value).ownBlock) (.slice (some ⟨go10, 0, none⟩) x4_1.length co11) y400 := (by rw [hw, Ny400.out]; exact HP12.1); clear HP12; have n0_ := Aside0.mk (Kd.R_after (v := (.slice (some ⟨go10, 0, none⟩) x4_1.length co11)) (v1 := (.slice (some ⟨go10, 0, none⟩) x4_1.length co11)) (ok := (fun _ => True)) (by (with_reducible repeat (first | apply Kd.R_alloc | apply Kd.R_drewN | apply Kd.R_drew)); exact Kd.R_mono HO_3.out (fun _ hk => ⟨trivial, hk⟩)) hg (.inl rfl)); have n1_ := Aside0.mk (hp_); have n2_ := Aside0.mk ((by rw [hw]; exact below_set (HB.out) GB10.out : Below w.heap.size w w13)); clear HO_3; clear HO_4; clear HB; have HO_3 := n0_; have HO_4 := n1_; have HB := n2_; clear n0_ n1_ n2_; clear hg hw hp_))
              go_roundg k1
              case measure => have := HK1.out; omega
              case rel => exact ⟨(y400), (wrap64 (x5_1 + 1)), (by first | rfl | (simp; done) | (simp [*]; done)), H', ⟨by have := HK1.out; omega⟩, ⟨by (with_reducible repeat (first | apply Kd.R_alloc | apply Kd.R_drewN | apply Kd.R_drew)); exact Kd.R_mono HO_3.out (fun _ hk => hk.2)⟩, ⟨by (with_reducible repeat (first | apply Kd.R_alloc | apply Kd.R_drewN | apply Kd.R_drew)); exact HO_4.out⟩, ⟨by repeat (first | (with_reducible first | exact HB.out | apply below_alloc | apply pw_below_drewN | apply below_drew1) | exact HB.out)⟩⟩
            · rw [if_neg c9] at H
              exact absurd H (by simp)
          · rw [if_neg c8] at H
            have c8b0 : decide (x5_1 < (x4_1.length : Int)) = false := decide_eq_false c8
            clear c8
            have H' := Aside0.mk H
            clear H
            obtain ⟨Ao14, co14, eo14⟩ := Kd.R_slice HO_4.out
            subst eo14
            go_wp2
            go_loopg [6] k1 (fun kq v6 w' => ∃ (x4_2 : List Int) (x6_2 : Int), v6 = .int .i64 x6_2 ∧ Aside0 (swageref06_Places.l1 kq t394 x4_2 x6_2 = some r) ∧ Aside0 (kq ≤ k1) ∧ Aside0 (Kd.R (Kd.int .i64) 3 w' w.heap.size (fun k_ => some k_ ≠ ((.slice Ao14 x4_1.length co14) : Value).ownBlock) v395 t394) ∧ Aside0 (Kd.R (Kd.int .i64) 3 w' w.heap.size (fun k_ => some k_ ≠ (v395 : Value).ownBlock) (.slice Ao14 x4_1.length co14) x4_2) ∧ Aside0 (Below w.heap.size w w'))
            case atStart => exact ⟨(x4_1), (0), (by first | rfl | (simp; done) | (simp [*]; done)), H', ⟨Nat.le_refl _⟩, ⟨by (with_reducible repeat (first | apply Kd.R_alloc | apply Kd.R_drewN | apply Kd.R_drew)); exact HO_3.out⟩, ⟨by (with_reducible repeat (first | apply Kd.R_alloc | apply Kd.R_drewN | apply Kd.R_drew)); exact HO_4.out⟩, ⟨by repeat (first | (with_reducible first | exact HB.out | apply below_alloc | apply pw_below_drewN | apply below_drew1) | exact HB.out)⟩⟩
            case round =>
              clear H'
              try clear p1
              try clear q1
              try clear hx1
              try clear hf1
              try clear c2
              try clear p2
              try clear c3
              try clear c3b0
              try clear c3b1
              try clear c4
              try clear c4b0
              try clear c4b1
              try clear c5
              try clear p6
              try clear c8
              try clear c8b0
              try clear c9
              try clear c9b0
              try clear p10
              try clear q10
              try clear hx10
              try clear hf10
              try clear hx10_0
              try clear p10
              try clear p2
              try clear q10
              obtain ⟨x4_2, x6_2, rfl, HA, HK2, HO_3, HO_4, HB⟩ := hrel
              have hl4_2 := (Kd.R_reads' HO_4.out).1
              rw [hl4_2] at HO_4
              (try simp only [hl4_2])
              (try simp only [hl4_2] at HO_3)
              cases gk with
              | zero => exact absurd HA.out (by simp [swageref06_Places.l1])
              | succ k2 =>
                have H := HA.out
                clear HA
                simp only [swageref06_Places.l1] at H
                by_cases c15 : x6_2 < (t394.length : Int)
                · rw [if_pos c15] at H
                  have c15b0 : decide (x6_2 < (t394.length : Int)) = true := decide_eq_true c15
                  clear c15
                  by_cases c16 : 0 ≤ x6_2
                  · rw [if_pos c16] at H
                    have c16b0 : decide (0 ≤ x6_2) = true := decide_eq_true c16
                    clear c16
                    by_cases c17 : 0 ≤ (rd t394 x6_2)
                    · rw [if_pos c17] at H
                      have c17b0 : decide (0 ≤ (rd t394 x6_2)) = true := decide_eq_true c17
                      clear c17
                      by_cases c18 : (rd t394 x6_2) < (x4_2.length : Int)
                      · rw [if_pos c18] at H
                        have c18b0 : decide ((rd t394 x6_2) < (x4_2.length : Int)) = true := decide_eq_true c18
                        clear c18
                        obtain ⟨y402, hy402⟩ : ∃ y_ : List Int, y_ = (x4_2.set ((rd t394 x6_2) : Int).toNat x6_2) := ⟨_, rfl⟩
                        replace H : (swageref06_Places.l1 k2 t394 y402 (wrap64 (x6_2 + 1))) = some r := by first | (rw [hy402]; with_reducible exact H) | (have H2_ := (Option.bind_some _ _).symm.trans H; rw [hy402]; with_reducible exact H2_) | (have H2_ := (Option.bind_some _ _).symm.trans H; with_reducible exact H2_) | with_reducible exact H | (rw [hy402]; exact H) | exact H
                        have Ny402 := Aside0.mk hy402
                        clear hy402
                        have H' := Aside0.mk H
                        clear H
                        obtain ⟨Ao20, co20, eo20⟩ := Kd.R_slice HO_3.out
                        subst eo20
                        have p401 : 0 ≤ (x6_2 : Int) := of_decide_eq_true (by first | (with_reducible assumption) | assumption)
                        have q401 : x6_2 < (t394.length : Int) := of_decide_eq_true (by first | (with_reducible assumption) | assumption)
                        obtain ⟨ad401, e401, hx401_0⟩ := Kd.at_int (Kd.R_reads' HO_3.out).2.2 x6_2 p401 q401
                        cases e401
                        replace p401 := eq_true p401
                        replace q401 := eq_true q401
                        have p19 : 0 ≤ ((rd t394 x6_2) : Int) := of_decide_eq_true (by first | (with_reducible assumption) | assumption)
                        have q19 : ((rd t394 x6_2) : Int) < ((x4_2.length : Int) : Int) := of_decide_eq_true (by first | (with_reducible assumption) | assumption)
                        obtain ⟨go19, co19, eo19, gb19, gl19, cl19, HG19⟩ := Kd.R_form HO_4.out (by omega)
                        (first | cases eo19 | (injection eo19 with ea_ en_ ec_; (first | subst ea_ | (injection ea_ with ea_; subst ea_)); subst ec_; clear en_))
                        have GB19 := Aside0.mk gb19
                        have GG19 := Aside0.mk HG19
                        clear gb19 gl19 HG19
                        obtain ⟨hx19_0, hf19_0⟩ := Kd.R_celln 0 HO_4.out ((rd t394 x6_2) : Int) p19 q19
                        replace p19 := eq_true p19
                        replace q19 := eq_true q19
                        have HP21 := Kd.R_putg HO_4.out ((rd t394 x6_2) : Int) x6_2
                        go_wp2_with (first | ((with_reducible refine gate_store (t := 3) (p := 33) rfl ?_); refine store_event (t := 3) (p := 33) (v := ?vo_w22) (w1 := (wr.setCell ⟨go19, ((rd t394 x6_2) : Int).toNat, none⟩ (.int .i64 x6_2))) ?hg ?ho ?hn ?hr ?_; (case ho => rfl); (case hg => rfl); (case hn => rfl); (case hr => first | (go_simp; done) | (go_simp; rfl)); intro w22 hw; have hg : wr.grownBy w22 (some go19) := (by rw [hw]; exact HP21.2); have hp_ : Kd.R (Kd.int .i64) 3 w22 w.heap.size (fun k_ => some k_ ≠ (.slice (some ad401) t394.length co20 : Value).ownBlock) (.slice (some ⟨go19, 0, none⟩) x4_2.length co14) y402 := (by rw [hw, Ny402.out]; exact HP21.1); clear HP21; have n0_ := Aside0.mk (Kd.R_after (v := (.slice (some ⟨go19, 0, none⟩) x4_2.length co14)) (v1 := (.slice (some ⟨go19, 0, none⟩) x4_2.length co14)) (ok := (fun _ => True)) (by (with_reducible repeat (first | apply Kd.R_alloc | apply Kd.R_drewN | apply Kd.R_drew)); exact Kd.R_mono HO_3.out (fun _ hk => ⟨trivial, hk⟩)) hg (.inl rfl)); have n1_ := Aside0.mk (hp_); have n2_ := Aside0.mk ((by rw [hw]; exact below_set (HB.out) GB19.out : Below w.heap.size w w22)); clear HO_3; clear HO_4; clear HB; have HO_3 := n0_; have HO_4 := n1_; have HB := n2_; clear n0_ n1_ n2_; clear hg hw hp_))
                        (try simp only [← hl4_2])
                        go_roundg k2
                        case measure => have := HK1.out; have := HK2.out; omega
                        case rel => exact ⟨(y402), (wrap64 (x6_2 + 1)), (by first | rfl | (simp; done) | (simp [*]; done)), H', ⟨by have := HK1.out; have := HK2.out; omega⟩, ⟨by (try simp only [hl4_2]); (with_reducible repeat (first | apply Kd.R_alloc | apply Kd.R_drewN | apply Kd.R_drew)); exact Kd.R_mono HO_3.out (fun _ hk => hk.2)⟩, ⟨by (try simp only [hl4_2]); (with_reducible repeat (first | apply Kd.R_alloc | apply Kd.R_drewN | apply Kd.R_drew)); exact HO_4.out⟩, ⟨by repeat (first | (with_reducible first | exact HB.out | apply below_alloc | apply pw_below_drewN | apply below_drew1) | exact HB.out)⟩⟩
                      · rw [if_neg c18] at H
                        exact absurd H (by simp)
                    · rw [if_neg c17] at H
                      exact absurd H (by simp)
                  · rw [if_neg c16] at H
                    exact absurd H (by simp)
                · rw [if_neg c15] at H
                  have c15b0 : decide (x6_2 < (t394.length : Int)) = false := decide_eq_false c15
                  clear c15
                  obtain rfl := Option.some.inj H
                  obtain ⟨Ao23, co23, eo23⟩ := Kd.R_slice HO_3.out
                  subst eo23
                  go_wp2
                  go_ret
                  exact ⟨_, by first | rfl | (simp [errW_none, errW_some] <;> rfl) | (simp [*, errW_none, errW_some] <;> rfl), by (with_reducible repeat (first | apply Kd.R_alloc | apply Kd.R_drewN | apply Kd.R_drew)); exact Kd.R_mono HO_4.out (fun _ hk => trivial), by repeat (first | (with_reducible first | exact HB.out | apply below_alloc | apply pw_below_drewN | apply below_drew1) | exact HB.out)⟩
    · rw [if_neg c4] at H
      exact absurd H (by simp)
  · rw [if_neg c3] at H
    exact absurd H (by simp)

end Go.Proofs.Ytkmbhknmjnbanaa.A


namespace Go.Proofs.Ytkmbhknmjnbanaa.A
open Go.RowKit Go.Proofs.YtkmbhknmjnbanaaW.PrintWords Go.Proofs.YtkmbhknmjnbanaaW.PrintLast Go.Proofs.YtkmbhknmjnbanaaW.PrintMore
attribute [local go_sem] max2_int min2_int max_two min_two max_three min_three max_four min_four   -- for this text's walks alone
set_option linter.unusedVariables false
set_option linter.unusedSimpArgs false

attribute [local go_sem high] eqA37
def swageref06_has.l0 : Nat → List (S37) → Int → Int → Int → Option (Bool)
  | 0, _, _, _, _ => none
  | k + 1, x0, x1, x2, x7 => if x7 < (x0.length : Int) then (if 0 ≤ x7 then (if (((rd_T37 x0 x7).f0) == x1 && (((rd_T37 x0 x7).f1) == x2)) = true then (some true) else (swageref06_has.l0 k x0 x1 x2 (wrap64 (x7 + 1)))) else (none)) else (some false)
def swageref06_has.f (k : Nat) (l0 : List (S37)) (a1 : Int) (a2 : Int) : Option (Bool) := swageref06_has.l0 k l0 a1 a2 0
set_option maxHeartbeats 8000000 in
set_option maxRecDepth 100000 in
theorem swageref06_has.calls (k : Nat) (A0 : Option Addr) (c0 : Nat) (l0 : List (S37)) (a1 : Int) (a2 : Int) (r : Bool) (w : World) (hr0 : Kd.C k37 w A0 l0.length l0) (hc0 : l0.length ≤ c0) (h : swageref06_has.f k l0 a1 a2 = some r) :
    Calls Try.prog 56 #[.slice A0 l0.length c0, .int .i64 a1, .int .i64 a2] w fun e w' => e = .returned (.bool r) ∧ Drawn0 w w' := by
  have hu37 := Try.underlying37
  have HR0 := Aside0.mk hr0
  have HC0 := Aside0.mk hc0
  clear hr0 hc0
  have H : (swageref06_has.l0 k l0 a1 a2 0) = some r := h
  clear h
  have H' := Aside0.mk H
  clear H
  go_enter Try.func56, Try.ntmps56
  go_wp2
  go_loopg [7] k (fun kq v7 w' => ∃ (x7_1 : Int), v7 = .int .i64 x7_1 ∧ Aside0 (swageref06_has.l0 kq l0 a1 a2 x7_1 = some r) ∧ Aside0 (kq ≤ k) ∧ Drawn0 w w')
  case atStart => exact ⟨(0), (by first | rfl | (simp; done) | (simp [*]; done)), H', ⟨Nat.le_refl _⟩, by repeat (first | exact Drawn0.refl _ | apply Drawn0.step)⟩
  case round =>
    clear H'
    try clear p2
    obtain ⟨x7_1, rfl, HA, HK1, ⟨m1, rfl⟩⟩ := hrel
    cases gk with
    | zero => exact absurd HA.out (by simp [swageref06_has.l0])
    | succ k1 =>
      have H := HA.out
      clear HA
      simp only [swageref06_has.l0] at H
      by_cases c4 : x7_1 < (l0.length : Int)
      · rw [if_pos c4] at H
        have c4b0 : decide (x7_1 < (l0.length : Int)) = true := decide_eq_true c4
        clear c4
        by_cases c5 : 0 ≤ x7_1
        · rw [if_pos c5] at H
          have c5b0 : decide (0 ≤ x7_1) = true := decide_eq_true c5
          clear c5
          by_cases c6 : (((rd_T37 l0 x7_1).f0) == a1 && (((rd_T37 l0 x7_1).f1) == a2)) = true
          · rw [if_pos c6] at H
            have c6b0 : (((rd_T37 l0 x7_1).f0) == a1 && (((rd_T37 l0 x7_1).f1) == a2)) = true := c6
            (try (have c6b1 : decide (((rd_T37 l0 x7_1).f0) = a1 && (((rd_T37 l0 x7_1).f1) == a2)) = true := by simpa using c6))
            (try (have c6b2 : (((rd_T37 l0 x7_1).f0) == a1 && (((rd_T37 l0 x7_1).f1) == a2)) = true := by simpa using c6))
            clear c6
            obtain rfl := Option.some.inj H
            have p403 : 0 ≤ (x7_1 : Int) := of_decide_eq_true (by first | (with_reducible assumption) | assumption)
            have q403 : x7_1 < (l0.length : Int) := of_decide_eq_true (by first | (with_reducible assumption) | assumption)
            obtain ⟨ad403, e403, hx403_0, hx403_1⟩ := at_T37 HR0.out x7_1 p403 q403
            cases e403
            replace p403 := eq_true p403
            replace q403 := eq_true q403
            go_wp2
            go_ret
            exact ⟨by first | rfl | (simp; done) | (simp [*]; done), by repeat (first | exact Drawn0.refl _ | apply Drawn0.step)⟩
          · rw [if_neg c6] at H
            have c6b0 : (((rd_T37 l0 x7_1).f0) == a1 && (((rd_T37 l0 x7_1).f1) == a2)) = false := by simpa using c6
            (try (have c6b1 : decide (((rd_T37 l0 x7_1).f0) = a1 && (((rd_T37 l0 x7_1).f1) == a2)) = false := by simpa using c6))
            (try (have c6b2 : (((rd_T37 l0 x7_1).f0) == a1 && (((rd_T37 l0 x7_1).f1) == a2)) = false := by simpa using c6))
            (try (have c6b3 : ¬ (((rd_T37 l0 x7_1).f0) = a1 && (((rd_T37 l0 x7_1).f1) == a2)) := by simpa using c6))
            clear c6
            have H' := Aside0.mk H
            clear H
            have p403 : 0 ≤ (x7_1 : Int) := of_decide_eq_true (by first | (with_reducible assumption) | assumption)
            have q403 : x7_1 < (l0.length : Int) := of_decide_eq_true (by first | (with_reducible assumption) | assumption)
            obtain ⟨ad403, e403, hx403_0, hx403_1⟩ := at_T37 HR0.out x7_1 p403 q403
            cases e403
            replace p403 := eq_true p403
            replace q403 := eq_true q403
            go_wp2
            go_roundg k1
            case measure => have := HK1.out; omega
            case rel => exact ⟨(wrap64 (x7_1 + 1)), (by first | rfl | (simp; done) | (simp [*]; done)), H', ⟨by have := HK1.out; omega⟩, by repeat (first | exact Drawn0.refl _ | apply Drawn0.step)⟩
        · rw [if_neg c5] at H
          exact absurd H (by simp)
      · rw [if_neg c4] at H
        have c4b0 : decide (x7_1 < (l0.length : Int)) = false := decide_eq_false c4
        clear c4
        obtain rfl := Option.some.inj H
        go_wp2
        go_ret
        exact ⟨by first | rfl | (simp; done) | (simp [*]; done), by repeat (first | exact Drawn0.refl _ | apply Drawn0.step)⟩

end Go.Proofs.Ytkmbhknmjnbanaa.A


namespace Go.Proofs.Ytkmbhknmjnbanaa.A
open Go.RowKit Go.Proofs.YtkmbhknmjnbanaaW.PrintWords Go.Proofs.YtkmbhknmjnbanaaW.PrintLast Go.Proofs.YtkmbhknmjnbanaaW.PrintMore
attribute [local go_sem] max2_int min2_int max_two min_two max_three min_three max_four min_four   -- for this text's walks alone
set_option linter.unusedVariables false
set_option linter.unusedSimpArgs false

mutual
def swageref06_Back.l0 : Nat → List (List Int) → List Int → List (S37) → Int → Option ((List (S37)))
  | 0, _, _, _, _ => none
  | k + 1, x0, x4, x5, x6 => if x6 < (x0.length : Int) then (swageref06_Back.l1 k x0 x4 x5 x6 0) else (some x5)
def swageref06_Back.l1 : Nat → List (List Int) → List Int → List (S37) → Int → Int → Option ((List (S37)))
  | 0, _, _, _, _, _ => none
  | k + 1, x0, x4, x5, x6, x7 => if 0 ≤ x6 then (if x6 < (x0.length : Int) then (if x7 < ((rd_L1 x0 x6).length : Int) then (if x6 < (x4.length : Int) then (swageref06_Back.j2 k x0 x4 x5 x6 x7 (decide ((rd x4 x6) ≥ 0))) else (none)) else (swageref06_Back.j2 k x0 x4 x5 x6 x7 false)) else (none)) else (none)
def swageref06_Back.j2 : Nat → List (List Int) → List Int → List (S37) → Int → Int → Bool → Option ((List (S37)))
  | 0, _, _, _, _, _, _ => none
  | k + 1, x0, x4, x5, x6, x7, x33 => if x33 = true then (if 0 ≤ x6 then (if x6 < (x0.length : Int) then (if 0 ≤ x7 then (if x7 < ((rd_L1 x0 x6).length : Int) then (if 0 ≤ (rd (rd_L1 x0 x6) x7) then (if (rd (rd_L1 x0 x6) x7) < (x4.length : Int) then (if x6 < (x4.length : Int) then (if (rd x4 (rd (rd_L1 x0 x6) x7)) ≤ (rd x4 x6) then ((swageref06_has.f k x5 x6 (rd (rd_L1 x0 x6) x7)).bind fun t416 => (if t416 = true then (swageref06_Back.l1 k x0 x4 x5 x6 (wrap64 (x7 + 1))) else (if x5.length < 8796093022208 then (swageref06_Back.l1 k x0 x4 (x5 ++ [(⟨x6, rd (rd_L1 x0 x6) x7⟩ : S37)]) x6 (wrap64 (x7 + 1))) else (none)))) else (swageref06_Back.l1 k x0 x4 x5 x6 (wrap64 (x7 + 1)))) else (none)) else (none)) else (none)) else (none)) else (none)) else (none)) else (none)) else (swageref06_Back.l0 k x0 x4 x5 (wrap64 (x6 + 1)))
end
def swageref06_Back.f (k : Nat) (l0 : List (List Int)) : Option ((List (S37))) := (swageref06_Right.f k l0).bind fun t404 => (if t404 = true then ((swageref06_Places.f k l0).bind fun t405 => (swageref06_Back.l0 k l0 t405 ([] : List (S37)) 0)) else (some ([] : List (S37))))
set_option maxHeartbeats 8000000 in
set_option maxRecDepth 100000 in
theorem swageref06_Back.calls (k : Nat) (A0 : Option Addr) (c0 : Nat) (l0 : List (List Int)) (r : List (S37)) (w : World) (hr0 : Kd.C (Kd.slice 3 (Kd.int .i64)) w A0 l0.length l0) (hc0 : l0.length ≤ c0) (h : swageref06_Back.f k l0 = some r) :
    Calls Try.prog 31 #[.slice A0 l0.length c0] w fun e w' => ∃ v0_ : Value, e = .returned (v0_) ∧ Kd.R k37 37 w' w.heap.size (fun _ => True) v0_ r ∧ Below w.heap.size w w' := by
  have hu37 := Try.underlying37
  have HR0 := Aside0.mk hr0
  have HC0 := Aside0.mk hc0
  clear hr0 hc0
  have HB := Aside0.mk (Below.refl w.heap.size w)
  have H : ((swageref06_Right.f k l0).bind fun t404 => (if t404 = true then ((swageref06_Places.f k l0).bind fun t405 => (swageref06_Back.l0 k l0 t405 ([] : List (S37)) 0)) else (some ([] : List (S37))))) = some r := h
  clear h
  replace H := Option.bind_eq_some_iff.mp H
  obtain ⟨t404, A20, H⟩ := H
  replace H : (if t404 = true then ((swageref06_Places.f k l0).bind fun t405 => (swageref06_Back.l0 k l0 t405 ([] : List (S37)) 0)) else (some ([] : List (S37)))) = some r := H
  have A2 := Aside0.mk A20
  clear A20
  by_cases c3 : t404 = true
  · subst c3
    have H1 : ((swageref06_Places.f k l0).bind fun t405 => (swageref06_Back.l0 k l0 t405 ([] : List (S37)) 0)) = some r := by rw [if_pos rfl] at H; exact H
    clear H
    have H := H1
    clear H1
    replace H := Option.bind_eq_some_iff.mp H
    obtain ⟨t405, A40, H⟩ := H
    replace H : (swageref06_Back.l0 k l0 t405 ([] : List (S37)) 0) = some r := H
    have A4 := Aside0.mk A40
    clear A40
    have H' := Aside0.mk H
    clear H
    go_enter Try.func31, Try.ntmps31
    go_wp2_with (first | (go_at_call 20; (with_reducible refine (swageref06_Right.calls k _ _ l0 true _ ?side1 ?side2 A2.out).mono ?_); (case side1 => repeat (first | exact HR0.out | (with_reducible refine Kd.C_alloc ?_ _) | (with_reducible refine Kd.C_drewN ?_ _) | (with_reducible refine Kd.C_drew ?_))); (case side2 => exact HC0.out); rintro e w' ⟨rfl, ⟨nd, rfl⟩⟩; (try first | exact ⟨rfl, _, World.drewN_drewN _ _ _⟩ | exact ⟨rfl, _, Eq.trans (World.drewN_drewN _ _ _) (congrArg (World.drewN _) (Nat.add_assoc _ _ _))⟩)) | (go_at_call 55; (with_reducible refine (swageref06_Places.calls k _ _ l0 t405 _ ?side1 ?side2 A4.out).mono ?_); (case side1 => repeat (first | exact HR0.out | (with_reducible refine Kd.C_alloc ?_ _) | (with_reducible refine Kd.C_drewN ?_ _) | (with_reducible refine Kd.C_drew ?_))); (case side2 => exact HC0.out); rintro e w5 ⟨v406, rfl, ho0, hb⟩; have n0_ := Aside0.mk (Kd.R_lower ho0 (below_size (by repeat (first | (with_reducible first | exact HB.out | apply below_alloc | apply pw_below_drewN | apply below_drew1) | exact HB.out)))); have n1_ := Aside0.mk (below_step (by repeat (first | (with_reducible first | exact HB.out | apply below_alloc | apply pw_below_drewN | apply below_drew1) | exact HB.out)) hb); clear HB; have HO407 := n0_; have HB := n1_; clear n0_ n1_; (try clear hb); (try clear hb2); (try clear hk); (try clear hi); (try clear ho0)))
    repeat (go_quiet (first | (go_at_call 20; (with_reducible refine (swageref06_Right.calls k _ _ l0 true _ ?side1 ?side2 A2.out).mono ?_); (case side1 => repeat (first | exact HR0.out | (with_reducible refine Kd.C_alloc ?_ _) | (with_reducible refine Kd.C_drewN ?_ _) | (with_reducible refine Kd.C_drew ?_))); (case side2 => exact HC0.out); rintro e w' ⟨rfl, ⟨nd, rfl⟩⟩; (try first | exact ⟨rfl, _, World.drewN_drewN _ _ _⟩ | exact ⟨rfl, _, Eq.trans (World.drewN_drewN _ _ _) (congrArg (World.drewN _) (Nat.add_assoc _ _ _))⟩)) | (go_at_call 55; (with_reducible refine (swageref06_Places.calls k _ _ l0 t405 _ ?side1 ?side2 A4.out).mono ?_); (case side1 => repeat (first | exact HR0.out | (with_reducible refine Kd.C_alloc ?_ _) | (with_reducible refine Kd.C_drewN ?_ _) | (with_reducible refine Kd.C_drew ?_))); (case side2 => exact HC0.out); rintro e w5 ⟨v406, rfl, ho0, hb⟩; have n0_ := Aside0.mk (Kd.R_lower ho0 (below_size (by repeat (first | (with_reducible first | exact HB.out | apply below_alloc | apply pw_below_drewN | apply below_drew1) | exact HB.out)))); have n1_ := Aside0.mk (below_step (by repeat (first | (with_reducible first | exact HB.out | apply below_alloc | apply pw_below_drewN | apply below_drew1) | exact HB.out)) hb); clear HB; have HO407 := n0_; have HB := n1_; clear n0_ n1_; (try clear hb); (try clear hb2); (try clear hk); (try clear hi); (try clear ho0))); try go_wp2_with (first | (go_at_call 20; (with_reducible refine (swageref06_Right.calls k _ _ l0 true _ ?side1 ?side2 A2.out).mono ?_); (case side1 => repeat (first | exact HR0.out | (with_reducible refine Kd.C_alloc ?_ _) | (with_reducible refine Kd.C_drewN ?_ _) | (with_reducible refine Kd.C_drew ?_))); (case side2 => exact HC0.out); rintro e w' ⟨rfl, ⟨nd, rfl⟩⟩; (try first | exact ⟨rfl, _, World.drewN_drewN _ _ _⟩ | exact ⟨rfl, _, Eq.trans (World.drewN_drewN _ _ _) (congrArg (World.drewN _) (Nat.add_assoc _ _ _))⟩)) | (go_at_call 55; (with_reducible refine (swageref06_Places.calls k _ _ l0 t405 _ ?side1 ?side2 A4.out).mono ?_); (case side1 => repeat (first | exact HR0.out | (with_reducible refine Kd.C_alloc ?_ _) | (with_reducible refine Kd.C_drewN ?_ _) | (with_reducible refine Kd.C_drew ?_))); (case side2 => exact HC0.out); rintro e w5 ⟨v406, rfl, ho0, hb⟩; have n0_ := Aside0.mk (Kd.R_lower ho0 (below_size (by repeat (first | (with_reducible first | exact HB.out | apply below_alloc | apply pw_below_drewN | apply below_drew1) | exact HB.out)))); have n1_ := Aside0.mk (below_step (by repeat (first | (with_reducible first | exact HB.out | apply below_alloc | apply pw_below_drewN | apply below_drew1) | exact HB.out)) hb); clear HB; have HO407 := n0_; have HB := n1_; clear n0_ n1_; (try clear hb); (try clear hb2); (try clear hk); (try clear hi); (try clear ho0))))
    go_loopg [5, 6] k (fun kq v5 v6 w' => ∃ (x5_1 : List (S37)) (x6_1 : Int), v6 = .int .i64 x6_1 ∧ Aside0 (swageref06_Back.l0 kq l0 t405 x5_1 x6_1 = some r) ∧ Aside0 (kq ≤ k) ∧ Aside0 (Kd.R (Kd.int .i64) 3 w' w.heap.size (fun _ => True) v406 t405) ∧ Aside0 (Kd.R k37 37 w' w.heap.size (fun _ => True) v5 x5_1) ∧ Aside0 (Below w.heap.size w w'))
    case atStart => exact ⟨(([] : List (S37))), (0), (by first | rfl | (simp; done) | (simp [*]; done)), H', ⟨Nat.le_refl _⟩, ⟨by (with_reducible repeat (first | apply Kd.R_alloc | apply Kd.R_drewN | apply Kd.R_drew)); exact HO407.out⟩, ⟨by first | exact Kd.R_nil _ _ _ _ _ | exact Kd.N_nil _ _ _ _ _ | exact Kd.V_nil _ _ _ _ _ | exact Kd.Q_nil _ _ _ _ _ | exact Kd.S_nil _ _ _ _ _⟩, ⟨by repeat (first | (with_reducible first | exact HB.out | apply below_alloc | apply pw_below_drewN | apply below_drew1) | exact HB.out)⟩⟩
    case round =>
      clear H'
      try clear p2
      try clear c3
      obtain ⟨x5_1, x6_1, rfl, HA, HK1, HO_4, HO_5, HB⟩ := hrel
      cases gk with
      | zero => exact absurd HA.out (by simp [swageref06_Back.l0])
      | succ k1 =>
        have H := HA.out
        clear HA
        simp only [swageref06_Back.l0] at H
        by_cases c6 : x6_1 < (l0.length : Int)
        · rw [if_pos c6] at H
          have c6b0 : decide (x6_1 < (l0.length : Int)) = true := decide_eq_true c6
          clear c6
          have H' := Aside0.mk H
          clear H
          go_wp2
          repeat (go_quiet (fail); try go_wp2)
          go_loopg [5, 7] k1 (fun kq v5 v7 w' => ∃ (x5_2 : List (S37)) (x7_2 : Int), v7 = .int .i64 x7_2 ∧ Aside0 (swageref06_Back.l1 kq l0 t405 x5_2 x6_1 x7_2 = some r) ∧ Aside0 (kq ≤ k1) ∧ Aside0 (Kd.R (Kd.int .i64) 3 w' w.heap.size (fun _ => True) v406 t405) ∧ Aside0 (Kd.R k37 37 w' w.heap.size (fun _ => True) v5 x5_2) ∧ Aside0 (Below w.heap.size w w'))
          case atStart => exact ⟨(x5_1), (0), (by first | rfl | (simp; done) | (simp [*]; done)), H', ⟨Nat.le_refl _⟩, ⟨by (with_reducible repeat (first | apply Kd.R_alloc | apply Kd.R_drewN | apply Kd.R_drew)); exact HO_4.out⟩, ⟨by (with_reducible repeat (first | apply Kd.R_alloc | apply Kd.R_drewN | apply Kd.R_drew)); exact HO_5.out⟩, ⟨by repeat (first | (with_reducible first | exact HB.out | apply below_alloc | apply pw_below_drewN | apply below_drew1) | exact HB.out)⟩⟩
          case round =>
            clear H'
            try clear p2
            try clear c3
            try clear c6
            try clear c6b0
            try clear p2
            obtain ⟨x5_2, x7_2, rfl, HA, HK2, HO_4, HO_5, HB⟩ := hrel
            cases gk with
            | zero => exact absurd HA.out (by simp [swageref06_Back.l1])
            | succ k2 =>
              have H := HA.out
              clear HA
              simp only [swageref06_Back.l1] at H
              have HC7 := Aside0.mk H
              clear H
              go_upto_region 10 with (fail)
              repeat (go_quiet (fail); go_upto_region 10 with (fail))
              go_cut [33] (fun v33 wc => ∃ (kq : Nat) (x33_6 : Bool), v33 = .bool x33_6 ∧ Aside0 (swageref06_Back.j2 kq l0 t405 x5_2 x6_1 x7_2 x33_6 = some r) ∧ Aside0 (kq ≤ k2) ∧ Aside0 (Kd.R (Kd.int .i64) 3 wc w.heap.size (fun _ => True) v406 t405) ∧ Aside0 (Kd.R k37 37 wc w.heap.size (fun _ => True) u5 x5_2) ∧ Aside0 (Below w.heap.size w wc))
              case first =>
                have H := HC7.out
                clear HC7
                by_cases c8 : 0 ≤ x6_1
                · rw [if_pos c8] at H
                  have c8b0 : decide (0 ≤ x6_1) = true := decide_eq_true c8
                  clear c8
                  (first | rw [c8b0] | (simp only [i64_w, i32_w]; rw [c8b0]) | skip)
                  by_cases c9 : x6_1 < (l0.length : Int)
                  · rw [if_pos c9] at H
                    have c9b0 : decide (x6_1 < (l0.length : Int)) = true := decide_eq_true c9
                    clear c9
                    by_cases c10 : x7_2 < ((rd_L1 l0 x6_1).length : Int)
                    · rw [if_pos c10] at H
                      have c10b0 : decide (x7_2 < ((rd_L1 l0 x6_1).length : Int)) = true := decide_eq_true c10
                      clear c10
                      by_cases c11 : x6_1 < (t405.length : Int)
                      · rw [if_pos c11] at H
                        have c11b0 : decide (x6_1 < (t405.length : Int)) = true := decide_eq_true c11
                        clear c11
                        have H' := Aside0.mk H
                        clear H
                        have p408 : 0 ≤ (x6_1 : Int) := of_decide_eq_true (by first | (with_reducible assumption) | assumption)
                        have q408 : x6_1 < (l0.length : Int) := of_decide_eq_true (by first | (with_reducible assumption) | assumption)
                        obtain ⟨ad408, A408_0, c408_0, e408, hx408_0, hl408_0, hi408_0⟩ := at_L1 HR0.out x6_1 p408 q408
                        cases e408
                        replace hx408_0 := (HB.out.cell (World.block_lt_of_cell? w _ hx408_0)).trans hx408_0
                        have HR408_0 := Aside0.mk hi408_0
                        have HC408_0 := Aside0.mk hl408_0
                        clear hi408_0 hl408_0
                        replace p408 := eq_true p408
                        replace q408 := eq_true q408
                        obtain ⟨Ao12, co12, eo12⟩ := Kd.R_slice HO_4.out
                        subst eo12
                        have p409 : 0 ≤ (x6_1 : Int) := of_decide_eq_true (by first | (with_reducible assumption) | assumption)
                        have q409 : x6_1 < (t405.length : Int) := of_decide_eq_true (by first | (with_reducible assumption) | assumption)
                        obtain ⟨ad409, e409, hx409_0⟩ := Kd.at_int (Kd.R_reads' HO_4.out).2.2 x6_1 p409 q409
                        cases e409
                        replace p409 := eq_true p409
                        replace q409 := eq_true q409
                        go_wp2
                        repeat (go_quiet (fail); try go_wp2)
                        go_meet
                        case rel => exact ⟨_, (decide ((rd t405 x6_1) ≥ 0)), (by first | rfl | (simp; done) | (simp [*]; done)), H', ⟨by have := HK1.out; have := HK2.out; first | omega | exact Nat.le_refl _⟩, ⟨by (with_reducible repeat (first | apply Kd.R_alloc | apply Kd.R_drewN | apply Kd.R_drew)); exact HO_4.out⟩, ⟨by (with_reducible repeat (first | apply Kd.R_alloc | apply Kd.R_drewN | apply Kd.R_drew)); exact HO_5.out⟩, ⟨by repeat (first | (with_reducible first | exact HB.out | apply below_alloc | apply pw_below_drewN | apply below_drew1) | exact HB.out)⟩⟩
                      · rw [if_neg c11] at H
                        exact absurd H (by simp)
                    · rw [if_neg c10] at H
                      have c10b0 : decide (x7_2 < ((rd_L1 l0 x6_1).length : Int)) = false := decide_eq_false c10
                      clear c10
                      have H' := Aside0.mk H
                      clear H
                      have p408 : 0 ≤ (x6_1 : Int) := of_decide_eq_true (by first | (with_reducible assumption) | assumption)
                      have q408 : x6_1 < (l0.length : Int) := of_decide_eq_true (by first | (with_reducible assumption) | assumption)
                      obtain ⟨ad408, A408_0, c408_0, e408, hx408_0, hl408_0, hi408_0⟩ := at_L1 HR0.out x6_1 p408 q408
                      cases e408
                      replace hx408_0 := (HB.out.cell (World.block_lt_of_cell? w _ hx408_0)).trans hx408_0
                      have HR408_0 := Aside0.mk hi408_0
                      have HC408_0 := Aside0.mk hl408_0
                      clear hi408_0 hl408_0
                      replace p408 := eq_true p408
                      replace q408 := eq_true q408
                      go_wp2
                      repeat (go_quiet (fail); try go_wp2)
                      go_meet
                      case rel => exact ⟨_, (false), (by first | rfl | (simp; done) | (simp [*]; done)), H', ⟨by have := HK1.out; have := HK2.out; first | omega | exact Nat.le_refl _⟩, ⟨by (with_reducible repeat (first | apply Kd.R_alloc | apply Kd.R_drewN | apply Kd.R_drew)); exact HO_4.out⟩, ⟨by (with_reducible repeat (first | apply Kd.R_alloc | apply Kd.R_drewN | apply Kd.R_drew)); exact HO_5.out⟩, ⟨by repeat (first | (with_reducible first | exact HB.out | apply below_alloc | apply pw_below_drewN | apply below_drew1) | exact HB.out)⟩⟩
                  · rw [if_neg c9] at H
                    exact absurd H (by simp)
                · rw [if_neg c8] at H
                  exact absurd H (by simp)
              case rest =>
                clear HC7
                try clear c1
                try clear p2
                try clear c3
                try clear c4
                try clear p4
                try clear q4
                try clear hx4
                try clear c6
                try clear c6b0
                try clear c8
                try clear c8b0
                try clear c9
                try clear c9b0
                try clear c10
                try clear c10b0
                try clear c11
                try clear c11b0
                try clear hx408_0
                try clear hx409_0
                try clear p2
                try clear p408
                try clear p409
                try clear q408
                try clear q409
                obtain ⟨kq, x33_6, rfl, HA, HJ6, HO_4, HO_5, HB⟩ := hcut
                cases kq with
                | zero => exact absurd HA.out (by simp [swageref06_Back.j2])
                | succ kj6 =>
                  have H := HA.out
                  clear HA
                  simp only [swageref06_Back.j2] at H
                  by_cases c13 : x33_6 = true
                  · subst c13
                    have H1 : (if 0 ≤ x6_1 then (if x6_1 < (l0.length : Int) then (if 0 ≤ x7_2 then (if x7_2 < ((rd_L1 l0 x6_1).length : Int) then (if 0 ≤ (rd (rd_L1 l0 x6_1) x7_2) then (if (rd (rd_L1 l0 x6_1) x7_2) < (t405.length : Int) then (if x6_1 < (t405.length : Int) then (if (rd t405 (rd (rd_L1 l0 x6_1) x7_2)) ≤ (rd t405 x6_1) then ((swageref06_has.f kj6 x5_2 x6_1 (rd (rd_L1 l0 x6_1) x7_2)).bind fun t416 => (if t416 = true then (swageref06_Back.l1 kj6 l0 t405 x5_2 x6_1 (wrap64 (x7_2 + 1))) else (if x5_2.length < 8796093022208 then (swageref06_Back.l1 kj6 l0 t405 (x5_2 ++ [(⟨x6_1, rd (rd_L1 l0 x6_1) x7_2⟩ : S37)]) x6_1 (wrap64 (x7_2 + 1))) else (none)))) else (swageref06_Back.l1 kj6 l0 t405 x5_2 x6_1 (wrap64 (x7_2 + 1)))) else (none)) else (none)) else (none)) else (none)) else (none)) else (none)) else (none)) = some r := by rw [if_pos rfl] at H; exact H
                    clear H
                    have H := H1
                    clear H1
                    by_cases c14 : 0 ≤ x6_1
                    · rw [if_pos c14] at H
                      have c14b0 : decide (0 ≤ x6_1) = true := decide_eq_true c14
                      clear c14
                      by_cases c15 : x6_1 < (l0.length : Int)
                      · rw [if_pos c15] at H
                        have c15b0 : decide (x6_1 < (l0.length : Int)) = true := decide_eq_true c15
                        clear c15
                        by_cases c16 : 0 ≤ x7_2
                        · rw [if_pos c16] at H
                          have c16b0 : decide (0 ≤ x7_2) = true := decide_eq_true c16
                          clear c16
                          by_cases c17 : x7_2 < ((rd_L1 l0 x6_1).length : Int)
                          · rw [if_pos c17] at H
                            have c17b0 : decide (x7_2 < ((rd_L1 l0 x6_1).length : Int)) = true := decide_eq_true c17
                            clear c17
                            by_cases c18 : 0 ≤ (rd (rd_L1 l0 x6_1) x7_2)
                            · rw [if_pos c18] at H
                              have c18b0 : decide (0 ≤ (rd (rd_L1 l0 x6_1) x7_2)) = true := decide_eq_true c18
                              clear c18
                              by_cases c19 : (rd (rd_L1 l0 x6_1) x7_2) < (t405.length : Int)
                              · rw [if_pos c19] at H
                                have c19b0 : decide ((rd (rd_L1 l0 x6_1) x7_2) < (t405.length : Int)) = true := decide_eq_true c19
                                clear c19
                                by_cases c20 : x6_1 < (t405.length : Int)
                                · rw [if_pos c20] at H
                                  have c20b0 : decide (x6_1 < (t405.length : Int)) = true := decide_eq_true c20
                                  clear c20
                                  by_cases c21 : (rd t405 (rd (rd_L1 l0 x6_1) x7_2)) ≤ (rd t405 x6_1)
                                  · rw [if_pos c21] at H
                                    have c21b0 : decide ((rd t405 (rd (rd_L1 l0 x6_1) x7_2)) ≤ (rd t405 x6_1)) = true := decide_eq_true c21
                                    clear c21
                                    replace H := Option.bind_eq_some_iff.mp H
                                    obtain ⟨t416, A220, H⟩ := H
                                    replace H : (if t416 = true then (swageref06_Back.l1 kj6 l0 t405 x5_2 x6_1 (wrap64 (x7_2 + 1))) else (if x5_2.length < 8796093022208 then (swageref06_Back.l1 kj6 l0 t405 (x5_2 ++ [(⟨x6_1, rd (rd_L1 l0 x6_1) x7_2⟩ : S37)]) x6_1 (wrap64 (x7_2 + 1))) else (none))) = some r := H
                                    have A22 := Aside0.mk A220
                                    clear A220
                                    by_cases c23 : t416 = true
                                    · subst c23
                                      have H1 : (swageref06_Back.l1 kj6 l0 t405 x5_2 x6_1 (wrap64 (x7_2 + 1))) = some r := by rw [if_pos rfl] at H; exact H
                                      clear H
                                      have H := H1
                                      clear H1
                                      have H' := Aside0.mk H
                                      clear H
                                      have p410 : 0 ≤ (x6_1 : Int) := of_decide_eq_true (by first | (with_reducible assumption) | assumption)
                                      have q410 : x6_1 < (l0.length : Int) := of_decide_eq_true (by first | (with_reducible assumption) | assumption)
                                      obtain ⟨ad410, A410_0, c410_0, e410, hx410_0, hl410_0, hi410_0⟩ := at_L1 HR0.out x6_1 p410 q410
                                      cases e410
                                      replace hx410_0 := (HB.out.cell (World.block_lt_of_cell? w _ hx410_0)).trans hx410_0
                                      have HR410_0 := Aside0.mk hi410_0
                                      have HC410_0 := Aside0.mk hl410_0
                                      clear hi410_0 hl410_0
                                      replace p410 := eq_true p410
                                      replace q410 := eq_true q410
                                      have p411 : 0 ≤ (x7_2 : Int) := of_decide_eq_true (by first | (with_reducible assumption) | assumption)
                                      have q411 : x7_2 < ((rd_L1 l0 x6_1).length : Int) := of_decide_eq_true (by first | (with_reducible assumption) | assumption)
                                      obtain ⟨ad411, e411, hx411_0⟩ := Kd.at_int HR410_0.out x7_2 p411 q411
                                      cases e411
                                      replace hx411_0 := (HB.out.cell (World.block_lt_of_cell? w _ hx411_0)).trans hx411_0
                                      replace p411 := eq_true p411
                                      replace q411 := eq_true q411
                                      obtain ⟨Ao24, co24, eo24⟩ := Kd.R_slice HO_4.out
                                      subst eo24
                                      have p412 : 0 ≤ ((rd (rd_L1 l0 x6_1) x7_2) : Int) := of_decide_eq_true (by first | (with_reducible assumption) | assumption)
                                      have q412 : (rd (rd_L1 l0 x6_1) x7_2) < (t405.length : Int) := of_decide_eq_true (by first | (with_reducible assumption) | assumption)
                                      obtain ⟨ad412, e412, hx412_0⟩ := Kd.at_int (Kd.R_reads' HO_4.out).2.2 (rd (rd_L1 l0 x6_1) x7_2) p412 q412
                                      cases e412
                                      replace p412 := eq_true p412
                                      replace q412 := eq_true q412
                                      have p413 : 0 ≤ (x6_1 : Int) := of_decide_eq_true (by first | (with_reducible assumption) | assumption)
                                      have q413 : x6_1 < (t405.length : Int) := of_decide_eq_true (by first | (with_reducible assumption) | assumption)
                                      obtain ⟨ad413, e413, hx413_0⟩ := Kd.at_int (Kd.R_reads' HO_4.out).2.2 x6_1 p413 q413
                                      obtain rfl : ad412 = ad413 := (by injection e413)
                                      replace p413 := eq_true p413
                                      replace q413 := eq_true q413
                                      have p414 : 0 ≤ (x6_1 : Int) := of_decide_eq_true (by first | (with_reducible assumption) | assumption)
                                      have q414 : x6_1 < (l0.length : Int) := of_decide_eq_true (by first | (with_reducible assumption) | assumption)
                                      obtain ⟨ad414, A414_0, c414_0, e414, hx414_0, hl414_0, hi414_0⟩ := at_L1 HR0.out x6_1 p414 q414
                                      obtain rfl : ad410 = ad414 := (by injection e414)
                                      replace hx414_0 := (HB.out.cell (World.block_lt_of_cell? w _ hx414_0)).trans hx414_0
                                      have HR414_0 := Aside0.mk hi414_0
                                      have HC414_0 := Aside0.mk hl414_0
                                      clear hi414_0 hl414_0
                                      replace p414 := eq_true p414
                                      replace q414 := eq_true q414
                                      have ea_ := Option.some.inj (hx410_0.symm.trans hx414_0)
                                      injection ea_ with ea_ en_ ec_
                                      subst ea_
                                      subst ec_
                                      clear en_
                                      have p415 : 0 ≤ (x7_2 : Int) := of_decide_eq_true (by first | (with_reducible assumption) | assumption)
                                      have q415 : x7_2 < ((rd_L1 l0 x6_1).length : Int) := of_decide_eq_true (by first | (with_reducible assumption) | assumption)
                                      obtain ⟨ad415, e415, hx415_0⟩ := Kd.at_int HR414_0.out x7_2 p415 q415
                                      cases e415
                                      replace hx415_0 := (HB.out.cell (World.block_lt_of_cell? w _ hx415_0)).trans hx415_0
                                      replace p415 := eq_true p415
                                      replace q415 := eq_true q415
                                      obtain ⟨Ao25, co25, eo25⟩ := Kd.R_slice HO_5.out
                                      subst eo25
                                      go_wp2_with (first | (go_at_call 56; (with_reducible refine (swageref06_has.calls kj6 _ _ x5_2 x6_1 (rd (rd_L1 l0 x6_1) x7_2) true _ ?side1 ?side2 A22.out).mono ?_); (case side1 => repeat (first | exact (Kd.R_reads' HO_5.out).2.2 | (with_reducible refine Kd.C_alloc ?_ _) | (with_reducible refine Kd.C_drewN ?_ _) | (with_reducible refine Kd.C_drew ?_))); (case side2 => exact (Kd.R_reads' HO_5.out).2.1); rintro e w' ⟨rfl, ⟨nd, rfl⟩⟩; (try first | exact ⟨rfl, _, World.drewN_drewN _ _ _⟩ | exact ⟨rfl, _, Eq.trans (World.drewN_drewN _ _ _) (congrArg (World.drewN _) (Nat.add_assoc _ _ _))⟩)))
                                      repeat (go_quiet (first | (go_at_call 56; (with_reducible refine (swageref06_has.calls kj6 _ _ x5_2 x6_1 (rd (rd_L1 l0 x6_1) x7_2) true _ ?side1 ?side2 A22.out).mono ?_); (case side1 => repeat (first | exact (Kd.R_reads' HO_5.out).2.2 | (with_reducible refine Kd.C_alloc ?_ _) | (with_reducible refine Kd.C_drewN ?_ _) | (with_reducible refine Kd.C_drew ?_))); (case side2 => exact (Kd.R_reads' HO_5.out).2.1); rintro e w' ⟨rfl, ⟨nd, rfl⟩⟩; (try first | exact ⟨rfl, _, World.drewN_drewN _ _ _⟩ | exact ⟨rfl, _, Eq.trans (World.drewN_drewN _ _ _) (congrArg (World.drewN _) (Nat.add_assoc _ _ _))⟩))); try go_wp2_with (first | (go_at_call 56; (with_reducible refine (swageref06_has.calls kj6 _ _ x5_2 x6_1 (rd (rd_L1 l0 x6_1) x7_2) true _ ?side1 ?side2 A22.out).mono ?_); (case side1 => repeat (first | exact (Kd.R_reads' HO_5.out).2.2 | (with_reducible refine Kd.C_alloc ?_ _) | (with_reducible refine Kd.C_drewN ?_ _) | (with_reducible refine Kd.C_drew ?_))); (case side2 => exact (Kd.R_reads' HO_5.out).2.1); rintro e w' ⟨rfl, ⟨nd, rfl⟩⟩; (try first | exact ⟨rfl, _, World.drewN_drewN _ _ _⟩ | exact ⟨rfl, _, Eq.trans (World.drewN_drewN _ _ _) (congrArg (World.drewN _) (Nat.add_assoc _ _ _))⟩))))
                                      go_roundg kj6
                                      case measure => have := HK1.out; have := HK2.out; have := HJ6.out; omega
                                      case rel => exact ⟨(x5_2), (wrap64 (x7_2 + 1)), (by first | rfl | (simp; done) | (simp [*]; done)), H', ⟨by have := HK1.out; have := HK2.out; have := HJ6.out; omega⟩, ⟨by (with_reducible repeat (first | apply Kd.R_alloc | apply Kd.R_drewN | apply Kd.R_drew)); exact HO_4.out⟩, ⟨by (with_reducible repeat (first | apply Kd.R_alloc | apply Kd.R_drewN | apply Kd.R_drew)); exact HO_5.out⟩, ⟨by repeat (first | (with_reducible first | exact HB.out | apply below_alloc | apply pw_below_drewN | apply below_drew1) | exact HB.out)⟩⟩
                                    · replace c23 := Bool.eq_false_iff.mpr c23
                                      subst c23
                                      have H1 : (if x5_2.length < 8796093022208 then (swageref06_Back.l1 kj6 l0 t405 (x5_2 ++ [(⟨x6_1, rd (rd_L1 l0 x6_1) x7_2⟩ : S37)]) x6_1 (wrap64 (x7_2 + 1))) else (none)) = some r := by rw [if_neg (show ¬ (false = true) by decide)] at H; exact H
                                      clear H
                                      have H := H1
                                      clear H1
                                      by_cases c26 : x5_2.length < 8796093022208
                                      · rw [if_pos c26] at H
                                        have LMc26 := Aside0.mk c26
                                        clear c26
                                        obtain ⟨y419, hy419⟩ : ∃ y_ : List (S37), y_ = (x5_2 ++ [(⟨x6_1, rd (rd_L1 l0 x6_1) x7_2⟩ : S37)]) := ⟨_, rfl⟩
                                        replace H : (swageref06_Back.l1 kj6 l0 t405 y419 x6_1 (wrap64 (x7_2 + 1))) = some r := by first | (rw [hy419]; with_reducible exact H) | (have H2_ := (Option.bind_some _ _).symm.trans H; rw [hy419]; with_reducible exact H2_) | (have H2_ := (Option.bind_some _ _).symm.trans H; with_reducible exact H2_) | with_reducible exact H | (rw [hy419]; exact H) | exact H
                                        have Ny419 := Aside0.mk hy419
                                        clear hy419
                                        have H' := Aside0.mk H
                                        clear H
                                        have p410 : 0 ≤ (x6_1 : Int) := of_decide_eq_true (by first | (with_reducible assumption) | assumption)
                                        have q410 : x6_1 < (l0.length : Int) := of_decide_eq_true (by first | (with_reducible assumption) | assumption)
                                        obtain ⟨ad410, A410_0, c410_0, e410, hx410_0, hl410_0, hi410_0⟩ := at_L1 HR0.out x6_1 p410 q410
                                        cases e410
                                        replace hx410_0 := (HB.out.cell (World.block_lt_of_cell? w _ hx410_0)).trans hx410_0
                                        have HR410_0 := Aside0.mk hi410_0
                                        have HC410_0 := Aside0.mk hl410_0
                                        clear hi410_0 hl410_0
                                        replace p410 := eq_true p410
                                        replace q410 := eq_true q410
                                        have p411 : 0 ≤ (x7_2 : Int) := of_decide_eq_true (by first | (with_reducible assumption) | assumption)
                                        have q411 : x7_2 < ((rd_L1 l0 x6_1).length : Int) := of_decide_eq_true (by first | (with_reducible assumption) | assumption)
                                        obtain ⟨ad411, e411, hx411_0⟩ := Kd.at_int HR410_0.out x7_2 p411 q411
                                        cases e411
                                        replace hx411_0 := (HB.out.cell (World.block_lt_of_cell? w _ hx411_0)).trans hx411_0
                                        replace p411 := eq_true p411
                                        replace q411 := eq_true q411
                                        obtain ⟨Ao27, co27, eo27⟩ := Kd.R_slice HO_4.out
                                        subst eo27
                                        have p412 : 0 ≤ ((rd (rd_L1 l0 x6_1) x7_2) : Int) := of_decide_eq_true (by first | (with_reducible assumption) | assumption)
                                        have q412 : (rd (rd_L1 l0 x6_1) x7_2) < (t405.length : Int) := of_decide_eq_true (by first | (with_reducible assumption) | assumption)
                                        obtain ⟨ad412, e412, hx412_0⟩ := Kd.at_int (Kd.R_reads' HO_4.out).2.2 (rd (rd_L1 l0 x6_1) x7_2) p412 q412
                                        cases e412
                                        replace p412 := eq_true p412
                                        replace q412 := eq_true q412
                                        have p413 : 0 ≤ (x6_1 : Int) := of_decide_eq_true (by first | (with_reducible assumption) | assumption)
                                        have q413 : x6_1 < (t405.length : Int) := of_decide_eq_true (by first | (with_reducible assumption) | assumption)
                                        obtain ⟨ad413, e413, hx413_0⟩ := Kd.at_int (Kd.R_reads' HO_4.out).2.2 x6_1 p413 q413
                                        obtain rfl : ad412 = ad413 := (by injection e413)
                                        replace p413 := eq_true p413
                                        replace q413 := eq_true q413
                                        have p414 : 0 ≤ (x6_1 : Int) := of_decide_eq_true (by first | (with_reducible assumption) | assumption)
                                        have q414 : x6_1 < (l0.length : Int) := of_decide_eq_true (by first | (with_reducible assumption) | assumption)
                                        obtain ⟨ad414, A414_0, c414_0, e414, hx414_0, hl414_0, hi414_0⟩ := at_L1 HR0.out x6_1 p414 q414
                                        obtain rfl : ad410 = ad414 := (by injection e414)
                                        replace hx414_0 := (HB.out.cell (World.block_lt_of_cell? w _ hx414_0)).trans hx414_0
                                        have HR414_0 := Aside0.mk hi414_0
                                        have HC414_0 := Aside0.mk hl414_0
                                        clear hi414_0 hl414_0
                                        replace p414 := eq_true p414
                                        replace q414 := eq_true q414
                                        have ea_ := Option.some.inj (hx410_0.symm.trans hx414_0)
                                        injection ea_ with ea_ en_ ec_
                                        subst ea_
                                        subst ec_
                                        clear en_
                                        have p415 : 0 ≤ (x7_2 : Int) := of_decide_eq_true (by first | (with_reducible assumption) | assumption)
                                        have q415 : x7_2 < ((rd_L1 l0 x6_1).length : Int) := of_decide_eq_true (by first | (with_reducible assumption) | assumption)
                                        obtain ⟨ad415, e415, hx415_0⟩ := Kd.at_int HR414_0.out x7_2 p415 q415
                                        cases e415
                                        replace hx415_0 := (HB.out.cell (World.block_lt_of_cell? w _ hx415_0)).trans hx415_0
                                        replace p415 := eq_true p415
                                        replace q415 := eq_true q415
                                        obtain ⟨Ao28, co28, eo28⟩ := Kd.R_slice HO_5.out
                                        subst eo28
                                        go_wp2_with (first | (go_at_call 56; (with_reducible refine (swageref06_has.calls kj6 _ _ x5_2 x6_1 (rd (rd_L1 l0 x6_1) x7_2) false _ ?side1 ?side2 A22.out).mono ?_); (case side1 => repeat (first | exact (Kd.R_reads' HO_5.out).2.2 | (with_reducible refine Kd.C_alloc ?_ _) | (with_reducible refine Kd.C_drewN ?_ _) | (with_reducible refine Kd.C_drew ?_))); (case side2 => exact (Kd.R_reads' HO_5.out).2.1); rintro e w' ⟨rfl, ⟨nd, rfl⟩⟩; (try first | exact ⟨rfl, _, World.drewN_drewN _ _ _⟩ | exact ⟨rfl, _, Eq.trans (World.drewN_drewN _ _ _) (congrArg (World.drewN _) (Nat.add_assoc _ _ _))⟩); have p417 : 0 ≤ (x6_1 : Int) := of_decide_eq_true (by first | (with_reducible assumption) | assumption); have q417 : x6_1 < (l0.length : Int) := of_decide_eq_true (by first | (with_reducible assumption) | assumption); obtain ⟨ad417, A417_0, c417_0, e417, hx417_0, hl417_0, hi417_0⟩ := at_L1 HR0.out x6_1 p417 q417; obtain rfl : ad410 = ad417 := (by injection e417); replace hx417_0 := (HB.out.cell (World.block_lt_of_cell? w _ hx417_0)).trans hx417_0; have HR417_0 := Aside0.mk hi417_0; have HC417_0 := Aside0.mk hl417_0; clear hi417_0 hl417_0; replace p417 := eq_true p417; replace q417 := eq_true q417; have ea_ := Option.some.inj (hx410_0.symm.trans hx417_0); injection ea_ with ea_ en_ ec_; subst ea_; subst ec_; clear en_; have p418 : 0 ≤ (x7_2 : Int) := of_decide_eq_true (by first | (with_reducible assumption) | assumption); have q418 : x7_2 < ((rd_L1 l0 x6_1).length : Int) := of_decide_eq_true (by first | (with_reducible assumption) | assumption); obtain ⟨ad418, e418, hx418_0⟩ := Kd.at_int HR417_0.out x7_2 p418 q418; cases e418; replace hx418_0 := (HB.out.cell (World.block_lt_of_cell? w _ hx418_0)).trans hx418_0; replace p418 := eq_true p418; replace q418 := eq_true q418) | ((with_reducible refine gate_builtin (b := .append) (xs := #[.tmp 64, .tmp 74]) rfl ?_); at_builtin; refine Kd.R_append k37 (w0 := w) w.heap.size rfl (.tmp 64) (.tmp 74) 32 37 (.agg #[(.int .i64 0), (.int .i64 0)]) 16 rfl Try.underlying32 info37 rfl (by decide) (by omega) (.slice Ao28 x5_2.length co28) x5_2 (⟨x6_1, rd (rd_L1 l0 x6_1) x7_2⟩ : S37) [.int .i64 x6_1, .int .i64 (rd (rd_L1 l0 x6_1) x7_2)] (fun _ => True) (fun _ => False) rfl rfl ?aP (fun _ hk => hk.elim) ?aF ?aO ?aB ?aS ?aL ?_; (case aP => exact k37_mkM _ _ _ (⟨x6_1, rd (rd_L1 l0 x6_1) x7_2⟩ : S37)); (case aB => exact (by repeat (first | (with_reducible first | exact HB.out | apply below_alloc | apply pw_below_drewN | apply below_drew1) | exact HB.out))); (case aF => exact (fun _ _ => trivial)); (case aO => exact (by (with_reducible repeat (first | apply Kd.R_alloc | apply Kd.R_drewN | apply Kd.R_drew)); exact HO_5.out)); (case aS => exact (below_size (by repeat (first | (with_reducible first | exact HB.out | apply below_alloc | apply pw_below_drewN | apply below_drew1) | exact HB.out)))); (case aL => have := LMc26.out; omega); intro v420 w29 ho hb hg hat; rw [← Ny419.out] at ho; have n0_ := Aside0.mk (Kd.R_over' (by (with_reducible repeat (first | apply Kd.R_alloc | apply Kd.R_drewN | apply Kd.R_drew)); exact HO_4.out) (Kd.R_typed (by (with_reducible repeat (first | apply Kd.R_alloc | apply Kd.R_drewN | apply Kd.R_drew)); exact HO_5.out)) (by decide) hg); have n1_ := Aside0.mk (hb); have n2_ := Aside0.mk (ho); clear HO_4; clear HB; clear HO_5; have HO_4 := n0_; have HB := n1_; have HO421 := n2_; clear n0_ n1_ n2_; clear ho hb hg hat))
                                        repeat (go_quiet (first | (go_at_call 56; (with_reducible refine (swageref06_has.calls kj6 _ _ x5_2 x6_1 (rd (rd_L1 l0 x6_1) x7_2) false _ ?side1 ?side2 A22.out).mono ?_); (case side1 => repeat (first | exact (Kd.R_reads' HO_5.out).2.2 | (with_reducible refine Kd.C_alloc ?_ _) | (with_reducible refine Kd.C_drewN ?_ _) | (with_reducible refine Kd.C_drew ?_))); (case side2 => exact (Kd.R_reads' HO_5.out).2.1); rintro e w' ⟨rfl, ⟨nd, rfl⟩⟩; (try first | exact ⟨rfl, _, World.drewN_drewN _ _ _⟩ | exact ⟨rfl, _, Eq.trans (World.drewN_drewN _ _ _) (congrArg (World.drewN _) (Nat.add_assoc _ _ _))⟩); have p417 : 0 ≤ (x6_1 : Int) := of_decide_eq_true (by first | (with_reducible assumption) | assumption); have q417 : x6_1 < (l0.length : Int) := of_decide_eq_true (by first | (with_reducible assumption) | assumption); obtain ⟨ad417, A417_0, c417_0, e417, hx417_0, hl417_0, hi417_0⟩ := at_L1 HR0.out x6_1 p417 q417; obtain rfl : ad410 = ad417 := (by injection e417); replace hx417_0 := (HB.out.cell (World.block_lt_of_cell? w _ hx417_0)).trans hx417_0; have HR417_0 := Aside0.mk hi417_0; have HC417_0 := Aside0.mk hl417_0; clear hi417_0 hl417_0; replace p417 := eq_true p417; replace q417 := eq_true q417; have ea_ := Option.some.inj (hx410_0.symm.trans hx417_0); injection ea_ with ea_ en_ ec_; subst ea_; subst ec_; clear en_; have p418 : 0 ≤ (x7_2 : Int) := of_decide_eq_true (by first | (with_reducible assumption) | assumption); have q418 : x7_2 < ((rd_L1 l0 x6_1).length : Int) := of_decide_eq_true (by first | (with_reducible assumption) | assumption); obtain ⟨ad418, e418, hx418_0⟩ := Kd.at_int HR417_0.out x7_2 p418 q418; cases e418; replace hx418_0 := (HB.out.cell (World.block_lt_of_cell? w _ hx418_0)).trans hx418_0; replace p418 := eq_true p418; replace q418 := eq_true q418) | ((with_reducible refine gate_builtin (b := .append) (xs := #[.tmp 64, .tmp 74]) rfl ?_); at_builtin; refine Kd.R_append k37 (w0 := w) w.heap.size rfl (.tmp 64) (.tmp 74) 32 37 (.agg #[(.int .i64 0), (.int .i64 0)]) 16 rfl Try.underlying32 info37 rfl (by decide) (by omega) (.slice Ao28 x5_2.length co28) x5_2 (⟨x6_1, rd (rd_L1 l0 x6_1) x7_2⟩ : S37) [.int .i64 x6_1, .int .i64 (rd (rd_L1 l0 x6_1) x7_2)] (fun _ => True) (fun _ => False) rfl rfl ?aP (fun _ hk => hk.elim) ?aF ?aO ?aB ?aS ?aL ?_; (case aP => exact k37_mkM _ _ _ (⟨x6_1, rd (rd_L1 l0 x6_1) x7_2⟩ : S37)); (case aB => exact (by repeat (first | (with_reducible first | exact HB.out | apply below_alloc | apply pw_below_drewN | apply below_drew1) | exact HB.out))); (case aF => exact (fun _ _ => trivial)); (case aO => exact (by (with_reducible repeat (first | apply Kd.R_alloc | apply Kd.R_drewN | apply Kd.R_drew)); exact HO_5.out)); (case aS => exact (below_size (by repeat (first | (with_reducible first | exact HB.out | apply below_alloc | apply pw_below_drewN | apply below_drew1) | exact HB.out)))); (case aL => have := LMc26.out; omega); intro v420 w29 ho hb hg hat; rw [← Ny419.out] at ho; have n0_ := Aside0.mk (Kd.R_over' (by (with_reducible repeat (first | apply Kd.R_alloc | apply Kd.R_drewN | apply Kd.R_drew)); exact HO_4.out) (Kd.R_typed (by (with_reducible repeat (first | apply Kd.R_alloc | apply Kd.R_drewN | apply Kd.R_drew)); exact HO_5.out)) (by decide) hg); have n1_ := Aside0.mk (hb); have n2_ := Aside0.mk (ho); clear HO_4; clear HB; clear HO_5; have HO_4 := n0_; have HB := n1_; have HO421 := n2_; clear n0_ n1_ n2_; clear ho hb hg hat)); try go_wp2_with (first | (go_at_call 56; (with_reducible refine (swageref06_has.calls kj6 _ _ x5_2 x6_1 (rd (rd_L1 l0 x6_1) x7_2) false _ ?side1 ?side2 A22.out).mono ?_); (case side1 => repeat (first | exact (Kd.R_reads' HO_5.out).2.2 | (with_reducible refine Kd.C_alloc ?_ _) | (with_reducible refine Kd.C_drewN ?_ _) | (with_reducible refine Kd.C_drew ?_))); (case side2 => exact (Kd.R_reads' HO_5.out).2.1); rintro e w' ⟨rfl, ⟨nd, rfl⟩⟩; (try first | exact ⟨rfl, _, World.drewN_drewN _ _ _⟩ | exact ⟨rfl, _, Eq.trans (World.drewN_drewN _ _ _) (congrArg (World.drewN _) (Nat.add_assoc _ _ _))⟩); have p417 : 0 ≤ (x6_1 : Int) := of_decide_eq_true (by first | (with_reducible assumption) | assumption); have q417 : x6_1 < (l0.length : Int) := of_decide_eq_true (by first | (with_reducible assumption) | assumption); obtain ⟨ad417, A417_0, c417_0, e417, hx417_0, hl417_0, hi417_0⟩ := at_L1 HR0.out x6_1 p417 q417; obtain rfl : ad410 = ad417 := (by injection e417); replace hx417_0 := (HB.out.cell (World.block_lt_of_cell? w _ hx417_0)).trans hx417_0; have HR417_0 := Aside0.mk hi417_0; have HC417_0 := Aside0.mk hl417_0; clear hi417_0 hl417_0; replace p417 := eq_true p417; replace q417 := eq_true q417; have ea_ := Option.some.inj (hx410_0.symm.trans hx417_0); injection ea_ with ea_ en_ ec_; subst ea_; subst ec_; clear en_; have p418 : 0 ≤ (x7_2 : Int) := of_decide_eq_true (by first | (with_reducible assumption) | assumption); have q418 : x7_2 < ((rd_L1 l0 x6_1).length : Int) := of_decide_eq_true (by first | (with_reducible assumption) | assumption); obtain ⟨ad418, e418, hx418_0⟩ := Kd.at_int HR417_0.out x7_2 p418 q418; cases e418; replace hx418_0 := (HB.out.cell (World.block_lt_of_cell? w _ hx418_0)).trans hx418_0; replace p418 := eq_true p418; replace q418 := eq_true q418) | ((with_reducible refine gate_builtin (b := .append) (xs := #[.tmp 64, .tmp 74]) rfl ?_); at_builtin; refine Kd.R_append k37 (w0 := w) w.heap.size rfl (.tmp 64) (.tmp 74) 32 37 (.agg #[(.int .i64 0), (.int .i64 0)]) 16 rfl Try.underlying32 info37 rfl (by decide) (by omega) (.slice Ao28 x5_2.length co28) x5_2 (⟨x6_1, rd (rd_L1 l0 x6_1) x7_2⟩ : S37) [.int .i64 x6_1, .int .i64 (rd (rd_L1 l0 x6_1) x7_2)] (fun _ => True) (fun _ => False) rfl rfl ?aP (fun _ hk => hk.elim) ?aF ?aO ?aB ?aS ?aL ?_; (case aP => exact k37_mkM _ _ _ (⟨x6_1, rd (rd_L1 l0 x6_1) x7_2⟩ : S37)); (case aB => exact (by repeat (first | (with_reducible first | exact HB.out | apply below_alloc | apply pw_below_drewN | apply below_drew1) | exact HB.out))); (case aF => exact (fun _ _ => trivial)); (case aO => exact (by (with_reducible repeat (first | apply Kd.R_alloc | apply Kd.R_drewN | apply Kd.R_drew)); exact HO_5.out)); (case aS => exact (below_size (by repeat (first | (with_reducible first | exact HB.out | apply below_alloc | apply pw_below_drewN | apply below_drew1) | exact HB.out)))); (case aL => have := LMc26.out; omega); intro v420 w29 ho hb hg hat; rw [← Ny419.out] at ho; have n0_ := Aside0.mk (Kd.R_over' (by (with_reducible repeat (first | apply Kd.R_alloc | apply Kd.R_drewN | apply Kd.R_drew)); exact HO_4.out) (Kd.R_typed (by (with_reducible repeat (first | apply Kd.R_alloc | apply Kd.R_drewN | apply Kd.R_drew)); exact HO_5.out)) (by decide) hg); have n1_ := Aside0.mk (hb); have n2_ := Aside0.mk (ho); clear HO_4; clear HB; clear HO_5; have HO_4 := n0_; have HB := n1_; have HO421 := n2_; clear n0_ n1_ n2_; clear ho hb hg hat)))
                                        go_roundg kj6
                                        case measure => have := HK1.out; have := HK2.out; have := HJ6.out; omega
                                        case rel => exact ⟨(y419), (wrap64 (x7_2 + 1)), (by first | rfl | (simp; done) | (simp [*]; done)), H', ⟨by have := HK1.out; have := HK2.out; have := HJ6.out; omega⟩, ⟨by (with_reducible repeat (first | apply Kd.R_alloc | apply Kd.R_drewN | apply Kd.R_drew)); exact HO_4.out⟩, ⟨by (with_reducible repeat (first | apply Kd.R_alloc | apply Kd.R_drewN | apply Kd.R_drew)); exact HO421.out⟩, ⟨by repeat (first | (with_reducible first | exact HB.out | apply below_alloc | apply pw_below_drewN | apply below_drew1) | exact HB.out)⟩⟩
                                      · rw [if_neg c26] at H
                                        exact absurd H (by simp)
                                  · rw [if_neg c21] at H
                                    have c21b0 : decide ((rd t405 (rd (rd_L1 l0 x6_1) x7_2)) ≤ (rd t405 x6_1)) = false := decide_eq_false c21
                                    clear c21
                                    have H' := Aside0.mk H
                                    clear H
                                    have p410 : 0 ≤ (x6_1 : Int) := of_decide_eq_true (by first | (with_reducible assumption) | assumption)
                                    have q410 : x6_1 < (l0.length : Int) := of_decide_eq_true (by first | (with_reducible assumption) | assumption)
                                    obtain ⟨ad410, A410_0, c410_0, e410, hx410_0, hl410_0, hi410_0⟩ := at_L1 HR0.out x6_1 p410 q410
                                    cases e410
                                    replace hx410_0 := (HB.out.cell (World.block_lt_of_cell? w _ hx410_0)).trans hx410_0
                                    have HR410_0 := Aside0.mk hi410_0
                                    have HC410_0 := Aside0.mk hl410_0
                                    clear hi410_0 hl410_0
                                    replace p410 := eq_true p410
                                    replace q410 := eq_true q410
                                    have p411 : 0 ≤ (x7_2 : Int) := of_decide_eq_true (by first | (with_reducible assumption) | assumption)
                                    have q411 : x7_2 < ((rd_L1 l0 x6_1).length : Int) := of_decide_eq_true (by first | (with_reducible assumption) | assumption)
                                    obtain ⟨ad411, e411, hx411_0⟩ := Kd.at_int HR410_0.out x7_2 p411 q411
                                    cases e411
                                    replace hx411_0 := (HB.out.cell (World.block_lt_of_cell? w _ hx411_0)).trans hx411_0
                                    replace p411 := eq_true p411
                                    replace q411 := eq_true q411
                                    obtain ⟨Ao30, co30, eo30⟩ := Kd.R_slice HO_4.out
                                    subst eo30
                                    have p412 : 0 ≤ ((rd (rd_L1 l0 x6_1) x7_2) : Int) := of_decide_eq_true (by first | (with_reducible assumption) | assumption)
                                    have q412 : (rd (rd_L1 l0 x6_1) x7_2) < (t405.length : Int) := of_decide_eq_true (by first | (with_reducible assumption) | assumption)
                                    obtain ⟨ad412, e412, hx412_0⟩ := Kd.at_int (Kd.R_reads' HO_4.out).2.2 (rd (rd_L1 l0 x6_1) x7_2) p412 q412
                                    cases e412
                                    replace p412 := eq_true p412
                                    replace q412 := eq_true q412
                                    have p413 : 0 ≤ (x6_1 : Int) := of_decide_eq_true (by first | (with_reducible assumption) | assumption)
                                    have q413 : x6_1 < (t405.length : Int) := of_decide_eq_true (by first | (with_reducible assumption) | assumption)
                                    obtain ⟨ad413, e413, hx413_0⟩ := Kd.at_int (Kd.R_reads' HO_4.out).2.2 x6_1 p413 q413
                                    obtain rfl : ad412 = ad413 := (by injection e413)
                                    replace p413 := eq_true p413
                                    replace q413 := eq_true q413
                                    go_wp2
                                    repeat (go_quiet (fail); try go_wp2)
                                    go_roundg kj6
                                    case measure => have := HK1.out; have := HK2.out; have := HJ6.out; omega
                                    case rel => exact ⟨(x5_2), (wrap64 (x7_2 + 1)), (by first | rfl | (simp; done) | (simp [*]; done)), H', ⟨by have := HK1.out; have := HK2.out; have := HJ6.out; omega⟩, ⟨by (with_reducible repeat (first | apply Kd.R_alloc | apply Kd.R_drewN | apply Kd.R_drew)); exact HO_4.out⟩, ⟨by (with_reducible repeat (first | apply Kd.R_alloc | apply Kd.R_drewN | apply Kd.R_drew)); exact HO_5.out⟩, ⟨by repeat (first | (with_reducible first | exact HB.out | apply below_alloc | apply pw_below_drewN | apply below_drew1) | exact HB.out)⟩⟩
                                · rw [if_neg c20] at H
                                  exact absurd H (by simp)
                              · rw [if_neg c19] at H
                                exact absurd H (by simp)
                            · rw [if_neg c18] at H
                              exact absurd H (by simp)
                          · rw [if_neg c17] at H
                            exact absurd H (by simp)
                        · rw [if_neg c16] at H
                          exact absurd H (by simp)
                      · rw [if_neg c15] at H
                        exact absurd H (by simp)
                    · rw [if_neg c14] at H
                      exact absurd H (by simp)
                  · replace c13 := Bool.eq_false_iff.mpr c13
                    subst c13
                    have H1 : (swageref06_Back.l0 kj6 l0 t405 x5_2 (wrap64 (x6_1 + 1))) = some r := by rw [if_neg (show ¬ (false = true) by decide)] at H; exact H
                    clear H
                    have H := H1
                    clear H1
                    have H' := Aside0.mk H
                    clear H
                    go_wp2
                    repeat (go_quiet (fail); try go_wp2)
                    go_roundg kj6
                    case measure => have := HK1.out; have := HK2.out; have := HJ6.out; omega
                    case rel => exact ⟨(x5_2), (wrap64 (x6_1 + 1)), (by first | rfl | (simp; done) | (simp [*]; done)), H', ⟨by have := HK1.out; have := HK2.out; have := HJ6.out; omega⟩, ⟨by (with_reducible repeat (first | apply Kd.R_alloc | apply Kd.R_drewN | apply Kd.R_drew)); exact HO_4.out⟩, ⟨by (with_reducible repeat (first | apply Kd.R_alloc | apply Kd.R_drewN | apply Kd.R_drew)); exact HO_5.out⟩, ⟨by repeat (first | (with_reducible first | exact HB.out | apply below_alloc | apply pw_below_drewN | apply below_drew1) | exact HB.out)⟩⟩
        · rw [if_neg c6] at H
          have c6b0 : decide (x6_1 < (l0.length : Int)) = false := decide_eq_false c6
          clear c6
          obtain rfl := Option.some.inj H
          go_wp2
          repeat (go_quiet (fail); try go_wp2)
          go_ret
          exact ⟨_, by first | rfl | (simp [errW_none, errW_some] <;> rfl) | (simp [*, errW_none, errW_some] <;> rfl), by (with_reducible repeat (first | apply Kd.R_alloc | apply Kd.R_drewN | apply Kd.R_drew)); exact HO_5.out, by repeat (first | (with_reducible first | exact HB.out | apply below_alloc | apply pw_below_drewN | apply below_drew1) | exact HB.out)⟩
  · replace c3 := Bool.eq_false_iff.mpr c3
    subst c3
    have H1 : (some ([] : List (S37))) = some r := by rw [if_neg (show ¬ (false = true) by decide)] at H; exact H
    clear H
    have H := H1
    clear H1
    obtain rfl := Option.some.inj H
    go_enter Try.func31, Try.ntmps31
    go_wp2_with (first | (go_at_call 20; (with_reducible refine (swageref06_Right.calls k _ _ l0 false _ ?side1 ?side2 A2.out).mono ?_); (case side1 => repeat (first | exact HR0.out | (with_reducible refine Kd.C_alloc ?_ _) | (with_reducible refine Kd.C_drewN ?_ _) | (with_reducible refine Kd.C_drew ?_))); (case side2 => exact HC0.out); rintro e w' ⟨rfl, ⟨nd, rfl⟩⟩; (try first | exact ⟨rfl, _, World.drewN_drewN _ _ _⟩ | exact ⟨rfl, _, Eq.trans (World.drewN_drewN _ _ _) (congrArg (World.drewN _) (Nat.add_assoc _ _ _))⟩)))
    repeat (go_quiet (first | (go_at_call 20; (with_reducible refine (swageref06_Right.calls k _ _ l0 false _ ?side1 ?side2 A2.out).mono ?_); (case side1 => repeat (first | exact HR0.out | (with_reducible refine Kd.C_alloc ?_ _) | (with_reducible refine Kd.C_drewN ?_ _) | (with_reducible refine Kd.C_drew ?_))); (case side2 => exact HC0.out); rintro e w' ⟨rfl, ⟨nd, rfl⟩⟩; (try first | exact ⟨rfl, _, World.drewN_drewN _ _ _⟩ | exact ⟨rfl, _, Eq.trans (World.drewN_drewN _ _ _) (congrArg (World.drewN _) (Nat.add_assoc _ _ _))⟩))); try go_wp2_with (first | (go_at_call 20; (with_reducible refine (swageref06_Right.calls k _ _ l0 false _ ?side1 ?side2 A2.out).mono ?_); (case side1 => repeat (first | exact HR0.out | (with_reducible refine Kd.C_alloc ?_ _) | (with_reducible refine Kd.C_drewN ?_ _) | (with_reducible refine Kd.C_drew ?_))); (case side2 => exact HC0.out); rintro e w' ⟨rfl, ⟨nd, rfl⟩⟩; (try first | exact ⟨rfl, _, World.drewN_drewN _ _ _⟩ | exact ⟨rfl, _, Eq.trans (World.drewN_drewN _ _ _) (congrArg (World.drewN _) (Nat.add_assoc _ _ _))⟩))))
    go_ret
    exact ⟨_, by first | rfl | (simp [errW_none, errW_some] <;> rfl) | (simp [*, errW_none, errW_some] <;> rfl), by first | exact Kd.R_nil _ _ _ _ _ | exact Kd.N_nil _ _ _ _ _ | exact Kd.V_nil _ _ _ _ _ | exact Kd.Q_nil _ _ _ _ _ | exact Kd.S_nil _ _ _ _ _, by repeat (first | (with_reducible first | exact HB.out | apply below_alloc | apply pw_below_drewN | apply below_drew1) | exact HB.out)⟩

end Go.Proofs.Ytkmbhknmjnbanaa.A


namespace Go.Proofs.Ytkmbhknmjnbanaa.A
open Go.RowKit Go.Proofs.YtkmbhknmjnbanaaW.PrintWords Go.Proofs.YtkmbhknmjnbanaaW.PrintLast Go.Shelf
set_option linter.unusedVariables false
set_option linter.unusedSimpArgs false

theorem mk_met0 (g : List (List Int)) (i : Nat) (hi : i < g.length) : ¬ Mk (met0 g) i := by
  unfold Mk met0
  rw [List.getD_eq_getElem?_getD, List.getElem?_replicate, if_pos hi]
  simp
theorem walk_dfs {g : List (List Int)} (hg : InG g) {a : Nat} (ha : a < g.length) : Dfs g (met0 g) a (visit g g.length (met0 g) a).1 (walkOf g a) :=
  visit_dfs hg _ _ _ (by simp [met0]) ha (mk_met0 g a ha) (by rw [unmet_met0]; exact Nat.le_refl _)
theorem walk_last {g : List (List Int)} {a : Nat} (ha : a < g.length) : ∃ o, walkOf g a = o ++ [(a : Int)] := by
  unfold walkOf
  obtain ⟨n, hn⟩ : ∃ n, g.length = n + 1 := ⟨g.length - 1, by omega⟩
  rw [hn, visit_succ]
  exact ⟨_, rfl⟩
theorem walk_mem {g : List (List Int)} (hg : InG g) {a : Nat} (ha : a < g.length) (i : Nat) : (i : Int) ∈ walkOf g a ↔ Way g a i := by
  have h := walk_dfs hg ha
  refine ⟨h.way i, fun hw => ?_⟩
  induction hw with
  | refl => obtain ⟨o, e⟩ := walk_last ha; rw [e]; simp
  | step hw e ih =>
    rcases (h.mark _).1 (h.clo _ _ ih e) with h1 | h1
    · exact absurd h1 (mk_met0 g _ (e.lt hg))
    · exact h1
theorem walk_nodup {g : List (List Int)} (hg : InG g) {a : Nat} (ha : a < g.length) : (walkOf g a).Nodup := (walk_dfs hg ha).nodup

theorem mk_lt {m : List Bool} {i : Nat} (hi : i < m.length) : Mk m i ↔ m[i] = true := by unfold Mk; rw [List.getD_eq_getElem?_getD, List.getElem?_eq_getElem hi]; rfl
theorem mk_rd {m : List Bool} {i : Nat} (hi : i < m.length) : rdOf false m (i : Int) = true ↔ Mk m i := by
  unfold rdOf Mk
  rw [Int.toNat_natCast, List.getD_eq_getElem?_getD, List.getD_eq_getElem?_getD, List.getElem?_eq_getElem hi]
  rfl
theorem mk_marks {n : Nat} {pre : List Int} {i : Nat} (hi : i < n) : Mk (marks n pre) i ↔ (i : Int) ∈ pre := by
  rw [mk_lt (by rw [marks_len]; exact hi)]
  simp [marks]

theorem unmet_set_lt {m : List Bool} {a : Nat} (ha : a < m.length) (h : ¬ Mk m a) : unmet (m.set a true) < unmet m := by
  have := unmet_set (m := m) ha (by simpa [Mk] using h); omega
end Go.Proofs.Ytkmbhknmjnbanaa.A


namespace Go.Proofs.Ytkmbhknmjnbanaa.A
open Go.RowKit Go.Proofs.YtkmbhknmjnbanaaW.PrintWords Go.Proofs.YtkmbhknmjnbanaaW.PrintLast Go.Shelf
set_option linter.unusedVariables false
set_option linter.unusedSimpArgs false

theorem leave_ev {g : List (List Int)} (hg : InG g) (hn : g.length ≤ 4096) (h8 : ∀ l ∈ g, l.length ≤ 8) : ∀ (n : Nat) (met : List Bool) (a : Nat) (out : List Int), met.length = g.length → a < g.length → ¬ Mk met a → unmet met ≤ n → out.length + unmet met ≤ 1000000 →
    Evt (fun k => swageref06_leave.f k g a met out) (out ++ (visit g n met a).2, (visit g n met a).1)
  | 0, met, a, out, hl, ha, hm, hn0, ho => by
    have := unmet_pos (m := met) (a := a) (by omega) (by simpa [Mk] using hm); omega
  | n + 1, met, a, out, hl, ha, hm, hn1, ho => by
    rw [visit_succ]
    have hs := unmet_set (m := met) (a := a) (by omega) (by simpa [Mk] using hm)
    have hr8 := h8 _ (rowOf_mem ha)
    have H : ∀ (d j : Nat) (s : List Bool × List Int), j + d = (rowOf g a).length → s.1.length = g.length → unmet s.1 ≤ n → out.length + s.2.length + unmet s.1 ≤ 1000000 →
        Evt (fun k => swageref06_leave.l0 k g a s.1 (out ++ s.2) j) (out ++ ((((rowOf g a).drop j).foldl (vstep g n) s).2 ++ [(a : Int)]), (((rowOf g a).drop j).foldl (vstep g n) s).1) := by
      intro d
      induction d with
      | zero =>
        intro j s hj hsl hsn hso
        rw [List.drop_eq_nil_of_le (by omega)]
        refine Evt.step (Evt.const rfl) fun k => ?_
        rw [swageref06_leave.l0, if_pos (by omega), if_pos (by omega), rdL, if_neg (by omega), if_pos (by rw [List.length_append]; omega), List.foldl_nil, List.append_assoc]
      | succ d ih =>
        intro j s hj hsl hsn hso
        have hlt : j < (rowOf g a).length := by omega
        have hx := hg _ (rowOf_mem ha) _ (List.getElem_mem hlt)
        obtain ⟨x, ex⟩ := Int.eq_ofNat_of_zero_le hx.1
        rw [List.drop_eq_getElem_cons hlt, List.foldl_cons, ex]
        by_cases hmx : Mk s.1 x
        · have e : vstep g n s (x : Int) = s := by unfold vstep; rw [Int.toNat_natCast, if_pos hmx]
          rw [e]
          refine Evt.step (ih (j + 1) s (by omega) hsl hsn hso) fun k => ?_
          rw [swageref06_leave.l0, if_pos (by omega), if_pos (by omega), rdL, if_pos (by omega), if_pos (by omega), rdI hlt, ex, if_pos (by omega), if_pos (by omega), if_pos ((mk_rd (by omega)).2 hmx), wsucc (by omega)]
        · have e : vstep g n s (x : Int) = ((visit g n s.1 x).1, s.2 ++ (visit g n s.1 x).2) := by unfold vstep; rw [Int.toNat_natCast, if_neg hmx]
          have hxl : x < g.length := by omega
          have hmx' : s.1.getD x true = false := by simpa [Mk] using hmx
          have hc := visit_count g hg n s.1 x hsl hxl hmx' hsn
          have hv := leave_ev hg hn h8 n s.1 x (out ++ s.2) hsl hxl hmx hsn (by rw [List.length_append]; omega)
          rw [e]
          have ih' := ih (j + 1) ((visit g n s.1 x).1, s.2 ++ (visit g n s.1 x).2) (by omega) (by show (visit g n s.1 x).1.length = _; rw [visit_len, hsl]) (by show unmet (visit g n s.1 x).1 ≤ n; omega) (by show out.length + (s.2 ++ (visit g n s.1 x).2).length + unmet (visit g n s.1 x).1 ≤ _; rw [List.length_append]; omega)
          refine Evt.step (Evt.bind (h := fun k (bt375 : List Int × List Bool) => swageref06_leave.l0 k g a bt375.2 bt375.1 ((j + 1 : Nat) : Int)) hv (Evt.congr ih' fun k => by rw [List.append_assoc])) fun k => ?_
          rw [swageref06_leave.l0, if_pos (by omega), if_pos (by omega), rdL, if_pos (by omega), if_pos (by omega), rdI hlt, ex, if_pos (by omega), if_pos (by omega), if_neg (fun h => hmx ((mk_rd (by omega)).1 h)), wsucc (by omega)]
    have h1 := H (rowOf g a).length 0 (met.set a true, []) (by omega) (by simp [hl]) (by show unmet (met.set a true) ≤ n; omega) (by show out.length + 0 + unmet (met.set a true) ≤ _; omega)
    rw [List.drop_zero, List.append_nil] at h1
    refine Evt.step h1 fun k => ?_
    rw [swageref06_leave.f, if_pos (by omega), if_pos (by omega), Int.toNat_natCast]
    rfl
theorem oref_l0 (l : List Int) (hl : l.length ≤ 1000000) : ∀ (m : Nat) (out : List Int), m ≤ l.length → out.length + m ≤ 1000000 → Evt (fun k => swageref06_Order.l0 k l out ((m : Int) - 1)) (out ++ (l.take m).reverse)
  | 0, out, hm, ho => Evt.step (Evt.const rfl) fun k => by rw [swageref06_Order.l0, if_neg (by omega)]; simp
  | m + 1, out, hm, ho => by
    have hlt : m < l.length := by omega
    have ih := oref_l0 l hl m (out ++ [l[m]]) (by omega) (by rw [List.length_append]; simp; omega)
    rw [List.append_assoc, show [l[m]] ++ (l.take m).reverse = (l.take (m + 1)).reverse by rw [List.take_succ_eq_append_getElem hlt, List.reverse_append]; rfl] at ih
    refine Evt.step ih fun k => ?_
    rw [swageref06_Order.l0, if_pos (by omega), if_pos (by omega), if_pos (by omega), if_pos (by omega), show ((m + 1 : Nat) : Int) - 1 = (m : Int) by omega, rdI hlt, w64 (by omega) (by omega)]
theorem oref_ev {g : List (List Int)} (hn : g.length ≤ 4096) : Evt (fun k => swageref06_Order.f k g) (orderOf g) := by
  unfold swageref06_Order.f
  refine Evt.bind (h := fun k t382 => (if t382 = true then (if 0 ≤ (g.length : Int) then (if ((g.length : Int) : Int).toNat ≤ 281474976710656 then ((swageref06_leave.f k g 0 (List.replicate ((g.length : Int) : Int).toNat false) ([] : List Int)).bind fun bt386 => (swageref06_Order.l0 k bt386.1 ([] : List Int) (wrap64 ((bt386.1.length : Int) - 1)))) else (none)) else (none)) else (some ([] : List Int)))) (rref_ev hn) ?_
  unfold orderOf
  cases hr : rightB g
  · exact Evt.const rfl
  · obtain ⟨e1, e2, hg⟩ := right_rows hr
    rw [if_pos rfl]
    have hlv := leave_ev hg hn (right_8 hr) g.length (met0 g) 0 [] (by simp [met0]) (by omega) (mk_met0 g 0 (by omega)) (by rw [unmet_met0]; exact Nat.le_refl _) (by rw [unmet_met0]; simp; omega)
    have hwl := walk_len hg (show 0 < g.length by omega)
    have ho := oref_l0 (walkOf g 0) (by omega) (walkOf g 0).length [] (Nat.le_refl _) (by simp; omega)
    rw [List.take_length] at ho
    refine Evt.congr (Evt.bind (h := fun k (bt386 : List Int × List Bool) => swageref06_Order.l0 k bt386.1 ([] : List Int) (wrap64 ((bt386.1.length : Int) - 1))) hlv (Evt.congr ho fun k => ?_)) fun k => ?_
    · show swageref06_Order.l0 k (walkOf g 0) [] (wrap64 (((walkOf g 0).length : Int) - 1)) = _
      rw [w64 (by omega) (by omega)]
    · rw [if_pos rfl, if_pos (by omega), if_pos (by omega), Int.toNat_natCast]
      rfl

theorem pl_l1 {o : List Int} {n : Nat} (hn : n ≤ 4096) (hol : o.length ≤ 4096) (ho : ∀ x ∈ o, 0 ≤ x ∧ x < (n : Int)) : ∀ (d i : Nat), i + d = o.length → Evt (fun k => swageref06_Places.l1 k o (plfold o n i) i) (plfold o n o.length)
  | 0, i, hi => by
    obtain rfl : i = o.length := by omega
    exact Evt.step (Evt.const rfl) fun k => by rw [swageref06_Places.l1, if_neg (by omega)]
  | d + 1, i, hi => by
    have hlt : i < o.length := by omega
    have hx := ho o[i] (List.getElem_mem hlt)
    refine Evt.step (pl_l1 hn hol ho d (i + 1) (by omega)) fun k => ?_
    rw [swageref06_Places.l1, if_pos (by omega), if_pos (by omega), rdI hlt, if_pos hx.1, plfold_len, if_pos hx.2, wsucc (by omega), plfold_succ]
    rw [show o.getD i 0 = o[i] by simp [List.getD_eq_getElem?_getD, hlt]]
theorem pl_l0 {o : List Int} {n : Nat} (hn : n ≤ 4096) {r : List Int} (h : Evt (fun k => swageref06_Places.l1 k o (List.replicate n (-1)) 0) r) : ∀ (d i : Nat), i + d = n → Evt (fun k => swageref06_Places.l0 k o (List.replicate i (-1) ++ List.replicate d 0) i) r
  | 0, i, hi => by
    obtain rfl : i = n := by omega
    refine Evt.step h fun k => ?_
    rw [swageref06_Places.l0, if_neg (by simp)]
    simp
  | d + 1, i, hi => by
    refine Evt.step (pl_l0 hn h d (i + 1) (by omega)) fun k => ?_
    rw [swageref06_Places.l0, if_pos (by simp; omega), if_pos (by omega), wsucc (by omega), Int.toNat_natCast]
    have e : (List.replicate i (-1 : Int) ++ List.replicate (d + 1) 0).set i (-1) = List.replicate (i + 1) (-1) ++ List.replicate d 0 := by
      rw [List.set_append_right _ _ (by simp), List.length_replicate, Nat.sub_self, List.replicate_succ, List.set_cons_zero, List.replicate_succ' (n := i), List.append_assoc]
      rfl
    rw [e]
theorem orderOf_in (g : List (List Int)) : ∀ x ∈ orderOf g, 0 ≤ x ∧ x < (g.length : Int) := by
  cases hr : rightB g
  · intro x hx; unfold orderOf at hx; rw [hr] at hx; simp at hx
  · exact order_in_range hr
theorem orderOf_len (g : List (List Int)) : (orderOf g).length ≤ g.length := by
  cases hr : rightB g
  · unfold orderOf; rw [hr]; simp
  · exact order_len hr
theorem plref_ev {g : List (List Int)} (hn : g.length ≤ 4096) : Evt (fun k => swageref06_Places.f k g) (placesOf g) := by
  unfold swageref06_Places.f
  refine Evt.bind (h := fun k t394 => (if 0 ≤ (g.length : Int) then (if ((g.length : Int) : Int).toNat ≤ 35184372088832 then (swageref06_Places.l0 k t394 (List.replicate ((g.length : Int) : Int).toNat 0) 0) else (none)) else (none))) (oref_ev hn) ?_
  have hol := orderOf_len g
  have h1 := pl_l1 hn (by omega) (orderOf_in g) (orderOf g).length 0 (by omega)
  refine Evt.congr (pl_l0 (n := g.length) hn (r := placesOf g) h1 g.length 0 (by omega)) fun k => ?_
  rw [if_pos (by omega), if_pos (by omega), Int.toNat_natCast]
  simp

theorem has_l0 (l : List S37) (hl : l.length ≤ 1000000) (a b : Int) : ∀ (d i : Nat), i + d = l.length → Evt (fun k => swageref06_has.l0 k l a b i) ((l.drop i).any (isE a b))
  | 0, i, hi => by
    rw [List.drop_eq_nil_of_le (by omega)]
    exact Evt.step (Evt.const rfl) fun k => by rw [swageref06_has.l0, if_neg (by omega)]; rfl
  | d + 1, i, hi => by
    have hlt : i < l.length := by omega
    rw [List.drop_eq_getElem_cons hlt, List.any_cons]
    cases he : isE a b l[i] with
    | true =>
      refine Evt.step (Evt.const rfl) fun k => ?_
      unfold isE at he
      rw [swageref06_has.l0, if_pos (by omega), if_pos (by omega), rd37 hlt, if_pos]
      · rfl
      · rw [Bool.and_eq_true, decide_eq_true_eq, decide_eq_true_eq] at he
        rw [he.1, he.2]; simp
    | false =>
      refine Evt.step (has_l0 l hl a b d (i + 1) (by omega)) fun k => ?_
      unfold isE at he
      rw [swageref06_has.l0, if_pos (by omega), if_pos (by omega), rd37 hlt, if_neg, wsucc (by omega)]
      · intro h
        rw [Bool.and_eq_true, beq_iff_eq, beq_iff_eq] at h
        rw [h.1, h.2] at he
        simp at he
theorem has_ev (l : List S37) (hl : l.length ≤ 1000000) (a b : Int) : Evt (fun k => swageref06_has.f k l a b) (l.any (isE a b)) := by
  have := has_l0 l hl a b l.length 0 (by omega)
  rw [List.drop_zero] at this
  exact this
theorem bref_l1 {g : List (List Int)} (hn : g.length ≤ 4096) {at_ : List Int} (hat : at_.length = g.length) {i : Nat} (hi : i < g.length) (hR : ∀ x ∈ rowOf g i, 0 ≤ x ∧ x < (g.length : Int)) (hRl : (rowOf g i).length ≤ 100) {r : List S37} : ∀ (d kk : Nat) (out : List S37), kk + d = (rowOf g i).length → out.length + d ≤ 1000000 →
    Evt (fun k => swageref06_Back.l0 k g at_ (brow at_ i out ((rowOf g i).drop kk)) ((i + 1 : Nat) : Int)) r → Evt (fun k => swageref06_Back.l1 k g at_ out i kk) r
  | 0, kk, out, hk, ho, h => by
    rw [List.drop_eq_nil_of_le (by omega)] at h
    refine Evt.step (Evt.step h (f := fun k => swageref06_Back.j2 k g at_ out i kk false) fun k => ?_) fun k => ?_
    · rw [swageref06_Back.j2, if_neg (by simp), wsucc (by omega)]
      rfl
    · rw [swageref06_Back.l1, if_pos (by omega), if_pos (by omega), rdL, if_neg (by omega)]
  | d + 1, kk, out, hk, ho, h => by
    have hlt : kk < (rowOf g i).length := by omega
    have hx := hR _ (List.getElem_mem hlt)
    have ha0 : rd at_ (i : Int) = at_.getD i 0 := rdD
    by_cases h0 : 0 ≤ at_.getD i 0
    · rw [List.drop_eq_getElem_cons hlt] at h
      have hb : brow at_ i out ((rowOf g i)[kk] :: (rowOf g i).drop (kk + 1)) = brow at_ i (bstep at_ i out (rowOf g i)[kk]) ((rowOf g i).drop (kk + 1)) := rfl
      rw [hb] at h
      have hbl := bstep_len at_ i out (rowOf g i)[kk]
      have ih := bref_l1 hn hat hi hR hRl d (kk + 1) (bstep at_ i out (rowOf g i)[kk]) (by omega) (by omega) h
      have hgo : ∀ k, swageref06_Back.l1 (k + 1) g at_ out i kk = swageref06_Back.j2 k g at_ out i kk true := fun k => by
        rw [swageref06_Back.l1, if_pos (by omega), if_pos (by omega), rdL, if_pos (by omega), if_pos (by omega), ha0, decide_eq_true (by omega)]
      by_cases h1 : at_.getD (rowOf g i)[kk].toNat 0 ≤ at_.getD i 0
      · have hc := has_ev out (by omega) i (rowOf g i)[kk]
        have hbs : bstep at_ i out (rowOf g i)[kk] = if out.any (isE i (rowOf g i)[kk]) = true then out else out ++ [⟨i, (rowOf g i)[kk]⟩] := by
          unfold bstep
          cases out.any (isE i (rowOf g i)[kk])
          · rw [if_pos ⟨h0, h1, rfl⟩]; rfl
          · rw [if_neg (fun h => by cases h.2.2)]; rfl
        rw [hbs] at ih
        refine Evt.step (Evt.step (Evt.bind (h := fun k t416 => (if t416 = true then (swageref06_Back.l1 k g at_ out i ((kk + 1 : Nat) : Int)) else (if out.length < 8796093022208 then (swageref06_Back.l1 k g at_ (out ++ [(⟨i, (rowOf g i)[kk]⟩ : S37)]) i ((kk + 1 : Nat) : Int)) else (none)))) hc ?_) (f := fun k => swageref06_Back.j2 k g at_ out i kk true) fun k => ?_) hgo
        · cases hq : out.any (isE i (rowOf g i)[kk])
          · rw [hq] at ih
            simp only [Bool.false_eq_true, if_false] at ih ⊢
            refine Evt.congr ih fun k => ?_
            rw [if_pos (by omega)]
          · rw [hq] at ih
            simp only [if_true] at ih ⊢
            exact ih
        · rw [swageref06_Back.j2, if_pos rfl, if_pos (by omega), if_pos (by omega), if_pos (by omega), rdL, if_pos (by omega), rdI hlt, if_pos hx.1, if_pos (by omega), if_pos (by omega), rdD' hx.1, ha0, if_pos h1, wsucc (by omega)]
      · have hbs : bstep at_ i out (rowOf g i)[kk] = out := by unfold bstep; rw [if_neg (fun h => h1 h.2.1)]
        rw [hbs] at ih
        refine Evt.step (Evt.step ih (f := fun k => swageref06_Back.j2 k g at_ out i kk true) fun k => ?_) hgo
        rw [swageref06_Back.j2, if_pos rfl, if_pos (by omega), if_pos (by omega), if_pos (by omega), rdL, if_pos (by omega), rdI hlt, if_pos hx.1, if_pos (by omega), if_pos (by omega), rdD' hx.1, ha0, if_neg h1, wsucc (by omega)]
    · have hb : ∀ (l : List Int), brow at_ i out l = out := by
        intro l
        induction l with
        | nil => rfl
        | cons x l ih =>
          show brow at_ i (bstep at_ i out x) l = out
          rw [show bstep at_ i out x = out by unfold bstep; rw [if_neg (fun h => h0 h.1)], ih]
      rw [hb] at h
      refine Evt.step (Evt.step h (f := fun k => swageref06_Back.j2 k g at_ out i kk false) fun k => ?_) fun k => ?_
      · rw [swageref06_Back.j2, if_neg (by simp), wsucc (by omega)]
      · rw [swageref06_Back.l1, if_pos (by omega), if_pos (by omega), rdL, if_pos (by omega), if_pos (by omega), ha0, decide_eq_false (by omega)]
theorem bref_l0 {g : List (List Int)} (hn : g.length ≤ 4096) {at_ : List Int} (hat : at_.length = g.length) (hg : InG g) (h8 : ∀ l ∈ g, l.length ≤ 8) : ∀ (d i : Nat), i + d = g.length →
    Evt (fun k => swageref06_Back.l0 k g at_ (bfold at_ g i) i) (bfold at_ g g.length)
  | 0, i, hi => by
    obtain rfl : i = g.length := by omega
    exact Evt.step (Evt.const rfl) fun k => by rw [swageref06_Back.l0, if_neg (by omega)]
  | d + 1, i, hi => by
    have hlt : i < g.length := by omega
    have ih := bref_l0 hn hat hg h8 d (i + 1) (by omega)
    rw [bfold_succ] at ih
    have h1 := h8 _ (rowOf_mem hlt)
    have h2 := bfold_len (at_ := at_) h8 i (by omega)
    refine Evt.step (bref_l1 (r := bfold at_ g g.length) hn hat hlt (hg _ (rowOf_mem hlt)) (by omega) (rowOf g i).length 0 (bfold at_ g i) (by omega) (by omega) ih) fun k => ?_
    rw [swageref06_Back.l0, if_pos (by omega)]
    rfl
theorem bref_ev {g : List (List Int)} (hn : g.length ≤ 4096) : Evt (fun k => swageref06_Back.f k g) (backOf g) := by
  unfold swageref06_Back.f backOf
  refine Evt.bind (h := fun k t404 => (if t404 = true then ((swageref06_Places.f k g).bind fun t405 => (swageref06_Back.l0 k g t405 ([] : List (S37)) 0)) else (some ([] : List (S37))))) (rref_ev hn) ?_
  cases hr : rightB g
  · exact Evt.const rfl
  · obtain ⟨h1, h2, h3⟩ := right_rows hr
    simp only [if_true]
    exact Evt.bind (h := fun k t405 => swageref06_Back.l0 k g t405 ([] : List S37) 0) (plref_ev hn) (bref_l0 h1 (plfold_len _ _ _) h3 (right_8 hr) g.length 0 (by omega))
end Go.Proofs.Ytkmbhknmjnbanaa.A


namespace Go.Proofs
open Go.Shelf
def Try.keys68_ren : Go.Shelf.Ren := ⟨fun | 7 => 68 | 10 => 82 | n => n, fun | 23 => 69 | 26 => 3 | 3 => 4 | 28 => 49 | 0 => 0 | 27 => 48 | 33 => 45 | 4 => 4 | n => n, fun | n => n⟩
theorem Try.keys68 : Go.Proofs.SlLaysZI.n7 Try.prog Try.keys68_ren := {
  mixed := by kernel_rfl
  f7 := ⟨Try.f68.name, by decide, Try.func68.trans (congrArg some (by kernel_rfl))⟩
  f10 := ⟨Try.f82.name, by decide, Try.func82.trans (congrArg some (by kernel_rfl))⟩
  t0 := Try.underlying0
  a0 := Try.isAgg0
  z0 := Try.sizeOf0
  v0 := Try.zeroValue0
  t4 := Try.underlying4
  a4 := Try.isAgg4
  z4 := Try.sizeOf4
  v4 := Try.zeroValue4
  t23 := Try.underlying69
  a23 := Try.isAgg69
  z23 := Try.sizeOf69
  v23 := Try.zeroValue69
  t26 := Try.underlying3
  a26 := Try.isAgg3
  z26 := Try.sizeOf3
  v26 := Try.zeroValue3
  t27 := Try.underlying48
  a27 := Try.isAgg48
  z27 := Try.sizeOf48
  v27 := Try.zeroValue48
  t28 := Try.underlying49
  a28 := Try.isAgg49
  z28 := Try.sizeOf49
  v28 := Try.zeroValue49
  t33 := Try.underlying45
  a33 := Try.isAgg45
  z33 := Try.sizeOf45
  v33 := Try.zeroValue45 }
def Try.keys58_ren : Go.Shelf.Ren := ⟨fun | 7 => 58 | 10 => 76 | n => n, fun | 23 => 56 | 26 => 3 | 3 => 27 | 28 => 49 | 0 => 0 | 27 => 48 | 33 => 45 | 4 => 4 | n => n, fun | n => n⟩
theorem Try.keys58 : Go.Proofs.SlLaysZI.n7 Try.prog Try.keys58_ren := {
  mixed := by kernel_rfl
  f7 := ⟨Try.f58.name, by decide, Try.func58.trans (congrArg some (by kernel_rfl))⟩
  f10 := ⟨Try.f76.name, by decide, Try.func76.trans (congrArg some (by kernel_rfl))⟩
  t0 := Try.underlying0
  a0 := Try.isAgg0
  z0 := Try.sizeOf0
  v0 := Try.zeroValue0
  t4 := Try.underlying4
  a4 := Try.isAgg4
  z4 := Try.sizeOf4
  v4 := Try.zeroValue4
  t23 := Try.underlying56
  a23 := Try.isAgg56
  z23 := Try.sizeOf56
  v23 := Try.zeroValue56
  t26 := Try.underlying3
  a26 := Try.isAgg3
  z26 := Try.sizeOf3
  v26 := Try.zeroValue3
  t27 := Try.underlying48
  a27 := Try.isAgg48
  z27 := Try.sizeOf48
  v27 := Try.zeroValue48
  t28 := Try.underlying49
  a28 := Try.isAgg49
  z28 := Try.sizeOf49
  v28 := Try.zeroValue49
  t33 := Try.underlying45
  a33 := Try.isAgg45
  z33 := Try.sizeOf45
  v33 := Try.zeroValue45 }
def Try.sorted57_ren : Go.Shelf.Ren := ⟨fun | 6 => 57 | 8 => 50 | 9 => 75 | 11 => 73 | 13 => 84 | 12 => 83 | 23 => 96 | 24 => 97 | 14 => 87 | 15 => 88 | 16 => 89 | 17 => 90 | 18 => 91 | 19 => 92 | 20 => 93 | 21 => 94 | 22 => 95 | 25 => 98 | 26 => 99 | 27 => 100 | 28 => 101 | 29 => 102 | 30 => 103 | 31 => 104 | n => n, fun | 26 => 3 | 28 => 49 | 24 => 27 | 0 => 0 | 3 => 3 | 37 => 75 | 48 => 81 | 50 => 84 | 4 => 4 | 40 => 89 | 39 => 88 | 45 => 92 | 5 => 5 | 9 => 9 | 51 => 96 | 55 => 100 | 57 => 102 | 58 => 103 | 33 => 45 | n => n, fun | n => n⟩
theorem Try.sorted57 : Go.Proofs.SlLaysZI.n6 Try.prog Try.sorted57_ren := {
  mixed := by kernel_rfl
  f6 := ⟨Try.f57.name, by decide, Try.func57.trans (congrArg some (by kernel_rfl))⟩
  f8 := ⟨Try.f50.name, by decide, Try.func50.trans (congrArg some (by kernel_rfl))⟩
  f11 := ⟨Try.f73.name, by decide, Try.func73.trans (congrArg some (by kernel_rfl))⟩
  t0 := Try.underlying0
  a0 := Try.isAgg0
  z0 := Try.sizeOf0
  v0 := Try.zeroValue0
  t24 := Try.underlying27
  a24 := Try.isAgg27
  z24 := Try.sizeOf27
  v24 := Try.zeroValue27
  t26 := Try.underlying3
  a26 := Try.isAgg3
  z26 := Try.sizeOf3
  v26 := Try.zeroValue3
  t28 := Try.underlying49
  a28 := Try.isAgg49
  z28 := Try.sizeOf49
  v28 := Try.zeroValue49
  i26 := by kernel_rfl }
def Try.sort75_ren : Go.Shelf.Ren := ⟨fun | 5 => 75 | 8 => 84 | 7 => 83 | 19 => 96 | 20 => 97 | 10 => 87 | 11 => 88 | 12 => 89 | 13 => 90 | 14 => 91 | 15 => 92 | 16 => 93 | 17 => 94 | 18 => 95 | 30 => 98 | 31 => 99 | 32 => 100 | 33 => 101 | 34 => 102 | 35 => 103 | 40 => 104 | n => n, fun | 23 => 27 | 25 => 3 | 3 => 3 | 32 => 75 | 22 => 27 | 0 => 0 | 44 => 81 | 46 => 84 | 4 => 4 | 36 => 89 | 35 => 88 | 41 => 92 | 5 => 5 | 9 => 9 | 53 => 96 | 57 => 100 | 63 => 102 | 64 => 103 | n => n, fun | n => n⟩
theorem Try.sort75 : Go.Proofs.SlLaysM.n5 Try.prog Try.sort75_ren := {
  mixed := by kernel_rfl
  f5 := ⟨Try.f75.name, by decide, Try.func75.trans (congrArg some (by kernel_rfl))⟩
  f7 := ⟨Try.f83.name, by decide, Try.func83.trans (congrArg some (by kernel_rfl))⟩
  f8 := Try.func84.trans (congrArg some (by kernel_rfl))
  f10 := ⟨Try.f87.name, by decide, Try.func87.trans (congrArg some (by kernel_rfl))⟩
  f11 := ⟨Try.f88.name, by decide, Try.func88.trans (congrArg some (by kernel_rfl))⟩
  f12 := ⟨Try.f89.name, by decide, Try.func89.trans (congrArg some (by kernel_rfl))⟩
  f13 := ⟨Try.f90.name, by decide, Try.func90.trans (congrArg some (by kernel_rfl))⟩
  f14 := ⟨Try.f91.name, by decide, Try.func91.trans (congrArg some (by kernel_rfl))⟩
  f15 := ⟨Try.f92.name, by decide, Try.func92.trans (congrArg some (by kernel_rfl))⟩
  f16 := ⟨Try.f93.name, by decide, Try.func93.trans (congrArg some (by kernel_rfl))⟩
  f17 := ⟨Try.f94.name, by decide, Try.func94.trans (congrArg some (by kernel_rfl))⟩
  f18 := ⟨Try.f95.name, by decide, Try.func95.trans (congrArg some (by kernel_rfl))⟩
  f19 := Try.func96.trans (congrArg some (by kernel_rfl))
  f20 := Try.func97.trans (congrArg some (by kernel_rfl))
  f30 := ⟨Try.f98.name, by decide, Try.func98.trans (congrArg some (by kernel_rfl))⟩
  f31 := Try.func99.trans (congrArg some (by kernel_rfl))
  f32 := Try.func100.trans (congrArg some (by kernel_rfl))
  f33 := ⟨Try.f101.name, by decide, Try.func101.trans (congrArg some (by kernel_rfl))⟩
  f34 := ⟨Try.f102.name, by decide, Try.func102.trans (congrArg some (by kernel_rfl))⟩
  f35 := ⟨Try.f103.name, by decide, Try.func103.trans (congrArg some (by kernel_rfl))⟩
  f40 := ⟨Try.f104.name, by decide, Try.func104.trans (congrArg some (by kernel_rfl))⟩
  t0 := Try.underlying0
  a0 := Try.isAgg0
  z0 := Try.sizeOf0
  v0 := Try.zeroValue0
  t3 := Try.underlying3
  a3 := Try.isAgg3
  z3 := Try.sizeOf3
  v3 := Try.zeroValue3
  t4 := Try.underlying4
  a4 := Try.isAgg4
  z4 := Try.sizeOf4
  v4 := Try.zeroValue4
  t5 := Try.underlying5
  a5 := Try.isAgg5
  z5 := Try.sizeOf5
  v5 := Try.zeroValue5
  t9 := Try.underlying9
  a9 := Try.isAgg9
  z9 := Try.sizeOf9
  v9 := Try.zeroValue9
  t22 := Try.underlying27
  a22 := Try.isAgg27
  z22 := Try.sizeOf27
  v22 := Try.zeroValue27
  t23 := Try.underlying27
  a23 := Try.isAgg27
  z23 := Try.sizeOf27
  v23 := Try.zeroValue27
  t25 := Try.underlying3
  a25 := Try.isAgg3
  z25 := Try.sizeOf3
  v25 := Try.zeroValue3
  t32 := Try.underlying75
  a32 := Try.isAgg75
  z32 := Try.sizeOf75
  v32 := Try.zeroValue75
  t35 := Try.underlying88
  a35 := Try.isAgg88
  z35 := Try.sizeOf88
  v35 := Try.zeroValue88
  t36 := Try.underlying89
  a36 := Try.isAgg89
  z36 := Try.sizeOf89
  v36 := Try.zeroValue89
  t41 := Try.underlying92
  a41 := Try.isAgg92
  z41 := Try.sizeOf92
  v41 := Try.zeroValue92
  t44 := Try.underlying81
  a44 := Try.isAgg81
  z44 := Try.sizeOf81
  v44 := Try.zeroValue81
  t46 := Try.underlying84
  a46 := Try.isAgg84
  z46 := Try.sizeOf84
  v46 := Try.zeroValue84
  t53 := Try.underlying96
  a53 := Try.isAgg96
  z53 := Try.sizeOf96
  v53 := Try.zeroValue96
  t57 := Try.underlying100
  a57 := Try.isAgg100
  z57 := Try.sizeOf100
  v57 := Try.zeroValue100
  t63 := Try.underlying102
  a63 := Try.isAgg102
  z63 := Try.sizeOf102
  v63 := Try.zeroValue102
  t64 := Try.underlying103
  a64 := Try.isAgg103
  z64 := Try.sizeOf103
  v64 := Try.zeroValue103 }
end Go.Proofs


namespace Go.Proofs.Ytkmbhknmjnbanaa.A
open Go.RowKit Go.Maps Go.Proofs.YtkmbhknmjnbanaaW.PrintWords Go.Proofs.YtkmbhknmjnbanaaW.PrintLast Go.Shelf
set_option linter.unusedVariables false
set_option linter.unusedSimpArgs false

theorem law3 : Keyed Try.prog 3 := int_keyed Try.underlying3
theorem zero4 (w : World) : (zeroValue 4).run Try.prog w = .ok (.bool false) w := by kernel_rfl
def Wf (n : Int) : Prop := (Lit.int .i64 n).wf = true
theorem wf_small {n : Int} (h0 : 0 ≤ n) (h1 : n ≤ 1000000) : Wf n := by
  unfold Wf; simp [Lit.wf, IntKind.min, IntKind.max, IntKind.signed, IntKind.bits]; omega
theorem key3 {n : Int} (h : Wf n) : keyOf Try.prog 3 (.int .i64 n) = some (.int .i64 n) := keyOf_int_mk Try.underlying3 h
abbrev DU := DataW Unit
theorem isKey (k : Int) : WideAt.IsKeyLit (.int .i64 k) := by simp [WideAt.IsKeyLit]
def ins (s : Int → Bool) (k : Int) : Int → Bool := fun j => decide (j = k) || s j
def rem (s : Int → Bool) (k : Int) : Int → Bool := fun j => !decide (j = k) && s j

theorem plainElem_bool_inv {P : Program} {e : TypeId} (he : P.underlying e = some .bool) {v : Value} {z : DataW Unit × List MemPlace} (h : plainElem P e v = some z) : ∃ x, v = .bool x ∧ z = (.lit (.bool x), []) := by
  unfold plainElem at h
  rw [he] at h
  cases v <;> simp at h
  exact ⟨_, rfl, h.symm⟩
structure ReadsB (D : DU) (s : Int → Bool) : Prop where
  tidy : Tidy D
  has : ∀ k, Maps.has D (.int .i64 k) = s k
  at_ : ∀ k, D.atKey (.int .i64 k) (.lit (.bool false)) = .lit (.bool (s k))
theorem ReadsB.empty : ReadsB (.map []) (fun _ => false) := ⟨tidy_empty, fun k => rfl, fun k => rfl⟩
theorem ReadsB.put {D : DU} {s : Int → Bool} (h : ReadsB D s) (k : Int) : ReadsB (D.put (.int .i64 k) (.lit (.bool true))) (ins s k) := by
  refine ⟨h.tidy.put (isKey k) _, fun j => ?_, fun j => ?_⟩
  · by_cases hj : j = k
    · subst hj
      rw [has_put_same h.tidy.isMap (isKey j)]
      simp [ins]
    · rw [has_put_other (by simpa using hj), h.has j]
      simp [ins, hj]
  · by_cases hj : j = k
    · subst hj
      rw [atKey_put_same h.tidy.isMap (isKey j)]
      simp [ins]
    · rw [atKey_put_other (by simpa using hj), h.at_ j]
      simp [ins, hj]
theorem ReadsB.del {D : DU} {s : Int → Bool} (h : ReadsB D s) (k : Int) : ReadsB (D.del (.int .i64 k)) (rem s k) := by
  refine ⟨h.tidy.del _, fun j => ?_, fun j => ?_⟩
  · by_cases hj : j = k
    · subst hj
      rw [has_del_same]
      simp [rem]
    · rw [has_del_other (by simpa using hj), h.has j]
      simp [rem, hj]
  · by_cases hj : j = k
    · subst hj
      rw [atKey_del_same]
      simp [rem]
    · rw [atKey_del_other (by simpa using hj), h.at_ j]
      simp [rem, hj]

/-- block b is a set of at most n numbers that reads as s -/
def SetAt (w : World) (b n : Nat) (s : Int → Bool) : Prop := ∃ D : DU, w.ownsMap Try.prog 3 (plainElem Try.prog 4) b n D ∧ ReadsB D s
theorem SetAt.lt {w : World} {b n : Nat} {s : Int → Bool} (h : SetAt w b n s) : b < w.heap.size := by
  obtain ⟨D, h1, _⟩ := h; exact h1.lt
theorem SetAt.below {w w1 : World} {b n : Nat} {s : Int → Bool} (h : SetAt w b n s) (hb : Below w.heap.size w w1) : SetAt w1 b n s := by
  have hl := h.lt
  obtain ⟨D, ⟨es, clock, h1, h2⟩, h3⟩ := h
  exact ⟨D, ⟨es, clock, (hb.block _ hl).trans h1, h2⟩, h3⟩
theorem SetAt.grown {w w1 : World} {b n : Nat} {s : Int → Bool} (h : SetAt w b n s) {row : Option Nat} (hg : w.grownBy w1 row) (hne : some b ≠ row) : SetAt w1 b n s := by
  obtain ⟨D, h1, h3⟩ := h
  exact ⟨D, h1.kept hg hne, h3⟩
theorem SetAt.made (w : World) : SetAt (w.alloc (.map #[] 0)) w.heap.size 0 (fun _ => false) := ⟨.map [], World.ownsMap_made _ _ _ _, ReadsB.empty⟩
theorem SetAt.look {w : World} {b n : Nat} {s : Int → Bool} (h : SetAt w b n s) {k : Int} (hk : Wf k) : (Instr.lookup 69 (.map (some b)) (.int .i64 k) false).run Try.prog w = .ok (.bool (s k)) w := by
  obtain ⟨D, h1, h3⟩ := h
  obtain ⟨v, ps, hrun, hv⟩ := h1.lookup law3 Try.underlying69 (zero4 w) (plainElem_bool Try.underlying4 false) (key3 hk)
  obtain ⟨x, rfl, hz⟩ := plainElem_bool_inv (P := Try.prog) (e := 4) Try.underlying4 hv
  have hx : D.atKey (.int .i64 k) (.lit (.bool false)) = .lit (.bool x) := congrArg Prod.fst hz
  rw [h3.at_ k] at hx
  simp only [DataW.lit.injEq, Lit.bool.injEq] at hx
  rw [hrun, hx]
theorem SetAt.store {w : World} {b n : Nat} {s : Int → Bool} (h : SetAt w b n s) (hn : n < maxLen) {k : Int} (hk : Wf k) :
    ∃ w1, (Instr.mapUpdate 69 (.map (some b)) (.int .i64 k) (.bool true)).run Try.prog w = .ok () w1 ∧ SetAt w1 b (n + 1) (ins s k) ∧ w.grownBy w1 (some b) := by
  obtain ⟨D, h1, h3⟩ := h
  obtain ⟨w1, r1, r2, r3⟩ := h1.update law3 Try.underlying69 hn (key3 hk) (plainElem_bool Try.underlying4 true)
  exact ⟨w1, r1, ⟨_, r2, h3.put k⟩, r3⟩
theorem SetAt.drop {w : World} {b n : Nat} {s : Int → Bool} (h : SetAt w b n s) {k : Int} (hk : Wf k) (ty : TypeId) :
    ∃ w1, (Builtin.delete_ #[69, 3] ty #[.map (some b), .int .i64 k]).run Try.prog w = .ok (.tuple #[]) w1 ∧ SetAt w1 b n (rem s k) ∧ w.grownBy w1 (some b) := by
  obtain ⟨D, h1, h3⟩ := h
  obtain ⟨w1, r1, r2, r3⟩ := h1.drop law3 Try.underlying69 (key3 hk) ty
  exact ⟨w1, r1, ⟨_, r2, h3.del k⟩, r3.grown⟩
end Go.Proofs.Ytkmbhknmjnbanaa.A


namespace Go.Proofs.Ytkmbhknmjnbanaa.A
open Go.RowKit Go.Maps Go.Proofs.YtkmbhknmjnbanaaW.PrintWords Go.Proofs.YtkmbhknmjnbanaaW.PrintLast Go.Shelf
set_option linter.unusedVariables false
set_option linter.unusedSimpArgs false

theorem perm_of_sub {α : Type} [DecidableEq α] : ∀ {l m : List α}, l.Nodup → l ⊆ m → m.length ≤ l.length → m.Perm l
  | [], m, _, _, h => by
    have : m = [] := List.eq_nil_of_length_eq_zero (by simpa using h)
    subst this; exact List.Perm.refl _
  | a :: l, m, hn, hs, h => by
    have ha : a ∈ m := hs (by simp)
    have hn' := List.nodup_cons.1 hn
    have h1 := List.perm_cons_erase ha
    have h2 : l ⊆ m.erase a := fun x hx => by
      have hxa : x ≠ a := fun e => hn'.1 (e ▸ hx)
      rw [List.mem_erase_of_ne hxa]; exact hs (by simp [hx])
    have h3 : (m.erase a).length ≤ l.length := by rw [List.length_erase_of_mem ha]; simp at h; omega
    exact h1.trans ((perm_of_sub hn'.2 h2 h3).cons a)

def Rising (ks : List Int) : Prop := ks.Pairwise (· < ·)
theorem rising_eq {a b : List Int} (ha : Rising a) (hb : Rising b) (h : ∀ k, k ∈ a ↔ k ∈ b) : a = b := by
  have hna : a.Nodup := ha.imp (fun h e => by omega)
  have hnb : b.Nodup := hb.imp (fun h e => by omega)
  have hp : a.Perm b := by
    refine perm_of_sub hnb (fun x hx => (h x).2 hx) ?_ |>.trans (List.Perm.refl _)
    exact List.Nodup.length_le_of_subset hna (fun x hx => (h x).1 hx)
  exact List.Perm.eq_of_pairwise (le := (· < ·)) (fun x y _ _ h1 h2 => by omega) ha hb hp
theorem merge_rising {ss : List Int} (h : ss.Nodup) : Rising (ss.mergeSort fun x y => decide (x ≤ y)) := by
  have h1 : (ss.mergeSort fun x y => decide (x ≤ y)).Pairwise (fun x y => decide (x ≤ y) = true) := List.pairwise_mergeSort (by intro a b c; simp; omega) (by intro a b; simp; omega) ss
  have h2 : (ss.mergeSort fun x y => decide (x ≤ y)).Nodup := (List.mergeSort_perm ss _).nodup_iff.2 h
  exact (h1.and h2).imp (fun {a b} ⟨h3, h4⟩ => by have := of_decide_eq_true h3; omega)
theorem intKeys_nodup {D : DU} {s : Int → Bool} (hR : ∀ k, Maps.has D (.int .i64 k) = s k) {R : Value → Option (DU × List MemPlace)} {w : World} {b n : Nat} (hown : w.ownsMap Try.prog 3 R b n D) : (intKeys D).Nodup ∧ ∀ k, k ∈ intKeys D ↔ s k = true := by
  obtain ⟨es, hD, hpw, _⟩ := hown.entries law3
  obtain ⟨es', hD', hko⟩ := hown.keysOf
  obtain rfl : es = es' := by rw [hD] at hD'; simpa using hD'
  subst hD
  have hk : ∀ p ∈ es, ∃ x, p.1 = Lit.int .i64 x := fun p hp => by
    obtain ⟨v, hv⟩ := hko p hp
    obtain ⟨x, _, hx, _⟩ := Maps.keyOf_i64 Try.underlying3 hv
    exact ⟨x, hx⟩
  refine ⟨?_, fun k => ?_⟩
  · show (es.map fun p => Go.intOf p.1).Nodup
    refine List.pairwise_map.2 (hpw.imp_of_mem fun {p q} hp' hq' hne e => hne ?_)
    obtain ⟨a, ha⟩ := hk p hp'
    obtain ⟨b, hb⟩ := hk q hq'
    rw [ha, hb] at e ⊢
    exact congrArg _ e
  · rw [← hR k, has_eq, List.any_eq_true]
    show k ∈ (es.map fun p => Go.intOf p.1) ↔ _
    rw [List.mem_map]
    constructor
    · rintro ⟨p, hp', rfl⟩
      obtain ⟨a, ha⟩ := hk p hp'
      exact ⟨p, hp', by rw [ha]; simp [Lit.sameKey, Go.intOf]⟩
    · rintro ⟨p, hp', hs⟩
      obtain ⟨a, ha⟩ := hk p hp'
      rw [ha] at hs
      exact ⟨p, hp', by rw [ha]; simpa [Lit.sameKey, Go.intOf] using hs⟩

theorem sorts57 (m : Nat) : AnyZI.SortsIn Try.prog Try.sorted57_ren Fence.wide m :=
  ⟨fun blk off cap ss W hH hblk hsz => callsIn_wide.2 (AnyM.slices_Sort_int Try.sort75 blk off cap ss W hH hblk hsz),
   fun p cap W => callsIn_wide.2 (AnyM.slices_Sort_int_none Try.sort75 p cap W)⟩

theorem keys68_calls (mb : Option Nat) (W : World) : Calls Try.prog 68 #[.map mb] W fun e w' => e = .returned (.func (.func 82) #[] #[.pointer (some ⟨W.heap.size, 0, none⟩)]) ∧ w' = W.alloc (.cells #[.map mb] 69) :=
  (callsIn_wide (n := 5)).1 (AnyZI.keys_in Try.keys68 Fence.wide 5 trivial rfl mb W)
theorem sorted68_calls (b n : Nat) (s : Int → Bool) (w : World) {R : Value → Option (DU × List MemPlace)} {D : DU} (hown : w.ownsMap Try.prog 3 R b n D) (hR : ∀ k, Maps.has D (.int .i64 k) = s k) (hn : n ≤ 1000000) :
    Calls Try.prog 57 #[.func (.func 82) #[] #[.pointer (some ⟨w.heap.size, 0, none⟩)]] (w.alloc (.cells #[.map (some b)] 69)) fun e w' => ∃ (v : Value) (ks : List Int), e = .returned v ∧ Rising ks ∧ (∀ k, k ∈ ks ↔ s k = true) ∧ ks.length ≤ n ∧
      Kd.R (Kd.int .i64) 3 w' w.heap.size (fun _ => True) v ks ∧ Below w.heap.size w w' := by
  have hbl := hown.lt
  have hsz := hown.size_le
  obtain ⟨hnd, hmem⟩ := intKeys_nodup hR hown
  have hseq : SeqGives Fence.wide 2 Try.prog 82 #[.pointer (some ⟨w.heap.size, 0, none⟩)] Go.encZ (fun ss => ss.Perm (intKeys D)) (Maps.size D) (w.alloc (.cells #[.map (some b)] 69)) :=
    AnyZI.keys_gives (ρ := Try.keys68_ren) { Try.keys68 with } Fence.wide _ trivial rfl (by omega) w.heap.size b n D _ (by simp) (by simp) (by
      obtain ⟨es, clock, hb, Ft, hs, hD⟩ := hown
      exact ⟨es, clock, (Below.heap_alloc _ _ b hbl).trans hb, Ft, hs, hD⟩)
  have cS := AnyZI.sorted_in Try.sorted57 Fence.wide 5 trivial trivial trivial trivial rfl (by omega) (sorts57 _) (enters_of Try.func75 (by kernel_rfl) rfl) 82 #[.pointer (some ⟨w.heap.size, 0, none⟩)] trivial (enters_of Try.func82 (by kernel_rfl) rfl) _ _ (by unfold maxLen; omega) (by omega) _ hseq
  refine ((callsIn_wide (n := 5)).1 cS).mono ?_
  rintro e w' ⟨v, ss, rfl, hS, hrow, hnil, hb⟩
  have hlen : ss.length = (ss.mergeSort fun x y => decide (x ≤ y)).length := by simp
  refine ⟨v, _, rfl, merge_rising (hS.nodup_iff.2 hnd), fun k => ?_, ?_, ?_, ((Below.refl _ w).alloc (Nat.le_refl _) _).trans (hb.mono (by simp))⟩
  · rw [List.mem_mergeSort, hS.mem_iff, hmem]
  · rw [← hlen, hS.length_eq]
    have : (intKeys D).length = size D := by
      obtain ⟨es, rfl, _⟩ := hown.keysOf
      simp [intKeys, size]
    omega
  · refine Kd.R_of_own ?_ (fun _ _ => trivial)
    rw [← hlen]
    exact ownsRow_base_a hrow (by simp)

theorem keys58_calls (mb : Option Nat) (W : World) : Calls Try.prog 58 #[.map mb] W fun e w' => e = .returned (.func (.func 76) #[] #[.pointer (some ⟨W.heap.size, 0, none⟩)]) ∧ w' = W.alloc (.cells #[.map mb] 56) :=
  (callsIn_wide (n := 5)).1 (AnyZI.keys_in Try.keys58 Fence.wide 5 trivial rfl mb W)
theorem sorted58_calls (b n : Nat) (s : Int → Bool) (w : World) {R : Value → Option (DU × List MemPlace)} {D : DU} (hown : w.ownsMap Try.prog 3 R b n D) (hR : ∀ k, Maps.has D (.int .i64 k) = s k) (hn : n ≤ 1000000) :
    Calls Try.prog 57 #[.func (.func 76) #[] #[.pointer (some ⟨w.heap.size, 0, none⟩)]] (w.alloc (.cells #[.map (some b)] 56)) fun e w' => ∃ (v : Value) (ks : List Int), e = .returned v ∧ Rising ks ∧ (∀ k, k ∈ ks ↔ s k = true) ∧ ks.length ≤ n ∧
      Kd.R (Kd.int .i64) 3 w' w.heap.size (fun _ => True) v ks ∧ Below w.heap.size w w' := by
  have hbl := hown.lt
  have hsz := hown.size_le
  obtain ⟨hnd, hmem⟩ := intKeys_nodup hR hown
  have hseq : SeqGives Fence.wide 2 Try.prog 76 #[.pointer (some ⟨w.heap.size, 0, none⟩)] Go.encZ (fun ss => ss.Perm (intKeys D)) (Maps.size D) (w.alloc (.cells #[.map (some b)] 56)) :=
    AnyZI.keys_gives (ρ := Try.keys58_ren) { Try.keys58 with } Fence.wide _ trivial rfl (by omega) w.heap.size b n D _ (by simp) (by simp) (by
      obtain ⟨es, clock, hb, Ft, hs, hD⟩ := hown
      exact ⟨es, clock, (Below.heap_alloc _ _ b hbl).trans hb, Ft, hs, hD⟩)
  have cS := AnyZI.sorted_in Try.sorted57 Fence.wide 5 trivial trivial trivial trivial rfl (by omega) (sorts57 _) (enters_of Try.func75 (by kernel_rfl) rfl) 76 #[.pointer (some ⟨w.heap.size, 0, none⟩)] trivial (enters_of Try.func76 (by kernel_rfl) rfl) _ _ (by unfold maxLen; omega) (by omega) _ hseq
  refine ((callsIn_wide (n := 5)).1 cS).mono ?_
  rintro e w' ⟨v, ss, rfl, hS, hrow, hnil, hb⟩
  have hlen : ss.length = (ss.mergeSort fun x y => decide (x ≤ y)).length := by simp
  refine ⟨v, _, rfl, merge_rising (hS.nodup_iff.2 hnd), fun k => ?_, ?_, ?_, ((Below.refl _ w).alloc (Nat.le_refl _) _).trans (hb.mono (by simp))⟩
  · rw [List.mem_mergeSort, hS.mem_iff, hmem]
  · rw [← hlen, hS.length_eq]
    have : (intKeys D).length = size D := by
      obtain ⟨es, rfl, _⟩ := hown.keysOf
      simp [intKeys, size]
    omega
  · refine Kd.R_of_own ?_ (fun _ _ => trivial)
    rw [← hlen]
    exact ownsRow_base_a hrow (by simp)
end Go.Proofs.Ytkmbhknmjnbanaa.A


namespace Go.Proofs.Ytkmbhknmjnbanaa.A
open Go.RowKit Go.Maps Go.Proofs.YtkmbhknmjnbanaaW.PrintWords Go.Proofs.YtkmbhknmjnbanaaW.PrintLast Go.Shelf
set_option linter.unusedVariables false
set_option linter.unusedSimpArgs false

/-- numbers that one can read there -/
def IntsAt (w : World) (A : Option Addr) (ws : List Int) : Prop := ∀ j (h : j < ws.length), ∃ ad, A = some ad ∧ w.cell? (ad.add j) = some (.int .i64 ws[j])
theorem IntsAt.of_C {w : World} {A : Option Addr} {ws : List Int} (h : Kd.C (Kd.int .i64) w A ws.length ws) : IntsAt w A ws := by
  intro j hj
  obtain ⟨ad, e, hc⟩ := Kd.at_int h (j : Int) (by omega) (by omega)
  rw [Int.toNat_natCast, rdI hj] at hc
  exact ⟨ad, e, hc⟩
theorem IntsAt.cells {w : World} {ad : Addr} {ws : List Int} (h : IntsAt w (some ad) ws) : ∀ j u, (ws.map (Value.int .i64))[j]? = some u → w.cell? (ad.add j) = some u := by
  intro j u hu
  obtain ⟨hj, rfl⟩ := List.getElem?_eq_some_iff.1 hu
  rw [List.length_map] at hj
  obtain ⟨ad', e, hc⟩ := h j hj
  cases e
  rw [hc, List.getElem_map]
theorem app_ex (W : World) (ad : Addr) (ws row : List Int) (A : Option Addr) (c : Nat) (hI : IntsAt W (some ad) ws) (hrow : IntsAt W A row) (hc : row.length ≤ c) (hb : ws.length + row.length ≤ 1000000) :
    ∃ v' W', (Builtin.append_ #[27, 27] 27 #[.slice (some ad) ws.length ws.length, .slice A row.length c]).run Try.prog W = .ok v' W' ∧ (∃ A' c', v' = .slice A' (ws ++ row).length c' ∧ (ws ++ row).length ≤ c' ∧ IntsAt W' A' (ws ++ row)) ∧ W.grownBy W' none := by
  obtain ⟨i0, hi, hz0, hz1, hz2⟩ := info_parts info3
  cases row with
  | nil =>
    refine ⟨_, W, run_append_nothing W 27 27 27 3 i0 Try.underlying27 hi (some ad) ws.length ws.length (Nat.le_refl _) _ ?_, ⟨some ad, ws.length, by simp, by simp, by simpa using hI⟩, ⟨rfl, rfl, rfl, Nat.le_refl _, fun _ _ _ => rfl⟩⟩
    cases A with
    | none => exact Src.ofNil W Try.underlying27 c
    | some a => exact Src.ofSlice W Try.underlying27 a 0 c [] (by simp) (by simp) (by simp)
  | cons x row =>
    obtain ⟨ar, rfl, _⟩ := hrow 0 (by simp)
    obtain ⟨v', W', h1, h2, h3⟩ := run_append_arg_grows (P := Try.prog) W 27 27 3 i0 _ 1 8 Try.underlying27 hi hz0 hz1 hz2 rfl (by decide) ad ws.length ws.length (ws.map (Value.int .i64)) (by simp) hI.cells ar (x :: row).length c ((x :: row).map (Value.int .i64)) (by simp) hrow.cells (by simp) (by unfold maxLen; omega) (by omega)
    refine ⟨v', W', h1, ?_, h3⟩
    rw [← List.map_append] at h2
    have hR : Kd.R (Kd.int .i64) 3 W' W.heap.size (fun _ => True) v' (ws ++ x :: row) := Kd.R_of_own (by rw [List.length_append]; exact h2) (fun _ _ => trivial)
    obtain ⟨A', c', rfl⟩ := Kd.R_slice hR
    have := Kd.R_reads' hR
    exact ⟨A', c', rfl, this.2.1, IntsAt.of_C this.2.2⟩
theorem step_append_run {P : Program} {ops : Array Oper} {o : Oper} {a : Act} {w : World} {K : Act → World → Prop} {Q : Exit → Act → World → Prop} {E : Prop}
    (hg : o.guard = none) (s x : Operand) (t : TypeId) (hop : o.op = Op.call { callee := Callee.builtin Builtin.append, args := #[s, x], argTypes := #[t, t] })
    (sv xv v' : Value) (w' : World) (hs : a.eval s = sv) (hx : a.eval x = xv) (hrun : (Builtin.append_ #[t, t] o.type #[sv, xv]).run P w = .ok v' w') (hK : K (a.put o.dst v') w') :
    if Region.wanted o (yielded ops a.tmps) = true then Oper.wp P o a w K Q else E := by
  have hw : Region.wanted o (yielded ops a.tmps) = true := by simp [Region.wanted, hg]
  rw [if_pos hw]
  unfold Oper.wp
  simp [execOp, hop, resolve, invoke, builtin, hs, hx, hrun, Result.andThen]
  exact hK
end Go.Proofs.Ytkmbhknmjnbanaa.A


namespace Go.Proofs.Ytkmbhknmjnbanaa.A
open Go.RowKit Go.Maps Go.Proofs.YtkmbhknmjnbanaaW.PrintWords Go.Proofs.YtkmbhknmjnbanaaW.PrintLast Go.Shelf
set_option linter.unusedVariables false
set_option linter.unusedSimpArgs false

/-- going back from what waits, as long as there is something -/
def bodyW (P : List (List Int)) (re : List Bool) : Nat → (Int → Bool) → List Int → (Int → Bool)
  | 0, S, _ => S
  | n + 1, S, [] => S
  | n + 1, S, a :: ws => if S a = true ∨ re.getD a.toNat false = false then bodyW P re n S ws else bodyW P re n (ins S a) (ws ++ rowOf P a.toNat)
/-- how many rounds that takes at most -/
def budget (P : List (List Int)) (S : Int → Bool) (ws : List Int) : Nat := ws.length + ((List.range P.length).map fun k : Nat => if S (k : Int) = true then 0 else (rowOf P k).length).sum

theorem IntsAt.below {w w' : World} {A : Option Addr} {ws : List Int} (h : IntsAt w A ws) (hb : Below w.heap.size w w') : IntsAt w' A ws := by
  intro j hj
  obtain ⟨ad, e, hc⟩ := h j hj
  exact ⟨ad, e, (hb.cell (World.block_lt_of_cell? _ _ hc)).trans hc⟩
theorem IntsAt.grown {w w' : World} {A : Option Addr} {ws : List Int} (h : IntsAt w A ws) {b : Nat} (hg : w.grownBy w' (some b)) (hm : ∀ c t f, w.heap[b]? ≠ some (.cells c t f)) : IntsAt w' A ws := by
  intro j hj
  obtain ⟨ad, e, hc⟩ := h j hj
  refine ⟨ad, e, ?_⟩
  have hl := World.block_lt_of_cell? _ _ hc
  have hne : (ad.add j).block ≠ b := by
    intro e
    unfold World.cell? at hc
    rw [e] at hc
    split at hc
    · rename_i h; exact hm _ _ _ h
    all_goals first | cases hc | skip
  have hb := hg.block _ hl (fun e => hne (by injection e))
  unfold World.cell? at hc ⊢
  rw [hb]; exact hc
theorem R_new_lit {α : Type} (d : Kd α) (W : World) (base e : Nat) {xs : List α} {inner : List Value} {ok okp : Nat → Prop}
    (hrep : Reps (d.M W base okp) d.sz xs inner) (hok : ∀ k, okp k → ok k) (hfresh : ok W.heap.size) (hbase : base ≤ W.heap.size) (hm : xs.length ≤ 9223372036854775807) :
    d.R e (W.alloc (.cells inner.toArray e)) base ok (.slice (some ⟨W.heap.size, 0, none⟩) xs.length xs.length) xs := by
  refine ⟨fun k hk => ?_, inner, ?_, ?_⟩
  · have : W.heap.size = k := by simpa [Value.ownBlock] using hk
    subst this
    exact hfresh
  · have h2 := World.ownsRow_lit (base := base) (e := e) (size := d.sz) W inner.toArray xs.length hbase (by simpa [maxLen] using hm) (by simpa using hrep.1)
    simpa using h2
  · refine hrep.imp_ (fun p c hp => d.M_mono (fun k hk => ⟨hok k hk.1, fun he => ?_⟩) (Kd.M_below (d.M_bound hp) (below_alloc (Below.refl _ _) _)))
    have : W.heap.size = k := by simpa [Value.ownBlock] using he.symm
    have := hk.2.2.1
    omega

theorem reps_one {W : World} {base : Nat} {ok : Nat → Prop} (x : Int) : Reps ((Kd.int .i64).M W base ok) (Kd.int .i64).sz [x] [.int .i64 x] := by
  refine ⟨rfl, fun j p hj => ?_⟩
  cases j with
  | zero => simp at hj; subst hj; rfl
  | succ j => simp at hj

theorem sum_ins (P : List (List Int)) (S : Int → Bool) (a : Nat) (hS : S (a : Int) = false) : ∀ m, (((List.range m).map fun k : Nat => if ins S (a : Int) (k : Int) = true then 0 else (rowOf P k).length).sum) + (if a < m then (rowOf P a).length else 0) = ((List.range m).map fun k : Nat => if S (k : Int) = true then 0 else (rowOf P k).length).sum
  | 0 => by simp
  | m + 1 => by
    have ih := sum_ins P S a hS m
    rw [List.range_succ, List.map_append, List.map_append, List.sum_append, List.sum_append]
    simp only [List.map_cons, List.map_nil, List.sum_cons, List.sum_nil, Nat.add_zero]
    by_cases e : m = a
    · subst e
      rw [if_neg (Nat.lt_irrefl _)] at ih
      rw [if_pos (Nat.lt_succ_self _), hS]
      have : ins S (m : Int) (m : Int) = true := by simp [ins]
      rw [this]
      simp only [if_true, Bool.false_eq_true, if_false]
      omega
    · have : ins S (a : Int) (m : Int) = S (m : Int) := by
        unfold ins
        have : ¬ (m : Int) = (a : Int) := by omega
        simp [this]
      rw [this]
      generalize (if S (m : Int) = true then 0 else (rowOf P m).length) = z
      by_cases h : a < m
      · rw [if_pos h] at ih
        rw [if_pos (by omega)]
        omega
      · rw [if_neg h] at ih
        rw [if_neg (by omega)]
        omega
theorem sum_le (P : List (List Int)) (S : Int → Bool) : ∀ m, m ≤ P.length → (((List.range m).map fun k : Nat => if S (k : Int) = true then 0 else (rowOf P k).length).sum) ≤ tot (P.take m)
  | 0, _ => by simp [tot]
  | m + 1, h => by
    have ih := sum_le P S m (by omega)
    rw [List.range_succ, List.map_append, List.sum_append, List.take_succ_eq_append_getElem (show m < P.length by omega), tot_append]
    have : (rowOf P m).length = P[m].length := by unfold rowOf; rw [List.getD_eq_getElem?_getD, List.getElem?_eq_getElem (show m < P.length by omega)]; rfl
    simp only [List.map_cons, List.map_nil, List.sum_cons, List.sum_nil, Nat.add_zero, tot] at *
    split <;> omega
theorem budget_le (P : List (List Int)) (S : Int → Bool) (ws : List Int) : budget P S ws ≤ ws.length + tot P := by
  have := sum_le P S P.length (Nat.le_refl _)
  rw [List.take_length] at this
  unfold budget; omega
theorem budget_ins {P : List (List Int)} {S : Int → Bool} {a : Nat} (ha : a < P.length) (hS : S (a : Int) = false) (ws : List Int) : budget P (ins S (a : Int)) (ws ++ rowOf P a) = budget P S ws := by
  have := sum_ins P S a hS P.length
  rw [if_pos ha] at this
  unfold budget
  rw [List.length_append]
  omega
theorem budget_cons (P : List (List Int)) (S : Int → Bool) (x : Int) (ws : List Int) : budget P S (x :: ws) = budget P S ws + 1 := by unfold budget; rw [List.length_cons]; omega
theorem bodyW_nil (P : List (List Int)) (re : List Bool) (n : Nat) (S : Int → Bool) : bodyW P re n S [] = S := by cases n <;> rfl
/-- a loop's row: its head, then the others, rising -/
def others (n : Nat) (R : Int → Bool) (head : Nat) : List Int := ((List.range n).filter fun k : Nat => R (k : Int) && !decide (k = head)).map fun k : Nat => (k : Int)
def bodyRes (P : List (List Int)) (re : List Bool) (head : Nat) (fr : List Int) : List Int :=
  (head : Int) :: others P.length (bodyW P re (budget P (ins (fun _ => false) head) fr) (ins (fun _ => false) head) fr) head

set_option maxRecDepth 100000 in
set_option maxHeartbeats 4000000 in
theorem body_calls (A0 A1 A3 : Option Addr) (c0 c1 c3 : Nat) (P : List (List Int)) (re : List Bool) (head : Nat) (fr : List Int) (w : World)
    (h0 : Kd.C (Kd.slice 3 (Kd.int .i64)) w A0 P.length P) (h1 : Kd.C Kd.bool w A1 P.length re) (h3 : Kd.C (Kd.int .i64) w A3 fr.length fr) (hc3 : fr.length ≤ c3)
    (hn : P.length ≤ 4096) (hP : ∀ l ∈ P, ∀ x ∈ l, 0 ≤ x ∧ x < (P.length : Int)) (hf : ∀ x ∈ fr, 0 ≤ x ∧ x < (P.length : Int)) (hh : head < P.length) (ht : tot P ≤ 100000) (hfl : fr.length ≤ 100000) :
    Calls Try.prog 59 #[.slice A0 P.length c0, .slice A1 P.length c1, .int .i64 head, .slice A3 fr.length c3] w fun e w' => ∃ v, e = .returned v ∧
      Kd.R (Kd.int .i64) 3 w' w.heap.size (fun _ => True) v (bodyRes P re head fr) ∧ Below w.heap.size w w' := by
  unfold bodyRes
  have hbud : budget P (ins (fun _ => false) head) fr ≤ 200000 := by have := budget_le P (ins (fun _ => false) head) fr; omega
  generalize hR : bodyW P re (budget P (ins (fun _ => false) head) fr) (ins (fun _ => false) head) fr = R
  have hR' := Aside0.mk hR
  clear hR
  have hmm := @run_makeMap Try.prog
  have hwf : ∀ x : Int, 0 ≤ x → x < (P.length : Int) → Wf x := fun x a b => wf_small a (by omega)
  obtain ⟨w1, i1, i2, i3⟩ := (SetAt.made w).store (by unfold maxLen; omega) (hwf head (by omega) (by omega))
  go_enter Try.func59, Try.ntmps59
  go_wp2_with fail
  go_loopg [10, 11] (budget P (ins (fun _ => false) head) fr) (fun gk s10 _ wr => ∃ (S : Int → Bool) (ws : List Int) (A : Option Addr) (c n : Nat), s10 = .slice A ws.length c ∧ ws.length ≤ c ∧ budget P S ws ≤ gk ∧ n + gk ≤ 300000 ∧ Aside0 (IntsAt wr A ws) ∧ Aside0 (SetAt wr w.heap.size n S) ∧ Aside0 (bodyW P re gk S ws = R) ∧ Aside0 (∀ x ∈ ws, 0 ≤ x ∧ x < (P.length : Int)) ∧ Aside0 (Below w.heap.size w wr) ∧ Aside0 (∀ k, S k = true → 0 ≤ k ∧ k < (P.length : Int)))
  case atStart =>
    have hB1 : Below w.heap.size w w1 := (below_alloc (Below.refl _ _) (.map #[] 0)).grown i3 (by simp) (fun j e => by cases e; exact Nat.le_refl _)
    exact ⟨_, fr, A3, c3, 1, rfl, hc3, Nat.le_refl _, by omega, ⟨IntsAt.of_C (Kd.C_below h3 hB1)⟩, ⟨i2⟩, hR', ⟨hf⟩, ⟨hB1⟩, ⟨fun k hk => by simp [ins] at hk; omega⟩⟩
  case round =>
    obtain ⟨S, ws, A, c, n, rfl, hwc, hbg, hng, hI, hS, hb, hx, hB, hin⟩ := hrel
    cases ws with
    | nil =>
      have hbe := hb.out
      rw [bodyW_nil] at hbe
      subst hbe
      obtain ⟨wd, d1, d2, d3⟩ := hS.out.drop (hwf head (by omega) (by omega)) 0
      have hBd : Below w.heap.size w wd := hB.out.grown d3 hB.out.size (fun j e => by cases e; exact Nat.le_refl _)
      obtain ⟨D, hown, hRb⟩ := d2
      have hwd : w.heap.size ≤ wd.heap.size := hBd.size
      have hown2 := hown.alloc (.cells #[.int .i64 (head : Int)] 3)
      have hHO : Kd.R (Kd.int .i64) 3 (wd.alloc (.cells #[.int .i64 (head : Int)] 3)) w.heap.size (fun _ => True) (.slice (some ⟨wd.heap.size, 0, none⟩) 1 1) [(head : Int)] :=
        R_new_lit (Kd.int .i64) wd w.heap.size 3 (xs := [(head : Int)]) (inner := [.int .i64 (head : Int)]) (ok := fun _ => True) (okp := fun _ => True) (reps_one (head : Int)) (fun _ h => h) trivial hwd (by simp)
      have hBd2 := below_alloc hBd (.cells #[.int .i64 (head : Int)] 3)
      have hsz : (wd.alloc (.cells #[.int .i64 (head : Int)] 3)).heap.size = wd.heap.size + 1 := by simp
      have hso := sorted68_calls w.heap.size n _ (wd.alloc (.cells #[.int .i64 (head : Int)] 3)) hown2 hRb.has (by omega)
      have hhas := Aside0.mk (show ∀ k, rem S (head : Int) k = (S k && !decide (k = (head : Int))) from fun k => Bool.and_comm _ _)
      clear hS hB hI hb hx hown hown2 hRb d3 hBd
      rw [hsz] at hso
      have hHO' := Aside0.mk hHO
      have hBd2' := Aside0.mk hBd2
      clear hHO hBd2
      go_wp2_with fail
      refine (keys68_calls _ _).mono ?_
      rintro e w' ⟨rfl, rfl⟩
      rw [hsz]
      go_wp2_with fail
      refine hso.mono ?_
      rintro e w5 ⟨v, ks, rfl, k1, k2, k3, k4, k5⟩
      obtain ⟨A5, c5, rfl⟩ := Kd.R_slice k4
      have HO := Aside0.mk (Kd.R_below hHO'.out (by rw [hsz]; exact k5))
      have HR := Aside0.mk (Kd.R_reads' k4).2.2
      have hBa := Aside0.mk (hBd2'.out.trans (k5.mono (by omega)))
      have k1' := Aside0.mk k1
      have k2' := Aside0.mk k2
      clear hso hHO' hBd2' k1 k2 k4 k5
      go_wp2_with (at_builtin; refine Kd.R_append_row (Value.int .i64) (0 : Int) (w0 := w) w.heap.size rfl (.tmp 50) (.tmp 53) 27 3 (.int .i64 0) 8 rfl Try.underlying27 info3 rfl (by decide) _ [(head : Int)] ks A5 ks.length c5 (fun _ => True) rfl rfl (fun _ _ => trivial) HO.out HR.out hBa.out hBa.out.size (by simp; omega) ?_; intro v1 w6 hown1 hb1 hg1 hat1)
      go_ret
      refine ⟨_, rfl, ?_, hb1⟩
      have : others P.length S head = ks := by
        refine rising_eq ?_ k1'.out fun k => ?_
        · unfold Rising others
          rw [List.pairwise_map]
          exact (List.pairwise_lt_range.filter _).imp (fun h => by omega)
        · rw [k2'.out, hhas.out]
          unfold others
          simp only [List.mem_map, List.mem_filter, List.mem_range, Bool.and_eq_true, Bool.not_eq_true', decide_eq_false_iff_not]
          constructor
          · rintro ⟨m, ⟨h1, h2, h3⟩, rfl⟩
            exact ⟨h2, by omega⟩
          · rintro ⟨h1, h2⟩
            have := hin.out k h1
            obtain ⟨m, rfl⟩ := Int.eq_ofNat_of_zero_le this.1
            exact ⟨m, ⟨by omega, h1, by omega⟩, rfl⟩
      rw [this]
      exact hown1
    | cons x ws =>
      obtain ⟨hx0, hx1⟩ := hx.out x (by simp)
      have hxt := Aside0.mk (fun y hy => hx.out y (List.mem_cons_of_mem _ hy))
      obtain ⟨a, rfl⟩ := Int.eq_ofNat_of_zero_le hx0
      obtain ⟨ad, rfl, q0⟩ := hI.out 0 (by simp)
      rw [Addr.add_zero', List.getElem_cons_zero] at q0
      rw [budget_cons] at hbg
      obtain ⟨gk, rfl⟩ : ∃ g', gk = g' + 1 := ⟨gk - 1, by omega⟩
      have hlk := hS.out.look (hwf (a : Int) hx0 hx1)
      rw [List.length_cons] at hwc ⊢
      have hl0 : ((ws.length + 1 : Nat) : Int) > 0 := by omega
      have hwl : ws.length ≤ 300000 := by unfold budget at hbg; omega
      obtain ⟨ar, eR, r0⟩ := Kd.at_bool (Kd.C_below h1 hB.out) (a : Int) hx0 hx1
      subst eR
      rw [Int.toNat_natCast] at r0
      have hb' := hb.out
      unfold bodyW at hb'
      rw [Int.toNat_natCast] at hb'
      have hrd : rdOf false re (a : Int) = re.getD a false := by unfold rdOf; rw [Int.toNat_natCast]
      rw [hrd] at r0
      have hI2 : IntsAt wr (some ⟨ad.block, ad.off + 1, none⟩) ws := by
        intro j hj
        obtain ⟨ad', e, hc⟩ := hI.out (j + 1) (by simp; omega)
        cases e
        refine ⟨_, rfl, ?_⟩
        rw [List.getElem_cons_succ, Addr.add_succ'] at hc
        rw [Addr.add_lit, ← hc]
        congr 2
        omega
      have hI0 : c = 1 → ∀ A, IntsAt wr A ws := fun e A j hj => absurd hj (by omega)
      have hI2' := Aside0.mk hI2
      have hI0' := Aside0.mk hI0
      clear hI hI2 hI0 hrd
      by_cases hskip : S (a : Int) = true ∨ re.getD a false = false
      · have hb2 := hb'
        rw [if_pos hskip] at hb2
        have hbn := Aside0.mk hb2
        clear hb hb' hb2
        cases hSa : S (a : Int) with
        | true =>
          rw [hSa] at hlk
          clear hskip
          by_cases hc1 : c = 1
          · subst hc1
            obtain rfl : ws = [] := List.eq_nil_of_length_eq_zero (by omega)
            go_wp2_with fail
            go_roundg gk
            case measure => omega
            case rel => exact ⟨S, [], some ad, 0, n, rfl, Nat.le_refl _, by omega, by omega, ⟨fun j hj => absurd hj (Nat.not_lt_zero _)⟩, hS, hbn, ⟨fun y hy => absurd hy (List.not_mem_nil)⟩, hB, hin⟩
          · have hc2 : ¬ (c : Int) = 1 := by omega
            go_wp2_with fail
            go_roundg gk
            case measure => omega
            case rel => exact ⟨S, ws, _, _, n, rfl, by omega, by omega, by omega, hI2', hS, hbn, hxt, hB, hin⟩
        | false =>
          rw [hSa] at hlk
          have hre0 : re.getD a false = false := by rcases hskip with h | h; rw [hSa] at h; cases h; exact h
          rw [hre0] at r0
          clear hskip
          by_cases hc1 : c = 1
          · subst hc1
            obtain rfl : ws = [] := List.eq_nil_of_length_eq_zero (by omega)
            go_wp2_with fail
            go_roundg gk
            case measure => omega
            case rel => exact ⟨S, [], some ad, 0, n, rfl, Nat.le_refl _, by omega, by omega, ⟨fun j hj => absurd hj (Nat.not_lt_zero _)⟩, hS, hbn, ⟨fun y hy => absurd hy (List.not_mem_nil)⟩, hB, hin⟩
          · have hc2 : ¬ (c : Int) = 1 := by omega
            go_wp2_with fail
            go_roundg gk
            case measure => omega
            case rel => exact ⟨S, ws, _, _, n, rfl, by omega, by omega, by omega, hI2', hS, hbn, hxt, hB, hin⟩
      · obtain ⟨hSa, hre1⟩ := not_or.1 hskip
        rw [Bool.not_eq_true] at hSa
        rw [Bool.not_eq_false] at hre1
        rw [if_neg hskip] at hb'
        have hbn := Aside0.mk hb'
        have hbi := budget_ins (P := P) (show a < P.length by omega) hSa ws
        rw [hSa] at hlk
        rw [hre1] at r0
        clear hb hb' hskip
        have hin2 : Aside0 (∀ k, ins S (a : Int) k = true → 0 ≤ k ∧ k < (P.length : Int)) := ⟨fun k hk => by
          simp only [ins, Bool.or_eq_true, decide_eq_true_eq] at hk
          rcases hk with rfl | hk
          · exact ⟨hx0, hx1⟩
          · exact hin.out k hk⟩
        obtain ⟨wu, u1, u2, u3⟩ := hS.out.store (by unfold maxLen; omega) (hwf (a : Int) hx0 hx1)
        have hBu : Below w.heap.size w wu := hB.out.grown u3 hB.out.size (fun j e => by cases e; exact Nat.le_refl _)
        obtain ⟨es, clock, hmb⟩ : ∃ es clock, wr.heap[w.heap.size]? = some (.map es clock) := by
          obtain ⟨D, ⟨es, clock, h, _⟩, _⟩ := hS.out
          exact ⟨es, clock, h⟩
        have hI3 : IntsAt wu (some ⟨ad.block, ad.off + 1, none⟩) ws := hI2'.out.grown u3 (fun _ _ _ h => by rw [hmb] at h; cases h)
        obtain ⟨ap, A4, c4, rfl, p0, p1, p2⟩ := at_L1 (Kd.C_below h0 hBu) (a : Int) hx0 hx1
        rw [Int.toNat_natCast] at p0
        rw [rdL] at p0 p1 p2
        have hrr := hP _ (rowOf_mem (show a < P.length by omega))
        have hrb : (rowOf P a).length ≤ 100000 := Nat.le_trans (row_le_tot P a) ht
        generalize rowOf P a = row at p0 p1 p2 hrr hrb hbn hbi
        have hxn := Aside0.mk (fun y (hy : y ∈ ws ++ row) => (List.mem_append.1 hy).elim (hxt.out y) (hrr y))
        have p3 : IntsAt wu.drew A4 row := IntsAt.of_C p2
        have hw3 : (0 : Int) ≤ (ws.length : Int) := by omega
        have q1 : wu.drew.cell? (ap.add a) = some (.slice A4 row.length c4) := p0
        by_cases hc1 : c = 1
        · subst hc1
          obtain rfl : ws = [] := List.eq_nil_of_length_eq_zero (by omega)
          obtain ⟨v', W', a1, ⟨A', c', rfl, a3, a4⟩, a5⟩ := app_ex wu.drew ad [] row A4 c4 (fun j hj => absurd hj (Nat.not_lt_zero _)) p3 p1 (by simp; omega)
          have a4' := Aside0.mk a4
          have a5' := Aside0.mk a5
          have u2' := Aside0.mk u2
          have hBu' := Aside0.mk hBu
          clear a4 a5 u2 hBu hS hB p2 p3 hmb u3 hI2' hI0' hI3
          go_wp2_with fail
          go_region_law (refine step_append_run rfl (.tmp 41) (.tmp 45) 27 rfl (.slice (some ad) 0 0) (.slice A4 row.length c4) _ W' (by simp [Act.eval, Act.put]) (by simp [Act.eval, Act.put]) a1 ?_)
          simp [Act.put]
          go_wp2_with fail
          go_roundg gk
          case measure => omega
          case rel => exact ⟨ins S (a : Int), row, A', c', n + 1, by simp, a3, by have := hbi; simp only [List.nil_append] at this; omega, by omega, a4', ⟨(show SetAt wu.drew _ _ _ from u2'.out).grown a5'.out (by simp)⟩, hbn, hxn, ⟨(hBu'.out.trans (show Below w.heap.size wu wu.drew from ⟨rfl, rfl, rfl, Nat.le_refl _, fun _ _ => rfl⟩)).grown a5'.out (show w.heap.size ≤ wu.drew.heap.size from hBu'.out.size) (fun j e => by cases e)⟩, hin2⟩
        · have hc2 : ¬ (c : Int) = 1 := by omega
          have hc3 : ws.length ≤ c - 1 := by omega
          have hc4 : (ws.length : Int) ≤ ((c - 1 : Nat) : Int) := by omega
          obtain ⟨v', W', a1, ⟨A', c', rfl, a3, a4⟩, a5⟩ := app_ex wu.drew ⟨ad.block, ad.off + 1, none⟩ ws row A4 c4 hI3 p3 p1 (by omega)
          have a4' := Aside0.mk a4
          have a5' := Aside0.mk a5
          have u2' := Aside0.mk u2
          have hBu' := Aside0.mk hBu
          clear a4 a5 u2 hBu hS hB p2 p3 hmb u3 hI2' hI0'
          go_wp2_with fail
          go_region_law (refine step_append_run rfl (.tmp 41) (.tmp 45) 27 rfl (.slice (some ⟨ad.block, ad.off + 1, none⟩) ws.length ws.length) (.slice A4 row.length c4) _ W' (by simp [Act.eval, Act.put]) (by simp [Act.eval, Act.put]) a1 ?_)
          simp [Act.put]
          go_wp2_with fail
          go_roundg gk
          case measure => omega
          case rel => exact ⟨ins S (a : Int), ws ++ row, A', c', n + 1, by simp, a3, by omega, by omega, a4', ⟨(show SetAt wu.drew _ _ _ from u2'.out).grown a5'.out (by simp)⟩, hbn, hxn, ⟨(hBu'.out.trans (show Below w.heap.size wu wu.drew from ⟨rfl, rfl, rfl, Nat.le_refl _, fun _ _ => rfl⟩)).grown a5'.out (show w.heap.size ≤ wu.drew.heap.size from hBu'.out.size) (fun j e => by cases e)⟩, hin2⟩
end Go.Proofs.Ytkmbhknmjnbanaa.A


namespace Go.Proofs.Ytkmbhknmjnbanaa.A
open Go.ChangeShapes Go.RowKit Go.Maps Go.Proofs.YtkmbhknmjnbanaaW.PrintWords Go.Proofs.YtkmbhknmjnbanaaW.PrintLast Go.Shelf
set_option linter.unusedVariables false
set_option linter.unusedSimpArgs false

def gupd (H : Int → List Int) (k x : Int) : Int → List Int := fun j => if j = k then H k ++ [x] else H j
structure ReadsG (D : DU) (H : Int → List Int) : Prop where
  tidy : Tidy D
  has : ∀ k, Maps.has D (.int .i64 k) = !(H k).isEmpty
  at_ : ∀ k, D.atKey (.int .i64 k) .nil = if H k = [] then .nil else .slice (lits .i64 (H k)) []
theorem ReadsG.empty : ReadsG (.map []) (fun _ => []) := ⟨tidy_empty, fun k => rfl, fun k => rfl⟩
theorem ReadsG.put {D : DU} {H : Int → List Int} (h : ReadsG D H) (k x : Int) : ReadsG (D.put (.int .i64 k) (.slice (lits .i64 (H k ++ [x])) [])) (gupd H k x) := by
  refine ⟨h.tidy.put (isKey k) _, fun j => ?_, fun j => ?_⟩
  · by_cases hj : j = k
    · subst hj
      rw [has_put_same h.tidy.isMap (isKey j)]
      simp [gupd]
    · rw [has_put_other (by simpa using hj), h.has j]
      simp [gupd, hj]
  · by_cases hj : j = k
    · subst hj
      rw [atKey_put_same h.tidy.isMap (isKey j)]
      simp [gupd]
    · rw [atKey_put_other (by simpa using hj), h.at_ j]
      simp [gupd, hj]
theorem lits_inj {a b : List Int} (h : (lits .i64 a : List (DataW Unit)) = lits .i64 b) : a = b := by
  unfold lits at h
  exact List.map_inj_right (f := fun z : Int => (DataW.lit (Lit.int .i64 z) : DataW Unit)) (fun x y e => by simpa using e) |>.1 h
theorem zeroL (w : World) : (zeroValue 27).run Try.prog w = .ok (.slice none 0 0) w := by kernel_rfl
/-- block b is such a map of at most n entries -/
def GrpAt (w : World) (b n : Nat) (H : Int → List Int) : Prop := ∃ D : DU, w.ownsGroups Try.prog 3 (b + 1) 3 .i64 b n D ∧ ReadsG D H
theorem GrpAt.made (w : World) : GrpAt (w.alloc (.map #[] 0)) w.heap.size 0 (fun _ => []) := ⟨.map [], World.ownsGroups_made _ _ _ _ _, ReadsG.empty⟩
/-- m[k]: a row that one may append to and store again -/
theorem GrpAt.look {w : World} {b n : Nat} {H : Int → List Int} (h : GrpAt w b n H) (hn : n < maxLen) {k : Int} (hk : Wf k) :
    ∃ v, (Instr.lookup 56 (.map (some b)) (.int .i64 k) false).run Try.prog w = .ok v w ∧ w.ownsInts (b + 1) 3 .i64 v (H k) ∧ (H k).length ≤ n ∧
      ∀ (w1 : World) (v' : Value) (x : Int), w.grownBy w1 v.ownBlock → w1.ownsInts (b + 1) 3 .i64 v' (H k ++ [x]) → (v'.ownBlock = v.ownBlock ∨ ∃ g, v'.ownBlock = some g ∧ w.heap.size ≤ g) →
        ∃ w2, (Instr.mapUpdate 56 (.map (some b)) (.int .i64 k) v').run Try.prog w1 = .ok () w2 ∧ GrpAt w2 b (n + 1) (gupd H k x) ∧ w1.grownBy w2 (some b) := by
  obtain ⟨D, hg, hR⟩ := h
  obtain ⟨v, zs, h1, h2, h3, h4, h5⟩ := hg.at law3 Try.underlying56 (zeroL w) hn (key3 hk)
  have hz : zs = H k := by
    rw [hR.at_ k] at h2
    rcases h3.datum (H := Unit) with ⟨e1, e2⟩ | e1
    · rw [e1] at h2
      by_cases e : H k = []
      · rw [e2, e]
      · rw [if_neg e] at h2; simp at h2
    · rw [e1] at h2
      by_cases e : H k = []
      · rw [if_pos e] at h2; simp at h2
      · rw [if_neg e] at h2
        simp only [DataW.slice.injEq, and_true] at h2
        exact (lits_inj h2).symm
  subst hz
  refine ⟨v, h1, h3, h4, fun w1 v' x hg1 ho hl => ?_⟩
  obtain ⟨w2, r1, r2, r3⟩ := h5 w1 v' (H k ++ [x]) hg1 ho (by simp; omega) hl
  rw [ho.datum_pos (by simp)] at r2
  exact ⟨w2, r1, ⟨_, r2, hR.put k x⟩, r3⟩
theorem GrpAt.keys {w : World} {b n : Nat} {H : Int → List Int} (h : GrpAt w b n H) : ∃ (D : DU) (R : Value → Option (DU × List MemPlace)), w.ownsMap Try.prog 3 R b n D ∧ ∀ k, Maps.has D (.int .i64 k) = !(H k).isEmpty := by
  obtain ⟨D, ⟨es, clock, hb, F, hs, hD, _⟩, hR⟩ := h
  exact ⟨D, _, ⟨es, clock, hb, F, hs, hD⟩, hR.has⟩
theorem GrpAt.lt {w : World} {b n : Nat} {H : Int → List Int} (h : GrpAt w b n H) : b < w.heap.size := by
  obtain ⟨D, R, h1, _⟩ := h.keys; exact h1.lt
theorem GrpAt.grown {w w1 : World} {b n : Nat} {H : Int → List Int} (h : GrpAt w b n H) (hg : w.grownBy w1 none) : GrpAt w1 b n H := by
  obtain ⟨D, h1, h3⟩ := h
  exact ⟨D, h1.kept hg (by simp) (fun es clock _ x _ => by cases x.val.ownBlock <;> simp), h3⟩
end Go.Proofs.Ytkmbhknmjnbanaa.A


namespace Go.Proofs.Ytkmbhknmjnbanaa.A
open Go.RowKit Go.Maps Go.Proofs.YtkmbhknmjnbanaaW.PrintWords Go.Proofs.YtkmbhknmjnbanaaW.PrintLast Go.Shelf
set_option linter.unusedVariables false
set_option linter.unusedSimpArgs false

theorem look_val {w : World} {b : Nat} {es : Array MapEntry} {clock : Nat} {R : Value → Option (DU × List MemPlace)} (hb : w.heap[b]? = some (.map es clock)) (F : Go.WideElems.Fit Try.prog 3 R es clock) {k : Int} (hk : Wf k) :
    ((Instr.lookup 56 (.map (some b)) (.int .i64 k) false).run Try.prog w = .ok (.slice none 0 0) w ∧ ∀ e ∈ es.toList, e.key ≠ .int .i64 k) ∨ ∃ (j : Nat) (e : MapEntry), (Instr.lookup 56 (.map (some b)) (.int .i64 k) false).run Try.prog w = .ok e.val w ∧ es.toList[j]? = some e ∧ e.key = .int .i64 k := by
  have hz := zeroL w
  rcases law3.find w (key3 hk) es.toList F.keys with ⟨h1, h2⟩ | ⟨j, e0, h1, h2, h3⟩
  · exact .inl ⟨by simp [Instr.lookup, run_underlying Try.underlying56, MapKept.run_getObj_map hb, law3.check w _ (key3 hk), h1, hz, Result.andThen], h2⟩
  · exact .inr ⟨j, e0, by simp [Instr.lookup, run_underlying Try.underlying56, MapKept.run_getObj_map hb, law3.check w _ (key3 hk), h1, Result.andThen], h2, h3⟩
theorem look_same {w w' : World} {b : Nat} {es : Array MapEntry} {clock : Nat} {R : Value → Option (DU × List MemPlace)} (hb : w.heap[b]? = some (.map es clock)) (hb' : w'.heap[b]? = some (.map es clock)) (F : Go.WideElems.Fit Try.prog 3 R es clock) {k : Int} (hk : Wf k) {v : Value}
    (h : (Instr.lookup 56 (.map (some b)) (.int .i64 k) false).run Try.prog w = .ok v w) : (Instr.lookup 56 (.map (some b)) (.int .i64 k) false).run Try.prog w' = .ok v w' := by
  rcases look_val hb F hk with ⟨h1, h2⟩ | ⟨j, e, h1, h2, h3⟩ <;> rcases look_val hb' F hk with ⟨g1, g2⟩ | ⟨i, f, g1, g2, g3⟩
  · rw [h1] at h; simp only [Result.ok.injEq, and_true] at h; subst h; exact g1
  · exact absurd g3 (h2 f (List.mem_of_getElem? g2))
  · exact absurd h3 (g2 e (List.mem_of_getElem? h2))
  · rw [h1] at h; simp only [Result.ok.injEq, and_true] at h; subst h
    have hn := F.stamped.2.2
    have e1 : (es.toList.map (·.key))[j]? = some (.int .i64 k) := by rw [List.getElem?_map, h2]; simp [h3]
    have e2 : (es.toList.map (·.key))[i]? = some (.int .i64 k) := by rw [List.getElem?_map, g2]; simp [g3]
    have hij : j = i := (List.getElem?_inj (by have := (List.getElem?_eq_some_iff.1 e1).1; exact this) hn).1 (e1.trans e2.symm)
    subst hij
    have : e = f := Option.some.inj (h2.symm.trans g2)
    subst this
    exact g1
theorem GrpAt.look2 {w w' : World} {b n : Nat} {H : Int → List Int} (h : GrpAt w b n H) (hg : w.grownBy w' none) {k : Int} (hk : Wf k) {v : Value}
    (hv : (Instr.lookup 56 (.map (some b)) (.int .i64 k) false).run Try.prog w' = .ok v w') : (Instr.lookup 56 (.map (some b)) (.int .i64 k) false).run Try.prog w = .ok v w := by
  have hl := h.lt
  obtain ⟨D, ⟨es, clock, hb, F, _⟩, _⟩ := h
  exact look_same ((hg.block b hl (by simp)).trans hb) hb F hk hv
end Go.Proofs.Ytkmbhknmjnbanaa.A


namespace Go.Proofs.Ytkmbhknmjnbanaa.A
open Go.RowKit Go.Maps Go.Proofs.YtkmbhknmjnbanaaW.PrintWords Go.Proofs.YtkmbhknmjnbanaaW.PrintLast Go.Shelf
set_option linter.unusedVariables false
set_option linter.unusedSimpArgs false

/-- where edges come back from, by head -/
def hfold (l : List S37) : Int → List Int := l.foldl (fun H e => gupd H e.f1 e.f0) (fun _ => [])
theorem hfold_snoc (l : List S37) (e : S37) : hfold (l ++ [e]) = gupd (hfold l) e.f1 e.f0 := by simp [hfold]
def headsOf (n : Nat) (H : Int → List Int) : List Int := ((List.range n).filter fun k : Nat => !(H (k : Int)).isEmpty).map fun k : Nat => (k : Int)
def loopsOf (g : List (List Int)) : List (List Int) :=
  (headsOf g.length (hfold (backOf g))).map fun h => bodyRes (predsOf g) (reachRes g 0) h.toNat (hfold (backOf g) h)
theorem brow_in {at_ : List Int} {g : List (List Int)} {i : Nat} (hi : i < g.length) : ∀ (l : List Int) (out : List S37), (∀ x ∈ l, 0 ≤ x ∧ x < (g.length : Int)) → (∀ e ∈ out, (0 ≤ e.f0 ∧ e.f0 < (g.length : Int)) ∧ 0 ≤ e.f1 ∧ e.f1 < (g.length : Int)) → ∀ e ∈ brow at_ i out l, (0 ≤ e.f0 ∧ e.f0 < (g.length : Int)) ∧ 0 ≤ e.f1 ∧ e.f1 < (g.length : Int)
  | [], out, _, h => h
  | x :: l, out, hl, h => by
    refine brow_in hi l (bstep at_ i out x) (fun y hy => hl y (by simp [hy])) ?_
    unfold bstep
    split
    · intro e he
      rcases List.mem_append.1 he with he | he
      · exact h e he
      · simp only [List.mem_singleton] at he
        subst he
        exact ⟨⟨by show (0 : Int) ≤ (i : Int); omega, by show (i : Int) < _; omega⟩, hl x (by simp)⟩
    · exact h
theorem back_in (g : List (List Int)) : ∀ e ∈ backOf g, (0 ≤ e.f0 ∧ e.f0 < (g.length : Int)) ∧ 0 ≤ e.f1 ∧ e.f1 < (g.length : Int) := by
  unfold backOf
  cases hr : rightB g
  · intro e he; simp at he
  · obtain ⟨h1, h2, h3⟩ := right_rows hr
    rw [if_pos rfl]
    suffices H : ∀ m, m ≤ g.length → ∀ e ∈ bfold (placesOf g) g m, (0 ≤ e.f0 ∧ e.f0 < (g.length : Int)) ∧ 0 ≤ e.f1 ∧ e.f1 < (g.length : Int) from H _ (Nat.le_refl _)
    intro m
    induction m with
    | zero => intro _ e he; simp [bfold] at he
    | succ m ih =>
      intro hm
      rw [bfold_succ]
      exact brow_in (by omega) _ _ (h3 _ (rowOf_mem (by omega))) (ih (by omega))
theorem back_len (g : List (List Int)) : (backOf g).length ≤ 40000 := by
  unfold backOf
  cases hr : rightB g
  · simp
  · obtain ⟨h1, h2, h3⟩ := right_rows hr
    rw [if_pos rfl]
    have := bfold_len (at_ := placesOf g) (right_8 hr) g.length (Nat.le_refl _)
    omega

theorem hfold_mem (l : List S37) (k y : Int) : y ∈ hfold l k ↔ ∃ e ∈ l, e.f1 = k ∧ e.f0 = y := by
  unfold hfold
  suffices H : ∀ F : Int → List Int, y ∈ l.foldl (fun H e => gupd H e.f1 e.f0) F k ↔ y ∈ F k ∨ ∃ e ∈ l, e.f1 = k ∧ e.f0 = y by
    have := H (fun _ => []); simpa using this
  induction l with
  | nil => intro F; simp
  | cons x l ih =>
    intro F
    rw [List.foldl_cons, ih]
    unfold gupd
    by_cases e : k = x.f1
    · subst e
      rw [if_pos rfl, List.mem_append, List.mem_singleton]
      constructor
      · rintro ((h | h) | ⟨e, h1, h2⟩)
        · exact .inl h
        · exact .inr ⟨x, by simp, rfl, h.symm⟩
        · exact .inr ⟨e, by simp [h1], h2⟩
      · rintro (h | ⟨e, h1, h2⟩)
        · exact .inl (.inl h)
        · rcases List.mem_cons.1 h1 with rfl | h1
          · exact .inl (.inr h2.2.symm)
          · exact .inr ⟨e, h1, h2⟩
    · rw [if_neg e]
      constructor
      · rintro (h | ⟨e', h1, h2⟩)
        · exact .inl h
        · exact .inr ⟨e', by simp [h1], h2⟩
      · rintro (h | ⟨e', h1, h2⟩)
        · exact .inl h
        · rcases List.mem_cons.1 h1 with rfl | h1
          · exact absurd h2.1.symm e
          · exact .inr ⟨e', h1, h2⟩

set_option maxRecDepth 100000 in
set_option maxHeartbeats 4000000 in
theorem loops_calls (A : Option Addr) (c : Nat) (g : List (List Int)) (w : World) (h : Kd.C (Kd.slice 3 (Kd.int .i64)) w A g.length g) (hc : g.length ≤ c) :
    Calls Try.prog 32 #[.slice A g.length c] w fun e w' => ∃ v, e = .returned v ∧ Kd.S (Kd.slice 3 (Kd.int .i64)) 27 w' w.heap.size (fun _ => True) v (loopsOf g) ∧ Below w.heap.size w w' := by
  have hmm := @run_makeMap Try.prog
  have hu37 := Try.underlying37
  obtain ⟨kb, hkb⟩ := (back_ev g).get
  have hbw : Below w.heap.size w (w.alloc (.map #[] 0)) := below_alloc (Below.refl _ _) _
  have hbk := graph_Back.calls kb A c g _ (w.alloc (.map #[] 0)) (Kd.C_below h hbw) hc hkb
  have hin := back_in g
  have hbl := back_len g
  have hGm := GrpAt.made w
  have hgl : 0 < (backOf g).length → g.length ≤ 4096 := by
    unfold backOf
    cases hr : rightB g
    · intro h; simp at h
    · intro _; exact (right_rows hr).1
  have hrt0 : 0 < (backOf g).length → rightB g = true := by
    unfold backOf
    cases hr : rightB g
    · intro h; simp at h
    · intro _; rfl
  unfold loopsOf
  generalize backOf g = bs at hbk hin hbl hgl hrt0 ⊢
  go_enter Try.func32, Try.ntmps32
  go_wp2_with fail
  refine hbk.mono ?_
  rintro e w1 ⟨v1, rfl, hv1, hb1⟩
  obtain ⟨A1, c1, rfl⟩ := Kd.R_slice hv1
  have hsz1 : (w.alloc (.map #[] 0)).heap.size = w.heap.size + 1 := by simp
  have hC1 := Aside0.mk (show Kd.R k37 37 w1 (w.heap.size + 1) (fun _ => True) (.slice A1 bs.length c1) bs by rw [← hsz1]; exact hv1)
  have hG1 : GrpAt w1 w.heap.size 0 (fun _ => []) := hGm.grown (grown_of_below hb1 none)
  have hB1 := Aside0.mk (hbw.trans (hb1.mono (by rw [hsz1]; omega)))
  clear hbk hv1 hb1 hGm
  go_wp2_with fail
  go_loopw [15] (fun s wr => ∃ m : Nat, m ≤ bs.length ∧ s = .int .i64 m ∧ Aside0 (GrpAt wr w.heap.size m (hfold (bs.take m))) ∧ Aside0 (Kd.R k37 37 wr (w.heap.size + 1) (fun _ => True) (.slice A1 bs.length c1) bs) ∧ Aside0 (Below w.heap.size w wr))
    (fun s _ => bs.length - (RowKit.intOf s).toNat)
  case atStart => exact ⟨0, Nat.zero_le _, rfl, ⟨hG1⟩, hC1, hB1⟩
  case round =>
    obtain ⟨m, hm, rfl, hG, hC, hB⟩ := hrel
    by_cases hlt : m < bs.length
    · have hmn : (m : Int) < (bs.length : Int) := by omega
      have hm0 : (0 : Int) ≤ (m : Int) := by omega
      obtain ⟨ad, rfl, q0, q1⟩ := at_T37 (Kd.R_reads' hC.out).2.2 (m : Int) hm0 hmn
      rw [Int.toNat_natCast] at q0 q1
      have htk : bs.take (m + 1) = bs.take m ++ [rd_T37 bs m] := by
        rw [List.take_succ_eq_append_getElem hlt]
        simp [rd_T37, hlt]
      have hme := hin (rd_T37 bs m) (by simp [rd_T37, hlt])
      have hsn := hfold_snoc (bs.take m) (rd_T37 bs m)
      rw [← htk] at hsn
      have hsn' := Aside0.mk hsn
      clear htk hsn
      generalize rd_T37 bs (m : Int) = e at q0 q1 hme hsn'
      obtain ⟨f0, f1⟩ := e
      dsimp only at q0 q1 hme hsn'
      have hgl' := hgl (by omega)
      have hw0 : Wf f0 := wf_small hme.1.1 (by omega)
      have hw1 : Wf f1 := wf_small hme.2.1 (by omega)
      obtain ⟨W3, hW3⟩ : ∃ W3, wr.alloc (.cells #[.int .i64 f0, .int .i64 f1] 37) = W3 := ⟨_, rfl⟩
      have hgr3 : wr.grownBy W3 none := by rw [← hW3]; exact World.grownBy_alloc _ _ _
      have hB3 : Below w.heap.size w W3 := by rw [← hW3]; exact below_alloc hB.out _
      have e0 : W3.cell? ⟨wr.heap.size, 0, none⟩ = some (.int .i64 f0) := by rw [← hW3]; simp [go_sem]
      have e1 : W3.cell? ⟨wr.heap.size, 1, none⟩ = some (.int .i64 f1) := by rw [← hW3]; simp [go_sem]
      have hG3 : GrpAt W3.drew w.heap.size m (hfold (bs.take m)) := hG.out.grown (show wr.grownBy W3.drew none from ⟨hgr3.os, hgr3.tape, hgr3.output, hgr3.size, hgr3.block⟩)
      obtain ⟨i0, hi, hz0, hz1, hz2⟩ := info_parts info3
      obtain ⟨W4, hW4⟩ : ∃ W4, W3.drew.alloc (.cells #[.int .i64 f0] 3) = W4 := ⟨_, rfl⟩
      have hgr4 : W3.drew.grownBy W4 none := by rw [← hW4]; exact World.grownBy_alloc _ _ _
      have hG4 := hG3.grown hgr4
      have e2 : W4.cell? ⟨wr.heap.size, 0, none⟩ = some (.int .i64 f0) := by rw [← hW4]; exact (World.cell?_alloc_lt _ _ _ (World.block_lt_of_cell? W3 _ e0)).trans e0
      have e3 : W4.cell? ⟨wr.heap.size, 1, none⟩ = some (.int .i64 f1) := by rw [← hW4]; exact (World.cell?_alloc_lt _ _ _ (World.block_lt_of_cell? W3 _ e1)).trans e1
      obtain ⟨v, l1, l2, l3, l4⟩ := hG4.look (by unfold maxLen; omega) hw1
      have l0 := hG3.look2 hgr4 hw1 l1
      have hown4 : W4.ownsRow (w.heap.size + 1) 3 1 v (hfold (bs.take m) f1).length ((hfold (bs.take m) f1).map (Value.int .i64)) := l2.1
      have hsz4 : W4.heap.size = W3.heap.size + 1 := by rw [← hW4]; simp
      obtain ⟨v', W5, a1, a2, a3, a4, a5⟩ := run_append_own_at (P := Try.prog) W4 (w.heap.size + 1) 27 27 3 i0 _ 1 8 Try.underlying27 hi hz0 hz1 hz2 rfl (by decide) v _ _ hown4 ⟨W3.heap.size, 0, none⟩ 1 1 [.int .i64 f0] rfl (by rw [← hW4]; exact cell_one_new W3.drew _ _) (by simp [Value.oneCell']) (by unfold maxLen; omega) (by omega) (by have := hB3.size; omega)
      have hB4 : Below w.heap.size w W4 := (hB3.trans (show Below w.heap.size W3 W3.drew from ⟨rfl, rfl, rfl, Nat.le_refl _, fun _ _ => rfl⟩)).grown hgr4 (show w.heap.size ≤ W3.drew.heap.size from hB3.size) (fun j ej => by cases ej)
      have hblk : W4.heap[wr.heap.size]? = some (.cells #[.int .i64 f0, .int .i64 f1] 37 (0, 0)) := by
        rw [← hW4, Below.heap_alloc _ _ _ (by show wr.heap.size < W3.heap.size; rw [← hW3]; simp)]
        show W3.heap[wr.heap.size]? = _
        rw [← hW3]; exact World.alloc_heap_new _ _
      have hne : some wr.heap.size ≠ v.ownBlock := by
        intro e
        rcases l2.1.2 with ⟨rfl, _⟩ | ⟨gg, cap, cur, rfl, _, hgb, _⟩
        · simp [Value.ownBlock] at e
        · obtain rfl : wr.heap.size = gg := by simpa [Value.ownBlock] using e
          rw [hblk] at hgb
          cases hgb
      have e4 : W5.cell? ⟨wr.heap.size, 1, none⟩ = some (.int .i64 f1) := by
        have hb5 := a3.block wr.heap.size (Array.getElem?_eq_some_iff.1 hblk).1 hne
        unfold World.cell? at e3 ⊢
        rw [show (⟨wr.heap.size, 1, none⟩ : Addr).block = wr.heap.size from rfl] at e3 ⊢
        rw [hb5]; exact e3
      obtain ⟨W6, u1, u2, u3⟩ := l4 W5 v' f0 a3 ⟨by rw [List.length_append, List.map_append]; exact a2, fun z hz => by
        rcases List.mem_append.1 hz with hz | hz
        · exact l2.2 z hz
        · simp only [List.mem_singleton] at hz; subst hz; exact hw0⟩ (a5.imp id fun h => ⟨_, h, Nat.le_refl _⟩)
      have u2' := Aside0.mk u2
      have hB6 : Aside0 (Below w.heap.size w W6) := ⟨(hB4.grown a3 hB4.size (fun j ej => by have := (own_base l2.1 j ej).1; omega)).grown u3 (Nat.le_trans hB4.size a3.size) (fun j ej => by cases ej; exact Nat.le_refl _)⟩
      have hC4 : Kd.R k37 37 W4 (w.heap.size + 1) (fun _ => True) (.slice (some ad) bs.length c1) bs := by
        refine Kd.R_grown (Kd.R_grown hC.out (show wr.grownBy W3.drew none from ⟨hgr3.os, hgr3.tape, hgr3.output, hgr3.size, hgr3.block⟩) (fun _ _ => by simp)) hgr4 (fun _ _ => by simp)
      have hRv : Kd.R (Kd.int .i64) 3 W4 (w.heap.size + 1) (fun _ => True) v (hfold (bs.take m) f1) := Kd.R_of_own l2.1 (fun _ _ => trivial)
      have hC5 := Kd.R_over hC4 hRv (by decide) a3
      have hC6 := Aside0.mk (Kd.R_mono (Kd.R_grown (Kd.R_bound hC5) u3 (fun k hk => by have := hk.2.1; intro e; injection e with e; omega)) (fun _ _ => trivial))
      clear l4 u2 u3 a2 a3 a4 a5 hown4 l2 hG3 hG4 hgr4
      go_wp2_with fail
      go_region_law (refine step_append_run rfl (.tmp 25) (.tmp 28) 27 rfl v (.slice (some ⟨W3.heap.size, 0, none⟩) 1 1) v' W5 (by simp [Act.eval, Act.put]) (by simp [Act.eval, Act.put]) a1 ?_)
      all_goals
        go_wp2_with fail
        go_roundw
        case rel => exact ⟨m + 1, by omega, by go_num, ⟨by rw [hsn'.out]; exact u2'.out⟩, hC6, hB6⟩
        case measure => simp [RowKit.intOf]; omega
    · obtain rfl : m = bs.length := by omega
      have hG2 := hG.out
      rw [List.take_length] at hG2
      generalize hH : hfold bs = H at hG2 ⊢
      obtain ⟨kp, hkp⟩ := (preds_ev g).get
      generalize hP00 : (if rightB g = true then predsOf g else []) = P0 at hkp
      have hP0 := Aside0.mk hP00
      clear hP00
      have hpr := graph_Preds.calls kp A c g _ wr (Kd.C_below h hB.out) hc hkp
      have hG2' := Aside0.mk hG2
      clear hG hG2 hC hC1 hG1
      go_wp2_with fail
      refine hpr.mono ?_
      rintro e w2 ⟨v2, rfl, hv2, hb2⟩
      have hB2 := hB.out.trans (hb2.mono hB.out.size)
      have hre := graph_Reach.calls A c g 0 _ w2 (Kd.C_below h hB2) hc rfl
      go_wp2_with fail
      refine hre.mono ?_
      rintro e w3 ⟨v3, rfl, hv3, hb3⟩
      have hG3 : GrpAt w3 w.heap.size bs.length H := (hG2'.out.grown (grown_of_below hb2 none)).grown (grown_of_below hb3 none)
      have hB3 := hB2.trans (hb3.mono hB2.size)
      obtain ⟨D, Rr, hown, hhas⟩ := hG3.keys
      have hso := sorted58_calls w.heap.size bs.length _ w3 hown hhas (by omega)
      have hv2' := Kd.S_below hv2 hb3
      obtain ⟨A2, c2, rfl⟩ := Kd.S_slice hv2'
      obtain ⟨A3, c3, rfl⟩ := Kd.R_slice hv3
      have hP2 := Aside0.mk (Kd.S_reads' hv2').2.2
      have hP3 := Aside0.mk (Kd.R_reads' hv3).2.2
      have hG3' := Aside0.mk hG3
      have hB3' := Aside0.mk hB3
      clear hpr hre hv2 hv3 hb2 hb3 hB2 hB3 hB hG2' hG3 hv2' hown hhas
      go_wp2_with fail
      refine (keys58_calls _ _).mono ?_
      rintro e w' ⟨rfl, rfl⟩
      go_wp2_with fail
      refine hso.mono ?_
      rintro e w5 ⟨v5, ks, rfl, k1, k2, k3, k4, k5⟩
      obtain ⟨A5, c5, rfl⟩ := Kd.R_slice k4
      have hG5 := Aside0.mk (hG3'.out.grown (grown_of_below k5 none))
      have hQ2 := Aside0.mk (Kd.C_below hP2.out k5)
      have hQ3 := Aside0.mk (Kd.C_below hP3.out k5)
      have hK5 := Aside0.mk (Kd.R_reads' k4).2.2
      have hB5 := Aside0.mk (hB3'.out.trans (k5.mono hB3'.out.size))
      have k1' := Aside0.mk k1
      have k2' := Aside0.mk k2
      clear hso hP2 hP3 hG3' hB3' k1 k2 k4 k5
      go_wp2_with fail
      go_loopw [8, 39] (fun s8 s39 wr => ∃ m : Nat, m ≤ ks.length ∧ s39 = .int .i64 m ∧ Aside0 (Kd.S (Kd.slice 3 (Kd.int .i64)) 27 wr w5.heap.size (fun _ => True) s8 ((ks.take m).map fun h => bodyRes (predsOf g) (reachRes g 0) h.toNat (H h))) ∧ Aside0 (Below w5.heap.size w5 wr))
        (fun _ s39 _ => ks.length - (RowKit.intOf s39).toNat)
      case atStart => exact ⟨0, Nat.zero_le _, rfl, ⟨Kd.S_nil _ _ _ _ _⟩, ⟨Below.refl _ _⟩⟩
      case round =>
        obtain ⟨m, hm, rfl, hv, hB⟩ := hrel
        by_cases hlt : m < ks.length
        · have hmn : (m : Int) < (ks.length : Int) := by omega
          have hm0 : (0 : Int) ≤ (m : Int) := by omega
          obtain ⟨ad, rfl, q0⟩ := Kd.at_int (Kd.C_below hK5.out hB.out) (m : Int) hm0 hmn
          rw [Int.toNat_natCast, rdI hlt] at q0
          have htk : ks.take (m + 1) = ks.take m ++ [ks[m]] := List.take_succ_eq_append_getElem hlt
          have hxm : ks[m] ∈ ks := List.getElem_mem hlt
          generalize ks[m] = x at q0 htk hxm
          have hHx := (k2'.out x).1 hxm
          have hHne : H x ≠ [] := by intro e; rw [e] at hHx; cases hHx
          obtain ⟨y0, hy0⟩ := List.exists_mem_of_ne_nil _ hHne
          have hmemH : ∀ y ∈ H x, 0 ≤ y ∧ y < (g.length : Int) := by
            intro y hy
            rw [← hH, hfold_mem] at hy
            obtain ⟨e, he, _, rfl⟩ := hy
            exact (hin e he).1
          rw [← hH, hfold_mem] at hy0
          obtain ⟨e0, he0, hx0, _⟩ := hy0
          have hxr := (hin e0 he0).2
          rw [hx0] at hxr
          have hbp : 0 < bs.length := List.length_pos_of_mem he0
          have hrt := hrt0 hbp
          obtain ⟨hgn, hg1, hgr⟩ := right_rows hrt
          obtain rfl : P0 = predsOf g := by rw [← hP0.out, if_pos hrt]
          obtain ⟨xn, rfl⟩ := Int.eq_ofNat_of_zero_le hxr.1
          have hwx : Wf (xn : Int) := wf_small hxr.1 (by omega)
          have hGq := hG5.out.grown (grown_of_below hB.out none)
          obtain ⟨vr, l1, l2, l3, _⟩ := hGq.look (by unfold maxLen; omega) hwx
          have hRr : Kd.R (Kd.int .i64) 3 wr (w.heap.size + 1) (fun _ => True) vr (H xn) := Kd.R_of_own l2.1 (fun _ _ => trivial)
          obtain ⟨Ar, cr, rfl⟩ := Kd.R_slice hRr
          have hrr := Kd.R_reads' hRr
          have hlp : (predsOf g).length = g.length := predsOf_len g
          have hlr : (reachRes g 0).length = (predsOf g).length := by
            rw [hlp]; unfold reachRes; rw [if_pos ⟨hrt, by omega, by omega⟩, marks_len]
          have hbo : Calls Try.prog 59 #[.slice A2 (predsOf g).length c2, .slice A3 (reachRes g 0).length c3, .int .i64 xn, .slice Ar (H xn).length cr] wr fun e w' => ∃ v, e = .returned v ∧
              Kd.R (Kd.int .i64) 3 w' wr.heap.size (fun _ => True) v (bodyRes (predsOf g) (reachRes g 0) xn (H xn)) ∧ Below wr.heap.size wr w' := by
            have hq3 := Kd.C_below hQ3.out hB.out
            rw [hlr] at hq3 ⊢
            refine body_calls A2 A3 Ar c2 c3 cr (predsOf g) (reachRes g 0) xn (H xn) wr (Kd.C_below hQ2.out hB.out) hq3 hrr.2.2 hrr.2.1 (by omega) ?_ ?_ (by omega) ?_ (by omega)
            · intro l hl y hy
              obtain ⟨j, hj, rfl⟩ := List.getElem_of_mem hl
              have : y ∈ rowOf (predsOf g) j := by unfold rowOf; rw [List.getD_eq_getElem?_getD, List.getElem?_eq_getElem hj]; exact hy
              rw [predsOf_mem hgr] at this
              obtain ⟨i, hi, rfl, _⟩ := this
              omega
            · intro y hy
              have := hmemH y hy; omega
            · have h1 := tot_pfold hgr g.length (Nat.le_refl _)
              rw [List.take_length] at h1
              have h2 := tot_le (right_8 hrt)
              unfold predsOf; omega
          have hml : ((ks.take m).map fun h => bodyRes (predsOf g) (reachRes g 0) h.toNat (H h)).length ≤ 1000000 := by
            rw [List.length_map, List.length_take]; have := k3; omega
          have htk' : ((ks.take (m + 1)).map fun h => bodyRes (predsOf g) (reachRes g 0) h.toNat (H h)) = ((ks.take m).map fun h => bodyRes (predsOf g) (reachRes g 0) h.toNat (H h)) ++ [bodyRes (predsOf g) (reachRes g 0) xn (H xn)] := by
            rw [htk, List.map_append]; simp
          generalize hL : ((ks.take m).map fun h => bodyRes (predsOf g) (reachRes g 0) h.toNat (H h)) = L at hv hml htk'
          generalize bodyRes (predsOf g) (reachRes g 0) xn (H xn) = row at hbo htk'
          have htk2 := Aside0.mk htk'
          clear hL htk htk' hmemH hHx hHne hRr hrr hGq l2 l3 hlp hlr
          go_wp2_with fail
          refine hbo.mono ?_
          rintro e w6 ⟨v6, rfl, hR6, hB6⟩
          obtain ⟨A6, c6, rfl⟩ := Kd.R_slice hR6
          have hv3 := Aside0.mk (Kd.S_mono (Kd.S_below (Kd.S_bound hv.out) hB6) (ok' := fun k => True ∧ ¬ wr.heap.size ≤ k) (fun k hk => ⟨trivial, by have := hk.2.2.1; omega⟩))
          have hcM := Aside0.mk (Kd.M_row (Kd.R_lower (Kd.R_mono (Kd.R_bound hR6) (ok' := fun k => wr.heap.size ≤ k) (fun k hk => hk.2.1)) hB.out.size))
          have hvl := Aside0.mk (Kd.S_lt hv.out)
          have hB3' := Aside0.mk (hB.out.trans (hB6.mono hB.out.size))
          clear hbo hR6 hB6 hv hB q0
          go_wp2_with (at_builtin; refine Kd.S_append (Kd.slice 3 (Kd.int .i64)) (w0 := w5) w5.heap.size rfl (.tmp 43) (.tmp 51) 22 27 (.slice none 0 0) 24 rfl Try.underlying22 info27 rfl (by decide) (by omega) _ L row [.slice A6 row.length c6] (fun _ => True) (fun k => wr.heap.size ≤ k) rfl rfl hcM.out (fun k hk => ⟨trivial, fun e => by have := hvl.out k e.symm; omega⟩) (fun _ _ => trivial) hv3.out hB3'.out hB3'.out.size (by omega) ?_; intro v7 w7 hown7 hb7 hg7 hat7; have hv7 := Aside0.mk hown7; have hb7' := Aside0.mk hb7; clear hown7 hb7 hg7 hat7)
          go_roundw
          case rel => exact ⟨m + 1, by omega, by go_num, ⟨by rw [htk2.out]; exact hv7.out⟩, hb7'⟩
          case measure => simp [RowKit.intOf]; omega
        · obtain rfl : m = ks.length := by omega
          have hv2 := hv.out
          rw [List.take_length] at hv2
          have hks : ks = headsOf g.length H := by
            refine rising_eq k1'.out ?_ fun k => ?_
            · unfold Rising headsOf
              rw [List.pairwise_map]
              exact (List.pairwise_lt_range.filter _).imp (fun h => by omega)
            · rw [k2'.out]
              unfold headsOf
              simp only [List.mem_map, List.mem_filter, List.mem_range]
              constructor
              · intro h1
                have h2 : H k ≠ [] := by intro e; rw [e] at h1; cases h1
                obtain ⟨y, hy⟩ := List.exists_mem_of_ne_nil _ h2
                rw [← hH, hfold_mem] at hy
                obtain ⟨e, he, rfl, _⟩ := hy
                have := (hin e he).2
                obtain ⟨a, ha⟩ := Int.eq_ofNat_of_zero_le this.1
                exact ⟨a, ⟨by omega, by rw [← ha]; exact h1⟩, ha.symm⟩
              · rintro ⟨a, ⟨_, h2⟩, rfl⟩
                exact h2
          have hv3 := Aside0.mk hv2
          clear hv hv2
          go_wp2_with fail
          go_ret
          refine ⟨_, rfl, ?_, hB5.out.trans (hB.out.mono hB5.out.size)⟩
          rw [hH, ← hks]
          exact Kd.S_lower hv3.out hB5.out.size
end Go.Proofs.Ytkmbhknmjnbanaa.A


namespace Go.Proofs.Ytkmbhknmjnbanaa.A
open Go.RowKit Go.Proofs.YtkmbhknmjnbanaaW.PrintWords Go.Proofs.YtkmbhknmjnbanaaW.PrintLast Go.Shelf
set_option linter.unusedVariables false
set_option linter.unusedSimpArgs false

/-- the blocks of a loop with this head that comes back from these blocks -/
inductive BodySet (g : List (List Int)) (h : Nat) (F re : Nat → Prop) : Nat → Prop
  | head : BodySet g h F re h
  | frm {x : Nat} : F x → BodySet g h F re x
  | back {x y : Nat} : BodySet g h F re y → y ≠ h → Edge g x y → re x → BodySet g h F re x

theorem bodyW_spec {g : List (List Int)} (hg : InG g) {re : List Bool} {h : Nat} {F : Nat → Prop} (hF : ∀ x, F x → re.getD x false = true) :
    ∀ (n : Nat) (S : Int → Bool) (ws : List Int), budget (predsOf g) S ws ≤ n → (∀ x ∈ ws, 0 ≤ x ∧ x < (g.length : Int)) →
      (∀ x : Nat, S x = true → BodySet g h F (fun x => re.getD x false = true) x) → (∀ x : Nat, (x : Int) ∈ ws → re.getD x false = true → BodySet g h F (fun x => re.getD x false = true) x) →
      (∀ x y : Nat, y ≠ h → S y = true → Edge g x y → re.getD x false = true → S x = true ∨ (x : Int) ∈ ws) → (∀ x : Nat, F x → S x = true ∨ (x : Int) ∈ ws) → S h = true →
      ∀ x : Nat, bodyW (predsOf g) re n S ws x = true ↔ BodySet g h F (fun x => re.getD x false = true) x := by
  have fin : ∀ (S : Int → Bool), (∀ x : Nat, S x = true → BodySet g h F (fun x => re.getD x false = true) x) → (∀ x y : Nat, y ≠ h → S y = true → Edge g x y → re.getD x false = true → S x = true) → (∀ x : Nat, F x → S x = true) → S h = true → ∀ x : Nat, S x = true ↔ BodySet g h F (fun x => re.getD x false = true) x := by
    intro S h1 h2 h3 h4 x
    refine ⟨h1 x, fun hb => ?_⟩
    induction hb with
    | head => exact h4
    | frm hf => exact h3 _ hf
    | back _ hy he hr ih => exact h2 _ _ hy ih he hr
  intro n
  induction n with
  | zero =>
    intro S ws hb hw h1 h2 h3 h4 h5
    have : ws = [] := List.eq_nil_of_length_eq_zero (by unfold budget at hb; omega)
    subst this
    exact fin S h1 (fun x y a b c d => (h3 x y a b c d).resolve_right (by simp)) (fun x a => (h4 x a).resolve_right (by simp)) h5
  | succ n ih =>
    intro S ws hb hw h1 h2 h3 h4 h5
    cases ws with
    | nil => exact fin S h1 (fun x y a b c d => (h3 x y a b c d).resolve_right (by simp)) (fun x a => (h4 x a).resolve_right (by simp)) h5
    | cons a ws =>
      obtain ⟨a, rfl⟩ := Int.eq_ofNat_of_zero_le (hw a (by simp)).1
      have hal : a < g.length := by have := (hw (a : Int) (by simp)).2; omega
      have hpl := predsOf_len g
      have hrow : ∀ x ∈ rowOf (predsOf g) a, ∃ i : Nat, i < g.length ∧ x = i ∧ Edge g i a := fun x hx => (predsOf_mem hg a x).1 hx
      rw [budget_cons] at hb
      rw [bodyW, Int.toNat_natCast]
      split
      · rename_i hs
        refine ih S ws (by omega) (fun x hx => hw x (by simp [hx])) h1 (fun x hx => h2 x (by simp [hx])) (fun x y p q r s => ?_) (fun x p => ?_) h5
        · rcases h3 x y p q r s with t | t
          · exact .inl t
          · rcases List.mem_cons.1 t with t | t
            · obtain rfl : x = a := by omega
              rcases hs with hs | hs
              · exact .inl hs
              · rw [hs] at s; cases s
            · exact .inr t
        · rcases h4 x p with t | t
          · exact .inl t
          · rcases List.mem_cons.1 t with t | t
            · obtain rfl : x = a := by omega
              rcases hs with hs | hs
              · exact .inl hs
              · have := hF x p; rw [hs] at this; cases this
            · exact .inr t
      · rename_i hs
        obtain ⟨hs1, hs2⟩ := not_or.1 hs
        rw [Bool.not_eq_true] at hs1
        rw [Bool.not_eq_false] at hs2
        have hah : a ≠ h := fun e => by subst e; rw [h5] at hs1; cases hs1
        have hba : BodySet g h F (fun x => re.getD x false = true) a := h2 a (by simp) hs2
        have hins : ∀ x : Nat, ins S (a : Int) x = true ↔ S x = true ∨ x = a := fun x => by
          simp only [ins, Bool.or_eq_true, decide_eq_true_eq]
          constructor
          · rintro (h | h)
            · exact .inr (by omega)
            · exact .inl h
          · rintro (h | h)
            · exact .inr h
            · exact .inl (by omega)
        refine ih _ _ (by rw [budget_ins (by omega) hs1]; omega) (fun x hx => ?_) (fun x hx => ?_) (fun x hx hr => ?_) (fun x y p q r s => ?_) (fun x p => ?_) ((hins h).2 (.inl h5))
        · rcases List.mem_append.1 hx with hx | hx
          · exact hw x (by simp [hx])
          · obtain ⟨i, hi, rfl, _⟩ := hrow x hx; omega
        · rcases (hins x).1 hx with hx | rfl
          · exact h1 x hx
          · exact hba
        · rcases List.mem_append.1 hx with hx | hx
          · exact h2 x (by simp [hx]) hr
          · obtain ⟨i, hi, e, he⟩ := hrow _ hx
            obtain rfl : x = i := by omega
            exact .back hba hah he hr
        · rcases (hins y).1 q with q | rfl
          · rcases h3 x y p q r s with t | t
            · exact .inl ((hins x).2 (.inl t))
            · rcases List.mem_cons.1 t with t | t
              · exact .inl ((hins x).2 (.inr (by omega)))
              · exact .inr (List.mem_append_left _ t)
          · exact .inr (List.mem_append_right _ ((predsOf_mem hg y x).2 ⟨x, r.lt1, rfl, r⟩))
        · rcases h4 x p with t | t
          · exact .inl ((hins x).2 (.inl t))
          · rcases List.mem_cons.1 t with t | t
            · exact .inl ((hins x).2 (.inr (by omega)))
            · exact .inr (List.mem_append_left _ t)

theorem plfold_spec {o : List Int} {n : Nat} (hnd : o.Nodup) (ho : ∀ x ∈ o, 0 ≤ x ∧ x < (n : Int)) : ∀ m, m ≤ o.length → (∀ j (hj : j < m) (hj2 : j < o.length), (plfold o n m).getD o[j].toNat 0 = (j : Int)) ∧ ∀ i, i < n → (i : Int) ∉ o.take m → (plfold o n m).getD i 0 = -1
  | 0, _ => ⟨fun j hj => by omega, fun i hi _ => by
      unfold plfold
      rw [List.range_zero, List.foldl_nil, List.getD_eq_getElem?_getD, List.getElem?_replicate, if_pos hi]; rfl⟩
  | m + 1, hm => by
    have hlt : m < o.length := by omega
    obtain ⟨h1, h2⟩ := plfold_spec hnd ho m (by omega)
    have hom : o.getD m 0 = o[m] := by simp [List.getD_eq_getElem?_getD, hlt]
    have hx := ho o[m] (List.getElem_mem hlt)
    have hl := plfold_len o n m
    have hset : ∀ i, (plfold o n (m + 1)).getD i 0 = if o[m].toNat = i then (m : Int) else (plfold o n m).getD i 0 := by
      intro i
      rw [plfold_succ, hom, List.getD_eq_getElem?_getD, List.getElem?_set]
      by_cases e : o[m].toNat = i
      · rw [if_pos e, if_pos e, if_pos (by omega)]; rfl
      · rw [if_neg e, if_neg e, List.getD_eq_getElem?_getD]
    refine ⟨fun j hj hj2 => ?_, fun i hi hni => ?_⟩
    · rw [hset]
      by_cases e : j = m
      · subst e; rw [if_pos rfl]
      · rw [if_neg ?_, h1 j (by omega) hj2]
        intro e2
        have hxj := ho o[j] (List.getElem_mem hj2)
        have : o[m] = o[j] := by omega
        exact e ((List.getElem_inj hnd).1 this).symm
    · rw [List.take_succ_eq_append_getElem hlt] at hni
      rw [hset, if_neg ?_, h2 i hi (fun h => hni (List.mem_append_left _ h))]
      intro e
      exact hni (List.mem_append_right _ (by rw [List.mem_singleton]; omega))
theorem order_nodup (g : List (List Int)) : (orderOf g).Nodup := by
  unfold orderOf
  cases hr : rightB g
  · simp
  · obtain ⟨h1, h2, h3⟩ := right_rows hr
    rw [if_pos rfl]
    exact List.pairwise_reverse.2 ((walk_nodup h3 (by omega)).imp fun h e => h e.symm)
theorem place_at (g : List (List Int)) {j : Nat} (hj : j < (orderOf g).length) : (placesOf g).getD (orderOf g)[j].toNat 0 = (j : Int) :=
  (plfold_spec (order_nodup g) (orderOf_in g) _ (Nat.le_refl _)).1 j hj hj
theorem place_no (g : List (List Int)) {i : Nat} (hi : i < g.length) (h : (i : Int) ∉ orderOf g) : (placesOf g).getD i 0 = -1 :=
  (plfold_spec (order_nodup g) (orderOf_in g) _ (Nat.le_refl _)).2 i hi (by rw [List.take_length]; exact h)
theorem place_pos (g : List (List Int)) {i : Nat} (hi : i < g.length) : 0 ≤ (placesOf g).getD i 0 ↔ (i : Int) ∈ orderOf g := by
  constructor
  · intro h
    refine Classical.byContradiction fun hn => ?_
    rw [place_no g hi hn] at h; omega
  · intro h
    obtain ⟨j, hj, e⟩ := List.getElem_of_mem h
    have := place_at g hj
    rw [e, Int.toNat_natCast] at this
    omega
theorem order_mem {g : List (List Int)} (hr : rightB g = true) (i : Nat) : (i : Int) ∈ orderOf g ↔ Way g 0 i := by
  obtain ⟨h1, h2, h3⟩ := right_rows hr
  unfold orderOf
  rw [if_pos hr, List.mem_reverse]
  exact walk_mem h3 (by omega) i
/-- what is reached from the entry -/
theorem reach0 {g : List (List Int)} (hr : rightB g = true) {i : Nat} (hi : i < g.length) : (reachRes g 0).getD i false = true ↔ Way g 0 i := by
  obtain ⟨h1, h2, h3⟩ := right_rows hr
  unfold reachRes
  rw [if_pos ⟨hr, by omega, by omega⟩, ← walk_mem h3 (show 0 < g.length by omega)]
  have := mk_marks (n := g.length) (pre := walkOf g 0) hi
  unfold Mk at this
  rw [List.getD_eq_getElem?_getD, List.getElem?_eq_getElem (by rw [marks_len]; exact hi)] at this ⊢
  exact this
/-- which edges lead back -/
theorem back_mem {g : List (List Int)} (hr : rightB g = true) (e : S37) : e ∈ backOf g ↔ ∃ i x : Nat, e = ⟨i, x⟩ ∧ Edge g i x ∧ 0 ≤ (placesOf g).getD i 0 ∧ (placesOf g).getD x 0 ≤ (placesOf g).getD i 0 := by
  obtain ⟨h1, h2, h3⟩ := right_rows hr
  generalize hp : placesOf g = P
  have hrow : ∀ (i : Nat) (l : List Int), (∀ x ∈ l, 0 ≤ x) → ∀ out : List S37, e ∈ brow P i out l ↔ e ∈ out ∨ ∃ x : Nat, (x : Int) ∈ l ∧ e = ⟨i, x⟩ ∧ 0 ≤ P.getD i 0 ∧ P.getD x 0 ≤ P.getD i 0 := by
    intro i l
    induction l with
    | nil => intro _ out; simp [brow]
    | cons y l ih =>
      intro hl out
      obtain ⟨y, rfl⟩ := Int.eq_ofNat_of_zero_le (hl y (by simp))
      show e ∈ brow P i (bstep P i out y) l ↔ _
      rw [ih (fun x hx => hl x (by simp [hx]))]
      have hst : e ∈ bstep P i out (y : Int) ↔ e ∈ out ∨ (e = ⟨i, y⟩ ∧ 0 ≤ P.getD i 0 ∧ P.getD y 0 ≤ P.getD i 0) := by
        unfold bstep
        rw [Int.toNat_natCast]
        by_cases h0 : 0 ≤ P.getD i 0 ∧ P.getD y 0 ≤ P.getD i 0
        · cases hc : out.any (isE i y)
          · rw [if_pos ⟨h0.1, h0.2, rfl⟩, List.mem_append, List.mem_singleton]
            exact ⟨fun h => h.imp id fun h => ⟨h, h0⟩, fun h => h.imp id fun h => h.1⟩
          · rw [if_neg (fun h => by cases h.2.2)]
            refine ⟨.inl, fun h => h.elim id fun ⟨h, _⟩ => ?_⟩
            rw [List.any_eq_true] at hc
            obtain ⟨e', he', hc⟩ := hc
            unfold isE at hc
            rw [Bool.and_eq_true, decide_eq_true_eq, decide_eq_true_eq] at hc
            rw [h, hc.1, hc.2]; exact he'
        · rw [if_neg (fun h => h0 ⟨h.1, h.2.1⟩)]
          exact ⟨.inl, fun h => h.elim id fun h => absurd h.2 h0⟩
      rw [hst]
      constructor
      · rintro ((h | h) | ⟨x, hx, h⟩)
        · exact .inl h
        · exact .inr ⟨y, by simp, h⟩
        · exact .inr ⟨x, by simp [hx], h⟩
      · rintro (h | ⟨x, hx, h⟩)
        · exact .inl (.inl h)
        · rcases List.mem_cons.1 hx with hx | hx
          · obtain rfl : x = y := by omega
            exact .inl (.inr h)
          · exact .inr ⟨x, hx, h⟩
  have hfold : ∀ m, m ≤ g.length → (e ∈ bfold P g m ↔ ∃ i x : Nat, i < m ∧ e = ⟨i, x⟩ ∧ Edge g i x ∧ 0 ≤ P.getD i 0 ∧ P.getD x 0 ≤ P.getD i 0) := by
    intro m
    induction m with
    | zero => intro _; simp [bfold]
    | succ m ih =>
      intro hm
      rw [bfold_succ, hrow _ _ (fun x hx => (h3 _ (rowOf_mem (by omega)) x hx).1), ih (by omega)]
      constructor
      · rintro (⟨i, x, hi, h⟩ | ⟨x, hx, h, h4⟩)
        · exact ⟨i, x, by omega, h⟩
        · exact ⟨m, x, by omega, h, hx, h4⟩
      · rintro ⟨i, x, hi, h, he, h4⟩
        by_cases hi' : i = m
        · subst hi'; exact .inr ⟨x, he, h, h4⟩
        · exact .inl ⟨i, x, by omega, h, he, h4⟩
  unfold backOf
  rw [if_pos hr, hp, hfold _ (Nat.le_refl _)]
  exact ⟨fun ⟨i, x, _, h⟩ => ⟨i, x, h⟩, fun ⟨i, x, h⟩ => ⟨i, x, h.2.1.lt1, h⟩⟩
/-- from where one comes back to a head -/
def Froms (g : List (List Int)) (h : Nat) (x : Nat) : Prop := (⟨x, h⟩ : S37) ∈ backOf g
theorem froms_mem (g : List (List Int)) (h x : Nat) : (x : Int) ∈ hfold (backOf g) h ↔ Froms g h x := by
  rw [hfold_mem]
  constructor
  · rintro ⟨⟨a, b⟩, he, h1, h2⟩
    dsimp only at h1 h2
    subst h1; subst h2; exact he
  · intro h; exact ⟨_, h, rfl, rfl⟩
theorem froms_way {g : List (List Int)} (hr : rightB g = true) {h x : Nat} (hf : Froms g h x) : Way g 0 x := by
  obtain ⟨i, y, e, he, h1, _⟩ := (back_mem hr _).1 hf
  simp only [S37.mk.injEq] at e
  obtain rfl : x = i := by omega
  exact (order_mem hr x).1 ((place_pos g he.lt1).1 h1)
/-- the blocks of the loop of a head, as the program finds them -/
theorem body_spec {g : List (List Int)} (hr : rightB g = true) {h : Nat} (hh : h < g.length) (x : Nat) :
    bodyW (predsOf g) (reachRes g 0) (budget (predsOf g) (ins (fun _ => false) h) (hfold (backOf g) h)) (ins (fun _ => false) h) (hfold (backOf g) h) x = true ↔ BodySet g h (Froms g h) (fun x => (reachRes g 0).getD x false = true) x := by
  obtain ⟨h1, h2, h3⟩ := right_rows hr
  have hback := back_in g
  have hin : ∀ y ∈ hfold (backOf g) h, 0 ≤ y ∧ y < (g.length : Int) := by
    intro y hy
    rw [hfold_mem] at hy
    obtain ⟨e, he, _, rfl⟩ := hy
    exact (hback e he).1
  have hins : ∀ x : Nat, ins (fun _ => false) (h : Int) x = true ↔ x = h := fun x => by
    simp [ins]; omega
  refine bodyW_spec h3 (F := Froms g h) (fun x hx => ?_) _ _ _ (Nat.le_refl _) hin (fun x hx => ?_) (fun x hx hre => .frm ((froms_mem g h x).1 hx)) (fun x y hy hS => absurd ((hins y).1 hS) hy) (fun x hx => .inr ((froms_mem g h x).2 hx)) ((hins h).2 rfl) x
  · have := (hin x ((froms_mem g h x).2 hx)).2
    exact (reach0 hr (by omega)).2 (froms_way hr hx)
  · obtain rfl := (hins x).1 hx
    exact .head
end Go.Proofs.Ytkmbhknmjnbanaa.A

