/- Parts of the proof, in the order in which they rest on one another. -/
import Derived.Test.YtkmbhknmjnbanaaMOrders4
import Derived.Below
import Derived.Deep.Draws
import Derived.Deep.AppendLies
import Derived.Maps.AppendAt
import Derived.OwnWalk
import Derived.Laws.BytesArg
import Derived.Laws.MakeOwn
import Derived.Laws.OwnMore
import Derived.Deep.OwnRows
import Derived.Tactics
import Derived.Lib.ConvBytes
import Derived.Laws.Slices
import Derived.WalkKit
import Derived.KernelRfl
import Derived.RowKit3
import Derived.Deep.LoopGhost
import Derived.Deep.QuietTactic
import Derived.BigQuiet
import Derived.WideLaws
import Derived.Deep.DeepCutAuto
import Derived.Deep.CutBlock
import Derived.Deep.RegionHeld3
import Derived.Laws.Rows
import Derived.Lib.AppendStr
import Derived.ArgAppend
import Derived.Laws.IdiomCopy
import Derived.RowKit
import Derived.OrdersHeld
import Derived.Laws.BitsLemmas
import Derived.Laws.StructEq
import Derived.Test.YtkmbhknmjnbanaaProg
import Derived.Shelf.Abstract
import Derived.Lib.Walk
import Derived.RangeFuncWrites
import Derived.RangeFuncNested
import Derived.RangeFuncBound
import Derived.RangeFuncCalls
import Derived.RangeFuncLeaves
import Derived.Shelf.RegionOpen
import Derived.OwnWalkIn
import Derived.TacticsInMore
import Derived.LoopNIn
import Derived.LoopIn
import Derived.Laws.EntriesVeiled
import Derived.RangeFuncBox
import Derived.Laws.CopyOwn
import Derived.Deep.RegionLaw
import Derived.BigRegion
import Derived.WalkSpells
import Derived.Shelf.SlIterI.Nil
import Derived.Shelf.SortM.Plain
import Derived.Shelf.SortM.SortNone
import Derived.Ground.GgzProg
import Derived.Ground.SlgmProg
import Derived.Shelf.SlGeneric
import Derived.Maps.Own
import Derived.Maps.OwnOps
import Derived.Maps.OwnSet
import Derived.Maps.Views
import Derived.RangeFuncRecord
import Derived.Deep.RegionLawGrows
import Derived.Deep.Upon
import Derived.Maps.OwnRows
import Derived.Maps.GroupsBeside
import Derived.OpenShut
import Derived.Deep.Slices
import Derived.ChangeArms
namespace Go.Proofs.Ytkmbhknmjnbanaa.A
open Go.RowKit Go.Proofs.YtkmbhknmjnbanaaW.PrintWords Go.Proofs.YtkmbhknmjnbanaaW.PrintLast Go.Proofs.YtkmbhknmjnbanaaW.PrintMore
attribute [local go_sem] max2_int min2_int max_two min_two max_three min_three max_four min_four   -- for this text's walks alone
set_option linter.unusedVariables false
set_option linter.unusedSimpArgs false

mutual
def swageref06_Loops.l0 : Nat → List (List Int) → List (S37) → List Int → List (List Int) → Int → Option ((List (List Int)))
  | 0, _, _, _, _, _ => none
  | k + 1, x0, x3, x4, x5, x6 => if x6 < (x0.length : Int) then (if 0 ≤ (x0.length : Int) then (if ((x0.length : Int) : Int).toNat ≤ 281474976710656 then (swageref06_Loops.l1 k x0 x3 x4 x5 x6 (List.replicate ((x0.length : Int) : Int).toNat false) 0) else (none)) else (none)) else (some x5)
def swageref06_Loops.l1 : Nat → List (List Int) → List (S37) → List Int → List (List Int) → Int → List Bool → Int → Option ((List (List Int)))
  | 0, _, _, _, _, _, _, _ => none
  | k + 1, x0, x3, x4, x5, x6, x7, x8 => if x8 < (x3.length : Int) then (if 0 ≤ x8 then (if ((rd_T37 x3 x8).f1) = x6 then (if 0 ≤ x6 then (if x6 < (x7.length : Int) then (if 0 ≤ ((rd_T37 x3 x8).f0) then (if ((rd_T37 x3 x8).f0) < (x7.length : Int) then (swageref06_Loops.l1 k x0 x3 x4 x5 x6 ((x7.set (x6 : Int).toNat true).set (((rd_T37 x3 x8).f0) : Int).toNat true) (wrap64 (x8 + 1))) else (none)) else (none)) else (none)) else (none)) else (swageref06_Loops.l1 k x0 x3 x4 x5 x6 x7 (wrap64 (x8 + 1)))) else (none)) else (if 0 ≤ x6 then (if x6 < (x7.length : Int) then (if rdOf false x7 x6 = true then (swageref06_Loops.l2 k x0 x3 x4 x5 x6 x7 true) else (swageref06_Loops.l0 k x0 x3 x4 x5 (wrap64 (x6 + 1)))) else (none)) else (none))
def swageref06_Loops.l2 : Nat → List (List Int) → List (S37) → List Int → List (List Int) → Int → List Bool → Bool → Option ((List (List Int)))
  | 0, _, _, _, _, _, _, _ => none
  | k + 1, x0, x3, x4, x5, x6, x7, x9 => if x9 = true then (swageref06_Loops.l3 k x0 x3 x4 x5 x6 x7 false 0) else (swageref06_Loops.l5 k x0 x3 x4 x5 x6 x7 (([x6] : List Int)) 0)
def swageref06_Loops.l3 : Nat → List (List Int) → List (S37) → List Int → List (List Int) → Int → List Bool → Bool → Int → Option ((List (List Int)))
  | 0, _, _, _, _, _, _, _, _ => none
  | k + 1, x0, x3, x4, x5, x6, x7, x9, x10 => if x10 < (x0.length : Int) then (swageref06_Loops.l4 k x0 x3 x4 x5 x6 x7 x9 x10 0) else (swageref06_Loops.l2 k x0 x3 x4 x5 x6 x7 x9)
def swageref06_Loops.l4 : Nat → List (List Int) → List (S37) → List Int → List (List Int) → Int → List Bool → Bool → Int → Int → Option ((List (List Int)))
  | 0, _, _, _, _, _, _, _, _, _ => none
  | k + 1, x0, x3, x4, x5, x6, x7, x9, x10, x11 => if 0 ≤ x10 then (if x10 < (x0.length : Int) then (if x11 < ((rd_L1 x0 x10).length : Int) then (if x10 < (x7.length : Int) then (if rdOf false x7 x10 = true then (swageref06_Loops.j5 k x0 x3 x4 x5 x6 x7 x9 x10 x11 false) else (if x10 < (x4.length : Int) then (swageref06_Loops.j5 k x0 x3 x4 x5 x6 x7 x9 x10 x11 (decide ((rd x4 x10) ≥ 0))) else (none))) else (none)) else (swageref06_Loops.j5 k x0 x3 x4 x5 x6 x7 x9 x10 x11 false)) else (none)) else (none)
def swageref06_Loops.j5 : Nat → List (List Int) → List (S37) → List Int → List (List Int) → Int → List Bool → Bool → Int → Int → Bool → Option ((List (List Int)))
  | 0, _, _, _, _, _, _, _, _, _, _ => none
  | k + 1, x0, x3, x4, x5, x6, x7, x9, x10, x11, x82 => if x82 = true then (if 0 ≤ x10 then (if x10 < (x0.length : Int) then (if 0 ≤ x11 then (if x11 < ((rd_L1 x0 x10).length : Int) then (if 0 ≤ (rd (rd_L1 x0 x10) x11) then (if (rd (rd_L1 x0 x10) x11) < (x7.length : Int) then (if rdOf false x7 (rd (rd_L1 x0 x10) x11) = true then (if (rd (rd_L1 x0 x10) x11) = x6 then (swageref06_Loops.l4 k x0 x3 x4 x5 x6 x7 x9 x10 (wrap64 (x11 + 1))) else (if x10 < (x7.length : Int) then (swageref06_Loops.l4 k x0 x3 x4 x5 x6 (x7.set (x10 : Int).toNat true) true x10 (wrap64 (x11 + 1))) else (none))) else (swageref06_Loops.l4 k x0 x3 x4 x5 x6 x7 x9 x10 (wrap64 (x11 + 1)))) else (none)) else (none)) else (none)) else (none)) else (none)) else (none)) else (swageref06_Loops.l3 k x0 x3 x4 x5 x6 x7 x9 (wrap64 (x10 + 1)))
def swageref06_Loops.l5 : Nat → List (List Int) → List (S37) → List Int → List (List Int) → Int → List Bool → List Int → Int → Option ((List (List Int)))
  | 0, _, _, _, _, _, _, _, _ => none
  | k + 1, x0, x3, x4, x5, x6, x7, x12, x13 => if x13 < (x0.length : Int) then (if 0 ≤ x13 then (if x13 < (x7.length : Int) then (if rdOf false x7 x13 = true then (if x13 = x6 then (swageref06_Loops.l5 k x0 x3 x4 x5 x6 x7 x12 (wrap64 (x13 + 1))) else (if x12.length < 17592186044416 then (swageref06_Loops.l5 k x0 x3 x4 x5 x6 x7 (x12 ++ [x13]) (wrap64 (x13 + 1))) else (none))) else (swageref06_Loops.l5 k x0 x3 x4 x5 x6 x7 x12 (wrap64 (x13 + 1)))) else (none)) else (none)) else (if x5.length < 5864062014805 then (swageref06_Loops.l0 k x0 x3 x4 (x5 ++ [x12]) (wrap64 (x6 + 1))) else (none))
end
def swageref06_Loops.f (k : Nat) (l0 : List (List Int)) : Option ((List (List Int))) := (swageref06_Back.f k l0).bind fun t422 => ((swageref06_Places.f k l0).bind fun t425 => (swageref06_Loops.l0 k l0 t422 t425 ([] : List (List Int)) 0))
set_option maxHeartbeats 8000000 in
set_option maxRecDepth 100000 in
theorem swageref06_Loops.calls (k : Nat) (A0 : Option Addr) (c0 : Nat) (l0 : List (List Int)) (r : List (List Int)) (w : World) (hr0 : Kd.C (Kd.slice 3 (Kd.int .i64)) w A0 l0.length l0) (hc0 : l0.length ≤ c0) (h : swageref06_Loops.f k l0 = some r) :
    Calls Try.prog 33 #[.slice A0 l0.length c0] w fun e w' => ∃ v0_ : Value, e = .returned (v0_) ∧ Kd.S (Kd.slice 3 (Kd.int .i64)) 27 w' w.heap.size (fun _ => True) v0_ r ∧ Below w.heap.size w w' := by
  have HR0 := Aside0.mk hr0
  have HC0 := Aside0.mk hc0
  clear hr0 hc0
  have HB := Aside0.mk (Below.refl w.heap.size w)
  have H : ((swageref06_Back.f k l0).bind fun t422 => ((swageref06_Places.f k l0).bind fun t425 => (swageref06_Loops.l0 k l0 t422 t425 ([] : List (List Int)) 0))) = some r := h
  clear h
  replace H := Option.bind_eq_some_iff.mp H
  obtain ⟨t422, A20, H⟩ := H
  replace H : ((swageref06_Places.f k l0).bind fun t425 => (swageref06_Loops.l0 k l0 t422 t425 ([] : List (List Int)) 0)) = some r := H
  have A2 := Aside0.mk A20
  clear A20
  replace H := Option.bind_eq_some_iff.mp H
  obtain ⟨t425, A30, H⟩ := H
  replace H : (swageref06_Loops.l0 k l0 t422 t425 ([] : List (List Int)) 0) = some r := H
  have A3 := Aside0.mk A30
  clear A30
  have H' := Aside0.mk H
  clear H
  go_enter Try.func33, Try.ntmps33
  go_wp2_with (first | ((with_reducible refine gate_callee (f := 31) rfl ?_); refine goesL_ (some 15) rfl rfl Try.func31 (by kernel_rfl) rfl #[.slice A0 l0.length c0] rfl (by (try simp only [List.map_toArray, List.map_cons, List.map_nil]); first | done | rfl | (simp only [List.length_drop, List.length_take]; rfl)) ?_; (with_reducible refine (swageref06_Back.calls k _ _ l0 t422 _ ?side1 ?side2 A2.out).mono ?_); (case side1 => repeat (first | exact HR0.out | (with_reducible refine Kd.C_alloc ?_ _) | (with_reducible refine Kd.C_drewN ?_ _) | (with_reducible refine Kd.C_drew ?_))); (case side2 => exact HC0.out); rintro e w4 ⟨v423, rfl, ho0, hb⟩; refine ⟨_, rfl, ?_⟩; have n0_ := Aside0.mk (Kd.R_lower ho0 (below_size (by repeat (first | (with_reducible first | exact HB.out | apply below_alloc | apply pw_below_drewN | apply below_drew1) | exact HB.out)))); have n1_ := Aside0.mk (below_step (by repeat (first | (with_reducible first | exact HB.out | apply below_alloc | apply pw_below_drewN | apply below_drew1) | exact HB.out)) hb); clear HB; have HO424 := n0_; have HB := n1_; clear n0_ n1_; (try clear hb); (try clear hb2); (try clear hk); (try clear hi); (try clear ho0)) | ((with_reducible refine gate_callee (f := 55) rfl ?_); refine goesL_ (some 17) rfl rfl Try.func55 (by kernel_rfl) rfl #[.slice A0 l0.length c0] rfl (by (try simp only [List.map_toArray, List.map_cons, List.map_nil]); first | done | rfl | (simp only [List.length_drop, List.length_take]; rfl)) ?_; (with_reducible refine (swageref06_Places.calls k _ _ l0 t425 _ ?side1 ?side2 A3.out).mono ?_); (case side1 => repeat (first | exact (Kd.C_below HR0.out HB.out) | (with_reducible refine Kd.C_alloc ?_ _) | (with_reducible refine Kd.C_drewN ?_ _) | (with_reducible refine Kd.C_drew ?_))); (case side2 => exact HC0.out); rintro e w5 ⟨v426, rfl, ho0, hb⟩; refine ⟨_, rfl, ?_⟩; have n0_ := Aside0.mk (Kd.R_below (by (with_reducible repeat (first | apply Kd.R_alloc | apply Kd.R_drewN | apply Kd.R_drew)); exact HO424.out) hb); have n1_ := Aside0.mk (Kd.R_lower ho0 (below_size (by repeat (first | (with_reducible first | exact HB.out | apply below_alloc | apply pw_below_drewN | apply below_drew1) | exact HB.out)))); have n2_ := Aside0.mk (below_step (by repeat (first | (with_reducible first | exact HB.out | apply below_alloc | apply pw_below_drewN | apply below_drew1) | exact HB.out)) hb); clear HO424; clear HB; have HO424 := n0_; have HO427 := n1_; have HB := n2_; clear n0_ n1_ n2_; (try clear hb); (try clear hb2); (try clear hk); (try clear hi); (try clear ho0)))
  go_loopg [5, 6] k (fun kq v5 v6 w' => ∃ (x5_1 : List (List Int)) (x6_1 : Int), v6 = .int .i64 x6_1 ∧ Aside0 (swageref06_Loops.l0 kq l0 t422 t425 x5_1 x6_1 = some r) ∧ Aside0 (kq ≤ k) ∧ Aside0 (Kd.R k37 37 w' w.heap.size (fun _ => True) v423 t422) ∧ Aside0 (Kd.R (Kd.int .i64) 3 w' w.heap.size (fun _ => True) v426 t425) ∧ Aside0 (Kd.S (Kd.slice 3 (Kd.int .i64)) 27 w' w.heap.size (fun k_ => some k_ ≠ (v426 : Value).ownBlock) v5 x5_1) ∧ Aside0 (Below w.heap.size w w'))
  case atStart => exact ⟨(([] : List (List Int))), (0), (by first | rfl | (simp; done) | (simp [*]; done)), H', ⟨Nat.le_refl _⟩, ⟨by (with_reducible repeat (first | apply Kd.R_alloc | apply Kd.R_drewN | apply Kd.R_drew)); exact HO424.out⟩, ⟨by (with_reducible repeat (first | apply Kd.R_alloc | apply Kd.R_drewN | apply Kd.R_drew)); exact HO427.out⟩, ⟨by first | exact Kd.S_nil _ _ _ _ _ | exact Kd.N_nil _ _ _ _ _ | exact Kd.V_nil _ _ _ _ _ | exact Kd.Q_nil _ _ _ _ _ | exact Kd.R_nil _ _ _ _ _⟩, ⟨by repeat (first | (with_reducible first | exact HB.out | apply below_alloc | apply pw_below_drewN | apply below_drew1) | exact HB.out)⟩⟩
  case round =>
    clear H'
    try clear p2
    try clear c3
    try clear c5
    obtain ⟨x5_1, x6_1, rfl, HA, HK1, HO_3, HO_4, HO_5, HB⟩ := hrel
    cases gk with
    | zero => exact absurd HA.out (by simp [swageref06_Loops.l0])
    | succ k1 =>
      have H := HA.out
      clear HA
      simp only [swageref06_Loops.l0] at H
      by_cases c6 : x6_1 < (l0.length : Int)
      · rw [if_pos c6] at H
        have c6b0 : decide (x6_1 < (l0.length : Int)) = true := decide_eq_true c6
        clear c6
        by_cases c7 : 0 ≤ (l0.length : Int)
        · rw [if_pos c7] at H
          have c7b0 := eq_true c7
          have c7b1 : decide (0 ≤ (l0.length : Int)) = true := decide_eq_true c7
          clear c7
          by_cases c8 : ((l0.length : Int) : Int).toNat ≤ 281474976710656
          · rw [if_pos c8] at H
            have c8b0 := eq_true c8
            have c8b1 : decide (((l0.length : Int) : Int).toNat ≤ 281474976710656) = true := decide_eq_true c8
            clear c8
            obtain ⟨y428, hy428⟩ : ∃ y_ : List Bool, y_ = (List.replicate ((l0.length : Int) : Int).toNat false) := ⟨_, rfl⟩
            replace H : (swageref06_Loops.l1 k1 l0 t422 t425 x5_1 x6_1 y428 0) = some r := by first | (rw [hy428]; with_reducible exact H) | (have H2_ := (Option.bind_some _ _).symm.trans H; rw [hy428]; with_reducible exact H2_) | (have H2_ := (Option.bind_some _ _).symm.trans H; with_reducible exact H2_) | with_reducible exact H | (rw [hy428]; exact H) | exact H
            have Ny428 := Aside0.mk hy428
            clear hy428
            have H' := Aside0.mk H
            clear H
            go_wp2_with (first | ((with_reducible refine gate_dst (N := 26) rfl ?_); refine Kd.R_make Kd.bool _ 4 rfl (N := 26) rfl 29 _ _ rfl (l0.length : Int) rfl rfl Try.underlying29 (.bool false) 1 info4 rfl (by decide) (by omega) false (ok := fun _ => True) (okp := fun _ => True) rfl (fun _ hk => hk) trivial (of_decide_eq_true (by first | (with_reducible assumption) | assumption)) (Nat.le_trans (Nat.mul_le_mul_right _ (of_decide_eq_true (by first | (with_reducible assumption) | assumption) : (l0.length : Int).toNat ≤ 281474976710656)) (by omega)) (Below.refl _ _) (Nat.le_refl _) ?_; intro v429 w9 ho10 hb hg_ hnew_; clear hg_ hnew_; (first | rw [← Ny428.out] at ho10 | (simp only [Int.reduceToNat] at ho10; rw [← Ny428.out] at ho10)); have n0_ := Aside0.mk (Kd.R_below (by (with_reducible repeat (first | apply Kd.R_alloc | apply Kd.R_drewN | apply Kd.R_drew)); exact HO_3.out) hb); have n1_ := Aside0.mk (Kd.R_below (by (with_reducible repeat (first | apply Kd.R_alloc | apply Kd.R_drewN | apply Kd.R_drew)); exact HO_4.out) hb); have n2_ := Aside0.mk (Kd.S_below (by (with_reducible repeat (first | apply Kd.S_alloc | apply Kd.S_drewN | apply Kd.S_drew)); exact HO_5.out) hb); have n3_ := Aside0.mk (Kd.R_lower ho10 (below_size (by repeat (first | (with_reducible first | exact HB.out | apply below_alloc | apply pw_below_drewN | apply below_drew1) | exact HB.out)))); have n4_ := Aside0.mk (below_step (by repeat (first | (with_reducible first | exact HB.out | apply below_alloc | apply pw_below_drewN | apply below_drew1) | exact HB.out)) hb); clear HO_3; clear HO_4; clear HO_5; clear HB; have HO_3 := n0_; have HO_4 := n1_; have HO_5 := n2_; have HO430 := n3_; have HB := n4_; clear n0_ n1_ n2_ n3_ n4_; clear hb ho10))
            go_loopg [8] k1 (fun kq v8 w' => ∃ (x7_2 : List Bool) (x8_2 : Int), v8 = .int .i64 x8_2 ∧ Aside0 (swageref06_Loops.l1 kq l0 t422 t425 x5_1 x6_1 x7_2 x8_2 = some r) ∧ Aside0 (kq ≤ k1) ∧ Aside0 (Kd.R k37 37 w' w.heap.size (fun _ => True) v423 t422) ∧ Aside0 (Kd.R (Kd.int .i64) 3 w' w.heap.size (fun _ => True) v426 t425) ∧ Aside0 (Kd.S (Kd.slice 3 (Kd.int .i64)) 27 w' w.heap.size (fun k_ => some k_ ≠ (v426 : Value).ownBlock) u5 x5_1) ∧ Aside0 (Kd.R Kd.bool 4 w' w.heap.size (fun _ => True) v429 x7_2) ∧ Aside0 (Below w.heap.size w w'))
            case atStart => exact ⟨(y428), (0), (by first | rfl | (simp; done) | (simp [*]; done)), H', ⟨Nat.le_refl _⟩, ⟨by (with_reducible repeat (first | apply Kd.R_alloc | apply Kd.R_drewN | apply Kd.R_drew)); exact HO_3.out⟩, ⟨by (with_reducible repeat (first | apply Kd.R_alloc | apply Kd.R_drewN | apply Kd.R_drew)); exact HO_4.out⟩, ⟨by (with_reducible repeat (first | apply Kd.S_alloc | apply Kd.S_drewN | apply Kd.S_drew)); exact HO_5.out⟩, ⟨by (with_reducible repeat (first | apply Kd.R_alloc | apply Kd.R_drewN | apply Kd.R_drew)); exact HO430.out⟩, ⟨by repeat (first | (with_reducible first | exact HB.out | apply below_alloc | apply pw_below_drewN | apply below_drew1) | exact HB.out)⟩⟩
            case round =>
              clear H'
              try clear p2
              try clear c3
              try clear c5
              try clear c6
              try clear c6b0
              try clear c7
              try clear c7b0
              try clear c7b1
              try clear c8
              try clear c8b0
              try clear c8b1
              try clear p2
              obtain ⟨x7_2, x8_2, rfl, HA, HK2, HO_3, HO_4, HO_5, HO_7, HB⟩ := hrel
              cases gk with
              | zero => exact absurd HA.out (by simp [swageref06_Loops.l1])
              | succ k2 =>
                have H := HA.out
                clear HA
                simp only [swageref06_Loops.l1] at H
                by_cases c11 : x8_2 < (t422.length : Int)
                · rw [if_pos c11] at H
                  have c11b0 : decide (x8_2 < (t422.length : Int)) = true := decide_eq_true c11
                  clear c11
                  by_cases c12 : 0 ≤ x8_2
                  · rw [if_pos c12] at H
                    have c12b0 : decide (0 ≤ x8_2) = true := decide_eq_true c12
                    clear c12
                    by_cases c13 : ((rd_T37 t422 x8_2).f1) = x6_1
                    · rw [if_pos c13] at H
                      have c13b0 : (((rd_T37 t422 x8_2).f1) == x6_1) = true := beq_iff_eq.mpr c13
                      have c13b1 : (((rd_T37 t422 x8_2).f1) != x6_1) = false := bne_eq_false_iff_eq.mpr c13
                      clear c13
                      by_cases c14 : 0 ≤ x6_1
                      · rw [if_pos c14] at H
                        have c14b0 : decide (0 ≤ x6_1) = true := decide_eq_true c14
                        clear c14
                        by_cases c15 : x6_1 < (x7_2.length : Int)
                        · rw [if_pos c15] at H
                          have c15b0 : decide (x6_1 < (x7_2.length : Int)) = true := decide_eq_true c15
                          clear c15
                          obtain ⟨y432, hy432⟩ : ∃ y_ : List Bool, y_ = (x7_2.set (x6_1 : Int).toNat true) := ⟨_, rfl⟩
                          replace H : (if 0 ≤ ((rd_T37 t422 x8_2).f0) then (if ((rd_T37 t422 x8_2).f0) < (x7_2.length : Int) then (swageref06_Loops.l1 k2 l0 t422 t425 x5_1 x6_1 (y432.set (((rd_T37 t422 x8_2).f0) : Int).toNat true) (wrap64 (x8_2 + 1))) else (none)) else (none)) = some r := by first | (rw [hy432]; with_reducible exact H) | (have H2_ := (Option.bind_some _ _).symm.trans H; rw [hy432]; with_reducible exact H2_) | (have H2_ := (Option.bind_some _ _).symm.trans H; with_reducible exact H2_) | with_reducible exact H | (rw [hy432]; exact H) | exact H
                          have Ny432 := Aside0.mk hy432
                          clear hy432
                          by_cases c17 : 0 ≤ ((rd_T37 t422 x8_2).f0)
                          · rw [if_pos c17] at H
                            have c17b0 : decide (0 ≤ ((rd_T37 t422 x8_2).f0)) = true := decide_eq_true c17
                            clear c17
                            by_cases c18 : ((rd_T37 t422 x8_2).f0) < (x7_2.length : Int)
                            · rw [if_pos c18] at H
                              have c18b0 : decide (((rd_T37 t422 x8_2).f0) < (x7_2.length : Int)) = true := decide_eq_true c18
                              clear c18
                              obtain ⟨y434, hy434⟩ : ∃ y_ : List Bool, y_ = (y432.set (((rd_T37 t422 x8_2).f0) : Int).toNat true) := ⟨_, rfl⟩
                              replace H : (swageref06_Loops.l1 k2 l0 t422 t425 x5_1 x6_1 y434 (wrap64 (x8_2 + 1))) = some r := by first | (rw [hy434]; with_reducible exact H) | (have H2_ := (Option.bind_some _ _).symm.trans H; rw [hy434]; with_reducible exact H2_) | (have H2_ := (Option.bind_some _ _).symm.trans H; with_reducible exact H2_) | with_reducible exact H | (rw [hy434]; exact H) | exact H
                              have Ny434 := Aside0.mk hy434
                              clear hy434
                              have H' := Aside0.mk H
                              clear H
                              obtain ⟨Ao20, co20, eo20⟩ := Kd.R_slice HO_3.out
                              subst eo20
                              have p431 : 0 ≤ (x8_2 : Int) := of_decide_eq_true (by first | (with_reducible assumption) | assumption)
                              have q431 : x8_2 < (t422.length : Int) := of_decide_eq_true (by first | (with_reducible assumption) | assumption)
                              obtain ⟨ad431, e431, hx431_0, hx431_1⟩ := at_T37 (Kd.R_reads' HO_3.out).2.2 x8_2 p431 q431
                              cases e431
                              replace p431 := eq_true p431
                              replace q431 := eq_true q431
                              have p16 : 0 ≤ (x6_1 : Int) := of_decide_eq_true (by first | (with_reducible assumption) | assumption)
                              have q16 : (x6_1 : Int) < ((x7_2.length : Int) : Int) := of_decide_eq_true (by first | (with_reducible assumption) | assumption)
                              obtain ⟨go16, co16, eo16, gb16, gl16, cl16, HG16⟩ := Kd.R_form HO_7.out (by omega)
                              (first | cases eo16 | (injection eo16 with ea_ en_ ec_; (first | subst ea_ | (injection ea_ with ea_; subst ea_)); subst ec_; clear en_))
                              have GB16 := Aside0.mk gb16
                              have GG16 := Aside0.mk HG16
                              clear gb16 gl16 HG16
                              obtain ⟨hx16_0, hf16_0⟩ := Kd.R_celln false HO_7.out (x6_1 : Int) p16 q16
                              replace p16 := eq_true p16
                              replace q16 := eq_true q16
                              have HP21 := Kd.R_putg HO_7.out (x6_1 : Int) true
                              go_wp2_with (first | ((with_reducible refine gate_store (t := 4) (p := 42) rfl ?_); refine store_event (t := 4) (p := 42) (v := ?vo_w22) (w1 := (wr.setCell ⟨go16, (x6_1 : Int).toNat, none⟩ (.bool true))) ?hg ?ho ?hn ?hr ?_; (case ho => rfl); (case hg => rfl); (case hn => rfl); (case hr => first | (go_simp; done) | (go_simp; rfl)); intro w22 hw; have hg : wr.grownBy w22 (some go16) := (by rw [hw]; exact HP21.2); have hp_ : Kd.R Kd.bool 4 w22 w.heap.size (fun _ => True) (.slice (some ⟨go16, 0, none⟩) x7_2.length co16) y432 := (by rw [hw, Ny432.out]; exact HP21.1); clear HP21; have n0_ := Aside0.mk (Kd.R_over' (v := (.slice (some ⟨go16, 0, none⟩) x7_2.length co16)) (by (with_reducible repeat (first | apply Kd.R_alloc | apply Kd.R_drewN | apply Kd.R_drew)); exact HO_3.out) (Kd.R_typed HO_7.out) (by decide) hg); have n1_ := Aside0.mk (Kd.R_over' (v := (.slice (some ⟨go16, 0, none⟩) x7_2.length co16)) (by (with_reducible repeat (first | apply Kd.R_alloc | apply Kd.R_drewN | apply Kd.R_drew)); exact HO_4.out) (Kd.R_typed HO_7.out) (by decide) hg); have n2_ := Aside0.mk (Kd.S_over' (v := (.slice (some ⟨go16, 0, none⟩) x7_2.length co16)) (by (with_reducible repeat (first | apply Kd.S_alloc | apply Kd.S_drewN | apply Kd.S_drew)); exact HO_5.out) (Kd.R_typed HO_7.out) (by decide) hg); have n3_ := Aside0.mk (hp_); have n4_ := Aside0.mk ((by rw [hw]; exact below_set (HB.out) GB16.out : Below w.heap.size w w22)); clear HO_3; clear HO_4; clear HO_5; clear HO_7; clear HB; have HO_3 := n0_; have HO_4 := n1_; have HO_5 := n2_; have HO_7 := n3_; have HB := n4_; clear n0_ n1_ n2_ n3_ n4_; clear hg hw hp_; have p433 : 0 ≤ (x8_2 : Int) := of_decide_eq_true (by first | (with_reducible assumption) | assumption); have q433 : x8_2 < (t422.length : Int) := of_decide_eq_true (by first | (with_reducible assumption) | assumption); obtain ⟨ad433, e433, hx433_0, hx433_1⟩ := at_T37 (Kd.R_reads' HO_3.out).2.2 x8_2 p433 q433; obtain rfl : ad431 = ad433 := (by injection e433); replace p433 := eq_true p433; replace q433 := eq_true q433; have p19 : 0 ≤ (((rd_T37 t422 x8_2).f0) : Int) := of_decide_eq_true (by first | (with_reducible assumption) | assumption); have q19 : (((rd_T37 t422 x8_2).f0) : Int) < ((x7_2.length : Int) : Int) := of_decide_eq_true (by first | (with_reducible assumption) | assumption); obtain ⟨hx19_0, hf19_0⟩ := Kd.R_celln false HO_7.out (((rd_T37 t422 x8_2).f0) : Int) p19 q19; replace p19 := eq_true p19; replace q19 := eq_true q19; obtain ⟨hy23_, hz23_⟩ := Kd.R_celln false HO_7.out (((rd_T37 t422 x8_2).f0) : Int) (of_decide_eq_true (by first | (with_reducible assumption) | assumption)) (of_decide_eq_true (by first | (with_reducible assumption) | assumption)); have HP23 := Kd.R_putg HO_7.out (((rd_T37 t422 x8_2).f0) : Int) true) | ((with_reducible refine gate_store (t := 4) (p := 49) rfl ?_); refine store_event (t := 4) (p := 49) (v := ?vo_w24) (w1 := (w22.setCell ⟨go16, (((rd_T37 t422 x8_2).f0) : Int).toNat, none⟩ (.bool true))) ?hg ?ho ?hn ?hr ?_; (case ho => rfl); (case hg => rfl); (case hn => rfl); (case hr => first | (go_simp; done) | (go_simp; rfl)); intro w24 hw; have hg : w22.grownBy w24 (some go16) := (by rw [hw]; exact HP23.2); have hp_ : Kd.R Kd.bool 4 w24 w.heap.size (fun _ => True) (.slice (some ⟨go16, 0, none⟩) x7_2.length co16) y434 := (by rw [hw, Ny434.out]; exact HP23.1); clear HP23; have n0_ := Aside0.mk (Kd.R_over' (v := (.slice (some ⟨go16, 0, none⟩) x7_2.length co16)) (by (with_reducible repeat (first | apply Kd.R_alloc | apply Kd.R_drewN | apply Kd.R_drew)); exact HO_3.out) (Kd.R_typed HO_7.out) (by decide) hg); have n1_ := Aside0.mk (Kd.R_over' (v := (.slice (some ⟨go16, 0, none⟩) x7_2.length co16)) (by (with_reducible repeat (first | apply Kd.R_alloc | apply Kd.R_drewN | apply Kd.R_drew)); exact HO_4.out) (Kd.R_typed HO_7.out) (by decide) hg); have n2_ := Aside0.mk (Kd.S_over' (v := (.slice (some ⟨go16, 0, none⟩) x7_2.length co16)) (by (with_reducible repeat (first | apply Kd.S_alloc | apply Kd.S_drewN | apply Kd.S_drew)); exact HO_5.out) (Kd.R_typed HO_7.out) (by decide) hg); have n3_ := Aside0.mk (hp_); have n4_ := Aside0.mk ((by rw [hw]; exact below_set (HB.out) GB16.out : Below w.heap.size w w24)); clear HO_3; clear HO_4; clear HO_5; clear HO_7; clear HB; have HO_3 := n0_; have HO_4 := n1_; have HO_5 := n2_; have HO_7 := n3_; have HB := n4_; clear n0_ n1_ n2_ n3_ n4_; clear hg hw hp_))
                              go_roundg k2
                              case measure => have := HK1.out; have := HK2.out; omega
                              case rel => exact ⟨(y434), (wrap64 (x8_2 + 1)), (by first | rfl | (simp; done) | (simp [*]; done)), H', ⟨by have := HK1.out; have := HK2.out; omega⟩, ⟨by (with_reducible repeat (first | apply Kd.R_alloc | apply Kd.R_drewN | apply Kd.R_drew)); exact HO_3.out⟩, ⟨by (with_reducible repeat (first | apply Kd.R_alloc | apply Kd.R_drewN | apply Kd.R_drew)); exact HO_4.out⟩, ⟨by (with_reducible repeat (first | apply Kd.S_alloc | apply Kd.S_drewN | apply Kd.S_drew)); exact HO_5.out⟩, ⟨by (with_reducible repeat (first | apply Kd.R_alloc | apply Kd.R_drewN | apply Kd.R_drew)); exact HO_7.out⟩, ⟨by repeat (first | (with_reducible first | exact HB.out | apply below_alloc | apply pw_below_drewN | apply below_drew1) | exact HB.out)⟩⟩
                            · rw [if_neg c18] at H
                              exact absurd H (by simp)
                          · rw [if_neg c17] at H
                            exact absurd H (by simp)
                        · rw [if_neg c15] at H
                          exact absurd H (by simp)
                      · rw [if_neg c14] at H
                        exact absurd H (by simp)
                    · rw [if_neg c13] at H
                      have c13b0 : (((rd_T37 t422 x8_2).f1) == x6_1) = false := beq_eq_false_iff_ne.mpr c13
                      have c13b1 : (((rd_T37 t422 x8_2).f1) != x6_1) = true := bne_iff_ne.mpr c13
                      have H' := Aside0.mk H
                      clear H
                      obtain ⟨Ao25, co25, eo25⟩ := Kd.R_slice HO_3.out
                      subst eo25
                      have p431 : 0 ≤ (x8_2 : Int) := of_decide_eq_true (by first | (with_reducible assumption) | assumption)
                      have q431 : x8_2 < (t422.length : Int) := of_decide_eq_true (by first | (with_reducible assumption) | assumption)
                      obtain ⟨ad431, e431, hx431_0, hx431_1⟩ := at_T37 (Kd.R_reads' HO_3.out).2.2 x8_2 p431 q431
                      cases e431
                      replace p431 := eq_true p431
                      replace q431 := eq_true q431
                      go_wp2
                      go_roundg k2
                      case measure => have := HK1.out; have := HK2.out; omega
                      case rel => exact ⟨(x7_2), (wrap64 (x8_2 + 1)), (by first | rfl | (simp; done) | (simp [*]; done)), H', ⟨by have := HK1.out; have := HK2.out; omega⟩, ⟨by (with_reducible repeat (first | apply Kd.R_alloc | apply Kd.R_drewN | apply Kd.R_drew)); exact HO_3.out⟩, ⟨by (with_reducible repeat (first | apply Kd.R_alloc | apply Kd.R_drewN | apply Kd.R_drew)); exact HO_4.out⟩, ⟨by (with_reducible repeat (first | apply Kd.S_alloc | apply Kd.S_drewN | apply Kd.S_drew)); exact HO_5.out⟩, ⟨by (with_reducible repeat (first | apply Kd.R_alloc | apply Kd.R_drewN | apply Kd.R_drew)); exact HO_7.out⟩, ⟨by repeat (first | (with_reducible first | exact HB.out | apply below_alloc | apply pw_below_drewN | apply below_drew1) | exact HB.out)⟩⟩
                  · rw [if_neg c12] at H
                    exact absurd H (by simp)
                · rw [if_neg c11] at H
                  have c11b0 : decide (x8_2 < (t422.length : Int)) = false := decide_eq_false c11
                  clear c11
                  by_cases c26 : 0 ≤ x6_1
                  · rw [if_pos c26] at H
                    have c26b0 : decide (0 ≤ x6_1) = true := decide_eq_true c26
                    clear c26
                    by_cases c27 : x6_1 < (x7_2.length : Int)
                    · rw [if_pos c27] at H
                      have c27b0 : decide (x6_1 < (x7_2.length : Int)) = true := decide_eq_true c27
                      clear c27
                      obtain ⟨bq28, hbq28⟩ : ∃ b_ : Bool, b_ = (rdOf false x7_2 x6_1) := ⟨_, rfl⟩
                      replace H : (if bq28 = true then (swageref06_Loops.l2 k2 l0 t422 t425 x5_1 x6_1 x7_2 true) else (swageref06_Loops.l0 k2 l0 t422 t425 x5_1 (wrap64 (x6_1 + 1)))) = some r := by rw [← hbq28] at H; exact H
                      have Nbq28 := Aside0.mk hbq28
                      clear hbq28
                      by_cases c29 : bq28 = true
                      · subst c29
                        have H1 : (swageref06_Loops.l2 k2 l0 t422 t425 x5_1 x6_1 x7_2 true) = some r := by rw [if_pos rfl] at H; exact H
                        clear H
                        have H := H1
                        clear H1
                        have H' := Aside0.mk H
                        clear H
                        obtain ⟨Ao30, co30, eo30⟩ := Kd.R_slice HO_3.out
                        subst eo30
                        obtain ⟨Ao31, co31, eo31⟩ := Kd.R_slice HO_7.out
                        subst eo31
                        have p435 : 0 ≤ (x6_1 : Int) := of_decide_eq_true (by first | (with_reducible assumption) | assumption)
                        have q435 : x6_1 < (x7_2.length : Int) := of_decide_eq_true (by first | (with_reducible assumption) | assumption)
                        obtain ⟨ad435, e435, hx435_0⟩ := Kd.at_bool (Kd.R_reads' HO_7.out).2.2 x6_1 p435 q435
                        (try rw [← Nbq28.out] at hx435_0)
                        cases e435
                        replace p435 := eq_true p435
                        replace q435 := eq_true q435
                        go_wp2
                        go_loopg [9] k2 (fun kq v9 w' => ∃ (x7_3 : List Bool) (x9_3 : Bool), v9 = .bool x9_3 ∧ Aside0 (swageref06_Loops.l2 kq l0 t422 t425 x5_1 x6_1 x7_3 x9_3 = some r) ∧ Aside0 (kq ≤ k2) ∧ Aside0 (Kd.R k37 37 w' w.heap.size (fun _ => True) (.slice Ao30 t422.length co30) t422) ∧ Aside0 (Kd.R (Kd.int .i64) 3 w' w.heap.size (fun _ => True) v426 t425) ∧ Aside0 (Kd.S (Kd.slice 3 (Kd.int .i64)) 27 w' w.heap.size (fun k_ => some k_ ≠ (v426 : Value).ownBlock) u5 x5_1) ∧ Aside0 (Kd.R Kd.bool 4 w' w.heap.size (fun _ => True) (.slice (some ad435) x7_2.length co31) x7_3) ∧ Aside0 (Below w.heap.size w w'))
                        case atStart => exact ⟨(x7_2), (true), (by first | rfl | (simp; done) | (simp [*]; done)), H', ⟨Nat.le_refl _⟩, ⟨by (with_reducible repeat (first | apply Kd.R_alloc | apply Kd.R_drewN | apply Kd.R_drew)); exact HO_3.out⟩, ⟨by (with_reducible repeat (first | apply Kd.R_alloc | apply Kd.R_drewN | apply Kd.R_drew)); exact HO_4.out⟩, ⟨by (with_reducible repeat (first | apply Kd.S_alloc | apply Kd.S_drewN | apply Kd.S_drew)); exact HO_5.out⟩, ⟨by (with_reducible repeat (first | apply Kd.R_alloc | apply Kd.R_drewN | apply Kd.R_drew)); exact HO_7.out⟩, ⟨by repeat (first | (with_reducible first | exact HB.out | apply below_alloc | apply pw_below_drewN | apply below_drew1) | exact HB.out)⟩⟩
                        case round =>
                          clear H'
                          try clear c1
                          try clear p1
                          try clear q1
                          try clear hx1
                          try clear hf1
                          try clear c2
                          try clear p2
                          try clear q2
                          try clear c3
                          try clear p4
                          try clear q4
                          try clear hx4
                          try clear c5
                          try clear c6
                          try clear c6b0
                          try clear p6
                          try clear c7
                          try clear c7b0
                          try clear c7b1
                          try clear c8
                          try clear c8b0
                          try clear c8b1
                          try clear c11
                          try clear c11b0
                          try clear c12
                          try clear c12b0
                          try clear c13
                          try clear c13b0
                          try clear c13b1
                          try clear c14
                          try clear c14b0
                          try clear c15
                          try clear c15b0
                          try clear p16
                          try clear q16
                          try clear hx16
                          try clear hf16
                          try clear c17
                          try clear c17b0
                          try clear c18
                          try clear c18b0
                          try clear p19
                          try clear q19
                          try clear hx19
                          try clear hf19
                          try clear c26
                          try clear c26b0
                          try clear c27
                          try clear c27b0
                          try clear q28
                          try clear c29
                          try clear c31
                          try clear hx16_0
                          try clear hx19_0
                          try clear hx431_0
                          try clear hx431_1
                          try clear hx433_0
                          try clear hx433_1
                          try clear hx435_0
                          try clear p16
                          try clear p19
                          try clear p2
                          try clear p431
                          try clear p433
                          try clear p435
                          try clear q16
                          try clear q19
                          try clear q431
                          try clear q433
                          try clear q435
                          obtain ⟨x7_3, x9_3, rfl, HA, HK3, HO_3, HO_4, HO_5, HO_7, HB⟩ := hrel
                          have hl7_3 := (Kd.R_reads' HO_7.out).1
                          rw [hl7_3] at HO_7
                          (try simp only [hl7_3])
                          (try simp only [hl7_3] at HO_3)
                          (try simp only [hl7_3] at HO_4)
                          (try simp only [hl7_3] at HO_5)
                          cases gk with
                          | zero => exact absurd HA.out (by simp [swageref06_Loops.l2])
                          | succ k3 =>
                            have H := HA.out
                            clear HA
                            simp only [swageref06_Loops.l2] at H
                            by_cases c32 : x9_3 = true
                            · subst c32
                              have H1 : (swageref06_Loops.l3 k3 l0 t422 t425 x5_1 x6_1 x7_3 false 0) = some r := by rw [if_pos rfl] at H; exact H
                              clear H
                              have H := H1
                              clear H1
                              have H' := Aside0.mk H
                              clear H
                              go_wp2
                              go_loopg [9, 10] k3 (fun kq v9 v10 w' => ∃ (x7_4 : List Bool) (x9_4 : Bool) (x10_4 : Int), v9 = .bool x9_4 ∧ v10 = .int .i64 x10_4 ∧ Aside0 (swageref06_Loops.l3 kq l0 t422 t425 x5_1 x6_1 x7_4 x9_4 x10_4 = some r) ∧ Aside0 (kq ≤ k3) ∧ Aside0 (Kd.R k37 37 w' w.heap.size (fun _ => True) (.slice Ao30 t422.length co30) t422) ∧ Aside0 (Kd.R (Kd.int .i64) 3 w' w.heap.size (fun _ => True) v426 t425) ∧ Aside0 (Kd.S (Kd.slice 3 (Kd.int .i64)) 27 w' w.heap.size (fun k_ => some k_ ≠ (v426 : Value).ownBlock) u5 x5_1) ∧ Aside0 (Kd.R Kd.bool 4 w' w.heap.size (fun _ => True) (.slice (some ad435) x7_3.length co31) x7_4) ∧ Aside0 (Below w.heap.size w w'))
                              case atStart => exact ⟨(x7_3), (false), (0), (by first | rfl | (simp; done) | (simp [*]; done)), (by first | rfl | (simp; done) | (simp [*]; done)), H', ⟨Nat.le_refl _⟩, ⟨by (try simp only [hl7_3]); (with_reducible repeat (first | apply Kd.R_alloc | apply Kd.R_drewN | apply Kd.R_drew)); exact HO_3.out⟩, ⟨by (try simp only [hl7_3]); (with_reducible repeat (first | apply Kd.R_alloc | apply Kd.R_drewN | apply Kd.R_drew)); exact HO_4.out⟩, ⟨by (try simp only [hl7_3]); (with_reducible repeat (first | apply Kd.S_alloc | apply Kd.S_drewN | apply Kd.S_drew)); exact HO_5.out⟩, ⟨by (try simp only [hl7_3]); (with_reducible repeat (first | apply Kd.R_alloc | apply Kd.R_drewN | apply Kd.R_drew)); exact HO_7.out⟩, ⟨by repeat (first | (with_reducible first | exact HB.out | apply below_alloc | apply pw_below_drewN | apply below_drew1) | exact HB.out)⟩⟩
                              case round =>
                                clear H'
                                try clear c1
                                try clear p1
                                try clear q1
                                try clear hx1
                                try clear hf1
                                try clear c2
                                try clear p2
                                try clear q2
                                try clear c3
                                try clear p4
                                try clear q4
                                try clear hx4
                                try clear c5
                                try clear c6
                                try clear c6b0
                                try clear p6
                                try clear c7
                                try clear c7b0
                                try clear c7b1
                                try clear c8
                                try clear c8b0
                                try clear c8b1
                                try clear c11
                                try clear c11b0
                                try clear c12
                                try clear c12b0
                                try clear c13
                                try clear c13b0
                                try clear c13b1
                                try clear c14
                                try clear c14b0
                                try clear c15
                                try clear c15b0
                                try clear p16
                                try clear q16
                                try clear hx16
                                try clear hf16
                                try clear c17
                                try clear c17b0
                                try clear c18
                                try clear c18b0
                                try clear p19
                                try clear q19
                                try clear hx19
                                try clear hf19
                                try clear c26
                                try clear c26b0
                                try clear c27
                                try clear c27b0
                                try clear q28
                                try clear c29
                                try clear c31
                                try clear c32
                                try clear hx16_0
                                try clear hx19_0
                                try clear hx431_0
                                try clear hx431_1
                                try clear hx433_0
                                try clear hx433_1
                                try clear hx435_0
                                try clear p1
                                try clear p16
                                try clear p19
                                try clear p2
                                try clear p4
                                try clear p431
                                try clear p433
                                try clear p435
                                try clear p6
                                try clear q1
                                try clear q16
                                try clear q19
                                try clear q2
                                try clear q28
                                try clear q4
                                try clear q431
                                try clear q433
                                try clear q435
                                obtain ⟨x7_4, x9_4, x10_4, rfl, rfl, HA, HK4, HO_3, HO_4, HO_5, HO_7, HB⟩ := hrel
                                have hl7_4 := (Kd.R_reads' HO_7.out).1
                                rw [hl7_4] at HO_7
                                (try simp only [hl7_4])
                                (try simp only [hl7_4] at HO_3)
                                (try simp only [hl7_4] at HO_4)
                                (try simp only [hl7_4] at HO_5)
                                cases gk with
                                | zero => exact absurd HA.out (by simp [swageref06_Loops.l3])
                                | succ k4 =>
                                  have H := HA.out
                                  clear HA
                                  simp only [swageref06_Loops.l3] at H
                                  by_cases c33 : x10_4 < (l0.length : Int)
                                  · rw [if_pos c33] at H
                                    have c33b0 : decide (x10_4 < (l0.length : Int)) = true := decide_eq_true c33
                                    clear c33
                                    have H' := Aside0.mk H
                                    clear H
                                    go_wp2
                                    go_loopg [9, 11] k4 (fun kq v9 v11 w' => ∃ (x7_5 : List Bool) (x9_5 : Bool) (x11_5 : Int), v9 = .bool x9_5 ∧ v11 = .int .i64 x11_5 ∧ Aside0 (swageref06_Loops.l4 kq l0 t422 t425 x5_1 x6_1 x7_5 x9_5 x10_4 x11_5 = some r) ∧ Aside0 (kq ≤ k4) ∧ Aside0 (Kd.R k37 37 w' w.heap.size (fun _ => True) (.slice Ao30 t422.length co30) t422) ∧ Aside0 (Kd.R (Kd.int .i64) 3 w' w.heap.size (fun _ => True) v426 t425) ∧ Aside0 (Kd.S (Kd.slice 3 (Kd.int .i64)) 27 w' w.heap.size (fun k_ => some k_ ≠ (v426 : Value).ownBlock) u5 x5_1) ∧ Aside0 (Kd.R Kd.bool 4 w' w.heap.size (fun _ => True) (.slice (some ad435) x7_4.length co31) x7_5) ∧ Aside0 (Below w.heap.size w w'))
                                    case atStart => exact ⟨(x7_4), (x9_4), (0), (by first | rfl | (simp; done) | (simp [*]; done)), (by first | rfl | (simp; done) | (simp [*]; done)), H', ⟨Nat.le_refl _⟩, ⟨by (try simp only [hl7_3]); (try simp only [hl7_4]); (with_reducible repeat (first | apply Kd.R_alloc | apply Kd.R_drewN | apply Kd.R_drew)); exact HO_3.out⟩, ⟨by (try simp only [hl7_3]); (try simp only [hl7_4]); (with_reducible repeat (first | apply Kd.R_alloc | apply Kd.R_drewN | apply Kd.R_drew)); exact HO_4.out⟩, ⟨by (try simp only [hl7_3]); (try simp only [hl7_4]); (with_reducible repeat (first | apply Kd.S_alloc | apply Kd.S_drewN | apply Kd.S_drew)); exact HO_5.out⟩, ⟨by (try simp only [hl7_3]); (try simp only [hl7_4]); (with_reducible repeat (first | apply Kd.R_alloc | apply Kd.R_drewN | apply Kd.R_drew)); exact HO_7.out⟩, ⟨by repeat (first | (with_reducible first | exact HB.out | apply below_alloc | apply pw_below_drewN | apply below_drew1) | exact HB.out)⟩⟩
                                    case round =>
                                      clear H'
                                      try clear c1
                                      try clear p1
                                      try clear q1
                                      try clear hx1
                                      try clear hf1
                                      try clear c2
                                      try clear p2
                                      try clear q2
                                      try clear c3
                                      try clear p4
                                      try clear q4
                                      try clear hx4
                                      try clear c5
                                      try clear c6
                                      try clear c6b0
                                      try clear p6
                                      try clear c7
                                      try clear c7b0
                                      try clear c7b1
                                      try clear c8
                                      try clear c8b0
                                      try clear c8b1
                                      try clear c11
                                      try clear c11b0
                                      try clear c12
                                      try clear c12b0
                                      try clear c13
                                      try clear c13b0
                                      try clear c13b1
                                      try clear c14
                                      try clear c14b0
                                      try clear c15
                                      try clear c15b0
                                      try clear p16
                                      try clear q16
                                      try clear hx16
                                      try clear hf16
                                      try clear c17
                                      try clear c17b0
                                      try clear c18
                                      try clear c18b0
                                      try clear p19
                                      try clear q19
                                      try clear hx19
                                      try clear hf19
                                      try clear c26
                                      try clear c26b0
                                      try clear c27
                                      try clear c27b0
                                      try clear q28
                                      try clear c29
                                      try clear c31
                                      try clear c32
                                      try clear c33
                                      try clear c33b0
                                      try clear hx16_0
                                      try clear hx19_0
                                      try clear hx431_0
                                      try clear hx431_1
                                      try clear hx433_0
                                      try clear hx433_1
                                      try clear hx435_0
                                      try clear p1
                                      try clear p16
                                      try clear p19
                                      try clear p2
                                      try clear p4
                                      try clear p431
                                      try clear p433
                                      try clear p435
                                      try clear p6
                                      try clear q1
                                      try clear q16
                                      try clear q19
                                      try clear q2
                                      try clear q28
                                      try clear q4
                                      try clear q431
                                      try clear q433
                                      try clear q435
                                      obtain ⟨x7_5, x9_5, x11_5, rfl, rfl, HA, HK5, HO_3, HO_4, HO_5, HO_7, HB⟩ := hrel
                                      have hl7_5 := (Kd.R_reads' HO_7.out).1
                                      rw [hl7_5] at HO_7
                                      (try simp only [hl7_5])
                                      (try simp only [hl7_5] at HO_3)
                                      (try simp only [hl7_5] at HO_4)
                                      (try simp only [hl7_5] at HO_5)
                                      cases gk with
                                      | zero => exact absurd HA.out (by simp [swageref06_Loops.l4])
                                      | succ k5 =>
                                        have H := HA.out
                                        clear HA
                                        simp only [swageref06_Loops.l4] at H
                                        have HC34 := Aside0.mk H
                                        clear H
                                        go_upto_region 22 with (fail)
                                        go_cut [82] (fun v82 wc => ∃ (kq : Nat) (x82_33 : Bool), v82 = .bool x82_33 ∧ Aside0 (swageref06_Loops.j5 kq l0 t422 t425 x5_1 x6_1 x7_5 x9_5 x10_4 x11_5 x82_33 = some r) ∧ Aside0 (kq ≤ k5) ∧ Aside0 (Kd.R k37 37 wc w.heap.size (fun _ => True) (.slice Ao30 t422.length co30) t422) ∧ Aside0 (Kd.R (Kd.int .i64) 3 wc w.heap.size (fun _ => True) v426 t425) ∧ Aside0 (Kd.S (Kd.slice 3 (Kd.int .i64)) 27 wc w.heap.size (fun k_ => some k_ ≠ (v426 : Value).ownBlock) u5 x5_1) ∧ Aside0 (Kd.R Kd.bool 4 wc w.heap.size (fun _ => True) (.slice (some ad435) x7_5.length co31) x7_5) ∧ Aside0 (Below w.heap.size w wc))
                                        case first =>
                                          have H := HC34.out
                                          clear HC34
                                          by_cases c35 : 0 ≤ x10_4
                                          · rw [if_pos c35] at H
                                            have c35b0 : decide (0 ≤ x10_4) = true := decide_eq_true c35
                                            clear c35
                                            (first | rw [c35b0] | (simp only [i64_w, i32_w]; rw [c35b0]) | skip)
                                            by_cases c36 : x10_4 < (l0.length : Int)
                                            · rw [if_pos c36] at H
                                              have c36b0 : decide (x10_4 < (l0.length : Int)) = true := decide_eq_true c36
                                              clear c36
                                              by_cases c37 : x11_5 < ((rd_L1 l0 x10_4).length : Int)
                                              · rw [if_pos c37] at H
                                                have c37b0 : decide (x11_5 < ((rd_L1 l0 x10_4).length : Int)) = true := decide_eq_true c37
                                                clear c37
                                                by_cases c38 : x10_4 < (x7_5.length : Int)
                                                · rw [if_pos c38] at H
                                                  have c38b0 : decide (x10_4 < (x7_5.length : Int)) = true := decide_eq_true c38
                                                  clear c38
                                                  obtain ⟨bq39, hbq39⟩ : ∃ b_ : Bool, b_ = (rdOf false x7_5 x10_4) := ⟨_, rfl⟩
                                                  replace H : (if bq39 = true then (swageref06_Loops.j5 k5 l0 t422 t425 x5_1 x6_1 x7_5 x9_5 x10_4 x11_5 false) else (if x10_4 < (t425.length : Int) then (swageref06_Loops.j5 k5 l0 t422 t425 x5_1 x6_1 x7_5 x9_5 x10_4 x11_5 (decide ((rd t425 x10_4) ≥ 0))) else (none))) = some r := by rw [← hbq39] at H; exact H
                                                  have Nbq39 := Aside0.mk hbq39
                                                  clear hbq39
                                                  by_cases c40 : bq39 = true
                                                  · subst c40
                                                    have H1 : (swageref06_Loops.j5 k5 l0 t422 t425 x5_1 x6_1 x7_5 x9_5 x10_4 x11_5 false) = some r := by rw [if_pos rfl] at H; exact H
                                                    clear H
                                                    have H := H1
                                                    clear H1
                                                    have H' := Aside0.mk H
                                                    clear H
                                                    have p436 : 0 ≤ (x10_4 : Int) := of_decide_eq_true (by first | (with_reducible assumption) | assumption)
                                                    have q436 : x10_4 < (l0.length : Int) := of_decide_eq_true (by first | (with_reducible assumption) | assumption)
                                                    obtain ⟨ad436, A436_0, c436_0, e436, hx436_0, hl436_0, hi436_0⟩ := at_L1 HR0.out x10_4 p436 q436
                                                    cases e436
                                                    replace hx436_0 := (HB.out.cell (World.block_lt_of_cell? w _ hx436_0)).trans hx436_0
                                                    have HR436_0 := Aside0.mk hi436_0
                                                    have HC436_0 := Aside0.mk hl436_0
                                                    clear hi436_0 hl436_0
                                                    replace p436 := eq_true p436
                                                    replace q436 := eq_true q436
                                                    have p437 : 0 ≤ (x10_4 : Int) := of_decide_eq_true (by first | (with_reducible assumption) | assumption)
                                                    have q437 : x10_4 < (x7_5.length : Int) := of_decide_eq_true (by first | (with_reducible assumption) | assumption)
                                                    obtain ⟨ad437, e437, hx437_0⟩ := Kd.at_bool (Kd.R_reads' HO_7.out).2.2 x10_4 p437 q437
                                                    (try rw [← Nbq28.out] at hx437_0)
                                                    (try rw [← Nbq39.out] at hx437_0)
                                                    obtain rfl : ad435 = ad437 := (by injection e437)
                                                    replace p437 := eq_true p437
                                                    replace q437 := eq_true q437
                                                    go_wp2
                                                    go_meet
                                                    case rel => exact ⟨_, (false), (by first | rfl | (simp; done) | (simp [*]; done)), H', ⟨by have := HK1.out; have := HK2.out; have := HK3.out; have := HK4.out; have := HK5.out; first | omega | exact Nat.le_refl _⟩, ⟨by (try simp only [hl7_3]); (try simp only [hl7_4]); (try simp only [hl7_5]); (with_reducible repeat (first | apply Kd.R_alloc | apply Kd.R_drewN | apply Kd.R_drew)); exact HO_3.out⟩, ⟨by (try simp only [hl7_3]); (try simp only [hl7_4]); (try simp only [hl7_5]); (with_reducible repeat (first | apply Kd.R_alloc | apply Kd.R_drewN | apply Kd.R_drew)); exact HO_4.out⟩, ⟨by (try simp only [hl7_3]); (try simp only [hl7_4]); (try simp only [hl7_5]); (with_reducible repeat (first | apply Kd.S_alloc | apply Kd.S_drewN | apply Kd.S_drew)); exact HO_5.out⟩, ⟨by (try simp only [hl7_3]); (try simp only [hl7_4]); (try simp only [hl7_5]); (with_reducible repeat (first | apply Kd.R_alloc | apply Kd.R_drewN | apply Kd.R_drew)); exact HO_7.out⟩, ⟨by repeat (first | (with_reducible first | exact HB.out | apply below_alloc | apply pw_below_drewN | apply below_drew1) | exact HB.out)⟩⟩
                                                  · replace c40 := Bool.eq_false_iff.mpr c40
                                                    subst c40
                                                    have H1 : (if x10_4 < (t425.length : Int) then (swageref06_Loops.j5 k5 l0 t422 t425 x5_1 x6_1 x7_5 x9_5 x10_4 x11_5 (decide ((rd t425 x10_4) ≥ 0))) else (none)) = some r := by rw [if_neg (show ¬ (false = true) by decide)] at H; exact H
                                                    clear H
                                                    have H := H1
                                                    clear H1
                                                    by_cases c41 : x10_4 < (t425.length : Int)
                                                    · rw [if_pos c41] at H
                                                      have c41b0 : decide (x10_4 < (t425.length : Int)) = true := decide_eq_true c41
                                                      clear c41
                                                      have H' := Aside0.mk H
                                                      clear H
                                                      have p436 : 0 ≤ (x10_4 : Int) := of_decide_eq_true (by first | (with_reducible assumption) | assumption)
                                                      have q436 : x10_4 < (l0.length : Int) := of_decide_eq_true (by first | (with_reducible assumption) | assumption)
                                                      obtain ⟨ad436, A436_0, c436_0, e436, hx436_0, hl436_0, hi436_0⟩ := at_L1 HR0.out x10_4 p436 q436
                                                      cases e436
                                                      replace hx436_0 := (HB.out.cell (World.block_lt_of_cell? w _ hx436_0)).trans hx436_0
                                                      have HR436_0 := Aside0.mk hi436_0
                                                      have HC436_0 := Aside0.mk hl436_0
                                                      clear hi436_0 hl436_0
                                                      replace p436 := eq_true p436
                                                      replace q436 := eq_true q436
                                                      have p437 : 0 ≤ (x10_4 : Int) := of_decide_eq_true (by first | (with_reducible assumption) | assumption)
                                                      have q437 : x10_4 < (x7_5.length : Int) := of_decide_eq_true (by first | (with_reducible assumption) | assumption)
                                                      obtain ⟨ad437, e437, hx437_0⟩ := Kd.at_bool (Kd.R_reads' HO_7.out).2.2 x10_4 p437 q437
                                                      (try rw [← Nbq28.out] at hx437_0)
                                                      (try rw [← Nbq39.out] at hx437_0)
                                                      obtain rfl : ad435 = ad437 := (by injection e437)
                                                      replace p437 := eq_true p437
                                                      replace q437 := eq_true q437
                                                      obtain ⟨Ao42, co42, eo42⟩ := Kd.R_slice HO_4.out
                                                      subst eo42
                                                      have p438 : 0 ≤ (x10_4 : Int) := of_decide_eq_true (by first | (with_reducible assumption) | assumption)
                                                      have q438 : x10_4 < (t425.length : Int) := of_decide_eq_true (by first | (with_reducible assumption) | assumption)
                                                      obtain ⟨ad438, e438, hx438_0⟩ := Kd.at_int (Kd.R_reads' HO_4.out).2.2 x10_4 p438 q438
                                                      cases e438
                                                      replace p438 := eq_true p438
                                                      replace q438 := eq_true q438
                                                      go_wp2
                                                      go_meet
                                                      case rel => exact ⟨_, (decide ((rd t425 x10_4) ≥ 0)), (by first | rfl | (simp; done) | (simp [*]; done)), H', ⟨by have := HK1.out; have := HK2.out; have := HK3.out; have := HK4.out; have := HK5.out; first | omega | exact Nat.le_refl _⟩, ⟨by (try simp only [hl7_3]); (try simp only [hl7_4]); (try simp only [hl7_5]); (with_reducible repeat (first | apply Kd.R_alloc | apply Kd.R_drewN | apply Kd.R_drew)); exact HO_3.out⟩, ⟨by (try simp only [hl7_3]); (try simp only [hl7_4]); (try simp only [hl7_5]); (with_reducible repeat (first | apply Kd.R_alloc | apply Kd.R_drewN | apply Kd.R_drew)); exact HO_4.out⟩, ⟨by (try simp only [hl7_3]); (try simp only [hl7_4]); (try simp only [hl7_5]); (with_reducible repeat (first | apply Kd.S_alloc | apply Kd.S_drewN | apply Kd.S_drew)); exact HO_5.out⟩, ⟨by (try simp only [hl7_3]); (try simp only [hl7_4]); (try simp only [hl7_5]); (with_reducible repeat (first | apply Kd.R_alloc | apply Kd.R_drewN | apply Kd.R_drew)); exact HO_7.out⟩, ⟨by repeat (first | (with_reducible first | exact HB.out | apply below_alloc | apply pw_below_drewN | apply below_drew1) | exact HB.out)⟩⟩
                                                    · rw [if_neg c41] at H
                                                      exact absurd H (by simp)
                                                · rw [if_neg c38] at H
                                                  exact absurd H (by simp)
                                              · rw [if_neg c37] at H
                                                have c37b0 : decide (x11_5 < ((rd_L1 l0 x10_4).length : Int)) = false := decide_eq_false c37
                                                clear c37
                                                have H' := Aside0.mk H
                                                clear H
                                                have p436 : 0 ≤ (x10_4 : Int) := of_decide_eq_true (by first | (with_reducible assumption) | assumption)
                                                have q436 : x10_4 < (l0.length : Int) := of_decide_eq_true (by first | (with_reducible assumption) | assumption)
                                                obtain ⟨ad436, A436_0, c436_0, e436, hx436_0, hl436_0, hi436_0⟩ := at_L1 HR0.out x10_4 p436 q436
                                                cases e436
                                                replace hx436_0 := (HB.out.cell (World.block_lt_of_cell? w _ hx436_0)).trans hx436_0
                                                have HR436_0 := Aside0.mk hi436_0
                                                have HC436_0 := Aside0.mk hl436_0
                                                clear hi436_0 hl436_0
                                                replace p436 := eq_true p436
                                                replace q436 := eq_true q436
                                                go_wp2
                                                go_meet
                                                case rel => exact ⟨_, (false), (by first | rfl | (simp; done) | (simp [*]; done)), H', ⟨by have := HK1.out; have := HK2.out; have := HK3.out; have := HK4.out; have := HK5.out; first | omega | exact Nat.le_refl _⟩, ⟨by (try simp only [hl7_3]); (try simp only [hl7_4]); (try simp only [hl7_5]); (with_reducible repeat (first | apply Kd.R_alloc | apply Kd.R_drewN | apply Kd.R_drew)); exact HO_3.out⟩, ⟨by (try simp only [hl7_3]); (try simp only [hl7_4]); (try simp only [hl7_5]); (with_reducible repeat (first | apply Kd.R_alloc | apply Kd.R_drewN | apply Kd.R_drew)); exact HO_4.out⟩, ⟨by (try simp only [hl7_3]); (try simp only [hl7_4]); (try simp only [hl7_5]); (with_reducible repeat (first | apply Kd.S_alloc | apply Kd.S_drewN | apply Kd.S_drew)); exact HO_5.out⟩, ⟨by (try simp only [hl7_3]); (try simp only [hl7_4]); (try simp only [hl7_5]); (with_reducible repeat (first | apply Kd.R_alloc | apply Kd.R_drewN | apply Kd.R_drew)); exact HO_7.out⟩, ⟨by repeat (first | (with_reducible first | exact HB.out | apply below_alloc | apply pw_below_drewN | apply below_drew1) | exact HB.out)⟩⟩
                                            · rw [if_neg c36] at H
                                              exact absurd H (by simp)
                                          · rw [if_neg c35] at H
                                            exact absurd H (by simp)
                                        case rest =>
                                          clear HC34
                                          try clear c1
                                          try clear p1
                                          try clear q1
                                          try clear hx1
                                          try clear hf1
                                          try clear c2
                                          try clear p2
                                          try clear q2
                                          try clear c3
                                          try clear q3
                                          try clear c4
                                          try clear p4
                                          try clear q4
                                          try clear hx4
                                          try clear c5
                                          try clear c6
                                          try clear c6b0
                                          try clear p6
                                          try clear c7
                                          try clear c7b0
                                          try clear c7b1
                                          try clear c8
                                          try clear c8b0
                                          try clear c8b1
                                          try clear c11
                                          try clear c11b0
                                          try clear c12
                                          try clear c12b0
                                          try clear c13
                                          try clear c13b0
                                          try clear c13b1
                                          try clear c14
                                          try clear c14b0
                                          try clear c15
                                          try clear c15b0
                                          try clear p16
                                          try clear q16
                                          try clear hx16
                                          try clear hf16
                                          try clear c17
                                          try clear c17b0
                                          try clear c18
                                          try clear c18b0
                                          try clear p19
                                          try clear q19
                                          try clear hx19
                                          try clear hf19
                                          try clear c26
                                          try clear c26b0
                                          try clear c27
                                          try clear c27b0
                                          try clear q28
                                          try clear c29
                                          try clear c31
                                          try clear c32
                                          try clear c33
                                          try clear c33b0
                                          try clear c35
                                          try clear c35b0
                                          try clear c36
                                          try clear c36b0
                                          try clear c37
                                          try clear c37b0
                                          try clear c38
                                          try clear c38b0
                                          try clear q39
                                          try clear c40
                                          try clear c41
                                          try clear c41b0
                                          try clear hx16_0
                                          try clear hx19_0
                                          try clear hx431_0
                                          try clear hx431_1
                                          try clear hx433_0
                                          try clear hx433_1
                                          try clear hx435_0
                                          try clear hx436_0
                                          try clear hx437_0
                                          try clear hx438_0
                                          try clear p1
                                          try clear p16
                                          try clear p19
                                          try clear p2
                                          try clear p4
                                          try clear p431
                                          try clear p433
                                          try clear p435
                                          try clear p436
                                          try clear p437
                                          try clear p438
                                          try clear p6
                                          try clear q1
                                          try clear q16
                                          try clear q19
                                          try clear q2
                                          try clear q28
                                          try clear q4
                                          try clear q431
                                          try clear q433
                                          try clear q435
                                          try clear q436
                                          try clear q437
                                          try clear q438
                                          obtain ⟨kq, x82_33, rfl, HA, HJ33, HO_3, HO_4, HO_5, HO_7, HB⟩ := hcut
                                          cases kq with
                                          | zero => exact absurd HA.out (by simp [swageref06_Loops.j5])
                                          | succ kj33 =>
                                            have H := HA.out
                                            clear HA
                                            simp only [swageref06_Loops.j5] at H
                                            by_cases c43 : x82_33 = true
                                            · subst c43
                                              have H1 : (if 0 ≤ x10_4 then (if x10_4 < (l0.length : Int) then (if 0 ≤ x11_5 then (if x11_5 < ((rd_L1 l0 x10_4).length : Int) then (if 0 ≤ (rd (rd_L1 l0 x10_4) x11_5) then (if (rd (rd_L1 l0 x10_4) x11_5) < (x7_5.length : Int) then (if rdOf false x7_5 (rd (rd_L1 l0 x10_4) x11_5) = true then (if (rd (rd_L1 l0 x10_4) x11_5) = x6_1 then (swageref06_Loops.l4 kj33 l0 t422 t425 x5_1 x6_1 x7_5 x9_5 x10_4 (wrap64 (x11_5 + 1))) else (if x10_4 < (x7_5.length : Int) then (swageref06_Loops.l4 kj33 l0 t422 t425 x5_1 x6_1 (x7_5.set (x10_4 : Int).toNat true) true x10_4 (wrap64 (x11_5 + 1))) else (none))) else (swageref06_Loops.l4 kj33 l0 t422 t425 x5_1 x6_1 x7_5 x9_5 x10_4 (wrap64 (x11_5 + 1)))) else (none)) else (none)) else (none)) else (none)) else (none)) else (none)) = some r := by rw [if_pos rfl] at H; exact H
                                              clear H
                                              have H := H1
                                              clear H1
                                              by_cases c44 : 0 ≤ x10_4
                                              · rw [if_pos c44] at H
                                                have c44b0 : decide (0 ≤ x10_4) = true := decide_eq_true c44
                                                clear c44
                                                by_cases c45 : x10_4 < (l0.length : Int)
                                                · rw [if_pos c45] at H
                                                  have c45b0 : decide (x10_4 < (l0.length : Int)) = true := decide_eq_true c45
                                                  clear c45
                                                  by_cases c46 : 0 ≤ x11_5
                                                  · rw [if_pos c46] at H
                                                    have c46b0 : decide (0 ≤ x11_5) = true := decide_eq_true c46
                                                    clear c46
                                                    by_cases c47 : x11_5 < ((rd_L1 l0 x10_4).length : Int)
                                                    · rw [if_pos c47] at H
                                                      have c47b0 : decide (x11_5 < ((rd_L1 l0 x10_4).length : Int)) = true := decide_eq_true c47
                                                      clear c47
                                                      by_cases c48 : 0 ≤ (rd (rd_L1 l0 x10_4) x11_5)
                                                      · rw [if_pos c48] at H
                                                        have c48b0 : decide (0 ≤ (rd (rd_L1 l0 x10_4) x11_5)) = true := decide_eq_true c48
                                                        clear c48
                                                        by_cases c49 : (rd (rd_L1 l0 x10_4) x11_5) < (x7_5.length : Int)
                                                        · rw [if_pos c49] at H
                                                          have c49b0 : decide ((rd (rd_L1 l0 x10_4) x11_5) < (x7_5.length : Int)) = true := decide_eq_true c49
                                                          clear c49
                                                          obtain ⟨bq50, hbq50⟩ : ∃ b_ : Bool, b_ = (rdOf false x7_5 (rd (rd_L1 l0 x10_4) x11_5)) := ⟨_, rfl⟩
                                                          replace H : (if bq50 = true then (if (rd (rd_L1 l0 x10_4) x11_5) = x6_1 then (swageref06_Loops.l4 kj33 l0 t422 t425 x5_1 x6_1 x7_5 x9_5 x10_4 (wrap64 (x11_5 + 1))) else (if x10_4 < (x7_5.length : Int) then (swageref06_Loops.l4 kj33 l0 t422 t425 x5_1 x6_1 (x7_5.set (x10_4 : Int).toNat true) true x10_4 (wrap64 (x11_5 + 1))) else (none))) else (swageref06_Loops.l4 kj33 l0 t422 t425 x5_1 x6_1 x7_5 x9_5 x10_4 (wrap64 (x11_5 + 1)))) = some r := by rw [← hbq50] at H; exact H
                                                          have Nbq50 := Aside0.mk hbq50
                                                          clear hbq50
                                                          by_cases c51 : bq50 = true
                                                          · subst c51
                                                            have H1 : (if (rd (rd_L1 l0 x10_4) x11_5) = x6_1 then (swageref06_Loops.l4 kj33 l0 t422 t425 x5_1 x6_1 x7_5 x9_5 x10_4 (wrap64 (x11_5 + 1))) else (if x10_4 < (x7_5.length : Int) then (swageref06_Loops.l4 kj33 l0 t422 t425 x5_1 x6_1 (x7_5.set (x10_4 : Int).toNat true) true x10_4 (wrap64 (x11_5 + 1))) else (none))) = some r := by rw [if_pos rfl] at H; exact H
                                                            clear H
                                                            have H := H1
                                                            clear H1
                                                            by_cases c52 : (rd (rd_L1 l0 x10_4) x11_5) = x6_1
                                                            · rw [if_pos c52] at H
                                                              have c52b0 : ((rd (rd_L1 l0 x10_4) x11_5) == x6_1) = true := beq_iff_eq.mpr c52
                                                              have c52b1 : ((rd (rd_L1 l0 x10_4) x11_5) != x6_1) = false := bne_eq_false_iff_eq.mpr c52
                                                              clear c52
                                                              have H' := Aside0.mk H
                                                              clear H
                                                              have p439 : 0 ≤ (x10_4 : Int) := of_decide_eq_true (by first | (with_reducible assumption) | assumption)
                                                              have q439 : x10_4 < (l0.length : Int) := of_decide_eq_true (by first | (with_reducible assumption) | assumption)
                                                              obtain ⟨ad439, A439_0, c439_0, e439, hx439_0, hl439_0, hi439_0⟩ := at_L1 HR0.out x10_4 p439 q439
                                                              cases e439
                                                              replace hx439_0 := (HB.out.cell (World.block_lt_of_cell? w _ hx439_0)).trans hx439_0
                                                              have HR439_0 := Aside0.mk hi439_0
                                                              have HC439_0 := Aside0.mk hl439_0
                                                              clear hi439_0 hl439_0
                                                              replace p439 := eq_true p439
                                                              replace q439 := eq_true q439
                                                              have p440 : 0 ≤ (x11_5 : Int) := of_decide_eq_true (by first | (with_reducible assumption) | assumption)
                                                              have q440 : x11_5 < ((rd_L1 l0 x10_4).length : Int) := of_decide_eq_true (by first | (with_reducible assumption) | assumption)
                                                              obtain ⟨ad440, e440, hx440_0⟩ := Kd.at_int HR439_0.out x11_5 p440 q440
                                                              cases e440
                                                              replace hx440_0 := (HB.out.cell (World.block_lt_of_cell? w _ hx440_0)).trans hx440_0
                                                              replace p440 := eq_true p440
                                                              replace q440 := eq_true q440
                                                              have p441 : 0 ≤ ((rd (rd_L1 l0 x10_4) x11_5) : Int) := of_decide_eq_true (by first | (with_reducible assumption) | assumption)
                                                              have q441 : (rd (rd_L1 l0 x10_4) x11_5) < (x7_5.length : Int) := of_decide_eq_true (by first | (with_reducible assumption) | assumption)
                                                              obtain ⟨ad441, e441, hx441_0⟩ := Kd.at_bool (Kd.R_reads' HO_7.out).2.2 (rd (rd_L1 l0 x10_4) x11_5) p441 q441
                                                              (try rw [← Nbq28.out] at hx441_0)
                                                              (try rw [← Nbq50.out] at hx441_0)
                                                              obtain rfl : ad435 = ad441 := (by injection e441)
                                                              replace p441 := eq_true p441
                                                              replace q441 := eq_true q441
                                                              have p442 : 0 ≤ (x10_4 : Int) := of_decide_eq_true (by first | (with_reducible assumption) | assumption)
                                                              have q442 : x10_4 < (l0.length : Int) := of_decide_eq_true (by first | (with_reducible assumption) | assumption)
                                                              obtain ⟨ad442, A442_0, c442_0, e442, hx442_0, hl442_0, hi442_0⟩ := at_L1 HR0.out x10_4 p442 q442
                                                              obtain rfl : ad439 = ad442 := (by injection e442)
                                                              replace hx442_0 := (HB.out.cell (World.block_lt_of_cell? w _ hx442_0)).trans hx442_0
                                                              have HR442_0 := Aside0.mk hi442_0
                                                              have HC442_0 := Aside0.mk hl442_0
                                                              clear hi442_0 hl442_0
                                                              replace p442 := eq_true p442
                                                              replace q442 := eq_true q442
                                                              have ea_ := Option.some.inj (hx439_0.symm.trans hx442_0)
                                                              injection ea_ with ea_ en_ ec_
                                                              subst ea_
                                                              subst ec_
                                                              clear en_
                                                              have p443 : 0 ≤ (x11_5 : Int) := of_decide_eq_true (by first | (with_reducible assumption) | assumption)
                                                              have q443 : x11_5 < ((rd_L1 l0 x10_4).length : Int) := of_decide_eq_true (by first | (with_reducible assumption) | assumption)
                                                              obtain ⟨ad443, e443, hx443_0⟩ := Kd.at_int HR442_0.out x11_5 p443 q443
                                                              cases e443
                                                              replace hx443_0 := (HB.out.cell (World.block_lt_of_cell? w _ hx443_0)).trans hx443_0
                                                              replace p443 := eq_true p443
                                                              replace q443 := eq_true q443
                                                              go_wp2
                                                              (try simp only [← hl7_5])
                                                              go_roundg kj33
                                                              case measure => have := HK1.out; have := HK2.out; have := HK3.out; have := HK4.out; have := HK5.out; have := HJ33.out; omega
                                                              case rel => exact ⟨(x7_5), (x9_5), (wrap64 (x11_5 + 1)), (by first | rfl | (simp; done) | (simp [*]; done)), (by first | rfl | (simp; done) | (simp [*]; done)), H', ⟨by have := HK1.out; have := HK2.out; have := HK3.out; have := HK4.out; have := HK5.out; have := HJ33.out; omega⟩, ⟨by (try simp only [hl7_3]); (try simp only [hl7_4]); (try simp only [hl7_5]); (with_reducible repeat (first | apply Kd.R_alloc | apply Kd.R_drewN | apply Kd.R_drew)); exact HO_3.out⟩, ⟨by (try simp only [hl7_3]); (try simp only [hl7_4]); (try simp only [hl7_5]); (with_reducible repeat (first | apply Kd.R_alloc | apply Kd.R_drewN | apply Kd.R_drew)); exact HO_4.out⟩, ⟨by (try simp only [hl7_3]); (try simp only [hl7_4]); (try simp only [hl7_5]); (with_reducible repeat (first | apply Kd.S_alloc | apply Kd.S_drewN | apply Kd.S_drew)); exact HO_5.out⟩, ⟨by (try simp only [hl7_3]); (try simp only [hl7_4]); (try simp only [hl7_5]); (with_reducible repeat (first | apply Kd.R_alloc | apply Kd.R_drewN | apply Kd.R_drew)); exact HO_7.out⟩, ⟨by repeat (first | (with_reducible first | exact HB.out | apply below_alloc | apply pw_below_drewN | apply below_drew1) | exact HB.out)⟩⟩
                                                            · rw [if_neg c52] at H
                                                              have c52b0 : ((rd (rd_L1 l0 x10_4) x11_5) == x6_1) = false := beq_eq_false_iff_ne.mpr c52
                                                              have c52b1 : ((rd (rd_L1 l0 x10_4) x11_5) != x6_1) = true := bne_iff_ne.mpr c52
                                                              by_cases c53 : x10_4 < (x7_5.length : Int)
                                                              · rw [if_pos c53] at H
                                                                have c53b0 : decide (x10_4 < (x7_5.length : Int)) = true := decide_eq_true c53
                                                                clear c53
                                                                obtain ⟨y444, hy444⟩ : ∃ y_ : List Bool, y_ = (x7_5.set (x10_4 : Int).toNat true) := ⟨_, rfl⟩
                                                                replace H : (swageref06_Loops.l4 kj33 l0 t422 t425 x5_1 x6_1 y444 true x10_4 (wrap64 (x11_5 + 1))) = some r := by first | (rw [hy444]; with_reducible exact H) | (have H2_ := (Option.bind_some _ _).symm.trans H; rw [hy444]; with_reducible exact H2_) | (have H2_ := (Option.bind_some _ _).symm.trans H; with_reducible exact H2_) | with_reducible exact H | (rw [hy444]; exact H) | exact H
                                                                have Ny444 := Aside0.mk hy444
                                                                clear hy444
                                                                have H' := Aside0.mk H
                                                                clear H
                                                                have p439 : 0 ≤ (x10_4 : Int) := of_decide_eq_true (by first | (with_reducible assumption) | assumption)
                                                                have q439 : x10_4 < (l0.length : Int) := of_decide_eq_true (by first | (with_reducible assumption) | assumption)
                                                                obtain ⟨ad439, A439_0, c439_0, e439, hx439_0, hl439_0, hi439_0⟩ := at_L1 HR0.out x10_4 p439 q439
                                                                cases e439
                                                                replace hx439_0 := (HB.out.cell (World.block_lt_of_cell? w _ hx439_0)).trans hx439_0
                                                                have HR439_0 := Aside0.mk hi439_0
                                                                have HC439_0 := Aside0.mk hl439_0
                                                                clear hi439_0 hl439_0
                                                                replace p439 := eq_true p439
                                                                replace q439 := eq_true q439
                                                                have p440 : 0 ≤ (x11_5 : Int) := of_decide_eq_true (by first | (with_reducible assumption) | assumption)
                                                                have q440 : x11_5 < ((rd_L1 l0 x10_4).length : Int) := of_decide_eq_true (by first | (with_reducible assumption) | assumption)
                                                                obtain ⟨ad440, e440, hx440_0⟩ := Kd.at_int HR439_0.out x11_5 p440 q440
                                                                cases e440
                                                                replace hx440_0 := (HB.out.cell (World.block_lt_of_cell? w _ hx440_0)).trans hx440_0
                                                                replace p440 := eq_true p440
                                                                replace q440 := eq_true q440
                                                                have p441 : 0 ≤ ((rd (rd_L1 l0 x10_4) x11_5) : Int) := of_decide_eq_true (by first | (with_reducible assumption) | assumption)
                                                                have q441 : (rd (rd_L1 l0 x10_4) x11_5) < (x7_5.length : Int) := of_decide_eq_true (by first | (with_reducible assumption) | assumption)
                                                                obtain ⟨ad441, e441, hx441_0⟩ := Kd.at_bool (Kd.R_reads' HO_7.out).2.2 (rd (rd_L1 l0 x10_4) x11_5) p441 q441
                                                                (try rw [← Nbq28.out] at hx441_0)
                                                                (try rw [← Nbq50.out] at hx441_0)
                                                                obtain rfl : ad435 = ad441 := (by injection e441)
                                                                replace p441 := eq_true p441
                                                                replace q441 := eq_true q441
                                                                have p442 : 0 ≤ (x10_4 : Int) := of_decide_eq_true (by first | (with_reducible assumption) | assumption)
                                                                have q442 : x10_4 < (l0.length : Int) := of_decide_eq_true (by first | (with_reducible assumption) | assumption)
                                                                obtain ⟨ad442, A442_0, c442_0, e442, hx442_0, hl442_0, hi442_0⟩ := at_L1 HR0.out x10_4 p442 q442
                                                                obtain rfl : ad439 = ad442 := (by injection e442)
                                                                replace hx442_0 := (HB.out.cell (World.block_lt_of_cell? w _ hx442_0)).trans hx442_0
                                                                have HR442_0 := Aside0.mk hi442_0
                                                                have HC442_0 := Aside0.mk hl442_0
                                                                clear hi442_0 hl442_0
                                                                replace p442 := eq_true p442
                                                                replace q442 := eq_true q442
                                                                have ea_ := Option.some.inj (hx439_0.symm.trans hx442_0)
                                                                injection ea_ with ea_ en_ ec_
                                                                subst ea_
                                                                subst ec_
                                                                clear en_
                                                                have p443 : 0 ≤ (x11_5 : Int) := of_decide_eq_true (by first | (with_reducible assumption) | assumption)
                                                                have q443 : x11_5 < ((rd_L1 l0 x10_4).length : Int) := of_decide_eq_true (by first | (with_reducible assumption) | assumption)
                                                                obtain ⟨ad443, e443, hx443_0⟩ := Kd.at_int HR442_0.out x11_5 p443 q443
                                                                cases e443
                                                                replace hx443_0 := (HB.out.cell (World.block_lt_of_cell? w _ hx443_0)).trans hx443_0
                                                                replace p443 := eq_true p443
                                                                replace q443 := eq_true q443
                                                                have p54 : 0 ≤ (x10_4 : Int) := of_decide_eq_true (by first | (with_reducible assumption) | assumption)
                                                                have q54 : (x10_4 : Int) < ((x7_5.length : Int) : Int) := of_decide_eq_true (by first | (with_reducible assumption) | assumption)
                                                                obtain ⟨go54, co54, eo54, gb54, gl54, cl54, HG54⟩ := Kd.R_form HO_7.out (by omega)
                                                                (first | cases eo54 | (injection eo54 with ea_ en_ ec_; (first | subst ea_ | (injection ea_ with ea_; subst ea_)); subst ec_; clear en_))
                                                                have GB54 := Aside0.mk gb54
                                                                have GG54 := Aside0.mk HG54
                                                                clear gb54 gl54 HG54
                                                                (first | simp only [add_plain] at hx435_0 | skip)
                                                                (first | simp only [add_plain] at hx437_0 | skip)
                                                                (first | simp only [add_plain] at hx441_0 | skip)
                                                                obtain ⟨hx54_0, hf54_0⟩ := Kd.R_celln false HO_7.out (x10_4 : Int) p54 q54
                                                                replace p54 := eq_true p54
                                                                replace q54 := eq_true q54
                                                                have HP55 := Kd.R_putg HO_7.out (x10_4 : Int) true
                                                                go_wp2_with (first | ((with_reducible refine gate_store (t := 4) (p := 108) rfl ?_); refine store_event (t := 4) (p := 108) (v := ?vo_w56) (w1 := (wc.setCell ⟨go54, (x10_4 : Int).toNat, none⟩ (.bool true))) ?hg ?ho ?hn ?hr ?_; (case ho => rfl); (case hg => rfl); (case hn => rfl); (case hr => first | (go_simp; done) | (go_simp; rfl)); intro w56 hw; have hg : wc.grownBy w56 (some go54) := (by rw [hw]; exact HP55.2); have hp_ : Kd.R Kd.bool 4 w56 w.heap.size (fun _ => True) (.slice (some ⟨go54, 0, none⟩) x7_5.length co31) y444 := (by rw [hw, Ny444.out]; exact HP55.1); clear HP55; have n0_ := Aside0.mk (Kd.R_over' (v := (.slice (some ⟨go54, 0, none⟩) x7_5.length co31)) (by (with_reducible repeat (first | apply Kd.R_alloc | apply Kd.R_drewN | apply Kd.R_drew)); exact HO_3.out) (Kd.R_typed HO_7.out) (by decide) hg); have n1_ := Aside0.mk (Kd.R_over' (v := (.slice (some ⟨go54, 0, none⟩) x7_5.length co31)) (by (with_reducible repeat (first | apply Kd.R_alloc | apply Kd.R_drewN | apply Kd.R_drew)); exact HO_4.out) (Kd.R_typed HO_7.out) (by decide) hg); have n2_ := Aside0.mk (Kd.S_over' (v := (.slice (some ⟨go54, 0, none⟩) x7_5.length co31)) (by (with_reducible repeat (first | apply Kd.S_alloc | apply Kd.S_drewN | apply Kd.S_drew)); exact HO_5.out) (Kd.R_typed HO_7.out) (by decide) hg); have n3_ := Aside0.mk (hp_); have n4_ := Aside0.mk ((by rw [hw]; exact below_set (HB.out) GB54.out : Below w.heap.size w w56)); clear HO_3; clear HO_4; clear HO_5; clear HO_7; clear HB; have HO_3 := n0_; have HO_4 := n1_; have HO_5 := n2_; have HO_7 := n3_; have HB := n4_; clear n0_ n1_ n2_ n3_ n4_; clear hg hw hp_))
                                                                (try simp only [← hl7_5])
                                                                simp only [add_plain] at *
                                                                go_roundg kj33
                                                                case measure => have := HK1.out; have := HK2.out; have := HK3.out; have := HK4.out; have := HK5.out; have := HJ33.out; omega
                                                                case rel => exact ⟨(y444), (true), (wrap64 (x11_5 + 1)), (by first | rfl | (simp; done) | (simp [*]; done)), (by first | rfl | (simp; done) | (simp [*]; done)), H', ⟨by have := HK1.out; have := HK2.out; have := HK3.out; have := HK4.out; have := HK5.out; have := HJ33.out; omega⟩, ⟨by (try simp only [hl7_3]); (try simp only [hl7_4]); (try simp only [hl7_5]); (with_reducible repeat (first | apply Kd.R_alloc | apply Kd.R_drewN | apply Kd.R_drew)); exact HO_3.out⟩, ⟨by (try simp only [hl7_3]); (try simp only [hl7_4]); (try simp only [hl7_5]); (with_reducible repeat (first | apply Kd.R_alloc | apply Kd.R_drewN | apply Kd.R_drew)); exact HO_4.out⟩, ⟨by (try simp only [hl7_3]); (try simp only [hl7_4]); (try simp only [hl7_5]); (with_reducible repeat (first | apply Kd.S_alloc | apply Kd.S_drewN | apply Kd.S_drew)); exact HO_5.out⟩, ⟨by (try simp only [hl7_3]); (try simp only [hl7_4]); (try simp only [hl7_5]); (with_reducible repeat (first | apply Kd.R_alloc | apply Kd.R_drewN | apply Kd.R_drew)); exact HO_7.out⟩, ⟨by repeat (first | (with_reducible first | exact HB.out | apply below_alloc | apply pw_below_drewN | apply below_drew1) | exact HB.out)⟩⟩
                                                              · rw [if_neg c53] at H
                                                                exact absurd H (by simp)
                                                          · replace c51 := Bool.eq_false_iff.mpr c51
                                                            subst c51
                                                            have H1 : (swageref06_Loops.l4 kj33 l0 t422 t425 x5_1 x6_1 x7_5 x9_5 x10_4 (wrap64 (x11_5 + 1))) = some r := by rw [if_neg (show ¬ (false = true) by decide)] at H; exact H
                                                            clear H
                                                            have H := H1
                                                            clear H1
                                                            have H' := Aside0.mk H
                                                            clear H
                                                            have p439 : 0 ≤ (x10_4 : Int) := of_decide_eq_true (by first | (with_reducible assumption) | assumption)
                                                            have q439 : x10_4 < (l0.length : Int) := of_decide_eq_true (by first | (with_reducible assumption) | assumption)
                                                            obtain ⟨ad439, A439_0, c439_0, e439, hx439_0, hl439_0, hi439_0⟩ := at_L1 HR0.out x10_4 p439 q439
                                                            cases e439
                                                            replace hx439_0 := (HB.out.cell (World.block_lt_of_cell? w _ hx439_0)).trans hx439_0
                                                            have HR439_0 := Aside0.mk hi439_0
                                                            have HC439_0 := Aside0.mk hl439_0
                                                            clear hi439_0 hl439_0
                                                            replace p439 := eq_true p439
                                                            replace q439 := eq_true q439
                                                            have p440 : 0 ≤ (x11_5 : Int) := of_decide_eq_true (by first | (with_reducible assumption) | assumption)
                                                            have q440 : x11_5 < ((rd_L1 l0 x10_4).length : Int) := of_decide_eq_true (by first | (with_reducible assumption) | assumption)
                                                            obtain ⟨ad440, e440, hx440_0⟩ := Kd.at_int HR439_0.out x11_5 p440 q440
                                                            cases e440
                                                            replace hx440_0 := (HB.out.cell (World.block_lt_of_cell? w _ hx440_0)).trans hx440_0
                                                            replace p440 := eq_true p440
                                                            replace q440 := eq_true q440
                                                            have p441 : 0 ≤ ((rd (rd_L1 l0 x10_4) x11_5) : Int) := of_decide_eq_true (by first | (with_reducible assumption) | assumption)
                                                            have q441 : (rd (rd_L1 l0 x10_4) x11_5) < (x7_5.length : Int) := of_decide_eq_true (by first | (with_reducible assumption) | assumption)
                                                            obtain ⟨ad441, e441, hx441_0⟩ := Kd.at_bool (Kd.R_reads' HO_7.out).2.2 (rd (rd_L1 l0 x10_4) x11_5) p441 q441
                                                            (try rw [← Nbq28.out] at hx441_0)
                                                            (try rw [← Nbq50.out] at hx441_0)
                                                            obtain rfl : ad435 = ad441 := (by injection e441)
                                                            replace p441 := eq_true p441
                                                            replace q441 := eq_true q441
                                                            go_wp2
                                                            (try simp only [← hl7_5])
                                                            go_roundg kj33
                                                            case measure => have := HK1.out; have := HK2.out; have := HK3.out; have := HK4.out; have := HK5.out; have := HJ33.out; omega
                                                            case rel => exact ⟨(x7_5), (x9_5), (wrap64 (x11_5 + 1)), (by first | rfl | (simp; done) | (simp [*]; done)), (by first | rfl | (simp; done) | (simp [*]; done)), H', ⟨by have := HK1.out; have := HK2.out; have := HK3.out; have := HK4.out; have := HK5.out; have := HJ33.out; omega⟩, ⟨by (try simp only [hl7_3]); (try simp only [hl7_4]); (try simp only [hl7_5]); (with_reducible repeat (first | apply Kd.R_alloc | apply Kd.R_drewN | apply Kd.R_drew)); exact HO_3.out⟩, ⟨by (try simp only [hl7_3]); (try simp only [hl7_4]); (try simp only [hl7_5]); (with_reducible repeat (first | apply Kd.R_alloc | apply Kd.R_drewN | apply Kd.R_drew)); exact HO_4.out⟩, ⟨by (try simp only [hl7_3]); (try simp only [hl7_4]); (try simp only [hl7_5]); (with_reducible repeat (first | apply Kd.S_alloc | apply Kd.S_drewN | apply Kd.S_drew)); exact HO_5.out⟩, ⟨by (try simp only [hl7_3]); (try simp only [hl7_4]); (try simp only [hl7_5]); (with_reducible repeat (first | apply Kd.R_alloc | apply Kd.R_drewN | apply Kd.R_drew)); exact HO_7.out⟩, ⟨by repeat (first | (with_reducible first | exact HB.out | apply below_alloc | apply pw_below_drewN | apply below_drew1) | exact HB.out)⟩⟩
                                                        · rw [if_neg c49] at H
                                                          exact absurd H (by simp)
                                                      · rw [if_neg c48] at H
                                                        exact absurd H (by simp)
                                                    · rw [if_neg c47] at H
                                                      exact absurd H (by simp)
                                                  · rw [if_neg c46] at H
                                                    exact absurd H (by simp)
                                                · rw [if_neg c45] at H
                                                  exact absurd H (by simp)
                                              · rw [if_neg c44] at H
                                                exact absurd H (by simp)
                                            · replace c43 := Bool.eq_false_iff.mpr c43
                                              subst c43
                                              have H1 : (swageref06_Loops.l3 kj33 l0 t422 t425 x5_1 x6_1 x7_5 x9_5 (wrap64 (x10_4 + 1))) = some r := by rw [if_neg (show ¬ (false = true) by decide)] at H; exact H
                                              clear H
                                              have H := H1
                                              clear H1
                                              have H' := Aside0.mk H
                                              clear H
                                              go_wp2
                                              (try simp only [← hl7_4, ← hl7_5])
                                              go_roundg kj33
                                              case measure => have := HK1.out; have := HK2.out; have := HK3.out; have := HK4.out; have := HK5.out; have := HJ33.out; omega
                                              case rel => exact ⟨(x7_5), (x9_5), (wrap64 (x10_4 + 1)), (by first | rfl | (simp; done) | (simp [*]; done)), (by first | rfl | (simp; done) | (simp [*]; done)), H', ⟨by have := HK1.out; have := HK2.out; have := HK3.out; have := HK4.out; have := HK5.out; have := HJ33.out; omega⟩, ⟨by (try simp only [hl7_3]); (try simp only [hl7_4]); (try simp only [hl7_5]); (with_reducible repeat (first | apply Kd.R_alloc | apply Kd.R_drewN | apply Kd.R_drew)); exact HO_3.out⟩, ⟨by (try simp only [hl7_3]); (try simp only [hl7_4]); (try simp only [hl7_5]); (with_reducible repeat (first | apply Kd.R_alloc | apply Kd.R_drewN | apply Kd.R_drew)); exact HO_4.out⟩, ⟨by (try simp only [hl7_3]); (try simp only [hl7_4]); (try simp only [hl7_5]); (with_reducible repeat (first | apply Kd.S_alloc | apply Kd.S_drewN | apply Kd.S_drew)); exact HO_5.out⟩, ⟨by (try simp only [hl7_3]); (try simp only [hl7_4]); (try simp only [hl7_5]); (with_reducible repeat (first | apply Kd.R_alloc | apply Kd.R_drewN | apply Kd.R_drew)); exact HO_7.out⟩, ⟨by repeat (first | (with_reducible first | exact HB.out | apply below_alloc | apply pw_below_drewN | apply below_drew1) | exact HB.out)⟩⟩
                                  · rw [if_neg c33] at H
                                    have c33b0 : decide (x10_4 < (l0.length : Int)) = false := decide_eq_false c33
                                    clear c33
                                    have H' := Aside0.mk H
                                    clear H
                                    go_wp2
                                    (try simp only [← hl7_3, ← hl7_4])
                                    go_roundg k4
                                    case measure => have := HK1.out; have := HK2.out; have := HK3.out; have := HK4.out; omega
                                    case rel => exact ⟨(x7_4), (x9_4), (by first | rfl | (simp; done) | (simp [*]; done)), H', ⟨by have := HK1.out; have := HK2.out; have := HK3.out; have := HK4.out; omega⟩, ⟨by (try simp only [hl7_3]); (try simp only [hl7_4]); (with_reducible repeat (first | apply Kd.R_alloc | apply Kd.R_drewN | apply Kd.R_drew)); exact HO_3.out⟩, ⟨by (try simp only [hl7_3]); (try simp only [hl7_4]); (with_reducible repeat (first | apply Kd.R_alloc | apply Kd.R_drewN | apply Kd.R_drew)); exact HO_4.out⟩, ⟨by (try simp only [hl7_3]); (try simp only [hl7_4]); (with_reducible repeat (first | apply Kd.S_alloc | apply Kd.S_drewN | apply Kd.S_drew)); exact HO_5.out⟩, ⟨by (try simp only [hl7_3]); (try simp only [hl7_4]); (with_reducible repeat (first | apply Kd.R_alloc | apply Kd.R_drewN | apply Kd.R_drew)); exact HO_7.out⟩, ⟨by repeat (first | (with_reducible first | exact HB.out | apply below_alloc | apply pw_below_drewN | apply below_drew1) | exact HB.out)⟩⟩
                            · replace c32 := Bool.eq_false_iff.mpr c32
                              subst c32
                              have H1 : (swageref06_Loops.l5 k3 l0 t422 t425 x5_1 x6_1 x7_3 (([x6_1] : List Int)) 0) = some r := by rw [if_neg (show ¬ (false = true) by decide)] at H; exact H
                              clear H
                              have H := H1
                              clear H1
                              obtain ⟨y445, hy445⟩ : ∃ y_ : List Int, y_ = (([x6_1] : List Int)) := ⟨_, rfl⟩
                              replace H : (swageref06_Loops.l5 k3 l0 t422 t425 x5_1 x6_1 x7_3 y445 0) = some r := by first | (rw [hy445]; with_reducible exact H) | (have H2_ := (Option.bind_some _ _).symm.trans H; rw [hy445]; with_reducible exact H2_) | (have H2_ := (Option.bind_some _ _).symm.trans H; with_reducible exact H2_) | with_reducible exact H | (rw [hy445]; exact H) | exact H
                              have Ny445 := Aside0.mk hy445
                              clear hy445
                              have H' := Aside0.mk H
                              clear H
                              go_wp2_with (first | ((with_reducible refine gate_dst (N := 110) rfl ?_); refine Kd.R_lit (Kd.int .i64) _ 3 ?hg (N := 110) ?hd (xs := ([x6_1] : List Int)) (inner := [.int .i64 x6_1]) (ok := fun _ => True) (okp := fun _ => True) ?hr ?hp (fun _ hk => hk) trivial (Below.refl _ _) (Nat.le_refl _) (by simp) ?_; (case hd => rfl); (case hg => rfl); (case hr => first | (go_simp; done) | (go_simp; rfl)); (case hp => exact (Reps.one (show Kd.M (Kd.int .i64) _ _ _ x6_1 [.int .i64 x6_1] from rfl) (Reps.none _ _))); intro v446 w57 ho58 hb hg_ hnew_; clear hg_ hnew_; (first | rw [← Ny445.out] at ho58 | (simp only [Int.reduceToNat] at ho58; rw [← Ny445.out] at ho58)); have n0_ := Aside0.mk (Kd.R_below (by (with_reducible repeat (first | apply Kd.R_alloc | apply Kd.R_drewN | apply Kd.R_drew)); exact HO_3.out) hb); have n1_ := Aside0.mk (Kd.R_elder' (by (with_reducible repeat (first | apply Kd.R_alloc | apply Kd.R_drewN | apply Kd.R_drew)); exact HO_4.out) (Kd.R_base ho58) hb); have n2_ := Aside0.mk (Kd.S_elder' (by (with_reducible repeat (first | apply Kd.S_alloc | apply Kd.S_drewN | apply Kd.S_drew)); exact HO_5.out) (Kd.R_base ho58) hb); have n3_ := Aside0.mk (Kd.R_below (by (with_reducible repeat (first | apply Kd.R_alloc | apply Kd.R_drewN | apply Kd.R_drew)); exact HO_7.out) hb); have n4_ := Aside0.mk (Kd.R_lower (Kd.R_new' ho58 (Kd.R_lt (by (with_reducible repeat (first | apply Kd.R_alloc | apply Kd.R_drewN | apply Kd.R_drew)); exact HO_4.out))) (below_size (by repeat (first | (with_reducible first | exact HB.out | apply below_alloc | apply pw_below_drewN | apply below_drew1) | exact HB.out)))); have n5_ := Aside0.mk (below_step (by repeat (first | (with_reducible first | exact HB.out | apply below_alloc | apply pw_below_drewN | apply below_drew1) | exact HB.out)) hb); clear HO_3; clear HO_4; clear HO_5; clear HO_7; clear HB; have HO_3 := n0_; have HO_4 := n1_; have HO_5 := n2_; have HO_7 := n3_; have HO447 := n4_; have HB := n5_; clear n0_ n1_ n2_ n3_ n4_ n5_; clear hb ho58))
                              go_loopg [12, 13] k3 (fun kq v12 v13 w' => ∃ (x12_4 : List Int) (x13_4 : Int), v13 = .int .i64 x13_4 ∧ Aside0 (swageref06_Loops.l5 kq l0 t422 t425 x5_1 x6_1 x7_3 x12_4 x13_4 = some r) ∧ Aside0 (kq ≤ k3) ∧ Aside0 (Kd.R k37 37 w' w.heap.size (fun _ => True) (.slice Ao30 t422.length co30) t422) ∧ Aside0 (Kd.R (Kd.int .i64) 3 w' w.heap.size (fun k_ => some k_ ≠ (v12 : Value).ownBlock) v426 t425) ∧ Aside0 (Kd.S (Kd.slice 3 (Kd.int .i64)) 27 w' w.heap.size (fun k_ => some k_ ≠ (v426 : Value).ownBlock ∧ some k_ ≠ (v12 : Value).ownBlock) u5 x5_1) ∧ Aside0 (Kd.R Kd.bool 4 w' w.heap.size (fun _ => True) (.slice (some ad435) x7_3.length co31) x7_3) ∧ Aside0 (Kd.R (Kd.int .i64) 3 w' w.heap.size (fun k_ => some k_ ≠ (v426 : Value).ownBlock) v12 x12_4) ∧ Aside0 (Below w.heap.size w w'))
                              case atStart => exact ⟨(y445), (0), (by first | rfl | (simp; done) | (simp [*]; done)), H', ⟨Nat.le_refl _⟩, ⟨by (try simp only [hl7_3]); (with_reducible repeat (first | apply Kd.R_alloc | apply Kd.R_drewN | apply Kd.R_drew)); exact HO_3.out⟩, ⟨by (try simp only [hl7_3]); (with_reducible repeat (first | apply Kd.R_alloc | apply Kd.R_drewN | apply Kd.R_drew)); exact Kd.R_mono HO_4.out (fun _ hk => hk.2)⟩, ⟨by (try simp only [hl7_3]); (with_reducible repeat (first | apply Kd.S_alloc | apply Kd.S_drewN | apply Kd.S_drew)); exact HO_5.out⟩, ⟨by (try simp only [hl7_3]); (with_reducible repeat (first | apply Kd.R_alloc | apply Kd.R_drewN | apply Kd.R_drew)); exact HO_7.out⟩, ⟨by (try simp only [hl7_3]); (with_reducible repeat (first | apply Kd.R_alloc | apply Kd.R_drewN | apply Kd.R_drew)); exact Kd.R_mono HO447.out (fun _ hk => hk.2)⟩, ⟨by repeat (first | (with_reducible first | exact HB.out | apply below_alloc | apply pw_below_drewN | apply below_drew1) | exact HB.out)⟩⟩
                              case round =>
                                clear H'
                                try clear c1
                                try clear p1
                                try clear q1
                                try clear hx1
                                try clear hf1
                                try clear c2
                                try clear p2
                                try clear q2
                                try clear c3
                                try clear q3
                                try clear c4
                                try clear p4
                                try clear q4
                                try clear hx4
                                try clear c5
                                try clear p5
                                try clear q5
                                try clear hx5
                                try clear hf5
                                try clear c6
                                try clear c6b0
                                try clear p6
                                try clear c7
                                try clear c7b0
                                try clear c7b1
                                try clear c8
                                try clear c8b0
                                try clear c8b1
                                try clear c11
                                try clear c11b0
                                try clear c12
                                try clear c12b0
                                try clear c13
                                try clear c13b0
                                try clear c13b1
                                try clear c14
                                try clear c14b0
                                try clear c15
                                try clear c15b0
                                try clear p16
                                try clear q16
                                try clear hx16
                                try clear hf16
                                try clear c17
                                try clear c17b0
                                try clear c18
                                try clear c18b0
                                try clear p19
                                try clear q19
                                try clear hx19
                                try clear hf19
                                try clear c26
                                try clear c26b0
                                try clear c27
                                try clear c27b0
                                try clear q28
                                try clear c29
                                try clear c31
                                try clear c32
                                try clear c33
                                try clear c33b0
                                try clear c35
                                try clear c35b0
                                try clear c36
                                try clear c36b0
                                try clear c37
                                try clear c37b0
                                try clear c38
                                try clear c38b0
                                try clear q39
                                try clear c40
                                try clear c41
                                try clear c41b0
                                try clear c43
                                try clear p43
                                try clear q43
                                try clear hx43
                                try clear c44
                                try clear c44b0
                                try clear p44
                                try clear q44
                                try clear hx44
                                try clear c45
                                try clear c45b0
                                try clear c46
                                try clear c46b0
                                try clear c47
                                try clear c47b0
                                try clear c48
                                try clear c48b0
                                try clear c49
                                try clear c49b0
                                try clear q50
                                try clear c51
                                try clear c52
                                try clear c52b0
                                try clear c52b1
                                try clear c53
                                try clear c53b0
                                try clear p54
                                try clear q54
                                try clear hx54
                                try clear hf54
                                try clear hx16_0
                                try clear hx19_0
                                try clear hx431_0
                                try clear hx431_1
                                try clear hx433_0
                                try clear hx433_1
                                try clear hx435_0
                                try clear hx436_0
                                try clear hx437_0
                                try clear hx438_0
                                try clear hx439_0
                                try clear hx440_0
                                try clear hx441_0
                                try clear hx442_0
                                try clear hx443_0
                                try clear hx54_0
                                try clear p1
                                try clear p16
                                try clear p19
                                try clear p2
                                try clear p4
                                try clear p431
                                try clear p433
                                try clear p435
                                try clear p436
                                try clear p437
                                try clear p438
                                try clear p439
                                try clear p440
                                try clear p441
                                try clear p442
                                try clear p443
                                try clear p54
                                try clear p6
                                try clear q1
                                try clear q16
                                try clear q19
                                try clear q2
                                try clear q28
                                try clear q3
                                try clear q39
                                try clear q4
                                try clear q431
                                try clear q433
                                try clear q435
                                try clear q436
                                try clear q437
                                try clear q438
                                try clear q439
                                try clear q440
                                try clear q441
                                try clear q442
                                try clear q443
                                try clear q54
                                obtain ⟨x12_4, x13_4, rfl, HA, HK4, HO_3, HO_4, HO_5, HO_7, HO_12, HB⟩ := hrel
                                cases gk with
                                | zero => exact absurd HA.out (by simp [swageref06_Loops.l5])
                                | succ k4 =>
                                  have H := HA.out
                                  clear HA
                                  simp only [swageref06_Loops.l5] at H
                                  by_cases c59 : x13_4 < (l0.length : Int)
                                  · rw [if_pos c59] at H
                                    have c59b0 : decide (x13_4 < (l0.length : Int)) = true := decide_eq_true c59
                                    clear c59
                                    by_cases c60 : 0 ≤ x13_4
                                    · rw [if_pos c60] at H
                                      have c60b0 : decide (0 ≤ x13_4) = true := decide_eq_true c60
                                      clear c60
                                      by_cases c61 : x13_4 < (x7_3.length : Int)
                                      · rw [if_pos c61] at H
                                        have c61b0 : decide (x13_4 < (x7_3.length : Int)) = true := decide_eq_true c61
                                        clear c61
                                        obtain ⟨bq62, hbq62⟩ : ∃ b_ : Bool, b_ = (rdOf false x7_3 x13_4) := ⟨_, rfl⟩
                                        replace H : (if bq62 = true then (if x13_4 = x6_1 then (swageref06_Loops.l5 k4 l0 t422 t425 x5_1 x6_1 x7_3 x12_4 (wrap64 (x13_4 + 1))) else (if x12_4.length < 17592186044416 then (swageref06_Loops.l5 k4 l0 t422 t425 x5_1 x6_1 x7_3 (x12_4 ++ [x13_4]) (wrap64 (x13_4 + 1))) else (none))) else (swageref06_Loops.l5 k4 l0 t422 t425 x5_1 x6_1 x7_3 x12_4 (wrap64 (x13_4 + 1)))) = some r := by rw [← hbq62] at H; exact H
                                        have Nbq62 := Aside0.mk hbq62
                                        clear hbq62
                                        by_cases c63 : bq62 = true
                                        · subst c63
                                          have H1 : (if x13_4 = x6_1 then (swageref06_Loops.l5 k4 l0 t422 t425 x5_1 x6_1 x7_3 x12_4 (wrap64 (x13_4 + 1))) else (if x12_4.length < 17592186044416 then (swageref06_Loops.l5 k4 l0 t422 t425 x5_1 x6_1 x7_3 (x12_4 ++ [x13_4]) (wrap64 (x13_4 + 1))) else (none))) = some r := by rw [if_pos rfl] at H; exact H
                                          clear H
                                          have H := H1
                                          clear H1
                                          by_cases c64 : x13_4 = x6_1
                                          · rw [if_pos c64] at H
                                            have c64b0 : (x13_4 == x6_1) = true := beq_iff_eq.mpr c64
                                            have c64b1 : (x13_4 != x6_1) = false := bne_eq_false_iff_eq.mpr c64
                                            clear c64
                                            have H' := Aside0.mk H
                                            clear H
                                            have p448 : 0 ≤ (x13_4 : Int) := of_decide_eq_true (by first | (with_reducible assumption) | assumption)
                                            have q448 : x13_4 < (x7_3.length : Int) := of_decide_eq_true (by first | (with_reducible assumption) | assumption)
                                            obtain ⟨ad448, e448, hx448_0⟩ := Kd.at_bool (Kd.R_reads' HO_7.out).2.2 x13_4 p448 q448
                                            (try rw [← Nbq28.out] at hx448_0)
                                            (try rw [← Nbq62.out] at hx448_0)
                                            obtain rfl : ad435 = ad448 := (by injection e448)
                                            replace p448 := eq_true p448
                                            replace q448 := eq_true q448
                                            go_wp2
                                            go_roundg k4
                                            case measure => have := HK1.out; have := HK2.out; have := HK3.out; have := HK4.out; omega
                                            case rel => exact ⟨(x12_4), (wrap64 (x13_4 + 1)), (by first | rfl | (simp; done) | (simp [*]; done)), H', ⟨by have := HK1.out; have := HK2.out; have := HK3.out; have := HK4.out; omega⟩, ⟨by (try simp only [hl7_3]); (with_reducible repeat (first | apply Kd.R_alloc | apply Kd.R_drewN | apply Kd.R_drew)); exact HO_3.out⟩, ⟨by (try simp only [hl7_3]); (with_reducible repeat (first | apply Kd.R_alloc | apply Kd.R_drewN | apply Kd.R_drew)); exact HO_4.out⟩, ⟨by (try simp only [hl7_3]); (with_reducible repeat (first | apply Kd.S_alloc | apply Kd.S_drewN | apply Kd.S_drew)); exact HO_5.out⟩, ⟨by (try simp only [hl7_3]); (with_reducible repeat (first | apply Kd.R_alloc | apply Kd.R_drewN | apply Kd.R_drew)); exact HO_7.out⟩, ⟨by (try simp only [hl7_3]); (with_reducible repeat (first | apply Kd.R_alloc | apply Kd.R_drewN | apply Kd.R_drew)); exact HO_12.out⟩, ⟨by repeat (first | (with_reducible first | exact HB.out | apply below_alloc | apply pw_below_drewN | apply below_drew1) | exact HB.out)⟩⟩
                                          · rw [if_neg c64] at H
                                            have c64b0 : (x13_4 == x6_1) = false := beq_eq_false_iff_ne.mpr c64
                                            have c64b1 : (x13_4 != x6_1) = true := bne_iff_ne.mpr c64
                                            by_cases c65 : x12_4.length < 17592186044416
                                            · rw [if_pos c65] at H
                                              have LMc65 := Aside0.mk c65
                                              clear c65
                                              obtain ⟨y449, hy449⟩ : ∃ y_ : List Int, y_ = (x12_4 ++ [x13_4]) := ⟨_, rfl⟩
                                              replace H : (swageref06_Loops.l5 k4 l0 t422 t425 x5_1 x6_1 x7_3 y449 (wrap64 (x13_4 + 1))) = some r := by first | (rw [hy449]; with_reducible exact H) | (have H2_ := (Option.bind_some _ _).symm.trans H; rw [hy449]; with_reducible exact H2_) | (have H2_ := (Option.bind_some _ _).symm.trans H; with_reducible exact H2_) | with_reducible exact H | (rw [hy449]; exact H) | exact H
                                              have Ny449 := Aside0.mk hy449
                                              clear hy449
                                              have H' := Aside0.mk H
                                              clear H
                                              have p448 : 0 ≤ (x13_4 : Int) := of_decide_eq_true (by first | (with_reducible assumption) | assumption)
                                              have q448 : x13_4 < (x7_3.length : Int) := of_decide_eq_true (by first | (with_reducible assumption) | assumption)
                                              obtain ⟨ad448, e448, hx448_0⟩ := Kd.at_bool (Kd.R_reads' HO_7.out).2.2 x13_4 p448 q448
                                              (try rw [← Nbq28.out] at hx448_0)
                                              (try rw [← Nbq62.out] at hx448_0)
                                              obtain rfl : ad435 = ad448 := (by injection e448)
                                              replace p448 := eq_true p448
                                              replace q448 := eq_true q448
                                              go_wp2_with (first | ((with_reducible refine gate_builtin (b := .append) (xs := #[.tmp 126, .tmp 128]) rfl ?_); at_builtin; refine Kd.R_append (Kd.int .i64) (w0 := w) w.heap.size rfl (.tmp 126) (.tmp 128) 27 3 (.int .i64 0) 8 rfl Try.underlying27 info3 rfl (by decide) (by omega) u12 x12_4 x13_4 [.int .i64 x13_4] (fun k_ => some k_ ≠ (v426 : Value).ownBlock) (fun _ => False) rfl rfl ?aP (fun _ hk => hk.elim) ?aF ?aO ?aB ?aS ?aL ?_; (case aP => exact rfl); (case aB => exact (by repeat (first | (with_reducible first | exact HB.out | apply below_alloc | apply pw_below_drewN | apply below_drew1) | exact HB.out))); (case aF => exact (fun k_ hk => Kd.fresh' (Kd.R_lt (by (with_reducible repeat (first | apply Kd.R_alloc | apply Kd.R_drewN | apply Kd.R_drew)); exact HO_4.out)) k_ hk)); (case aO => exact (by (with_reducible repeat (first | apply Kd.R_alloc | apply Kd.R_drewN | apply Kd.R_drew)); exact HO_12.out)); (case aS => exact (below_size (by repeat (first | (with_reducible first | exact HB.out | apply below_alloc | apply pw_below_drewN | apply below_drew1) | exact HB.out)))); (case aL => have := LMc65.out; omega); intro v450 w66 ho hb hg hat; rw [← Ny449.out] at ho; have n0_ := Aside0.mk (Kd.R_over' (by (with_reducible repeat (first | apply Kd.R_alloc | apply Kd.R_drewN | apply Kd.R_drew)); exact HO_3.out) (Kd.R_typed (by (with_reducible repeat (first | apply Kd.R_alloc | apply Kd.R_drewN | apply Kd.R_drew)); exact HO_12.out)) (by decide) hg); have n1_ := Aside0.mk (Kd.R_after (ok := (fun _ => True)) (by (with_reducible repeat (first | apply Kd.R_alloc | apply Kd.R_drewN | apply Kd.R_drew)); exact Kd.R_mono HO_4.out (fun _ hk => ⟨trivial, hk⟩)) hg hat); have n2_ := Aside0.mk (Kd.S_after (ok := (fun k_ => some k_ ≠ (v426 : Value).ownBlock)) (by (with_reducible repeat (first | apply Kd.S_alloc | apply Kd.S_drewN | apply Kd.S_drew)); exact HO_5.out) hg hat); have n3_ := Aside0.mk (Kd.R_over' (by (with_reducible repeat (first | apply Kd.R_alloc | apply Kd.R_drewN | apply Kd.R_drew)); exact HO_7.out) (Kd.R_typed (by (with_reducible repeat (first | apply Kd.R_alloc | apply Kd.R_drewN | apply Kd.R_drew)); exact HO_12.out)) (by decide) hg); have n4_ := Aside0.mk (hb); have n5_ := Aside0.mk (ho); clear HO_3; clear HO_4; clear HO_5; clear HO_7; clear HB; clear HO_12; have HO_3 := n0_; have HO_4 := n1_; have HO_5 := n2_; have HO_7 := n3_; have HB := n4_; have HO451 := n5_; clear n0_ n1_ n2_ n3_ n4_ n5_; clear ho hb hg hat))
                                              go_roundg k4
                                              case measure => have := HK1.out; have := HK2.out; have := HK3.out; have := HK4.out; omega
                                              case rel => exact ⟨(y449), (wrap64 (x13_4 + 1)), (by first | rfl | (simp; done) | (simp [*]; done)), H', ⟨by have := HK1.out; have := HK2.out; have := HK3.out; have := HK4.out; omega⟩, ⟨by (try simp only [hl7_3]); (with_reducible repeat (first | apply Kd.R_alloc | apply Kd.R_drewN | apply Kd.R_drew)); exact HO_3.out⟩, ⟨by (try simp only [hl7_3]); (with_reducible repeat (first | apply Kd.R_alloc | apply Kd.R_drewN | apply Kd.R_drew)); exact Kd.R_mono HO_4.out (fun _ hk => hk.2)⟩, ⟨by (try simp only [hl7_3]); (with_reducible repeat (first | apply Kd.S_alloc | apply Kd.S_drewN | apply Kd.S_drew)); exact HO_5.out⟩, ⟨by (try simp only [hl7_3]); (with_reducible repeat (first | apply Kd.R_alloc | apply Kd.R_drewN | apply Kd.R_drew)); exact HO_7.out⟩, ⟨by (try simp only [hl7_3]); (with_reducible repeat (first | apply Kd.R_alloc | apply Kd.R_drewN | apply Kd.R_drew)); exact HO451.out⟩, ⟨by repeat (first | (with_reducible first | exact HB.out | apply below_alloc | apply pw_below_drewN | apply below_drew1) | exact HB.out)⟩⟩
                                            · rw [if_neg c65] at H
                                              exact absurd H (by simp)
                                        · replace c63 := Bool.eq_false_iff.mpr c63
                                          subst c63
                                          have H1 : (swageref06_Loops.l5 k4 l0 t422 t425 x5_1 x6_1 x7_3 x12_4 (wrap64 (x13_4 + 1))) = some r := by rw [if_neg (show ¬ (false = true) by decide)] at H; exact H
                                          clear H
                                          have H := H1
                                          clear H1
                                          have H' := Aside0.mk H
                                          clear H
                                          have p448 : 0 ≤ (x13_4 : Int) := of_decide_eq_true (by first | (with_reducible assumption) | assumption)
                                          have q448 : x13_4 < (x7_3.length : Int) := of_decide_eq_true (by first | (with_reducible assumption) | assumption)
                                          obtain ⟨ad448, e448, hx448_0⟩ := Kd.at_bool (Kd.R_reads' HO_7.out).2.2 x13_4 p448 q448
                                          (try rw [← Nbq28.out] at hx448_0)
                                          (try rw [← Nbq62.out] at hx448_0)
                                          obtain rfl : ad435 = ad448 := (by injection e448)
                                          replace p448 := eq_true p448
                                          replace q448 := eq_true q448
                                          go_wp2
                                          go_roundg k4
                                          case measure => have := HK1.out; have := HK2.out; have := HK3.out; have := HK4.out; omega
                                          case rel => exact ⟨(x12_4), (wrap64 (x13_4 + 1)), (by first | rfl | (simp; done) | (simp [*]; done)), H', ⟨by have := HK1.out; have := HK2.out; have := HK3.out; have := HK4.out; omega⟩, ⟨by (try simp only [hl7_3]); (with_reducible repeat (first | apply Kd.R_alloc | apply Kd.R_drewN | apply Kd.R_drew)); exact HO_3.out⟩, ⟨by (try simp only [hl7_3]); (with_reducible repeat (first | apply Kd.R_alloc | apply Kd.R_drewN | apply Kd.R_drew)); exact HO_4.out⟩, ⟨by (try simp only [hl7_3]); (with_reducible repeat (first | apply Kd.S_alloc | apply Kd.S_drewN | apply Kd.S_drew)); exact HO_5.out⟩, ⟨by (try simp only [hl7_3]); (with_reducible repeat (first | apply Kd.R_alloc | apply Kd.R_drewN | apply Kd.R_drew)); exact HO_7.out⟩, ⟨by (try simp only [hl7_3]); (with_reducible repeat (first | apply Kd.R_alloc | apply Kd.R_drewN | apply Kd.R_drew)); exact HO_12.out⟩, ⟨by repeat (first | (with_reducible first | exact HB.out | apply below_alloc | apply pw_below_drewN | apply below_drew1) | exact HB.out)⟩⟩
                                      · rw [if_neg c61] at H
                                        exact absurd H (by simp)
                                    · rw [if_neg c60] at H
                                      exact absurd H (by simp)
                                  · rw [if_neg c59] at H
                                    have c59b0 : decide (x13_4 < (l0.length : Int)) = false := decide_eq_false c59
                                    clear c59
                                    by_cases c67 : x5_1.length < 5864062014805
                                    · rw [if_pos c67] at H
                                      have LMc67 := Aside0.mk c67
                                      clear c67
                                      obtain ⟨y452, hy452⟩ : ∃ y_ : List (List Int), y_ = (x5_1 ++ [x12_4]) := ⟨_, rfl⟩
                                      replace H : (swageref06_Loops.l0 k4 l0 t422 t425 y452 (wrap64 (x6_1 + 1))) = some r := by first | (rw [hy452]; with_reducible exact H) | (have H2_ := (Option.bind_some _ _).symm.trans H; rw [hy452]; with_reducible exact H2_) | (have H2_ := (Option.bind_some _ _).symm.trans H; with_reducible exact H2_) | with_reducible exact H | (rw [hy452]; exact H) | exact H
                                      have Ny452 := Aside0.mk hy452
                                      clear hy452
                                      have H' := Aside0.mk H
                                      clear H
                                      obtain ⟨Ao69, co69, eo69⟩ := Kd.R_slice HO_12.out
                                      subst eo69
                                      go_wp2_with (first | ((with_reducible refine gate_builtin (b := .append) (xs := #[.tmp 130, .tmp 132]) rfl ?_); at_builtin; refine Kd.S_append (Kd.slice 3 (Kd.int .i64)) (w0 := w) w.heap.size rfl (.tmp 130) (.tmp 132) 22 27 (.slice none 0 0) 24 rfl Try.underlying22 info27 rfl (by decide) (by omega) u5 x5_1 x12_4 [.slice Ao69 x12_4.length co69] (fun k_ => some k_ ≠ (v426 : Value).ownBlock) (fun k_ => some k_ = (.slice Ao69 x12_4.length co69 : Value).ownBlock) rfl rfl ?aP (fun k_ hk_ => ((Kd.R_mono (ok' := fun k_ => ((fun k_ => some k_ ≠ (v426 : Value).ownBlock)) k_ ∧ some k_ ≠ (u5 : Value).ownBlock) (Kd.R_apart' (HO_12.out) (Kd.S_typed HO_5.out) (by decide)) (fun k_ hk => ⟨hk.1, hk.2⟩))).1 k_ hk_.symm) ?aF ?aO ?aB ?aS ?aL ?_; (case aP => exact Kd.M_row (Kd.R_mono (Kd.R_tight rfl (Kd.R_mono (ok' := fun k_ => ((fun k_ => some k_ ≠ (v426 : Value).ownBlock)) k_ ∧ some k_ ≠ (u5 : Value).ownBlock) (Kd.R_apart' (HO_12.out) (Kd.S_typed HO_5.out) (by decide)) (fun k_ hk => ⟨hk.1, hk.2⟩))) (fun _ h_ => h_))); (case aB => exact (by repeat (first | (with_reducible first | exact HB.out | apply below_alloc | apply pw_below_drewN | apply below_drew1) | exact HB.out))); (case aF => exact (fun k_ hk => Kd.fresh' (Kd.R_lt (by (with_reducible repeat (first | apply Kd.R_alloc | apply Kd.R_drewN | apply Kd.R_drew)); exact HO_4.out)) k_ hk)); (case aO => exact (by (with_reducible repeat (first | apply Kd.S_alloc | apply Kd.S_drewN | apply Kd.S_drew)); exact Kd.S_mono HO_5.out (fun k_ hk => ⟨hk.1, fun e_ => hk.2 e_⟩))); (case aS => exact (below_size (by repeat (first | (with_reducible first | exact HB.out | apply below_alloc | apply pw_below_drewN | apply below_drew1) | exact HB.out)))); (case aL => have := LMc67.out; omega); intro v453 w68 ho hb hg hat; rw [← Ny452.out] at ho; have n0_ := Aside0.mk (Kd.R_over' (by (with_reducible repeat (first | apply Kd.R_alloc | apply Kd.R_drewN | apply Kd.R_drew)); exact HO_3.out) (Kd.S_typed (by (with_reducible repeat (first | apply Kd.S_alloc | apply Kd.S_drewN | apply Kd.S_drew)); exact HO_5.out)) (by decide) hg); have n1_ := Aside0.mk (Kd.R_over' (by (with_reducible repeat (first | apply Kd.R_alloc | apply Kd.R_drewN | apply Kd.R_drew)); exact HO_4.out) (Kd.S_typed (by (with_reducible repeat (first | apply Kd.S_alloc | apply Kd.S_drewN | apply Kd.S_drew)); exact HO_5.out)) (by decide) hg); have n2_ := Aside0.mk (Kd.R_over' (by (with_reducible repeat (first | apply Kd.R_alloc | apply Kd.R_drewN | apply Kd.R_drew)); exact HO_7.out) (Kd.S_typed (by (with_reducible repeat (first | apply Kd.S_alloc | apply Kd.S_drewN | apply Kd.S_drew)); exact HO_5.out)) (by decide) hg); have n3_ := Aside0.mk (hb); have n4_ := Aside0.mk (ho); clear HO_3; clear HO_4; clear HO_7; clear HB; clear HO_5; clear HO_12; have HO_3 := n0_; have HO_4 := n1_; have HO_7 := n2_; have HB := n3_; have HO454 := n4_; clear n0_ n1_ n2_ n3_ n4_; clear ho hb hg hat))
                                      (try simp only [← hl7_3])
                                      go_roundg k4
                                      case measure => have := HK1.out; have := HK2.out; have := HK3.out; have := HK4.out; omega
                                      case rel => exact ⟨(y452), (wrap64 (x6_1 + 1)), (by first | rfl | (simp; done) | (simp [*]; done)), H', ⟨by have := HK1.out; have := HK2.out; have := HK3.out; have := HK4.out; omega⟩, ⟨by (try simp only [hl7_3]); (with_reducible repeat (first | apply Kd.R_alloc | apply Kd.R_drewN | apply Kd.R_drew)); exact HO_3.out⟩, ⟨by (try simp only [hl7_3]); (with_reducible repeat (first | apply Kd.R_alloc | apply Kd.R_drewN | apply Kd.R_drew)); exact Kd.R_mono HO_4.out (fun _ hk => trivial)⟩, ⟨by (try simp only [hl7_3]); (with_reducible repeat (first | apply Kd.S_alloc | apply Kd.S_drewN | apply Kd.S_drew)); exact HO454.out⟩, ⟨by repeat (first | (with_reducible first | exact HB.out | apply below_alloc | apply pw_below_drewN | apply below_drew1) | exact HB.out)⟩⟩
                                    · rw [if_neg c67] at H
                                      exact absurd H (by simp)
                      · replace c29 := Bool.eq_false_iff.mpr c29
                        subst c29
                        have H1 : (swageref06_Loops.l0 k2 l0 t422 t425 x5_1 (wrap64 (x6_1 + 1))) = some r := by rw [if_neg (show ¬ (false = true) by decide)] at H; exact H
                        clear H
                        have H := H1
                        clear H1
                        have H' := Aside0.mk H
                        clear H
                        obtain ⟨Ao70, co70, eo70⟩ := Kd.R_slice HO_3.out
                        subst eo70
                        obtain ⟨Ao71, co71, eo71⟩ := Kd.R_slice HO_7.out
                        subst eo71
                        have p435 : 0 ≤ (x6_1 : Int) := of_decide_eq_true (by first | (with_reducible assumption) | assumption)
                        have q435 : x6_1 < (x7_2.length : Int) := of_decide_eq_true (by first | (with_reducible assumption) | assumption)
                        obtain ⟨ad435, e435, hx435_0⟩ := Kd.at_bool (Kd.R_reads' HO_7.out).2.2 x6_1 p435 q435
                        (try rw [← Nbq28.out] at hx435_0)
                        cases e435
                        replace p435 := eq_true p435
                        replace q435 := eq_true q435
                        go_wp2
                        go_roundg k2
                        case measure => have := HK1.out; have := HK2.out; omega
                        case rel => exact ⟨(x5_1), (wrap64 (x6_1 + 1)), (by first | rfl | (simp; done) | (simp [*]; done)), H', ⟨by have := HK1.out; have := HK2.out; omega⟩, ⟨by (with_reducible repeat (first | apply Kd.R_alloc | apply Kd.R_drewN | apply Kd.R_drew)); exact HO_3.out⟩, ⟨by (with_reducible repeat (first | apply Kd.R_alloc | apply Kd.R_drewN | apply Kd.R_drew)); exact HO_4.out⟩, ⟨by (with_reducible repeat (first | apply Kd.S_alloc | apply Kd.S_drewN | apply Kd.S_drew)); exact HO_5.out⟩, ⟨by repeat (first | (with_reducible first | exact HB.out | apply below_alloc | apply pw_below_drewN | apply below_drew1) | exact HB.out)⟩⟩
                    · rw [if_neg c27] at H
                      exact absurd H (by simp)
                  · rw [if_neg c26] at H
                    exact absurd H (by simp)
          · rw [if_neg c8] at H
            exact absurd H (by simp)
        · rw [if_neg c7] at H
          exact absurd H (by simp)
      · rw [if_neg c6] at H
        have c6b0 : decide (x6_1 < (l0.length : Int)) = false := decide_eq_false c6
        clear c6
        obtain rfl := Option.some.inj H
        go_wp2
        go_ret
        exact ⟨_, by first | rfl | (simp [errW_none, errW_some] <;> rfl) | (simp [*, errW_none, errW_some] <;> rfl), by (with_reducible repeat (first | apply Kd.S_alloc | apply Kd.S_drewN | apply Kd.S_drew)); exact Kd.S_mono HO_5.out (fun _ hk => trivial), by repeat (first | (with_reducible first | exact HB.out | apply below_alloc | apply pw_below_drewN | apply below_drew1) | exact HB.out)⟩

end Go.Proofs.Ytkmbhknmjnbanaa.A


namespace Go.Proofs.Ytkmbhknmjnbanaa.A
open Go.RowKit Go.Proofs.YtkmbhknmjnbanaaW.PrintWords Go.Proofs.YtkmbhknmjnbanaaW.PrintLast Go.Shelf
set_option linter.unusedVariables false
set_option linter.unusedSimpArgs false

/-- the reference's marks within one loop: sound, and with its first blocks -/
structure RefL (g : List (List Int)) (h : Nat) (F re : Nat → Prop) (m : List Bool) : Prop where
  len : m.length = g.length
  sound : ∀ i, i < g.length → Mk m i → BodySet g h F re i
  head : Mk m h
  froms : ∀ x, F x → Mk m x

section
variable {g : List (List Int)} (hg : InG g) (hn : g.length ≤ 4096) (h8 : ∀ l ∈ g, l.length ≤ 8) {bk : List S37} {at_ : List Int} (hat : at_.length = g.length) {h : Nat} (hh : h < g.length) {F re : Nat → Prop} (hre : ∀ i, i < g.length → (0 ≤ at_.getD i 0 ↔ re i)) {out : List (List Int)}
include hg hn h8 hat hh hre
theorem lp_l4 {i : Nat} (hi : i < g.length) : ∀ (d j : Nat) (m : List Bool) (b : Bool), j + d = (rowOf g i).length → RefL g h F re m →
    ∃ (m' : List Bool) (b' : Bool), RefL g h F re m' ∧ (b' = false → b = false ∧ m' = m ∧ (re i → ¬ Mk m i → ∀ (x : Nat), (x : Int) ∈ (rowOf g i).drop j → Mk m x → x = h)) ∧ (b' = true → b = true ∨ unmet m' < unmet m) ∧ unmet m' ≤ unmet m ∧
      ∀ r, Evt (fun k => swageref06_Loops.l3 k g bk at_ out h m' b' ((i + 1 : Nat) : Int)) r → Evt (fun k => swageref06_Loops.l4 k g bk at_ out h m b i j) r
  | 0, j, m, b, hj, hR => by
    refine ⟨m, b, hR, fun h => ⟨h, rfl, fun _ _ x hx => by rw [List.drop_eq_nil_of_le (by omega)] at hx; cases hx⟩, fun h => .inl h, Nat.le_refl _, fun r hr => ?_⟩
    refine Evt.step (Evt.step hr (f := fun k => swageref06_Loops.j5 k g bk at_ out h m b i j false) fun k => ?_) fun k => ?_
    · rw [swageref06_Loops.j5, if_neg (by simp), wsucc (by omega)]
    · rw [swageref06_Loops.l4, if_pos (by omega), if_pos (by omega), rdL, if_neg (by omega)]
  | d + 1, j, m, b, hj, hR => by
    have hlt : j < (rowOf g i).length := by omega
    have hj8 := h8 _ (rowOf_mem hi)
    have hx := hg _ (rowOf_mem hi) _ (List.getElem_mem hlt)
    have hml := hR.len
    have ha0 : rd at_ (i : Int) = at_.getD i 0 := rdD
    have stopf : ∀ r, (¬ (¬ Mk m i ∧ re i)) → Evt (fun k => swageref06_Loops.l3 k g bk at_ out h m b ((i + 1 : Nat) : Int)) r → Evt (fun k => swageref06_Loops.l4 k g bk at_ out h m b i j) r := by
      intro r hno hr
      refine Evt.step (Evt.step hr (f := fun k => swageref06_Loops.j5 k g bk at_ out h m b i j false) fun k => ?_) fun k => ?_
      · rw [swageref06_Loops.j5, if_neg (by simp), wsucc (by omega)]
      · by_cases hm : Mk m i
        · rw [swageref06_Loops.l4, if_pos (by omega), if_pos (by omega), rdL, if_pos (by omega), if_pos (by omega), if_pos ((mk_rd (by omega)).2 hm)]
        · have : ¬ (0 ≤ at_.getD i 0) := fun h0 => hno ⟨hm, (hre i hi).1 h0⟩
          rw [swageref06_Loops.l4, if_pos (by omega), if_pos (by omega), rdL, if_pos (by omega), if_pos (by omega), if_neg (fun h => hm ((mk_rd (by omega)).1 h)), if_pos (by omega), ha0, decide_eq_false (by omega)]
    by_cases hgo : ¬ Mk m i ∧ re i
    · obtain ⟨hm, hri⟩ := hgo
      obtain ⟨x, ex⟩ := Int.eq_ofNat_of_zero_le hx.1
      have he : Edge g i x := by unfold Edge; rw [← ex]; exact List.getElem_mem hlt
      have h0 := (hre i hi).2 hri
      have hin : ∀ k, swageref06_Loops.l4 (k + 1) g bk at_ out h m b i j = swageref06_Loops.j5 k g bk at_ out h m b i j true := fun k => by
        rw [swageref06_Loops.l4, if_pos (by omega), if_pos (by omega), rdL, if_pos (by omega), if_pos (by omega), if_neg (fun h => hm ((mk_rd (by omega)).1 h)), if_pos (by omega), ha0, decide_eq_true (by omega)]
      by_cases hmx : Mk m x ∧ x ≠ h
      · have hR2 : RefL g h F re (m.set i true) := ⟨by rw [List.length_set, hml], fun y hy hyy => by
            rcases (mk_set (by omega)).1 hyy with hyy | rfl
            · exact hR.sound y hy hyy
            · exact .back (hR.sound x (by omega) hmx.1) hmx.2 he hri, (mk_set (by omega)).2 (.inl hR.head), fun y hy => (mk_set (by omega)).2 (.inl (hR.froms y hy))⟩
        obtain ⟨m', b', h1, h3, h4, h5, h6⟩ := lp_l4 hi d (j + 1) (m.set i true) true (by omega) hR2
        have hu := unmet_set_lt (m := m) (a := i) (by omega) hm
        refine ⟨m', b', h1, fun e => ?_, fun _ => .inr (by omega), by omega, fun r hr => ?_⟩
        · have := (h3 e).1; cases this
        · refine Evt.step (Evt.step (h6 r hr) (f := fun k => swageref06_Loops.j5 k g bk at_ out h m b i j true) fun k => ?_) hin
          rw [swageref06_Loops.j5, if_pos rfl, if_pos (by omega), if_pos (by omega), if_pos (by omega), rdL, if_pos (by omega), rdI hlt, ex, if_pos (by omega), if_pos (by omega), if_pos ((mk_rd (by omega)).2 hmx.1), if_neg (by omega), if_pos (by omega), Int.toNat_natCast, wsucc (by omega)]
      · obtain ⟨m', b', h1, h3, h4, h5, h6⟩ := lp_l4 hi d (j + 1) m b (by omega) hR
        refine ⟨m', b', h1, fun e => ?_, h4, h5, fun r hr => ?_⟩
        · obtain ⟨p, q, s⟩ := h3 e
          refine ⟨p, q, fun hr1 hm1 y hy hmy => ?_⟩
          rw [List.drop_eq_getElem_cons hlt, ex] at hy
          rcases List.mem_cons.1 hy with hy | hy
          · obtain rfl : y = x := by omega
            refine Classical.byContradiction fun hne => hmx ⟨hmy, hne⟩
          · exact s hr1 hm1 y hy hmy
        · refine Evt.step (Evt.step (h6 r hr) (f := fun k => swageref06_Loops.j5 k g bk at_ out h m b i j true) fun k => ?_) hin
          by_cases hmx2 : Mk m x
          · have hxh : x = h := Classical.byContradiction fun hne => hmx ⟨hmx2, hne⟩
            rw [swageref06_Loops.j5, if_pos rfl, if_pos (by omega), if_pos (by omega), if_pos (by omega), rdL, if_pos (by omega), rdI hlt, ex, if_pos (by omega), if_pos (by omega), if_pos ((mk_rd (by omega)).2 hmx2), if_pos (by omega), wsucc (by omega)]
          · rw [swageref06_Loops.j5, if_pos rfl, if_pos (by omega), if_pos (by omega), if_pos (by omega), rdL, if_pos (by omega), rdI hlt, ex, if_pos (by omega), if_pos (by omega), if_neg (fun h => hmx2 ((mk_rd (by omega)).1 h)), wsucc (by omega)]
    · exact ⟨m, b, hR, fun h => ⟨h, rfl, fun h1 h2 => absurd ⟨h2, h1⟩ hgo⟩, fun h => .inl h, Nat.le_refl _, fun r hr => stopf r hgo hr⟩
theorem lp_l3 : ∀ (d i : Nat) (m : List Bool) (b : Bool), i + d = g.length → RefL g h F re m →
    ∃ (m' : List Bool) (b' : Bool), RefL g h F re m' ∧ (b' = false → b = false ∧ m' = m ∧ ∀ y, i ≤ y → y < g.length → re y → ∀ (x : Nat), Edge g y x → Mk m x → x ≠ h → Mk m y) ∧ (b' = true → b = true ∨ unmet m' < unmet m) ∧ unmet m' ≤ unmet m ∧
      ∀ r, Evt (fun k => swageref06_Loops.l2 k g bk at_ out h m' b') r → Evt (fun k => swageref06_Loops.l3 k g bk at_ out h m b i) r
  | 0, i, m, b, hi, hR => ⟨m, b, hR, fun h => ⟨h, rfl, fun y h1 h2 => by omega⟩, fun h => .inl h, Nat.le_refl _, fun r h => Evt.step h fun k => by rw [swageref06_Loops.l3, if_neg (by omega)]⟩
  | d + 1, i, m, b, hi, hR => by
    have hlt : i < g.length := by omega
    obtain ⟨m1, b1, p1, p3, p4, p5, p6⟩ := lp_l4 hg hn h8 (bk := bk) hat hh hre (out := out) hlt (rowOf g i).length 0 m b (by omega) hR
    obtain ⟨m2, b2, q1, q3, q4, q5, q6⟩ := lp_l3 d (i + 1) m1 b1 (by omega) p1
    refine ⟨m2, b2, q1, fun e => ?_, fun e => ?_, by omega, fun r h => ?_⟩
    · obtain ⟨e1, e2, e3⟩ := q3 e
      obtain ⟨f1, f2, f3⟩ := p3 e1
      subst e2; subst f2
      refine ⟨f1, rfl, fun y h1 h2 hm x he hmx hxh => ?_⟩
      by_cases hy : y = i
      · subst hy
        refine Classical.byContradiction fun hno => hxh (f3 hm hno x (by rw [List.drop_zero]; exact he) hmx)
      · exact e3 y (by omega) h2 hm x he hmx hxh
    · rcases q4 e with e1 | e1
      · rcases p4 e1 with e2 | e2
        · exact .inl e2
        · exact .inr (by omega)
      · exact .inr (by omega)
    · refine Evt.step (p6 r (q6 r h)) fun k => ?_
      rw [swageref06_Loops.l3, if_pos (by omega)]
      rfl
theorem lp_l2 {m0 : List Bool} : ∀ (n : Nat) (m : List Bool), unmet m ≤ n → RefL g h F re m → ∃ m', m'.length = g.length ∧ (∀ i, i < g.length → (Mk m' i ↔ BodySet g h F re i)) ∧
    ∀ r, Evt (fun k => swageref06_Loops.l5 k g bk at_ out h m' [(h : Int)] 0) r → Evt (fun k => swageref06_Loops.l2 k g bk at_ out h m true) r := by
  intro n
  induction n with
  | zero =>
    intro m hm hR
    obtain ⟨m1, b1, p1, p3, p4, p5, p6⟩ := lp_l3 hg hn h8 (bk := bk) hat hh hre (out := out) g.length 0 m false (by omega) hR
    have hb : b1 = false := by
      cases b1
      · rfl
      · rcases p4 rfl with h | h
        · cases h
        · omega
    subst hb
    obtain ⟨_, rfl, h3⟩ := p3 rfl
    refine ⟨m1, p1.len, fun i hi => ⟨p1.sound i hi, fun hw => ?_⟩, fun r hr => ?_⟩
    · clear hi
      induction hw with
      | head => exact p1.head
      | frm hf => exact p1.froms _ hf
      | back hb hy he hr ih => exact h3 _ (Nat.zero_le _) he.lt1 hr _ he ih hy
    · refine Evt.step (p6 r (Evt.step hr fun k => ?_)) fun k => ?_
      · rw [swageref06_Loops.l2, if_neg (by simp)]
      · rw [swageref06_Loops.l2, if_pos rfl]; rfl
  | succ n ih =>
    intro m hm hR
    obtain ⟨m1, b1, p1, p3, p4, p5, p6⟩ := lp_l3 hg hn h8 (bk := bk) hat hh hre (out := out) g.length 0 m false (by omega) hR
    cases b1 with
    | false =>
      obtain ⟨_, rfl, h3⟩ := p3 rfl
      refine ⟨m1, p1.len, fun i hi => ⟨p1.sound i hi, fun hw => ?_⟩, fun r hr => ?_⟩
      · clear hi
        induction hw with
        | head => exact p1.head
        | frm hf => exact p1.froms _ hf
        | back hb hy he hr ih => exact h3 _ (Nat.zero_le _) he.lt1 hr _ he ih hy
      · refine Evt.step (p6 r (Evt.step hr fun k => ?_)) fun k => ?_
        · rw [swageref06_Loops.l2, if_neg (by simp)]
        · rw [swageref06_Loops.l2, if_pos rfl]; rfl
    | true =>
      have hu : unmet m1 < unmet m := by
        rcases p4 rfl with h | h
        · cases h
        · exact h
      obtain ⟨m', q2, q3, q1⟩ := ih m1 (by omega) p1
      refine ⟨m', q2, q3, fun r hr => Evt.step (p6 r (q1 r hr)) fun k => ?_⟩
      rw [swageref06_Loops.l2, if_pos rfl]; rfl
end

/-- a loop's row as far as block i -/
def rowTo (R : Nat → Bool) (h i : Nat) : List Int := (h : Int) :: (((List.range i).filter fun k : Nat => R k && !decide (k = h)).map fun k : Nat => (k : Int))
theorem rowTo_len (R : Nat → Bool) (h i : Nat) : (rowTo R h i).length ≤ i + 1 := by
  unfold rowTo
  rw [List.length_cons, List.length_map]
  have := List.length_filter_le (fun k : Nat => R k && !decide (k = h)) (List.range i)
  rw [List.length_range] at this
  omega
theorem rowTo_succ (R : Nat → Bool) (h i : Nat) : rowTo R h (i + 1) = if R i = true ∧ i ≠ h then rowTo R h i ++ [(i : Int)] else rowTo R h i := by
  unfold rowTo
  rw [List.range_succ, List.filter_append]
  by_cases hc : R i = true ∧ i ≠ h
  · rw [if_pos hc]
    simp [hc.1, hc.2]
  · rw [if_neg hc]
    have : (R i && !decide (i = h)) = false := by
      rw [← Bool.not_eq_true, Bool.and_eq_true, Bool.not_eq_true', decide_eq_false_iff_not]; exact hc
    simp [this]
theorem lp_l5 {g : List (List Int)} (hn : g.length ≤ 4096) {bk : List S37} {at_ : List Int} {h : Nat} (hh : h < g.length) {out : List (List Int)} (ho : out.length ≤ 1000000) {m : List Bool} (hm : m.length = g.length) {R : Nat → Bool} (hR : ∀ i, i < g.length → (Mk m i ↔ R i = true)) {r : List (List Int)}
    (hr : Evt (fun k => swageref06_Loops.l0 k g bk at_ (out ++ [rowTo R h g.length]) ((h + 1 : Nat) : Int)) r) : ∀ (d i : Nat), i + d = g.length → Evt (fun k => swageref06_Loops.l5 k g bk at_ out h m (rowTo R h i) i) r
  | 0, i, hi => by
    obtain rfl : i = g.length := by omega
    exact Evt.step hr fun k => by rw [swageref06_Loops.l5, if_neg (by omega), if_pos (by omega), wsucc (by omega)]
  | d + 1, i, hi => by
    have hlt : i < g.length := by omega
    have ih := lp_l5 hn hh ho hm hR hr d (i + 1) (by omega)
    have hrl := rowTo_len R h i
    rw [rowTo_succ] at ih
    by_cases hc : R i = true
    · have hmk := (hR i hlt).2 hc
      by_cases hih : i = h
      · rw [if_neg (fun h => h.2 hih)] at ih
        refine Evt.step ih fun k => ?_
        rw [swageref06_Loops.l5, if_pos (by omega), if_pos (by omega), if_pos (by omega), if_pos ((mk_rd (by omega)).2 hmk), if_pos (by omega), wsucc (by omega)]
      · rw [if_pos ⟨hc, hih⟩] at ih
        refine Evt.step ih fun k => ?_
        rw [swageref06_Loops.l5, if_pos (by omega), if_pos (by omega), if_pos (by omega), if_pos ((mk_rd (by omega)).2 hmk), if_neg (by omega), if_pos (by omega), wsucc (by omega)]
    · rw [if_neg (fun h => hc h.1)] at ih
      refine Evt.step ih fun k => ?_
      rw [swageref06_Loops.l5, if_pos (by omega), if_pos (by omega), if_pos (by omega), if_neg (fun h => hc ((hR i hlt).1 ((mk_rd (by omega)).1 h))), wsucc (by omega)]

/-- the first marks of a loop: its head and from where one comes back, of the edges ahead of k -/
theorem lp_l1 {g : List (List Int)} (hn : g.length ≤ 4096) {bk : List S37} (hbl : bk.length ≤ 1000000) (hbk : ∀ e ∈ bk, (0 ≤ e.f0 ∧ e.f0 < (g.length : Int)) ∧ 0 ≤ e.f1 ∧ e.f1 < (g.length : Int)) {at_ : List Int} {h : Nat} (hh : h < g.length) {out : List (List Int)} {r : List (List Int)}
    (hr : ∀ m : List Bool, m.length = g.length → (∀ i, i < g.length → (Mk m i ↔ ∃ e ∈ bk, e.f1 = (h : Int) ∧ (i = h ∨ e.f0 = (i : Int)))) → Evt (fun k => if rdOf false m h = true then (swageref06_Loops.l2 k g bk at_ out h m true) else (swageref06_Loops.l0 k g bk at_ out ((h + 1 : Nat) : Int))) r) :
    ∀ (d j : Nat) (m : List Bool), j + d = bk.length → m.length = g.length → (∀ i, i < g.length → (Mk m i ↔ ∃ e ∈ bk.take j, e.f1 = (h : Int) ∧ (i = h ∨ e.f0 = (i : Int)))) → Evt (fun k => swageref06_Loops.l1 k g bk at_ out h m j) r
  | 0, j, m, hj, hml, hm => by
    obtain rfl : j = bk.length := by omega
    rw [List.take_length] at hm
    refine Evt.step (hr m hml hm) fun k => ?_
    rw [swageref06_Loops.l1, if_neg (by omega), if_pos (by omega), if_pos (by omega), wsucc (by omega)]
  | d + 1, j, m, hj, hml, hm => by
    have hlt : j < bk.length := by omega
    have hb := hbk bk[j] (List.getElem_mem hlt)
    obtain ⟨a, ha⟩ := Int.eq_ofNat_of_zero_le hb.1.1
    have htk : bk.take (j + 1) = bk.take j ++ [bk[j]] := List.take_succ_eq_append_getElem hlt
    by_cases hf : bk[j].f1 = (h : Int)
    · refine Evt.step (lp_l1 hn hbl hbk hh hr d (j + 1) ((m.set h true).set a true) (by omega) (by simp [hml]) (fun i hi => ?_)) fun k => ?_
      · rw [mk_set (by rw [List.length_set]; omega), mk_set (by omega), hm i hi, htk]
        constructor
        · rintro ((⟨e, he, h1, h2⟩ | rfl) | rfl)
          · exact ⟨e, List.mem_append_left _ he, h1, h2⟩
          · exact ⟨bk[j], List.mem_append_right _ (List.mem_singleton.2 rfl), hf, .inl rfl⟩
          · exact ⟨bk[j], List.mem_append_right _ (List.mem_singleton.2 rfl), hf, .inr ha⟩
        · rintro ⟨e, he, h1, h2⟩
          rcases List.mem_append.1 he with he | he
          · exact .inl (.inl ⟨e, he, h1, h2⟩)
          · rw [List.mem_singleton] at he
            subst he
            rcases h2 with h2 | h2
            · exact .inl (.inr h2)
            · exact .inr (by omega)
      · rw [swageref06_Loops.l1, if_pos (by omega), if_pos (by omega), rd37 hlt, if_pos hf, if_pos (by omega), if_pos (by omega), if_pos hb.1.1, if_pos (by omega), wsucc (by omega), ha, Int.toNat_natCast, Int.toNat_natCast]
    · refine Evt.step (lp_l1 hn hbl hbk hh hr d (j + 1) m (by omega) hml (fun i hi => ?_)) fun k => ?_
      · rw [hm i hi, htk]
        constructor
        · rintro ⟨e, he, h1, h2⟩
          exact ⟨e, List.mem_append_left _ he, h1, h2⟩
        · rintro ⟨e, he, h1, h2⟩
          rcases List.mem_append.1 he with he | he
          · exact ⟨e, he, h1, h2⟩
          · rw [List.mem_singleton] at he
            subst he
            exact absurd h1 hf
      · rw [swageref06_Loops.l1, if_pos (by omega), if_pos (by omega), rd37 hlt, if_neg hf, wsucc (by omega)]

def loopsTo (g : List (List Int)) (m : Nat) : List (List Int) := (headsOf m (hfold (backOf g))).map fun h => bodyRes (predsOf g) (reachRes g 0) h.toNat (hfold (backOf g) h)
theorem loopsTo_succ (g : List (List Int)) (m : Nat) : loopsTo g (m + 1) = if hfold (backOf g) m ≠ [] then loopsTo g m ++ [bodyRes (predsOf g) (reachRes g 0) m (hfold (backOf g) m)] else loopsTo g m := by
  unfold loopsTo headsOf
  rw [List.range_succ, List.filter_append]
  by_cases hc : hfold (backOf g) m ≠ []
  · rw [if_pos hc]
    have : (hfold (backOf g) (m : Int)).isEmpty = false := by simpa using hc
    simp [this]
  · rw [if_neg hc]
    have : (hfold (backOf g) (m : Int)).isEmpty = true := by simpa using hc
    simp [this]
theorem loopsTo_len (g : List (List Int)) (m : Nat) : (loopsTo g m).length ≤ m := by
  unfold loopsTo headsOf
  rw [List.length_map, List.length_map]
  have := List.length_filter_le (fun k : Nat => !(hfold (backOf g) (k : Int)).isEmpty) (List.range m)
  rw [List.length_range] at this
  exact this
theorem bodyRes_row {g : List (List Int)} (hr : rightB g = true) {h : Nat} (hh : h < g.length) (fr : List Int) : bodyRes (predsOf g) (reachRes g 0) h fr = rowTo (fun k => bodyW (predsOf g) (reachRes g 0) (budget (predsOf g) (ins (fun _ => false) h) fr) (ins (fun _ => false) h) fr k) h g.length := by
  unfold bodyRes others rowTo
  rw [predsOf_len]
theorem lp_l0 {g : List (List Int)} (hn : g.length ≤ 4096) : ∀ (d i : Nat), i + d = g.length → Evt (fun k => swageref06_Loops.l0 k g (backOf g) (placesOf g) (loopsTo g i) i) (loopsOf g)
  | 0, i, hi => by
    obtain rfl : i = g.length := by omega
    exact Evt.step (Evt.const rfl) fun k => by rw [swageref06_Loops.l0, if_neg (by omega)]; rfl
  | d + 1, i, hi => by
    have hlt : i < g.length := by omega
    have ih := lp_l0 hn d (i + 1) (by omega)
    rw [loopsTo_succ] at ih
    have hbl := back_len g
    have hl0 := loopsTo_len g i
    refine Evt.step (lp_l1 (at_ := placesOf g) (out := loopsTo g i) (h := i) hn (by omega) (back_in g) hlt (r := loopsOf g) (fun m hml hm => ?_) (backOf g).length 0 (List.replicate g.length false) (by omega) (by simp) (fun x hx0 => ?_)) fun k => ?_
    · by_cases hc : hfold (backOf g) i ≠ []
      · obtain ⟨y, hy⟩ := List.exists_mem_of_ne_nil _ hc
        rw [hfold_mem] at hy
        obtain ⟨e, he, hef, _⟩ := hy
        have hmi : Mk m i := (hm i hlt).2 ⟨e, he, hef, .inl rfl⟩
        have hr : rightB g = true := by
          cases hr : rightB g
          · unfold backOf at he; rw [hr] at he; simp at he
          · rfl
        obtain ⟨h1, h2, h3⟩ := right_rows hr
        rw [if_pos hc, bodyRes_row hr hlt] at ih
        have hRL : RefL g i (Froms g i) (fun x => (reachRes g 0).getD x false = true) m := by
          refine ⟨hml, fun x hx hmx => ?_, hmi, fun x hx => (hm x (by have := (back_in g _ hx).1.2; dsimp only at this; omega)).2 ⟨_, hx, rfl, .inr rfl⟩⟩
          obtain ⟨e', he', hf1, h | h⟩ := (hm x hx).1 hmx
          · subst h; exact .head
          · refine .frm ?_
            obtain ⟨a, b⟩ := e'
            dsimp only at hf1 h
            subst hf1; subst h
            exact he'
        obtain ⟨m', q2, q3, q1⟩ := lp_l2 h3 h1 (right_8 hr) (bk := backOf g) (at_ := placesOf g) (plfold_len _ _ _) hlt (re := fun x => (reachRes g 0).getD x false = true) (fun x hx => by rw [place_pos g hx, order_mem hr, reach0 hr hx]) (out := loopsTo g i) (m0 := m) _ m (Nat.le_refl _) hRL
        refine Evt.congr (q1 _ (lp_l5 (R := fun k => bodyW (predsOf g) (reachRes g 0) (budget (predsOf g) (ins (fun _ => false) i) (hfold (backOf g) i)) (ins (fun _ => false) i) (hfold (backOf g) i) k) h1 hlt (by omega) q2 (fun x hx => by rw [q3 x hx, body_spec hr hlt]) ih g.length 0 (by omega))) fun k => ?_
        rw [if_pos ((mk_rd (by omega)).2 hmi)]
      · rw [if_neg hc] at ih
        refine Evt.congr ih fun k => ?_
        rw [if_neg]
        intro hmi
        obtain ⟨e, he, hef, _⟩ := (hm i hlt).1 ((mk_rd (by omega)).1 hmi)
        have : e.f0 ∈ hfold (backOf g) i := (hfold_mem _ _ _).2 ⟨e, he, hef, rfl⟩
        exact hc (List.ne_nil_of_mem this)
    · rw [List.take_zero]
      simp only [List.not_mem_nil, false_and, exists_false, iff_false]
      intro hx
      unfold Mk at hx
      rw [List.getD_eq_getElem?_getD, List.getElem?_replicate, if_pos hx0] at hx
      cases hx
    · rw [swageref06_Loops.l0, if_pos (by omega), if_pos (by omega), if_pos (by omega), Int.toNat_natCast]
      rfl
theorem lref_ev {g : List (List Int)} (hn : g.length ≤ 4096) : Evt (fun k => swageref06_Loops.f k g) (loopsOf g) := by
  unfold swageref06_Loops.f
  exact Evt.bind (h := fun k t422 => ((swageref06_Places.f k g).bind fun t425 => (swageref06_Loops.l0 k g t422 t425 ([] : List (List Int)) 0))) (bref_ev hn) (Evt.bind (h := fun k t425 => swageref06_Loops.l0 k g (backOf g) t425 ([] : List (List Int)) 0) (plref_ev hn) (lp_l0 hn g.length 0 (by omega)))
end Go.Proofs.Ytkmbhknmjnbanaa.A


namespace Go.Proofs.Ytkmbhknmjnbanaa.A
open Go.RowKit Go.Proofs.YtkmbhknmjnbanaaW.PrintWords Go.Proofs.YtkmbhknmjnbanaaW.PrintLast Go.Shelf
set_option linter.unusedVariables false
set_option linter.unusedSimpArgs false

def graph_Loops.f (l0 : List (List Int)) : Option (List (List Int)) := some (loopsOf l0)
theorem graph_Loops.calls (A0 : Option Addr) (c0 : Nat) (l0 : List (List Int)) (r : List (List Int)) (w : World) (hr0 : Kd.C (Kd.slice 3 (Kd.int .i64)) w A0 l0.length l0) (hc0 : l0.length ≤ c0) (h : graph_Loops.f l0 = some r) :
    Calls Try.prog 32 #[.slice A0 l0.length c0] w fun e w' => ∃ v0_ : Value, e = .returned (v0_) ∧ Kd.S (Kd.slice 3 (Kd.int .i64)) 27 w' w.heap.size (fun _ => True) v0_ r ∧ Below w.heap.size w w' := by
  obtain rfl := Option.some.inj h
  exact loops_calls A0 c0 l0 w hr0 hc0
def graph_Critical.f (l0 : List (List Int)) : Option (List S37) := some (crit (rightB l0) (predsOf l0) l0 l0.length)
theorem graph_Critical.calls (A0 : Option Addr) (c0 : Nat) (l0 : List (List Int)) (r : List S37) (w : World) (hr0 : Kd.C (Kd.slice 3 (Kd.int .i64)) w A0 l0.length l0) (hc0 : l0.length ≤ c0) (h : graph_Critical.f l0 = some r) :
    Calls Try.prog 25 #[.slice A0 l0.length c0] w fun e w' => ∃ v0_ : Value, e = .returned (v0_) ∧ Kd.R k37 37 w' w.heap.size (fun _ => True) v0_ r ∧ Below w.heap.size w w' := by
  obtain rfl := Option.some.inj h
  exact crit_calls A0 c0 l0 w hr0 hc0
end Go.Proofs.Ytkmbhknmjnbanaa.A


namespace Go.Proofs.Ytkmbhknmjnbanaa.A
open Go.RowKit Go.Maps Go.Proofs.YtkmbhknmjnbanaaW.PrintWords Go.Proofs.YtkmbhknmjnbanaaW.PrintLast Go.Shelf
set_option linter.unusedVariables false
set_option linter.unusedSimpArgs false

def g4 : List (List Int) := [[1, 2], [3], [3], [0]]
theorem s_right : graph_Right.f g4 = some true := by kernel_rfl
theorem s_order : graph_Order.f g4 = some [0, 2, 1, 3] := by kernel_rfl
theorem s_ints : swageref02_Ints.f 9 [0, 2, 1, 3] [0, 2, 1, 3] = some true := by kernel_rfl
theorem s_back : graph_Back.f 40 g4 = some [⟨3, 0⟩] := by kernel_rfl
theorem s_pairs : swageref05_Pairs.f 9 [⟨3, 0⟩] [⟨3, 0⟩] = some true := by kernel_rfl
theorem s_loops : graph_Loops.f g4 = some [[0, 1, 2, 3]] := by kernel_rfl
theorem s_rows : swageref06_Rows.f 40 [[0, 1, 2, 3]] [[0, 1, 2, 3]] = some true := by kernel_rfl
theorem s_preds : graph_Preds.f 40 g4 = some [[3], [0], [0], [1, 2]] := by kernel_rfl
theorem s_rows2 : swageref06_Rows.f 40 [[3], [0], [0], [1, 2]] [[3], [0], [0], [1, 2]] = some true := by kernel_rfl
theorem s_crit : graph_Critical.f g4 = some [] := by kernel_rfl
theorem s_reach : graph_Reach.f g4 1 = some [true, true, true, true] := by kernel_rfl

/-- a literal row of numbers -/
abbrev cellsI (l : List Int) : Obj := .cells (l.map (Value.int .i64)).toArray 3
theorem reps_ints {W : World} {base : Nat} {ok : Nat → Prop} (l : List Int) : Reps ((Kd.int .i64).M W base ok) (Kd.int .i64).sz l (l.map (Value.int .i64)) := by
  refine ⟨by rw [List.length_map]; show _ = l.length * 1; omega, fun j p hj => ?_⟩
  obtain ⟨h, rfl⟩ := List.getElem?_eq_some_iff.1 hj
  show ((l.map (Value.int .i64)).drop (j * 1)).take 1 = [Value.int .i64 l[j]]
  rw [Nat.mul_one, List.take_one, List.head?_drop, List.getElem?_map, hj]
  rfl
theorem lit_row (W : World) (l : List Int) (hl : l.length ≤ 1000) : Kd.R (Kd.int .i64) 3 (W.alloc (cellsI l)) W.heap.size (fun _ => True) (.slice (some ⟨W.heap.size, 0, none⟩) l.length l.length) l :=
  R_new_lit (Kd.int .i64) W W.heap.size 3 (ok := fun _ => True) (okp := fun _ => True) (reps_ints l) (fun _ h => h) trivial (Nat.le_refl _) (by omega)
inductive RowsR (W : World) (base : Nat) (ok : Nat → Prop) : List (List Int) → List Value → Prop
  | nil : RowsR W base ok [] []
  | cons {l : List Int} {v : Value} {ls : List (List Int)} {vs : List Value} : Kd.R (Kd.int .i64) 3 W base ok v l → RowsR W base ok ls vs → RowsR W base ok (l :: ls) (v :: vs)
theorem reps_rows {W : World} {base : Nat} {ok : Nat → Prop} : ∀ {ls : List (List Int)} {vs : List Value}, RowsR W base ok ls vs → Reps ((Kd.slice 3 (Kd.int .i64)).M W base ok) (Kd.slice 3 (Kd.int .i64)).sz ls vs := by
  intro ls vs h
  refine ⟨?_, ?_⟩
  · have : vs.length = ls.length := by induction h <;> simp_all
    rw [this]; show _ = ls.length * 1; omega
  · intro j p hj
    show (Kd.slice 3 (Kd.int .i64)).M W base ok p ((vs.drop (j * 1)).take 1)
    rw [Nat.mul_one]
    induction h generalizing j with
    | nil => simp at hj
    | cons h1 h2 ih =>
      cases j with
      | zero => simp at hj; subst hj; exact Kd.M_row h1
      | succ j => simp at hj; simpa using ih j hj
theorem lit_rows1 (W : World) (a : List Int) (ha : a.length ≤ 1000) : Kd.C (Kd.slice 3 (Kd.int .i64)) ((W.alloc (cellsI a)).alloc (.cells #[.slice (some ⟨W.heap.size, 0, none⟩) a.length a.length] 27)) (some ⟨W.heap.size + 1, 0, none⟩) 1 [a] := by
  have h1 := lit_row W a ha
  have h2 := R_new_lit (Kd.slice 3 (Kd.int .i64)) (W.alloc (cellsI a)) W.heap.size 27 (xs := [a]) (inner := [.slice (some ⟨W.heap.size, 0, none⟩) a.length a.length]) (ok := fun _ => True) (okp := fun _ => True) (reps_rows (.cons h1 .nil)) (fun _ h => h) trivial (by simp) (by simp)
  rw [World.size_alloc] at h2
  exact (Kd.R_reads' h2).2.2
theorem lit_rows4 (W : World) (a b c d : List Int) (ha : a.length ≤ 1000) (hb : b.length ≤ 1000) (hc : c.length ≤ 1000) (hd : d.length ≤ 1000) :
    Kd.C (Kd.slice 3 (Kd.int .i64)) (((((W.alloc (cellsI a)).alloc (cellsI b)).alloc (cellsI c)).alloc (cellsI d)).alloc (.cells #[.slice (some ⟨W.heap.size, 0, none⟩) a.length a.length, .slice (some ⟨W.heap.size + 1, 0, none⟩) b.length b.length, .slice (some ⟨W.heap.size + 2, 0, none⟩) c.length c.length, .slice (some ⟨W.heap.size + 3, 0, none⟩) d.length d.length] 27)) (some ⟨W.heap.size + 4, 0, none⟩) 4 [a, b, c, d] := by
  have al : ∀ (w : World) (o : Obj), Below w.heap.size w (w.alloc o) := fun w o => below_alloc (Below.refl _ _) _
  have h1 := Kd.R_below (Kd.R_below (Kd.R_below (lit_row W a ha) (al _ (cellsI b))) (al _ (cellsI c))) (al _ (cellsI d))
  have h2 := Kd.R_lower (Kd.R_below (Kd.R_below (lit_row (W.alloc (cellsI a)) b hb) (al _ (cellsI c))) (al _ (cellsI d))) (base' := W.heap.size) (by simp)
  have h3 := Kd.R_lower (Kd.R_below (lit_row ((W.alloc (cellsI a)).alloc (cellsI b)) c hc) (al _ (cellsI d))) (base' := W.heap.size) (by simp; omega)
  have h4 := Kd.R_lower (lit_row (((W.alloc (cellsI a)).alloc (cellsI b)).alloc (cellsI c)) d hd) (base' := W.heap.size) (by simp; omega)
  simp only [World.size_alloc, Nat.add_assoc, Nat.reduceAdd] at h2 h3 h4
  have h5 := R_new_lit (Kd.slice 3 (Kd.int .i64)) ((((W.alloc (cellsI a)).alloc (cellsI b)).alloc (cellsI c)).alloc (cellsI d)) W.heap.size 27 (xs := [a, b, c, d]) (ok := fun _ => True) (okp := fun _ => True) (reps_rows (.cons h1 (.cons h2 (.cons h3 (.cons h4 .nil))))) (fun _ h => h) trivial (by simp; omega) (by simp)
  simp only [World.size_alloc, Nat.add_assoc, Nat.reduceAdd] at h5
  exact (Kd.R_reads' h5).2.2
theorem lit_pair (W : World) (x y : Int) : Kd.C k37 (W.alloc (.cells #[.int .i64 x, .int .i64 y] 37)) (some ⟨W.heap.size, 0, none⟩) 1 [⟨x, y⟩] := by
  have h := R_new_lit k37 W W.heap.size 37 (xs := [(⟨x, y⟩ : S37)]) (inner := [.int .i64 x, .int .i64 y]) (ok := fun _ => True) (okp := fun _ => True) ⟨rfl, fun j p hj => by
    match j, hj with
    | 0, hj => simp at hj; subst hj; exact k37_mkM _ _ _ _
    | j + 1, hj => simp at hj⟩ (fun _ h => h) trivial (Nat.le_refl _) (by simp)
  exact (Kd.R_reads' h).2.2

set_option maxRecDepth 100000 in
set_option maxHeartbeats 2000000 in
theorem small_calls (w : World) : Calls Try.prog 13 #[] w fun e w' => e = .returned (.bool true) ∧ Below w.heap.size w w' := by
  have hu37 := Try.underlying37
  go_enter Try.func13, Try.ntmps13
  go_wp2_with fail
  have hC0 : Kd.C (Kd.slice 3 (Kd.int .i64)) (((((w.alloc (.cells #[.int .i64 1, .int .i64 2] 3)).alloc (.cells #[.int .i64 3] 3)).alloc (.cells #[.int .i64 3] 3)).alloc (.cells #[.int .i64 0] 3)).alloc (.cells #[.slice (some ⟨w.heap.size, 0, none⟩) 2 2, .slice (some ⟨w.heap.size + 1, 0, none⟩) 1 1, .slice (some ⟨w.heap.size + 1 + 1, 0, none⟩) 1 1, .slice (some ⟨w.heap.size + 1 + 1 + 1, 0, none⟩) 1 1] 27)) (some ⟨w.heap.size + 1 + 1 + 1 + 1, 0, none⟩) 4 g4 := lit_rows4 w [1, 2] [3] [3] [0] (by decide) (by decide) (by decide) (by decide)
  have hB0 : Below w.heap.size w (((((w.alloc (.cells #[.int .i64 1, .int .i64 2] 3)).alloc (.cells #[.int .i64 3] 3)).alloc (.cells #[.int .i64 3] 3)).alloc (.cells #[.int .i64 0] 3)).alloc (.cells #[.slice (some ⟨w.heap.size, 0, none⟩) 2 2, .slice (some ⟨w.heap.size + 1, 0, none⟩) 1 1, .slice (some ⟨w.heap.size + 1 + 1, 0, none⟩) 1 1, .slice (some ⟨w.heap.size + 1 + 1 + 1, 0, none⟩) 1 1] 27)) := below_alloc (below_alloc (below_alloc (below_alloc (below_alloc (Below.refl _ _) _) _) _) _) _
  generalize (((((w.alloc (.cells #[.int .i64 1, .int .i64 2] 3)).alloc (.cells #[.int .i64 3] 3)).alloc (.cells #[.int .i64 3] 3)).alloc (.cells #[.int .i64 0] 3)).alloc (.cells #[.slice (some ⟨w.heap.size, 0, none⟩) 2 2, .slice (some ⟨w.heap.size + 1, 0, none⟩) 1 1, .slice (some ⟨w.heap.size + 1 + 1, 0, none⟩) 1 1, .slice (some ⟨w.heap.size + 1 + 1 + 1, 0, none⟩) 1 1] 27)) = W0 at hC0 hB0 ⊢
  generalize w.heap.size + 1 + 1 + 1 + 1 = b0 at hC0 ⊢
  have hc1 : Calls Try.prog 19 #[.slice (some ⟨b0, 0, none⟩) 4 4] W0 fun e w' => e = .returned (.bool true) ∧ Below W0.heap.size W0 w' := graph_Right.calls (some ⟨b0, 0, none⟩) 4 g4 true W0 hC0 (by decide) s_right
  refine hc1.mono ?_
  rintro e w1 ⟨rfl, hb1⟩
  have hC1 := Aside0.mk (Kd.C_below hC0 hb1)
  have hB1 := Aside0.mk (below_step hB0 hb1)
  clear hc1 hC0 hB0 hb1
  go_wp2_with fail
  have ho : Calls Try.prog 28 #[.slice (some ⟨b0, 0, none⟩) 4 4] w1 fun e w' => ∃ A c, e = .returned (.slice A 4 c) ∧ 4 ≤ c ∧ Kd.C (Kd.int .i64) w' A 4 [0, 2, 1, 3] ∧ Below w1.heap.size w1 w' :=
    (graph_Order.calls (some ⟨b0, 0, none⟩) 4 g4 [0, 2, 1, 3] w1 hC1.out (by decide) s_order).mono fun e w' ⟨v, he, hR, hB⟩ => by
      obtain ⟨A, c, rfl, h1, h2⟩ := Kd.R_reads hR
      exact ⟨A, c, he, h1, h2, hB⟩
  refine ho.mono ?_
  rintro e w2 ⟨A2, c2, rfl, h2, hC2, hb2⟩
  have hC2' := Aside0.mk (Kd.C_below hC1.out hb2)
  have hB2 := Aside0.mk (below_step hB1.out hb2)
  have hi2 : Calls Try.prog 27 #[.slice A2 4 c2, .slice (some ⟨w2.heap.size, 0, none⟩) 4 4] (w2.alloc (.cells #[.int .i64 0, .int .i64 2, .int .i64 1, .int .i64 3] 3)) fun e w' => e = .returned (.bool true) ∧ Drawn0 (w2.alloc (.cells #[.int .i64 0, .int .i64 2, .int .i64 1, .int .i64 3] 3)) w' := swageref02_Ints.calls 9 A2 c2 [0, 2, 1, 3] (some ⟨w2.heap.size, 0, none⟩) 4 [0, 2, 1, 3] true _ (Kd.C_alloc hC2 (cellsI [0, 2, 1, 3])) h2 (Kd.R_reads' (lit_row w2 [0, 2, 1, 3] (by decide))).2.2 (by decide) s_ints
  have hC3 := Aside0.mk (Kd.C_alloc hC2'.out (cellsI [0, 2, 1, 3]))
  have hB3 := Aside0.mk (below_alloc hB2.out (cellsI [0, 2, 1, 3]))
  clear ho h2 hC2 hb2 hC1 hB1 hC2' hB2
  go_wp2_with fail
  refine hi2.mono ?_
  rintro e w3 ⟨rfl, hd3⟩
  have hC4 := Aside0.mk (Kd.C_below hC3.out hd3.below)
  have hB4 := Aside0.mk (below_step hB3.out hd3.below)
  clear hi2 hd3 hC3 hB3
  go_wp2_with fail
  -- Back
  have hbk : Calls Try.prog 30 #[.slice (some ⟨b0, 0, none⟩) 4 4] w3 fun e w' => ∃ A c, e = .returned (.slice A 1 c) ∧ 1 ≤ c ∧ Kd.C k37 w' A 1 [⟨3, 0⟩] ∧ Below w3.heap.size w3 w' :=
    (graph_Back.calls 40 (some ⟨b0, 0, none⟩) 4 g4 [⟨3, 0⟩] w3 hC4.out (by decide) s_back).mono fun e w' ⟨v, he, hR, hB⟩ => by
      obtain ⟨A, c, rfl, h1, h2⟩ := Kd.R_reads hR
      exact ⟨A, c, he, h1, h2, hB⟩
  refine hbk.mono ?_
  rintro e w4 ⟨A4, c4, rfl, h4, hC5, hb4⟩
  have hC6 := Aside0.mk (Kd.C_below hC4.out hb4)
  have hB6 := Aside0.mk (below_step hB4.out hb4)
  have hp : Calls Try.prog 24 #[.slice A4 1 c4, .slice (some ⟨w4.heap.size, 0, none⟩) 1 1] (w4.alloc (.cells #[.int .i64 3, .int .i64 0] 37)) fun e w' => e = .returned (.bool true) ∧ Drawn0 (w4.alloc (.cells #[.int .i64 3, .int .i64 0] 37)) w' := swageref05_Pairs.calls 9 A4 c4 [⟨3, 0⟩] (some ⟨w4.heap.size, 0, none⟩) 1 [⟨3, 0⟩] true _ (Kd.C_alloc hC5 _) h4 (lit_pair w4 3 0) (by decide) s_pairs
  have hC7 := Aside0.mk (Kd.C_alloc hC6.out (.cells #[.int .i64 3, .int .i64 0] 37))
  have hB7 := Aside0.mk (below_alloc hB6.out (.cells #[.int .i64 3, .int .i64 0] 37))
  clear hbk h4 hC5 hb4 hC4 hB4 hC6 hB6
  go_wp2_with fail
  refine hp.mono ?_
  rintro e w5 ⟨rfl, hd5⟩
  have hC8 := Aside0.mk (Kd.C_below hC7.out hd5.below)
  have hB8 := Aside0.mk (below_step hB7.out hd5.below)
  clear hp hd5 hC7 hB7
  go_wp2_with fail
  -- Loops
  have hlo : Calls Try.prog 32 #[.slice (some ⟨b0, 0, none⟩) 4 4] w5 fun e w' => ∃ A c, e = .returned (.slice A 1 c) ∧ 1 ≤ c ∧ Kd.C (Kd.slice 3 (Kd.int .i64)) w' A 1 [[0, 1, 2, 3]] ∧ Below w5.heap.size w5 w' :=
    (graph_Loops.calls (some ⟨b0, 0, none⟩) 4 g4 [[0, 1, 2, 3]] w5 hC8.out (by decide) s_loops).mono fun e w' ⟨v, he, hR, hB⟩ => by
      obtain ⟨A, c, rfl, h1, h2⟩ := Kd.S_reads hR
      exact ⟨A, c, he, h1, h2, hB⟩
  refine hlo.mono ?_
  rintro e w6 ⟨A6, c6, rfl, h6, hC9, hb6⟩
  have hC10 := Aside0.mk (Kd.C_below hC8.out hb6)
  have hB10 := Aside0.mk (below_step hB8.out hb6)
  have hr6 : Calls Try.prog 17 #[.slice A6 1 c6, .slice (some ⟨w6.heap.size + 1, 0, none⟩) 1 1] ((w6.alloc (.cells #[.int .i64 0, .int .i64 1, .int .i64 2, .int .i64 3] 3)).alloc (.cells #[.slice (some ⟨w6.heap.size, 0, none⟩) 4 4] 27)) fun e w' => e = .returned (.bool true) ∧ Drawn0 ((w6.alloc (.cells #[.int .i64 0, .int .i64 1, .int .i64 2, .int .i64 3] 3)).alloc (.cells #[.slice (some ⟨w6.heap.size, 0, none⟩) 4 4] 27)) w' :=
    swageref06_Rows.calls 40 A6 c6 [[0, 1, 2, 3]] (some ⟨w6.heap.size + 1, 0, none⟩) 1 [[0, 1, 2, 3]] true _ (Kd.C_alloc (Kd.C_alloc hC9 _) _) h6 (lit_rows1 w6 [0, 1, 2, 3] (by decide)) (by decide) s_rows
  have hC11 := Aside0.mk (Kd.C_alloc (Kd.C_alloc hC10.out (cellsI [0, 1, 2, 3])) (.cells #[.slice (some ⟨w6.heap.size, 0, none⟩) 4 4] 27))
  have hB11 := Aside0.mk (below_alloc (below_alloc hB10.out (cellsI [0, 1, 2, 3])) (.cells #[.slice (some ⟨w6.heap.size, 0, none⟩) 4 4] 27))
  clear hlo h6 hC9 hb6 hC8 hB8 hC10 hB10
  go_wp2_with fail
  refine hr6.mono ?_
  rintro e w7 ⟨rfl, hd7⟩
  have hC12 := Aside0.mk (Kd.C_below hC11.out hd7.below)
  have hB12 := Aside0.mk (below_step hB11.out hd7.below)
  clear hr6 hd7 hC11 hB11
  go_wp2_with fail
  -- Preds
  have hpr : Calls Try.prog 16 #[.slice (some ⟨b0, 0, none⟩) 4 4] w7 fun e w' => ∃ A c, e = .returned (.slice A 4 c) ∧ 4 ≤ c ∧ Kd.C (Kd.slice 3 (Kd.int .i64)) w' A 4 [[3], [0], [0], [1, 2]] ∧ Below w7.heap.size w7 w' :=
    (graph_Preds.calls 40 (some ⟨b0, 0, none⟩) 4 g4 [[3], [0], [0], [1, 2]] w7 hC12.out (by decide) s_preds).mono fun e w' ⟨v, he, hR, hB⟩ => by
      obtain ⟨A, c, rfl, h1, h2⟩ := Kd.S_reads hR
      exact ⟨A, c, he, h1, h2, hB⟩
  refine hpr.mono ?_
  rintro e w8 ⟨A8, c8, rfl, h8, hC13, hb8⟩
  have hC14 := Aside0.mk (Kd.C_below hC12.out hb8)
  have hB14 := Aside0.mk (below_step hB12.out hb8)
  have hr8 : Calls Try.prog 17 #[.slice A8 4 c8, .slice (some ⟨w8.heap.size + 1 + 1 + 1 + 1, 0, none⟩) 4 4] (((((w8.alloc (.cells #[.int .i64 3] 3)).alloc (.cells #[.int .i64 0] 3)).alloc (.cells #[.int .i64 0] 3)).alloc (.cells #[.int .i64 1, .int .i64 2] 3)).alloc (.cells #[.slice (some ⟨w8.heap.size, 0, none⟩) 1 1, .slice (some ⟨w8.heap.size + 1, 0, none⟩) 1 1, .slice (some ⟨w8.heap.size + 1 + 1, 0, none⟩) 1 1, .slice (some ⟨w8.heap.size + 1 + 1 + 1, 0, none⟩) 2 2] 27)) fun e w' => e = .returned (.bool true) ∧ Drawn0 (((((w8.alloc (.cells #[.int .i64 3] 3)).alloc (.cells #[.int .i64 0] 3)).alloc (.cells #[.int .i64 0] 3)).alloc (.cells #[.int .i64 1, .int .i64 2] 3)).alloc (.cells #[.slice (some ⟨w8.heap.size, 0, none⟩) 1 1, .slice (some ⟨w8.heap.size + 1, 0, none⟩) 1 1, .slice (some ⟨w8.heap.size + 1 + 1, 0, none⟩) 1 1, .slice (some ⟨w8.heap.size + 1 + 1 + 1, 0, none⟩) 2 2] 27)) w' :=
    swageref06_Rows.calls 40 A8 c8 [[3], [0], [0], [1, 2]] (some ⟨w8.heap.size + 1 + 1 + 1 + 1, 0, none⟩) 4 [[3], [0], [0], [1, 2]] true _ (Kd.C_alloc (Kd.C_alloc (Kd.C_alloc (Kd.C_alloc (Kd.C_alloc hC13 _) _) _) _) _) h8 (lit_rows4 w8 [3] [0] [0] [1, 2] (by decide) (by decide) (by decide) (by decide)) (by decide) s_rows2
  have hC15 : Aside0 (Kd.C (Kd.slice 3 (Kd.int .i64)) (((((w8.alloc (.cells #[.int .i64 3] 3)).alloc (.cells #[.int .i64 0] 3)).alloc (.cells #[.int .i64 0] 3)).alloc (.cells #[.int .i64 1, .int .i64 2] 3)).alloc (.cells #[.slice (some ⟨w8.heap.size, 0, none⟩) 1 1, .slice (some ⟨w8.heap.size + 1, 0, none⟩) 1 1, .slice (some ⟨w8.heap.size + 1 + 1, 0, none⟩) 1 1, .slice (some ⟨w8.heap.size + 1 + 1 + 1, 0, none⟩) 2 2] 27)) (some ⟨b0, 0, none⟩) 4 g4) := ⟨Kd.C_alloc (Kd.C_alloc (Kd.C_alloc (Kd.C_alloc (Kd.C_alloc hC14.out _) _) _) _) _⟩
  have hB15 : Aside0 (Below w.heap.size w (((((w8.alloc (.cells #[.int .i64 3] 3)).alloc (.cells #[.int .i64 0] 3)).alloc (.cells #[.int .i64 0] 3)).alloc (.cells #[.int .i64 1, .int .i64 2] 3)).alloc (.cells #[.slice (some ⟨w8.heap.size, 0, none⟩) 1 1, .slice (some ⟨w8.heap.size + 1, 0, none⟩) 1 1, .slice (some ⟨w8.heap.size + 1 + 1, 0, none⟩) 1 1, .slice (some ⟨w8.heap.size + 1 + 1 + 1, 0, none⟩) 2 2] 27))) := ⟨below_alloc (below_alloc (below_alloc (below_alloc (below_alloc hB14.out _) _) _) _) _⟩
  clear hpr h8 hC13 hb8 hC12 hB12 hC14 hB14
  go_wp2_with fail
  refine hr8.mono ?_
  rintro e w9 ⟨rfl, hd9⟩
  have hC16 := Aside0.mk (Kd.C_below hC15.out hd9.below)
  have hB16 := Aside0.mk (below_step hB15.out hd9.below)
  clear hr8 hd9 hC15 hB15
  go_wp2_with fail
  -- Critical
  have hcr : Calls Try.prog 25 #[.slice (some ⟨b0, 0, none⟩) 4 4] w9 fun e w' => ∃ A c, e = .returned (.slice A 0 c) ∧ Below w9.heap.size w9 w' :=
    (graph_Critical.calls (some ⟨b0, 0, none⟩) 4 g4 [] w9 hC16.out (by decide) s_crit).mono fun e w' ⟨v, he, hR, hB⟩ => by
      obtain ⟨A, c, rfl, h1, h2⟩ := Kd.R_reads hR
      exact ⟨A, c, he, hB⟩
  refine hcr.mono ?_
  rintro e w10 ⟨A10, c10, rfl, hb10⟩
  have hC17 := Aside0.mk (Kd.C_below hC16.out hb10)
  have hB17 := Aside0.mk (below_step hB16.out hb10)
  clear hcr hb10 hC16 hB16
  go_wp2_with fail
  -- Reach
  have hre : Calls Try.prog 22 #[.slice (some ⟨b0, 0, none⟩) 4 4, .int .i64 1] w10 fun e w' => ∃ A c, e = .returned (.slice A 4 c) ∧ Below w10.heap.size w10 w' :=
    (graph_Reach.calls (some ⟨b0, 0, none⟩) 4 g4 1 [true, true, true, true] w10 hC17.out (by decide) s_reach).mono fun e w' ⟨v, he, hR, hB⟩ => by
      obtain ⟨A, c, rfl, h1, h2⟩ := Kd.R_reads hR
      exact ⟨A, c, he, hB⟩
  refine hre.mono ?_
  rintro e w11 ⟨A11, c11, rfl, hb11⟩
  have hB18 := Aside0.mk (below_step hB17.out hb11)
  clear hre hb11 hC17 hB17
  go_wp2_with fail
  go_ret
  exact ⟨rfl, hB18.out⟩
def swagelaw06_small.f : Option Bool := some true
theorem swagelaw06_small.calls (r : Bool) (w : World) (h : swagelaw06_small.f = some r) : Calls Try.prog 13 #[] w fun e w' => e = .returned (.bool r) ∧ Below w.heap.size w w' := by
  obtain rfl := Option.some.inj h
  exact small_calls w
end Go.Proofs.Ytkmbhknmjnbanaa.A


namespace Go.Proofs.Ytkmbhknmjnbanaa.A
open Go.RowKit Go.Proofs.YtkmbhknmjnbanaaW.PrintWords Go.Proofs.YtkmbhknmjnbanaaW.PrintLast Go.Proofs.YtkmbhknmjnbanaaW.PrintMore
attribute [local go_sem] max2_int min2_int max_two min_two max_three min_three max_four min_four   -- for this text's walks alone
set_option linter.unusedVariables false
set_option linter.unusedSimpArgs false

def swagelaw06_GraphOrders.f (k : Nat) (l0 : List (List Int)) : Option (Bool) := (swagelaw06_small.f).bind fun t455 => ((swagelaw06_Few.f k l0).bind fun t456 => (if t456 = true then (if t455 = true then ((graph_Order.f l0).bind fun t457 => ((swageref06_Order.f k l0).bind fun t460 => ((swageref02_Ints.f k t457 t460).bind fun t463 => (if t463 = true then ((graph_Back.f k l0).bind fun t464 => ((swageref06_Back.f k l0).bind fun t467 => ((swageref05_Pairs.f k t464 t467).bind fun t470 => (if t470 = true then ((graph_Loops.f l0).bind fun t471 => ((swageref06_Loops.f k l0).bind fun t474 => ((swageref06_Rows.f k t471 t474).bind fun t477 => (some t477)))) else (some false))))) else (some false))))) else (some false)) else (some t455)))
set_option maxHeartbeats 8000000 in
set_option maxRecDepth 100000 in
theorem swagelaw06_GraphOrders.calls (k : Nat) (A0 : Option Addr) (c0 : Nat) (l0 : List (List Int)) (r : Bool) (w : World) (hr0 : Kd.C (Kd.slice 3 (Kd.int .i64)) w A0 l0.length l0) (hc0 : l0.length ≤ c0) (h : swagelaw06_GraphOrders.f k l0 = some r) :
    Calls Try.prog 4 #[.slice A0 l0.length c0] w fun e w' => e = .returned (.bool r) ∧ Below w.heap.size w w' := by
  have HR0 := Aside0.mk hr0
  have HC0 := Aside0.mk hc0
  clear hr0 hc0
  have HB := Aside0.mk (Below.refl w.heap.size w)
  have H : ((swagelaw06_small.f).bind fun t455 => ((swagelaw06_Few.f k l0).bind fun t456 => (if t456 = true then (if t455 = true then ((graph_Order.f l0).bind fun t457 => ((swageref06_Order.f k l0).bind fun t460 => ((swageref02_Ints.f k t457 t460).bind fun t463 => (if t463 = true then ((graph_Back.f k l0).bind fun t464 => ((swageref06_Back.f k l0).bind fun t467 => ((swageref05_Pairs.f k t464 t467).bind fun t470 => (if t470 = true then ((graph_Loops.f l0).bind fun t471 => ((swageref06_Loops.f k l0).bind fun t474 => ((swageref06_Rows.f k t471 t474).bind fun t477 => (some t477)))) else (some false))))) else (some false))))) else (some false)) else (some t455)))) = some r := h
  clear h
  replace H := Option.bind_eq_some_iff.mp H
  obtain ⟨t455, A20, H⟩ := H
  replace H : ((swagelaw06_Few.f k l0).bind fun t456 => (if t456 = true then (if t455 = true then ((graph_Order.f l0).bind fun t457 => ((swageref06_Order.f k l0).bind fun t460 => ((swageref02_Ints.f k t457 t460).bind fun t463 => (if t463 = true then ((graph_Back.f k l0).bind fun t464 => ((swageref06_Back.f k l0).bind fun t467 => ((swageref05_Pairs.f k t464 t467).bind fun t470 => (if t470 = true then ((graph_Loops.f l0).bind fun t471 => ((swageref06_Loops.f k l0).bind fun t474 => ((swageref06_Rows.f k t471 t474).bind fun t477 => (some t477)))) else (some false))))) else (some false))))) else (some false)) else (some t455))) = some r := H
  have A2 := Aside0.mk A20
  clear A20
  replace H := Option.bind_eq_some_iff.mp H
  obtain ⟨t456, A30, H⟩ := H
  replace H : (if t456 = true then (if t455 = true then ((graph_Order.f l0).bind fun t457 => ((swageref06_Order.f k l0).bind fun t460 => ((swageref02_Ints.f k t457 t460).bind fun t463 => (if t463 = true then ((graph_Back.f k l0).bind fun t464 => ((swageref06_Back.f k l0).bind fun t467 => ((swageref05_Pairs.f k t464 t467).bind fun t470 => (if t470 = true then ((graph_Loops.f l0).bind fun t471 => ((swageref06_Loops.f k l0).bind fun t474 => ((swageref06_Rows.f k t471 t474).bind fun t477 => (some t477)))) else (some false))))) else (some false))))) else (some false)) else (some t455)) = some r := H
  have A3 := Aside0.mk A30
  clear A30
  by_cases c4 : t456 = true
  · subst c4
    have H1 : (if t455 = true then ((graph_Order.f l0).bind fun t457 => ((swageref06_Order.f k l0).bind fun t460 => ((swageref02_Ints.f k t457 t460).bind fun t463 => (if t463 = true then ((graph_Back.f k l0).bind fun t464 => ((swageref06_Back.f k l0).bind fun t467 => ((swageref05_Pairs.f k t464 t467).bind fun t470 => (if t470 = true then ((graph_Loops.f l0).bind fun t471 => ((swageref06_Loops.f k l0).bind fun t474 => ((swageref06_Rows.f k t471 t474).bind fun t477 => (some t477)))) else (some false))))) else (some false))))) else (some false)) = some r := by rw [if_pos rfl] at H; exact H
    clear H
    have H := H1
    clear H1
    by_cases c5 : t455 = true
    · subst c5
      have H1 : ((graph_Order.f l0).bind fun t457 => ((swageref06_Order.f k l0).bind fun t460 => ((swageref02_Ints.f k t457 t460).bind fun t463 => (if t463 = true then ((graph_Back.f k l0).bind fun t464 => ((swageref06_Back.f k l0).bind fun t467 => ((swageref05_Pairs.f k t464 t467).bind fun t470 => (if t470 = true then ((graph_Loops.f l0).bind fun t471 => ((swageref06_Loops.f k l0).bind fun t474 => ((swageref06_Rows.f k t471 t474).bind fun t477 => (some t477)))) else (some false))))) else (some false))))) = some r := by rw [if_pos rfl] at H; exact H
      clear H
      have H := H1
      clear H1
      replace H := Option.bind_eq_some_iff.mp H
      obtain ⟨t457, A60, H⟩ := H
      replace H : ((swageref06_Order.f k l0).bind fun t460 => ((swageref02_Ints.f k t457 t460).bind fun t463 => (if t463 = true then ((graph_Back.f k l0).bind fun t464 => ((swageref06_Back.f k l0).bind fun t467 => ((swageref05_Pairs.f k t464 t467).bind fun t470 => (if t470 = true then ((graph_Loops.f l0).bind fun t471 => ((swageref06_Loops.f k l0).bind fun t474 => ((swageref06_Rows.f k t471 t474).bind fun t477 => (some t477)))) else (some false))))) else (some false)))) = some r := H
      have A6 := Aside0.mk A60
      clear A60
      replace H := Option.bind_eq_some_iff.mp H
      obtain ⟨t460, A70, H⟩ := H
      replace H : ((swageref02_Ints.f k t457 t460).bind fun t463 => (if t463 = true then ((graph_Back.f k l0).bind fun t464 => ((swageref06_Back.f k l0).bind fun t467 => ((swageref05_Pairs.f k t464 t467).bind fun t470 => (if t470 = true then ((graph_Loops.f l0).bind fun t471 => ((swageref06_Loops.f k l0).bind fun t474 => ((swageref06_Rows.f k t471 t474).bind fun t477 => (some t477)))) else (some false))))) else (some false))) = some r := H
      have A7 := Aside0.mk A70
      clear A70
      replace H := Option.bind_eq_some_iff.mp H
      obtain ⟨t463, A80, H⟩ := H
      replace H : (if t463 = true then ((graph_Back.f k l0).bind fun t464 => ((swageref06_Back.f k l0).bind fun t467 => ((swageref05_Pairs.f k t464 t467).bind fun t470 => (if t470 = true then ((graph_Loops.f l0).bind fun t471 => ((swageref06_Loops.f k l0).bind fun t474 => ((swageref06_Rows.f k t471 t474).bind fun t477 => (some t477)))) else (some false))))) else (some false)) = some r := H
      have A8 := Aside0.mk A80
      clear A80
      by_cases c9 : t463 = true
      · subst c9
        have H1 : ((graph_Back.f k l0).bind fun t464 => ((swageref06_Back.f k l0).bind fun t467 => ((swageref05_Pairs.f k t464 t467).bind fun t470 => (if t470 = true then ((graph_Loops.f l0).bind fun t471 => ((swageref06_Loops.f k l0).bind fun t474 => ((swageref06_Rows.f k t471 t474).bind fun t477 => (some t477)))) else (some false))))) = some r := by rw [if_pos rfl] at H; exact H
        clear H
        have H := H1
        clear H1
        replace H := Option.bind_eq_some_iff.mp H
        obtain ⟨t464, A100, H⟩ := H
        replace H : ((swageref06_Back.f k l0).bind fun t467 => ((swageref05_Pairs.f k t464 t467).bind fun t470 => (if t470 = true then ((graph_Loops.f l0).bind fun t471 => ((swageref06_Loops.f k l0).bind fun t474 => ((swageref06_Rows.f k t471 t474).bind fun t477 => (some t477)))) else (some false)))) = some r := H
        have A10 := Aside0.mk A100
        clear A100
        replace H := Option.bind_eq_some_iff.mp H
        obtain ⟨t467, A110, H⟩ := H
        replace H : ((swageref05_Pairs.f k t464 t467).bind fun t470 => (if t470 = true then ((graph_Loops.f l0).bind fun t471 => ((swageref06_Loops.f k l0).bind fun t474 => ((swageref06_Rows.f k t471 t474).bind fun t477 => (some t477)))) else (some false))) = some r := H
        have A11 := Aside0.mk A110
        clear A110
        replace H := Option.bind_eq_some_iff.mp H
        obtain ⟨t470, A120, H⟩ := H
        replace H : (if t470 = true then ((graph_Loops.f l0).bind fun t471 => ((swageref06_Loops.f k l0).bind fun t474 => ((swageref06_Rows.f k t471 t474).bind fun t477 => (some t477)))) else (some false)) = some r := H
        have A12 := Aside0.mk A120
        clear A120
        by_cases c13 : t470 = true
        · subst c13
          have H1 : ((graph_Loops.f l0).bind fun t471 => ((swageref06_Loops.f k l0).bind fun t474 => ((swageref06_Rows.f k t471 t474).bind fun t477 => (some t477)))) = some r := by rw [if_pos rfl] at H; exact H
          clear H
          have H := H1
          clear H1
          replace H := Option.bind_eq_some_iff.mp H
          obtain ⟨t471, A140, H⟩ := H
          replace H : ((swageref06_Loops.f k l0).bind fun t474 => ((swageref06_Rows.f k t471 t474).bind fun t477 => (some t477))) = some r := H
          have A14 := Aside0.mk A140
          clear A140
          replace H := Option.bind_eq_some_iff.mp H
          obtain ⟨t474, A150, H⟩ := H
          replace H : ((swageref06_Rows.f k t471 t474).bind fun t477 => (some t477)) = some r := H
          have A15 := Aside0.mk A150
          clear A150
          replace H := Option.bind_eq_some_iff.mp H
          obtain ⟨t477, A160, H⟩ := H
          replace H : (some t477) = some r := H
          have A16 := Aside0.mk A160
          clear A160
          obtain rfl := Option.some.inj H
          go_enter Try.func4, Try.ntmps4
          go_wp2_with (first | ((with_reducible refine gate_callee (f := 13) rfl ?_); refine goesL_ (some 5) rfl rfl Try.func13 (by kernel_rfl) rfl #[] rfl (by (try simp only [List.map_toArray, List.map_cons, List.map_nil]); first | done | rfl | (simp only [List.length_drop, List.length_take]; rfl)) ?_; (with_reducible refine (swagelaw06_small.calls  true _ A2.out).mono ?_); rintro e w17 ⟨rfl, hb⟩; refine ⟨_, rfl, ?_⟩; have n0_ := Aside0.mk (below_step (by repeat (first | (with_reducible first | exact HB.out | apply below_alloc | apply pw_below_drewN | apply below_drew1) | exact HB.out)) hb); clear HB; have HB := n0_; clear n0_; (try clear hb); (try clear hb2); (try clear hk); (try clear hi)) | ((with_reducible refine gate_callee (f := 14) rfl ?_); refine goesL_ (some 7) rfl rfl Try.func14 (by kernel_rfl) rfl #[.slice A0 l0.length c0] rfl (by (try simp only [List.map_toArray, List.map_cons, List.map_nil]); first | done | rfl | (simp only [List.length_drop, List.length_take]; rfl)) ?_; (with_reducible refine (swagelaw06_Few.calls k _ _ l0 true _ ?side1 ?side2 A3.out).mono ?_); (case side1 => repeat (first | exact (Kd.C_below HR0.out HB.out) | (with_reducible refine Kd.C_alloc ?_ _) | (with_reducible refine Kd.C_drewN ?_ _) | (with_reducible refine Kd.C_drew ?_))); (case side2 => exact HC0.out); rintro e w' ⟨rfl, ⟨nd, rfl⟩⟩; refine ⟨_, rfl, ?_⟩) | (go_at_call 28; (with_reducible refine (graph_Order.calls _ _ l0 t457 _ ?side1 ?side2 A6.out).mono ?_); (case side1 => repeat (first | exact (Kd.C_below HR0.out (by repeat (first | (with_reducible first | exact HB.out | apply below_alloc | apply pw_below_drewN | apply below_drew1) | exact HB.out))) | (with_reducible refine Kd.C_alloc ?_ _) | (with_reducible refine Kd.C_drewN ?_ _) | (with_reducible refine Kd.C_drew ?_))); (case side2 => exact HC0.out); rintro e w18 ⟨v458, rfl, ho0, hb⟩; have n0_ := Aside0.mk (Kd.R_lower ho0 (below_size (by repeat (first | (with_reducible first | exact HB.out | apply below_alloc | apply pw_below_drewN | apply below_drew1) | exact HB.out)))); have n1_ := Aside0.mk (below_step (by repeat (first | (with_reducible first | exact HB.out | apply below_alloc | apply pw_below_drewN | apply below_drew1) | exact HB.out)) hb); clear HB; have HO459 := n0_; have HB := n1_; clear n0_ n1_; (try clear hb); (try clear hb2); (try clear hk); (try clear hi); (try clear ho0)) | (go_at_call 29; (with_reducible refine (swageref06_Order.calls k _ _ l0 t460 _ ?side1 ?side2 A7.out).mono ?_); (case side1 => repeat (first | exact (Kd.C_below HR0.out HB.out) | (with_reducible refine Kd.C_alloc ?_ _) | (with_reducible refine Kd.C_drewN ?_ _) | (with_reducible refine Kd.C_drew ?_))); (case side2 => exact HC0.out); rintro e w19 ⟨v461, rfl, ho0, hb⟩; have n0_ := Aside0.mk (Kd.R_elder' (by (with_reducible repeat (first | apply Kd.R_alloc | apply Kd.R_drewN | apply Kd.R_drew)); exact HO459.out) (Kd.R_base ho0) hb); have n1_ := Aside0.mk (Kd.R_lower (Kd.R_new' ho0 (Kd.R_lt (by (with_reducible repeat (first | apply Kd.R_alloc | apply Kd.R_drewN | apply Kd.R_drew)); exact HO459.out))) (below_size (by repeat (first | (with_reducible first | exact HB.out | apply below_alloc | apply pw_below_drewN | apply below_drew1) | exact HB.out)))); have n2_ := Aside0.mk (below_step (by repeat (first | (with_reducible first | exact HB.out | apply below_alloc | apply pw_below_drewN | apply below_drew1) | exact HB.out)) hb); clear HO459; clear HB; have HO459 := n0_; have HO462 := n1_; have HB := n2_; clear n0_ n1_ n2_; (try clear hb); (try clear hb2); (try clear hk); (try clear hi); (try clear ho0); obtain ⟨Ao20, co20, eo20⟩ := Kd.R_slice HO459.out; subst eo20; obtain ⟨Ao21, co21, eo21⟩ := Kd.R_slice HO462.out; subst eo21) | (go_at_call 27; (with_reducible refine (swageref02_Ints.calls k _ _ t457 _ _ t460 true _ ?side1 ?side2 ?side3 ?side4 A8.out).mono ?_); (case side1 => repeat (first | exact (Kd.R_reads' HO459.out).2.2 | (with_reducible refine Kd.C_alloc ?_ _) | (with_reducible refine Kd.C_drewN ?_ _) | (with_reducible refine Kd.C_drew ?_))); (case side2 => exact (Kd.R_reads' HO459.out).2.1); (case side3 => repeat (first | exact (Kd.R_reads' HO462.out).2.2 | (with_reducible refine Kd.C_alloc ?_ _) | (with_reducible refine Kd.C_drewN ?_ _) | (with_reducible refine Kd.C_drew ?_))); (case side4 => exact (Kd.R_reads' HO462.out).2.1); rintro e w' ⟨rfl, ⟨nd, rfl⟩⟩) | (go_at_call 30; (with_reducible refine (graph_Back.calls k _ _ l0 t464 _ ?side1 ?side2 A10.out).mono ?_); (case side1 => repeat (first | exact (Kd.C_below HR0.out (by repeat (first | (with_reducible first | exact HB.out | apply below_alloc | apply pw_below_drewN | apply below_drew1) | exact HB.out))) | (with_reducible refine Kd.C_alloc ?_ _) | (with_reducible refine Kd.C_drewN ?_ _) | (with_reducible refine Kd.C_drew ?_))); (case side2 => exact HC0.out); rintro e w22 ⟨v465, rfl, ho0, hb⟩; have n0_ := Aside0.mk (Kd.R_below (by (with_reducible repeat (first | apply Kd.R_alloc | apply Kd.R_drewN | apply Kd.R_drew)); exact HO459.out) hb); have n1_ := Aside0.mk (Kd.R_below (by (with_reducible repeat (first | apply Kd.R_alloc | apply Kd.R_drewN | apply Kd.R_drew)); exact HO462.out) hb); have n2_ := Aside0.mk (Kd.R_lower ho0 (below_size (by repeat (first | (with_reducible first | exact HB.out | apply below_alloc | apply pw_below_drewN | apply below_drew1) | exact HB.out)))); have n3_ := Aside0.mk (below_step (by repeat (first | (with_reducible first | exact HB.out | apply below_alloc | apply pw_below_drewN | apply below_drew1) | exact HB.out)) hb); clear HO459; clear HO462; clear HB; have HO459 := n0_; have HO462 := n1_; have HO466 := n2_; have HB := n3_; clear n0_ n1_ n2_ n3_; (try clear hb); (try clear hb2); (try clear hk); (try clear hi); (try clear ho0)) | (go_at_call 31; (with_reducible refine (swageref06_Back.calls k _ _ l0 t467 _ ?side1 ?side2 A11.out).mono ?_); (case side1 => repeat (first | exact (Kd.C_below HR0.out HB.out) | (with_reducible refine Kd.C_alloc ?_ _) | (with_reducible refine Kd.C_drewN ?_ _) | (with_reducible refine Kd.C_drew ?_))); (case side2 => exact HC0.out); rintro e w23 ⟨v468, rfl, ho0, hb⟩; have n0_ := Aside0.mk (Kd.R_below (by (with_reducible repeat (first | apply Kd.R_alloc | apply Kd.R_drewN | apply Kd.R_drew)); exact HO459.out) hb); have n1_ := Aside0.mk (Kd.R_below (by (with_reducible repeat (first | apply Kd.R_alloc | apply Kd.R_drewN | apply Kd.R_drew)); exact HO462.out) hb); have n2_ := Aside0.mk (Kd.R_elder' (by (with_reducible repeat (first | apply Kd.R_alloc | apply Kd.R_drewN | apply Kd.R_drew)); exact HO466.out) (Kd.R_base ho0) hb); have n3_ := Aside0.mk (Kd.R_lower (Kd.R_new' ho0 (Kd.R_lt (by (with_reducible repeat (first | apply Kd.R_alloc | apply Kd.R_drewN | apply Kd.R_drew)); exact HO466.out))) (below_size (by repeat (first | (with_reducible first | exact HB.out | apply below_alloc | apply pw_below_drewN | apply below_drew1) | exact HB.out)))); have n4_ := Aside0.mk (below_step (by repeat (first | (with_reducible first | exact HB.out | apply below_alloc | apply pw_below_drewN | apply below_drew1) | exact HB.out)) hb); clear HO459; clear HO462; clear HO466; clear HB; have HO459 := n0_; have HO462 := n1_; have HO466 := n2_; have HO469 := n3_; have HB := n4_; clear n0_ n1_ n2_ n3_ n4_; (try clear hb); (try clear hb2); (try clear hk); (try clear hi); (try clear ho0); obtain ⟨Ao24, co24, eo24⟩ := Kd.R_slice HO466.out; subst eo24; obtain ⟨Ao25, co25, eo25⟩ := Kd.R_slice HO469.out; subst eo25) | (go_at_call 24; (with_reducible refine (swageref05_Pairs.calls k _ _ t464 _ _ t467 true _ ?side1 ?side2 ?side3 ?side4 A12.out).mono ?_); (case side1 => repeat (first | exact (Kd.R_reads' HO466.out).2.2 | (with_reducible refine Kd.C_alloc ?_ _) | (with_reducible refine Kd.C_drewN ?_ _) | (with_reducible refine Kd.C_drew ?_))); (case side2 => exact (Kd.R_reads' HO466.out).2.1); (case side3 => repeat (first | exact (Kd.R_reads' HO469.out).2.2 | (with_reducible refine Kd.C_alloc ?_ _) | (with_reducible refine Kd.C_drewN ?_ _) | (with_reducible refine Kd.C_drew ?_))); (case side4 => exact (Kd.R_reads' HO469.out).2.1); rintro e w' ⟨rfl, ⟨nd, rfl⟩⟩) | (go_at_call 32; (with_reducible refine (graph_Loops.calls _ _ l0 t471 _ ?side1 ?side2 A14.out).mono ?_); (case side1 => repeat (first | exact (Kd.C_below HR0.out (by repeat (first | (with_reducible first | exact HB.out | apply below_alloc | apply pw_below_drewN | apply below_drew1) | exact HB.out))) | (with_reducible refine Kd.C_alloc ?_ _) | (with_reducible refine Kd.C_drewN ?_ _) | (with_reducible refine Kd.C_drew ?_))); (case side2 => exact HC0.out); rintro e w26 ⟨v472, rfl, ho0, hb⟩; have n0_ := Aside0.mk (Kd.R_below (by (with_reducible repeat (first | apply Kd.R_alloc | apply Kd.R_drewN | apply Kd.R_drew)); exact HO459.out) hb); have n1_ := Aside0.mk (Kd.R_below (by (with_reducible repeat (first | apply Kd.R_alloc | apply Kd.R_drewN | apply Kd.R_drew)); exact HO462.out) hb); have n2_ := Aside0.mk (Kd.R_below (by (with_reducible repeat (first | apply Kd.R_alloc | apply Kd.R_drewN | apply Kd.R_drew)); exact HO466.out) hb); have n3_ := Aside0.mk (Kd.R_below (by (with_reducible repeat (first | apply Kd.R_alloc | apply Kd.R_drewN | apply Kd.R_drew)); exact HO469.out) hb); have n4_ := Aside0.mk (Kd.S_lower (Kd.S_new' (Kd.S_new' ho0 (Kd.R_lt (by (with_reducible repeat (first | apply Kd.R_alloc | apply Kd.R_drewN | apply Kd.R_drew)); exact HO459.out))) (Kd.R_lt (by (with_reducible repeat (first | apply Kd.R_alloc | apply Kd.R_drewN | apply Kd.R_drew)); exact HO462.out))) (below_size (by repeat (first | (with_reducible first | exact HB.out | apply below_alloc | apply pw_below_drewN | apply below_drew1) | exact HB.out)))); have n5_ := Aside0.mk (below_step (by repeat (first | (with_reducible first | exact HB.out | apply below_alloc | apply pw_below_drewN | apply below_drew1) | exact HB.out)) hb); clear HO459; clear HO462; clear HO466; clear HO469; clear HB; have HO459 := n0_; have HO462 := n1_; have HO466 := n2_; have HO469 := n3_; have HO473 := n4_; have HB := n5_; clear n0_ n1_ n2_ n3_ n4_ n5_; (try clear hb); (try clear hb2); (try clear hk); (try clear hi); (try clear ho0)) | (go_at_call 33; (with_reducible refine (swageref06_Loops.calls k _ _ l0 t474 _ ?side1 ?side2 A15.out).mono ?_); (case side1 => repeat (first | exact (Kd.C_below HR0.out HB.out) | (with_reducible refine Kd.C_alloc ?_ _) | (with_reducible refine Kd.C_drewN ?_ _) | (with_reducible refine Kd.C_drew ?_))); (case side2 => exact HC0.out); rintro e w27 ⟨v475, rfl, ho0, hb⟩; have n0_ := Aside0.mk (Kd.R_below (by (with_reducible repeat (first | apply Kd.R_alloc | apply Kd.R_drewN | apply Kd.R_drew)); exact HO459.out) hb); have n1_ := Aside0.mk (Kd.R_below (by (with_reducible repeat (first | apply Kd.R_alloc | apply Kd.R_drewN | apply Kd.R_drew)); exact HO462.out) hb); have n2_ := Aside0.mk (Kd.R_below (by (with_reducible repeat (first | apply Kd.R_alloc | apply Kd.R_drewN | apply Kd.R_drew)); exact HO466.out) hb); have n3_ := Aside0.mk (Kd.R_below (by (with_reducible repeat (first | apply Kd.R_alloc | apply Kd.R_drewN | apply Kd.R_drew)); exact HO469.out) hb); have n4_ := Aside0.mk (Kd.S_elder' (by (with_reducible repeat (first | apply Kd.S_alloc | apply Kd.S_drewN | apply Kd.S_drew)); exact HO473.out) (Kd.S_base ho0) hb); have n5_ := Aside0.mk (Kd.S_lower (Kd.S_new' (Kd.S_new' (Kd.S_new' ho0 (Kd.R_lt (by (with_reducible repeat (first | apply Kd.R_alloc | apply Kd.R_drewN | apply Kd.R_drew)); exact HO459.out))) (Kd.R_lt (by (with_reducible repeat (first | apply Kd.R_alloc | apply Kd.R_drewN | apply Kd.R_drew)); exact HO462.out))) (Kd.S_lt (by (with_reducible repeat (first | apply Kd.S_alloc | apply Kd.S_drewN | apply Kd.S_drew)); exact HO473.out))) (below_size (by repeat (first | (with_reducible first | exact HB.out | apply below_alloc | apply pw_below_drewN | apply below_drew1) | exact HB.out)))); have n6_ := Aside0.mk (below_step (by repeat (first | (with_reducible first | exact HB.out | apply below_alloc | apply pw_below_drewN | apply below_drew1) | exact HB.out)) hb); clear HO459; clear HO462; clear HO466; clear HO469; clear HO473; clear HB; have HO459 := n0_; have HO462 := n1_; have HO466 := n2_; have HO469 := n3_; have HO473 := n4_; have HO476 := n5_; have HB := n6_; clear n0_ n1_ n2_ n3_ n4_ n5_ n6_; (try clear hb); (try clear hb2); (try clear hk); (try clear hi); (try clear ho0); obtain ⟨Ao28, co28, eo28⟩ := Kd.S_slice HO473.out; subst eo28; obtain ⟨Ao29, co29, eo29⟩ := Kd.S_slice HO476.out; subst eo29) | (go_at_call 17; (with_reducible refine (swageref06_Rows.calls k _ _ t471 _ _ t474 t477 _ ?side1 ?side2 ?side3 ?side4 A16.out).mono ?_); (case side1 => repeat (first | exact (Kd.S_reads' HO473.out).2.2 | (with_reducible refine Kd.C_alloc ?_ _) | (with_reducible refine Kd.C_drewN ?_ _) | (with_reducible refine Kd.C_drew ?_))); (case side2 => exact (Kd.S_reads' HO473.out).2.1); (case side3 => repeat (first | exact (Kd.S_reads' HO476.out).2.2 | (with_reducible refine Kd.C_alloc ?_ _) | (with_reducible refine Kd.C_drewN ?_ _) | (with_reducible refine Kd.C_drew ?_))); (case side4 => exact (Kd.S_reads' HO476.out).2.1); rintro e w' ⟨rfl, ⟨nd, rfl⟩⟩))
          go_ret
          exact ⟨by first | rfl | (simp [errW_none, errW_some] <;> rfl) | (simp [*, errW_none, errW_some] <;> rfl), by repeat (first | (with_reducible first | exact HB.out | apply below_alloc | apply pw_below_drewN | apply below_drew1) | exact HB.out)⟩
        · replace c13 := Bool.eq_false_iff.mpr c13
          subst c13
          have H1 : (some false) = some r := by rw [if_neg (show ¬ (false = true) by decide)] at H; exact H
          clear H
          have H := H1
          clear H1
          obtain rfl := Option.some.inj H
          go_enter Try.func4, Try.ntmps4
          go_wp2_with (first | ((with_reducible refine gate_callee (f := 13) rfl ?_); refine goesL_ (some 5) rfl rfl Try.func13 (by kernel_rfl) rfl #[] rfl (by (try simp only [List.map_toArray, List.map_cons, List.map_nil]); first | done | rfl | (simp only [List.length_drop, List.length_take]; rfl)) ?_; (with_reducible refine (swagelaw06_small.calls  true _ A2.out).mono ?_); rintro e w30 ⟨rfl, hb⟩; refine ⟨_, rfl, ?_⟩; have n0_ := Aside0.mk (below_step (by repeat (first | (with_reducible first | exact HB.out | apply below_alloc | apply pw_below_drewN | apply below_drew1) | exact HB.out)) hb); clear HB; have HB := n0_; clear n0_; (try clear hb); (try clear hb2); (try clear hk); (try clear hi)) | ((with_reducible refine gate_callee (f := 14) rfl ?_); refine goesL_ (some 7) rfl rfl Try.func14 (by kernel_rfl) rfl #[.slice A0 l0.length c0] rfl (by (try simp only [List.map_toArray, List.map_cons, List.map_nil]); first | done | rfl | (simp only [List.length_drop, List.length_take]; rfl)) ?_; (with_reducible refine (swagelaw06_Few.calls k _ _ l0 true _ ?side1 ?side2 A3.out).mono ?_); (case side1 => repeat (first | exact (Kd.C_below HR0.out HB.out) | (with_reducible refine Kd.C_alloc ?_ _) | (with_reducible refine Kd.C_drewN ?_ _) | (with_reducible refine Kd.C_drew ?_))); (case side2 => exact HC0.out); rintro e w' ⟨rfl, ⟨nd, rfl⟩⟩; refine ⟨_, rfl, ?_⟩) | (go_at_call 28; (with_reducible refine (graph_Order.calls _ _ l0 t457 _ ?side1 ?side2 A6.out).mono ?_); (case side1 => repeat (first | exact (Kd.C_below HR0.out (by repeat (first | (with_reducible first | exact HB.out | apply below_alloc | apply pw_below_drewN | apply below_drew1) | exact HB.out))) | (with_reducible refine Kd.C_alloc ?_ _) | (with_reducible refine Kd.C_drewN ?_ _) | (with_reducible refine Kd.C_drew ?_))); (case side2 => exact HC0.out); rintro e w31 ⟨v458, rfl, ho0, hb⟩; have n0_ := Aside0.mk (Kd.R_lower ho0 (below_size (by repeat (first | (with_reducible first | exact HB.out | apply below_alloc | apply pw_below_drewN | apply below_drew1) | exact HB.out)))); have n1_ := Aside0.mk (below_step (by repeat (first | (with_reducible first | exact HB.out | apply below_alloc | apply pw_below_drewN | apply below_drew1) | exact HB.out)) hb); clear HB; have HO459 := n0_; have HB := n1_; clear n0_ n1_; (try clear hb); (try clear hb2); (try clear hk); (try clear hi); (try clear ho0)) | (go_at_call 29; (with_reducible refine (swageref06_Order.calls k _ _ l0 t460 _ ?side1 ?side2 A7.out).mono ?_); (case side1 => repeat (first | exact (Kd.C_below HR0.out HB.out) | (with_reducible refine Kd.C_alloc ?_ _) | (with_reducible refine Kd.C_drewN ?_ _) | (with_reducible refine Kd.C_drew ?_))); (case side2 => exact HC0.out); rintro e w32 ⟨v461, rfl, ho0, hb⟩; have n0_ := Aside0.mk (Kd.R_elder' (by (with_reducible repeat (first | apply Kd.R_alloc | apply Kd.R_drewN | apply Kd.R_drew)); exact HO459.out) (Kd.R_base ho0) hb); have n1_ := Aside0.mk (Kd.R_lower (Kd.R_new' ho0 (Kd.R_lt (by (with_reducible repeat (first | apply Kd.R_alloc | apply Kd.R_drewN | apply Kd.R_drew)); exact HO459.out))) (below_size (by repeat (first | (with_reducible first | exact HB.out | apply below_alloc | apply pw_below_drewN | apply below_drew1) | exact HB.out)))); have n2_ := Aside0.mk (below_step (by repeat (first | (with_reducible first | exact HB.out | apply below_alloc | apply pw_below_drewN | apply below_drew1) | exact HB.out)) hb); clear HO459; clear HB; have HO459 := n0_; have HO462 := n1_; have HB := n2_; clear n0_ n1_ n2_; (try clear hb); (try clear hb2); (try clear hk); (try clear hi); (try clear ho0); obtain ⟨Ao33, co33, eo33⟩ := Kd.R_slice HO459.out; subst eo33; obtain ⟨Ao34, co34, eo34⟩ := Kd.R_slice HO462.out; subst eo34) | (go_at_call 27; (with_reducible refine (swageref02_Ints.calls k _ _ t457 _ _ t460 true _ ?side1 ?side2 ?side3 ?side4 A8.out).mono ?_); (case side1 => repeat (first | exact (Kd.R_reads' HO459.out).2.2 | (with_reducible refine Kd.C_alloc ?_ _) | (with_reducible refine Kd.C_drewN ?_ _) | (with_reducible refine Kd.C_drew ?_))); (case side2 => exact (Kd.R_reads' HO459.out).2.1); (case side3 => repeat (first | exact (Kd.R_reads' HO462.out).2.2 | (with_reducible refine Kd.C_alloc ?_ _) | (with_reducible refine Kd.C_drewN ?_ _) | (with_reducible refine Kd.C_drew ?_))); (case side4 => exact (Kd.R_reads' HO462.out).2.1); rintro e w' ⟨rfl, ⟨nd, rfl⟩⟩) | (go_at_call 30; (with_reducible refine (graph_Back.calls k _ _ l0 t464 _ ?side1 ?side2 A10.out).mono ?_); (case side1 => repeat (first | exact (Kd.C_below HR0.out (by repeat (first | (with_reducible first | exact HB.out | apply below_alloc | apply pw_below_drewN | apply below_drew1) | exact HB.out))) | (with_reducible refine Kd.C_alloc ?_ _) | (with_reducible refine Kd.C_drewN ?_ _) | (with_reducible refine Kd.C_drew ?_))); (case side2 => exact HC0.out); rintro e w35 ⟨v465, rfl, ho0, hb⟩; have n0_ := Aside0.mk (Kd.R_below (by (with_reducible repeat (first | apply Kd.R_alloc | apply Kd.R_drewN | apply Kd.R_drew)); exact HO459.out) hb); have n1_ := Aside0.mk (Kd.R_below (by (with_reducible repeat (first | apply Kd.R_alloc | apply Kd.R_drewN | apply Kd.R_drew)); exact HO462.out) hb); have n2_ := Aside0.mk (Kd.R_lower ho0 (below_size (by repeat (first | (with_reducible first | exact HB.out | apply below_alloc | apply pw_below_drewN | apply below_drew1) | exact HB.out)))); have n3_ := Aside0.mk (below_step (by repeat (first | (with_reducible first | exact HB.out | apply below_alloc | apply pw_below_drewN | apply below_drew1) | exact HB.out)) hb); clear HO459; clear HO462; clear HB; have HO459 := n0_; have HO462 := n1_; have HO466 := n2_; have HB := n3_; clear n0_ n1_ n2_ n3_; (try clear hb); (try clear hb2); (try clear hk); (try clear hi); (try clear ho0)) | (go_at_call 31; (with_reducible refine (swageref06_Back.calls k _ _ l0 t467 _ ?side1 ?side2 A11.out).mono ?_); (case side1 => repeat (first | exact (Kd.C_below HR0.out HB.out) | (with_reducible refine Kd.C_alloc ?_ _) | (with_reducible refine Kd.C_drewN ?_ _) | (with_reducible refine Kd.C_drew ?_))); (case side2 => exact HC0.out); rintro e w36 ⟨v468, rfl, ho0, hb⟩; have n0_ := Aside0.mk (Kd.R_below (by (with_reducible repeat (first | apply Kd.R_alloc | apply Kd.R_drewN | apply Kd.R_drew)); exact HO459.out) hb); have n1_ := Aside0.mk (Kd.R_below (by (with_reducible repeat (first | apply Kd.R_alloc | apply Kd.R_drewN | apply Kd.R_drew)); exact HO462.out) hb); have n2_ := Aside0.mk (Kd.R_elder' (by (with_reducible repeat (first | apply Kd.R_alloc | apply Kd.R_drewN | apply Kd.R_drew)); exact HO466.out) (Kd.R_base ho0) hb); have n3_ := Aside0.mk (Kd.R_lower (Kd.R_new' ho0 (Kd.R_lt (by (with_reducible repeat (first | apply Kd.R_alloc | apply Kd.R_drewN | apply Kd.R_drew)); exact HO466.out))) (below_size (by repeat (first | (with_reducible first | exact HB.out | apply below_alloc | apply pw_below_drewN | apply below_drew1) | exact HB.out)))); have n4_ := Aside0.mk (below_step (by repeat (first | (with_reducible first | exact HB.out | apply below_alloc | apply pw_below_drewN | apply below_drew1) | exact HB.out)) hb); clear HO459; clear HO462; clear HO466; clear HB; have HO459 := n0_; have HO462 := n1_; have HO466 := n2_; have HO469 := n3_; have HB := n4_; clear n0_ n1_ n2_ n3_ n4_; (try clear hb); (try clear hb2); (try clear hk); (try clear hi); (try clear ho0); obtain ⟨Ao37, co37, eo37⟩ := Kd.R_slice HO466.out; subst eo37; obtain ⟨Ao38, co38, eo38⟩ := Kd.R_slice HO469.out; subst eo38) | (go_at_call 24; (with_reducible refine (swageref05_Pairs.calls k _ _ t464 _ _ t467 false _ ?side1 ?side2 ?side3 ?side4 A12.out).mono ?_); (case side1 => repeat (first | exact (Kd.R_reads' HO466.out).2.2 | (with_reducible refine Kd.C_alloc ?_ _) | (with_reducible refine Kd.C_drewN ?_ _) | (with_reducible refine Kd.C_drew ?_))); (case side2 => exact (Kd.R_reads' HO466.out).2.1); (case side3 => repeat (first | exact (Kd.R_reads' HO469.out).2.2 | (with_reducible refine Kd.C_alloc ?_ _) | (with_reducible refine Kd.C_drewN ?_ _) | (with_reducible refine Kd.C_drew ?_))); (case side4 => exact (Kd.R_reads' HO469.out).2.1); rintro e w' ⟨rfl, ⟨nd, rfl⟩⟩))
          go_ret
          exact ⟨by first | rfl | (simp [errW_none, errW_some] <;> rfl) | (simp [*, errW_none, errW_some] <;> rfl), by repeat (first | (with_reducible first | exact HB.out | apply below_alloc | apply pw_below_drewN | apply below_drew1) | exact HB.out)⟩
      · replace c9 := Bool.eq_false_iff.mpr c9
        subst c9
        have H1 : (some false) = some r := by rw [if_neg (show ¬ (false = true) by decide)] at H; exact H
        clear H
        have H := H1
        clear H1
        obtain rfl := Option.some.inj H
        go_enter Try.func4, Try.ntmps4
        go_wp2_with (first | ((with_reducible refine gate_callee (f := 13) rfl ?_); refine goesL_ (some 5) rfl rfl Try.func13 (by kernel_rfl) rfl #[] rfl (by (try simp only [List.map_toArray, List.map_cons, List.map_nil]); first | done | rfl | (simp only [List.length_drop, List.length_take]; rfl)) ?_; (with_reducible refine (swagelaw06_small.calls  true _ A2.out).mono ?_); rintro e w39 ⟨rfl, hb⟩; refine ⟨_, rfl, ?_⟩; have n0_ := Aside0.mk (below_step (by repeat (first | (with_reducible first | exact HB.out | apply below_alloc | apply pw_below_drewN | apply below_drew1) | exact HB.out)) hb); clear HB; have HB := n0_; clear n0_; (try clear hb); (try clear hb2); (try clear hk); (try clear hi)) | ((with_reducible refine gate_callee (f := 14) rfl ?_); refine goesL_ (some 7) rfl rfl Try.func14 (by kernel_rfl) rfl #[.slice A0 l0.length c0] rfl (by (try simp only [List.map_toArray, List.map_cons, List.map_nil]); first | done | rfl | (simp only [List.length_drop, List.length_take]; rfl)) ?_; (with_reducible refine (swagelaw06_Few.calls k _ _ l0 true _ ?side1 ?side2 A3.out).mono ?_); (case side1 => repeat (first | exact (Kd.C_below HR0.out HB.out) | (with_reducible refine Kd.C_alloc ?_ _) | (with_reducible refine Kd.C_drewN ?_ _) | (with_reducible refine Kd.C_drew ?_))); (case side2 => exact HC0.out); rintro e w' ⟨rfl, ⟨nd, rfl⟩⟩; refine ⟨_, rfl, ?_⟩) | (go_at_call 28; (with_reducible refine (graph_Order.calls _ _ l0 t457 _ ?side1 ?side2 A6.out).mono ?_); (case side1 => repeat (first | exact (Kd.C_below HR0.out (by repeat (first | (with_reducible first | exact HB.out | apply below_alloc | apply pw_below_drewN | apply below_drew1) | exact HB.out))) | (with_reducible refine Kd.C_alloc ?_ _) | (with_reducible refine Kd.C_drewN ?_ _) | (with_reducible refine Kd.C_drew ?_))); (case side2 => exact HC0.out); rintro e w40 ⟨v458, rfl, ho0, hb⟩; have n0_ := Aside0.mk (Kd.R_lower ho0 (below_size (by repeat (first | (with_reducible first | exact HB.out | apply below_alloc | apply pw_below_drewN | apply below_drew1) | exact HB.out)))); have n1_ := Aside0.mk (below_step (by repeat (first | (with_reducible first | exact HB.out | apply below_alloc | apply pw_below_drewN | apply below_drew1) | exact HB.out)) hb); clear HB; have HO459 := n0_; have HB := n1_; clear n0_ n1_; (try clear hb); (try clear hb2); (try clear hk); (try clear hi); (try clear ho0)) | (go_at_call 29; (with_reducible refine (swageref06_Order.calls k _ _ l0 t460 _ ?side1 ?side2 A7.out).mono ?_); (case side1 => repeat (first | exact (Kd.C_below HR0.out HB.out) | (with_reducible refine Kd.C_alloc ?_ _) | (with_reducible refine Kd.C_drewN ?_ _) | (with_reducible refine Kd.C_drew ?_))); (case side2 => exact HC0.out); rintro e w41 ⟨v461, rfl, ho0, hb⟩; have n0_ := Aside0.mk (Kd.R_elder' (by (with_reducible repeat (first | apply Kd.R_alloc | apply Kd.R_drewN | apply Kd.R_drew)); exact HO459.out) (Kd.R_base ho0) hb); have n1_ := Aside0.mk (Kd.R_lower (Kd.R_new' ho0 (Kd.R_lt (by (with_reducible repeat (first | apply Kd.R_alloc | apply Kd.R_drewN | apply Kd.R_drew)); exact HO459.out))) (below_size (by repeat (first | (with_reducible first | exact HB.out | apply below_alloc | apply pw_below_drewN | apply below_drew1) | exact HB.out)))); have n2_ := Aside0.mk (below_step (by repeat (first | (with_reducible first | exact HB.out | apply below_alloc | apply pw_below_drewN | apply below_drew1) | exact HB.out)) hb); clear HO459; clear HB; have HO459 := n0_; have HO462 := n1_; have HB := n2_; clear n0_ n1_ n2_; (try clear hb); (try clear hb2); (try clear hk); (try clear hi); (try clear ho0); obtain ⟨Ao42, co42, eo42⟩ := Kd.R_slice HO459.out; subst eo42; obtain ⟨Ao43, co43, eo43⟩ := Kd.R_slice HO462.out; subst eo43) | (go_at_call 27; (with_reducible refine (swageref02_Ints.calls k _ _ t457 _ _ t460 false _ ?side1 ?side2 ?side3 ?side4 A8.out).mono ?_); (case side1 => repeat (first | exact (Kd.R_reads' HO459.out).2.2 | (with_reducible refine Kd.C_alloc ?_ _) | (with_reducible refine Kd.C_drewN ?_ _) | (with_reducible refine Kd.C_drew ?_))); (case side2 => exact (Kd.R_reads' HO459.out).2.1); (case side3 => repeat (first | exact (Kd.R_reads' HO462.out).2.2 | (with_reducible refine Kd.C_alloc ?_ _) | (with_reducible refine Kd.C_drewN ?_ _) | (with_reducible refine Kd.C_drew ?_))); (case side4 => exact (Kd.R_reads' HO462.out).2.1); rintro e w' ⟨rfl, ⟨nd, rfl⟩⟩))
        go_ret
        exact ⟨by first | rfl | (simp [errW_none, errW_some] <;> rfl) | (simp [*, errW_none, errW_some] <;> rfl), by repeat (first | (with_reducible first | exact HB.out | apply below_alloc | apply pw_below_drewN | apply below_drew1) | exact HB.out)⟩
    · replace c5 := Bool.eq_false_iff.mpr c5
      subst c5
      have H1 : (some false) = some r := by rw [if_neg (show ¬ (false = true) by decide)] at H; exact H
      clear H
      have H := H1
      clear H1
      obtain rfl := Option.some.inj H
      go_enter Try.func4, Try.ntmps4
      go_wp2_with (first | ((with_reducible refine gate_callee (f := 13) rfl ?_); refine goesL_ (some 5) rfl rfl Try.func13 (by kernel_rfl) rfl #[] rfl (by (try simp only [List.map_toArray, List.map_cons, List.map_nil]); first | done | rfl | (simp only [List.length_drop, List.length_take]; rfl)) ?_; (with_reducible refine (swagelaw06_small.calls  false _ A2.out).mono ?_); rintro e w44 ⟨rfl, hb⟩; refine ⟨_, rfl, ?_⟩; have n0_ := Aside0.mk (below_step (by repeat (first | (with_reducible first | exact HB.out | apply below_alloc | apply pw_below_drewN | apply below_drew1) | exact HB.out)) hb); clear HB; have HB := n0_; clear n0_; (try clear hb); (try clear hb2); (try clear hk); (try clear hi)) | ((with_reducible refine gate_callee (f := 14) rfl ?_); refine goesL_ (some 7) rfl rfl Try.func14 (by kernel_rfl) rfl #[.slice A0 l0.length c0] rfl (by (try simp only [List.map_toArray, List.map_cons, List.map_nil]); first | done | rfl | (simp only [List.length_drop, List.length_take]; rfl)) ?_; (with_reducible refine (swagelaw06_Few.calls k _ _ l0 true _ ?side1 ?side2 A3.out).mono ?_); (case side1 => repeat (first | exact (Kd.C_below HR0.out HB.out) | (with_reducible refine Kd.C_alloc ?_ _) | (with_reducible refine Kd.C_drewN ?_ _) | (with_reducible refine Kd.C_drew ?_))); (case side2 => exact HC0.out); rintro e w' ⟨rfl, ⟨nd, rfl⟩⟩; refine ⟨_, rfl, ?_⟩))
      go_ret
      exact ⟨by first | rfl | (simp [errW_none, errW_some] <;> rfl) | (simp [*, errW_none, errW_some] <;> rfl), by repeat (first | (with_reducible first | exact HB.out | apply below_alloc | apply pw_below_drewN | apply below_drew1) | exact HB.out)⟩
  · replace c4 := Bool.eq_false_iff.mpr c4
    subst c4
    have H1 : (some t455) = some r := by rw [if_neg (show ¬ (false = true) by decide)] at H; exact H
    clear H
    have H := H1
    clear H1
    obtain rfl := Option.some.inj H
    go_enter Try.func4, Try.ntmps4
    go_wp2_with (first | ((with_reducible refine gate_callee (f := 13) rfl ?_); refine goesL_ (some 5) rfl rfl Try.func13 (by kernel_rfl) rfl #[] rfl (by (try simp only [List.map_toArray, List.map_cons, List.map_nil]); first | done | rfl | (simp only [List.length_drop, List.length_take]; rfl)) ?_; (with_reducible refine (swagelaw06_small.calls  t455 _ A2.out).mono ?_); rintro e w45 ⟨rfl, hb⟩; refine ⟨_, rfl, ?_⟩; have n0_ := Aside0.mk (below_step (by repeat (first | (with_reducible first | exact HB.out | apply below_alloc | apply pw_below_drewN | apply below_drew1) | exact HB.out)) hb); clear HB; have HB := n0_; clear n0_; (try clear hb); (try clear hb2); (try clear hk); (try clear hi)) | ((with_reducible refine gate_callee (f := 14) rfl ?_); refine goesL_ (some 7) rfl rfl Try.func14 (by kernel_rfl) rfl #[.slice A0 l0.length c0] rfl (by (try simp only [List.map_toArray, List.map_cons, List.map_nil]); first | done | rfl | (simp only [List.length_drop, List.length_take]; rfl)) ?_; (with_reducible refine (swagelaw06_Few.calls k _ _ l0 false _ ?side1 ?side2 A3.out).mono ?_); (case side1 => repeat (first | exact (Kd.C_below HR0.out HB.out) | (with_reducible refine Kd.C_alloc ?_ _) | (with_reducible refine Kd.C_drewN ?_ _) | (with_reducible refine Kd.C_drew ?_))); (case side2 => exact HC0.out); rintro e w' ⟨rfl, ⟨nd, rfl⟩⟩; refine ⟨_, rfl, ?_⟩))
    go_ret
    exact ⟨by first | rfl | (simp [errW_none, errW_some] <;> rfl) | (simp [*, errW_none, errW_some] <;> rfl), by repeat (first | (with_reducible first | exact HB.out | apply below_alloc | apply pw_below_drewN | apply below_drew1) | exact HB.out)⟩

end Go.Proofs.Ytkmbhknmjnbanaa.A


namespace Go.Proofs.Ytkmbhknmjnbanaa.A
open Go.RowKit Go.Proofs.YtkmbhknmjnbanaaW.PrintWords Go.Proofs.YtkmbhknmjnbanaaW.PrintLast Go.Shelf
set_option linter.unusedVariables false
set_option linter.unusedSimpArgs false

theorem bodyRes_len {g : List (List Int)} (h : Nat) (fr : List Int) : (bodyRes (predsOf g) (reachRes g 0) h fr).length ≤ g.length + 1 := by
  unfold bodyRes others
  rw [List.length_cons, List.length_map, predsOf_len]
  have := List.length_filter_le (fun k : Nat => bodyW (predsOf g) (reachRes g 0) (budget (predsOf g) (ins (fun _ => false) h) fr) (ins (fun _ => false) h) fr k && !decide (k = h)) (List.range g.length)
  rw [List.length_range] at this
  omega
theorem loopsOf_rows {g : List (List Int)} : ∀ l ∈ loopsOf g, l.length ≤ g.length + 1 := by
  intro l hl
  unfold loopsOf at hl
  obtain ⟨h, _, rfl⟩ := List.mem_map.1 hl
  exact bodyRes_len _ _
theorem orders_pure (g : List (List Int)) : ∃ k, swagelaw06_GraphOrders.f k g = some true := by
  obtain ⟨r, hf, hr⟩ := few_ev g
  suffices H : Evt (fun k => swagelaw06_GraphOrders.f k g) true from H.get
  unfold swagelaw06_GraphOrders.f swagelaw06_small.f
  simp only [Option.bind_some]
  refine Evt.bind hf ?_
  cases r with
  | false => exact Evt.const rfl
  | true =>
    have hn : g.length ≤ 40 := hr rfl
    have hol := orderOf_len g
    have hbl := back_len g
    have hll := loopsTo_len g g.length
    unfold graph_Order.f graph_Loops.f
    simp only [if_true, Option.bind_some]
    refine Evt.bind (oref_ev (by omega)) ?_
    refine Evt.bind (ints_ev _ (by omega)) ?_
    simp only [if_true]
    refine Evt.bind (back_ev g) ?_
    refine Evt.bind (bref_ev (by omega)) ?_
    refine Evt.bind (pairs_ev _ (by omega)) ?_
    simp only [if_true]
    refine Evt.bind (lref_ev (by omega)) ?_
    refine Evt.bind (rows_ev _ ?_ ?_) (Evt.const rfl)
    · show (loopsTo g g.length).length ≤ _
      omega
    · intro l hl
      have := loopsOf_rows l hl
      omega
theorem law_orders (A : Option Addr) (c : Nat) (g : List (List Int)) (w : World) (hC : Kd.C (Kd.slice 3 (Kd.int .i64)) w A g.length g) (hc : g.length ≤ c) (hp : ∀ x ∈ g, ∀ y ∈ x, (Lit.int .i64 y).wf = true) :
    Calls Try.prog 4 #[.slice A g.length c] w fun e w' => e = .returned (.bool true) ∧ Below w.heap.size w w' := by
  obtain ⟨k, hk⟩ := orders_pure g
  exact swagelaw06_GraphOrders.calls k A c g true w hC hc hk
end Go.Proofs.Ytkmbhknmjnbanaa.A


namespace Go.Proofs.Ytkmbhknmjnbanaa.A
open Go.Deep Go.RowKit Go.Proofs.YtkmbhknmjnbanaaW.PrintWords Go.Proofs.YtkmbhknmjnbanaaW.PrintLast
set_option linter.unusedVariables false
set_option linter.unusedSimpArgs false

section
variable {H : Type} {enc : TypeId × Value → H} {P : Program} {w : World} {base : Nat} {α : Type} [Inhabited α]

def Opens (enc : TypeId × Value → H) (P : Program) (w : World) (base : Nat) (t : TypeId) (d : Kd α) (p : α → Prop) : Prop :=
  ∀ fuel cs x, DataW.trod enc P w base (fun _ => true) true fuel t cs = some x → ∃ y, d.K w y cs ∧ p y

theorem opens_int {t : TypeId} {k : IntKind} (ht : P.underlying t = some (.int k)) : Opens enc P w base t (Kd.int k) (fun n => (Lit.int k n).wf = true) := by
  intro fuel cs x h
  obtain ⟨n, rfl, _, hw⟩ := DataW.trod_int ht h
  exact ⟨n, rfl, hw⟩

theorem opens_slice {t e : TypeId} {d : Kd α} {p : α → Prop} (ht : P.underlying t = some (.slice e)) (hc : P.cellsOf e = d.sz) (ho : Opens enc P w base e d p) : Opens enc P w base t (Kd.slice e d) (fun xs => ∀ x ∈ xs, p x) := by
  intro fuel cs x h
  rcases open_slice ht h with ⟨rfl, _⟩ | ⟨a, len, cap, m, n, D, Pl, rfl, hb, hl, hm, hmm, _, hx⟩
  · exact ⟨[], ⟨none, 0, rfl, Nat.le_refl _, rfl, by simp, fun h => by simp at h⟩, fun x hx => by simp at hx⟩
  · simp only [if_true] at hmm
    obtain ⟨Y, hY⟩ := choose_lt (α := α) (n := len) (p := fun i y => p y ∧ ∃ c, d.K w y c ∧ ∀ j u, c[j]? = some u → w.cell? (a.add (i * d.sz + j)) = some u) (fun i hi => by
      obtain ⟨cs', h1, h2⟩ := hx i (by omega)
      obtain ⟨y, hy, hp⟩ := ho _ _ _ h2
      obtain ⟨_, hlen, hcell⟩ := World.cells?_some h1
      refine ⟨y, hp, cs', hy, fun j u hj => ?_⟩
      have hj' : j < cs'.length := (List.getElem?_eq_some_iff.1 hj).1
      have := hcell j (by omega)
      rw [hj, hc] at this
      rwa [Addr.add_add] at this)
    have hlen : ((List.range len).map Y).length = len := by simp
    refine ⟨(List.range len).map Y, ⟨some a, cap, by rw [hlen], by rw [hlen]; exact hl, hlen.trans hlen.symm, by rw [hlen]; unfold maxLen at hm; omega, fun _ => ⟨a, rfl, fun j y hj => ?_⟩⟩, fun y hy => ?_⟩
    · have hjl : j < len := by have := (List.getElem?_eq_some_iff.1 hj).1; omega
      rw [List.getElem?_map, List.getElem?_range hjl] at hj
      obtain rfl := Option.some.inj hj
      obtain ⟨_, c, hk, hcell⟩ := hY j hjl
      exact ⟨c, d.K_len hk, hk, hcell⟩
    · obtain ⟨i, hi, rfl⟩ := List.mem_map.1 hy
      exact (hY i (List.mem_range.1 hi)).1
omit [Inhabited α] in
/-- of a parameter: a slice -/
theorem opens_param {t e : TypeId} {d : Kd α} {p : List α → Prop} (ho : Opens enc P w base t (Kd.slice e d) p) {A : Option Addr} {len cap : Nat} {x : DataW H} {ps : List MemPlace} (h : DataW.Trod enc P w base (fun _ => true) true t (.slice A len cap) x ps) :
    ∃ xs : List α, len = xs.length ∧ xs.length ≤ cap ∧ d.C w A xs.length xs ∧ p xs := by
  obtain ⟨fuel, hf⟩ := h
  obtain ⟨xs, ⟨A', c', he, hl, hC⟩, hp⟩ := ho _ _ _ hf
  simp [Value.cells] at he
  obtain ⟨rfl, rfl, rfl⟩ := he
  exact ⟨xs, rfl, hl, hC, hp⟩
end

theorem opens_graph {H : Type} {enc : TypeId × Value → H} {w : World} {base : Nat} : Opens enc Try.prog w base 22 (Kd.slice 27 (Kd.slice 3 (Kd.int .i64))) (fun xs => ∀ x ∈ xs, ∀ y ∈ x, (Lit.int .i64 y).wf = true) :=
  opens_slice Try.underlying22 (by kernel_rfl) (opens_slice Try.underlying27 (by kernel_rfl) (opens_int Try.underlying3))
end Go.Proofs.Ytkmbhknmjnbanaa.A

