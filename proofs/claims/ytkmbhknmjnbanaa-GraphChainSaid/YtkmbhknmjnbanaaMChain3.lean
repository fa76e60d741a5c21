/- Parts of the proof, in the order in which they rest on one another. -/
import Derived.Test.YtkmbhknmjnbanaaMChain2
import Derived.Below
import Derived.Deep.Draws
import Derived.Deep.AppendLies
import Derived.Maps.AppendAt
import Derived.OwnWalk
import Derived.Laws.BytesArg
import Derived.Laws.MakeOwn
import Derived.Laws.OwnMore
import Derived.Deep.OwnRows
import Derived.Tactics
import Derived.Lib.ConvBytes
import Derived.Laws.Slices
import Derived.WalkKit
import Derived.KernelRfl
import Derived.RowKit3
import Derived.Deep.LoopGhost
import Derived.Deep.QuietTactic
import Derived.BigQuiet
import Derived.WideLaws
import Derived.Deep.DeepCutAuto
import Derived.Deep.CutBlock
import Derived.Deep.RegionHeld3
import Derived.Laws.Rows
import Derived.Lib.AppendStr
import Derived.ArgAppend
import Derived.Laws.IdiomCopy
import Derived.RowKit
import Derived.OrdersHeld
import Derived.Laws.BitsLemmas
import Derived.Laws.StructEq
import Derived.Test.YtkmbhknmjnbanaaProg
import Derived.Shelf.Abstract
import Derived.Lib.Walk
import Derived.RangeFuncWrites
import Derived.RangeFuncNested
import Derived.RangeFuncBound
import Derived.RangeFuncCalls
import Derived.RangeFuncLeaves
import Derived.Shelf.RegionOpen
import Derived.OwnWalkIn
import Derived.TacticsInMore
import Derived.LoopNIn
import Derived.LoopIn
import Derived.Laws.EntriesVeiled
import Derived.RangeFuncBox
import Derived.Laws.CopyOwn
import Derived.Deep.RegionLaw
import Derived.BigRegion
import Derived.WalkSpells
import Derived.Shelf.SlIterI.Nil
import Derived.Shelf.SortM.Plain
import Derived.Shelf.SortM.SortNone
import Derived.Ground.GgzProg
import Derived.Ground.SlgmProg
import Derived.Shelf.SlGeneric
import Derived.Maps.Own
import Derived.Maps.OwnOps
import Derived.Maps.OwnSet
import Derived.Maps.Views
import Derived.RangeFuncRecord
import Derived.Deep.RegionLawGrows
import Derived.Deep.Upon
import Derived.Maps.OwnRows
import Derived.Maps.GroupsBeside
namespace Go.Proofs.Ytkmbhknmjnbanaa.A
open Go.RowKit Go.Proofs.YtkmbhknmjnbanaaW.PrintWords Go.Proofs.YtkmbhknmjnbanaaW.PrintLast Go.Proofs.YtkmbhknmjnbanaaW.PrintMore
attribute [local go_sem] max2_int min2_int max_two min_two max_three min_three max_four min_four   -- for this text's walks alone
set_option linter.unusedVariables false
set_option linter.unusedSimpArgs false

mutual
def graph_Back.l0 : Nat → List Int → List (S37) → List (List Int) → Int → Int → Option ((List (S37)))
  | 0, _, _, _, _, _ => none
  | k + 1, x3, x4, x15, x16, x17 => if x17 < x16 then (if 0 ≤ x17 then (if x17 < (x15.length : Int) then (graph_Back.l1 k x3 x4 x17 x15 x16 x17 (rd_L1 x15 x17) ((rd_L1 x15 x17).length : Int) 0) else (none)) else (none)) else (some x4)
def graph_Back.l1 : Nat → List Int → List (S37) → Int → List (List Int) → Int → Int → List Int → Int → Int → Option ((List (S37)))
  | 0, _, _, _, _, _, _, _, _, _ => none
  | k + 1, x3, x4, x5, x15, x16, x17, x22, x23, x24 => if x24 < x23 then (if 0 ≤ x24 then (if x24 < (x22.length : Int) then (if 0 ≤ x5 then (if x5 < (x3.length : Int) then (if (rd x3 x5) ≥ 0 then (if 0 ≤ (rd x22 x24) then (if (rd x22 x24) < (x3.length : Int) then (if (rd x3 (rd x22 x24)) ≤ (rd x3 x5) then ((slices_Contains_2_int_2_int.f k x4 x5 (rd x22 x24)).bind fun t150 => (if t150 = true then (graph_Back.l1 k x3 x4 x5 x15 x16 x17 x22 x23 (wrap64 (x24 + 1))) else (if x4.length < 8796093022208 then (graph_Back.l1 k x3 (x4 ++ [(⟨x5, rd x22 x24⟩ : S37)]) x5 x15 x16 x17 x22 x23 (wrap64 (x24 + 1))) else (none)))) else (graph_Back.l1 k x3 x4 x5 x15 x16 x17 x22 x23 (wrap64 (x24 + 1)))) else (none)) else (none)) else (graph_Back.l1 k x3 x4 x5 x15 x16 x17 x22 x23 (wrap64 (x24 + 1)))) else (none)) else (none)) else (none)) else (none)) else (graph_Back.l0 k x3 x4 x15 x16 (wrap64 (x17 + 1)))
end
def graph_Back.f (k : Nat) (l0 : List (List Int)) : Option ((List (S37))) := (graph_Right.f l0).bind fun t140 => (if t140 = true then ((graph_places.f k l0).bind fun t141 => (graph_Back.l0 k t141 ([] : List (S37)) l0 (l0.length : Int) 0)) else (some ([] : List (S37))))
def graph_Back.T12 : Bool × List (List Nat × List Nat) := (true, [([], []), ([], []), ([0, 1], [0, 1]), ([2], [2]), ([3], [3]), ([4], [4]), ([5], [5]), ([5], [5]), ([6, 7, 5], [5, 6, 7]), ([8, 5], [5, 8]), ([5], [5]), ([5], [5]), ([10, 11, 5], [5, 10, 11]), ([12, 5], [5, 12]), ([9, 13, 5], [5, 9, 13]), ([5, 14], [5, 14]), ([15, 5], [15]), ([16], [16]), ([16], [16]), ([17, 18, 16, 16], [16, 17, 18]), ([19, 16], [16, 19]), ([16, 20], [16, 20])])
def graph_Back.B12 : List Nat := [0, 0, 3, 7, 15, 31, 63, 63, 255, 511, 63, 63, 3135, 7231, 16383, 32767, 65535, 131071, 131071, 524287, 1048575, 2097151]
theorem graph_Back.tab12 : rtab .any (opsOf Try.f30 12) = graph_Back.T12 := by kernel_rfl
theorem graph_Back.bits12 : waitsOk graph_Back.T12.2 graph_Back.B12 = true := by kernel_rfl
set_option maxHeartbeats 8000000 in
set_option maxRecDepth 100000 in
theorem graph_Back.calls (k : Nat) (A0 : Option Addr) (c0 : Nat) (l0 : List (List Int)) (r : List (S37)) (w : World) (hr0 : Kd.C (Kd.slice 3 (Kd.int .i64)) w A0 l0.length l0) (hc0 : l0.length ≤ c0) (h : graph_Back.f k l0 = some r) :
    Calls Try.prog 30 #[.slice A0 l0.length c0] w fun e w' => ∃ v0_ : Value, e = .returned (v0_) ∧ Kd.R k37 37 w' w.heap.size (fun _ => True) v0_ r ∧ Below w.heap.size w w' := by
  have hu37 := Try.underlying37
  have HR0 := Aside0.mk hr0
  have HC0 := Aside0.mk hc0
  clear hr0 hc0
  have HB := Aside0.mk (Below.refl w.heap.size w)
  have H : ((graph_Right.f l0).bind fun t140 => (if t140 = true then ((graph_places.f k l0).bind fun t141 => (graph_Back.l0 k t141 ([] : List (S37)) l0 (l0.length : Int) 0)) else (some ([] : List (S37))))) = some r := h
  clear h
  replace H := Option.bind_eq_some_iff.mp H
  obtain ⟨t140, A20, H⟩ := H
  replace H : (if t140 = true then ((graph_places.f k l0).bind fun t141 => (graph_Back.l0 k t141 ([] : List (S37)) l0 (l0.length : Int) 0)) else (some ([] : List (S37)))) = some r := H
  have A2 := Aside0.mk A20
  clear A20
  by_cases c3 : t140 = true
  · subst c3
    have H1 : ((graph_places.f k l0).bind fun t141 => (graph_Back.l0 k t141 ([] : List (S37)) l0 (l0.length : Int) 0)) = some r := by rw [if_pos rfl] at H; exact H
    clear H
    have H := H1
    clear H1
    replace H := Option.bind_eq_some_iff.mp H
    obtain ⟨t141, A40, H⟩ := H
    replace H : (graph_Back.l0 k t141 ([] : List (S37)) l0 (l0.length : Int) 0) = some r := H
    have A4 := Aside0.mk A40
    clear A40
    have H' := Aside0.mk H
    clear H
    go_enter Try.func30, Try.ntmps30
    go_wp2_with (first | ((with_reducible refine gate_callee (f := 19) rfl ?_); refine goesL_ (some 11) rfl rfl Try.func19 (by kernel_rfl) rfl #[.slice A0 l0.length c0] rfl (by (try simp only [List.map_toArray, List.map_cons, List.map_nil]); first | done | rfl | (simp only [List.length_drop, List.length_take]; rfl)) ?_; (with_reducible refine (graph_Right.calls _ _ l0 true _ ?side1 ?side2 A2.out).mono ?_); (case side1 => repeat (first | exact HR0.out | (with_reducible refine Kd.C_alloc ?_ _) | (with_reducible refine Kd.C_drewN ?_ _) | (with_reducible refine Kd.C_drew ?_))); (case side2 => exact HC0.out); rintro e w5 ⟨rfl, hb⟩; refine ⟨_, rfl, ?_⟩; have n0_ := Aside0.mk (below_step (by repeat (first | (with_reducible first | exact HB.out | apply below_alloc | apply pw_below_drewN | apply below_drew1) | exact HB.out)) hb); clear HB; have HB := n0_; clear n0_; (try clear hb); (try clear hb2); (try clear hk); (try clear hi)) | ((with_reducible refine gate_callee (f := 53) rfl ?_); refine goesL_ (some 14) rfl rfl Try.func53 (by kernel_rfl) rfl #[.slice A0 l0.length c0] rfl (by (try simp only [List.map_toArray, List.map_cons, List.map_nil]); first | done | rfl | (simp only [List.length_drop, List.length_take]; rfl)) ?_; (with_reducible refine (graph_places.calls k _ _ l0 t141 _ ?side1 ?side2 A4.out).mono ?_); (case side1 => repeat (first | exact (Kd.C_below HR0.out HB.out) | (with_reducible refine Kd.C_alloc ?_ _) | (with_reducible refine Kd.C_drewN ?_ _) | (with_reducible refine Kd.C_drew ?_))); (case side2 => exact HC0.out); rintro e w6 ⟨v142, rfl, ho0, hb⟩; refine ⟨_, rfl, ?_⟩; have n0_ := Aside0.mk (Kd.R_lower ho0 (below_size (by repeat (first | (with_reducible first | exact HB.out | apply below_alloc | apply pw_below_drewN | apply below_drew1) | exact HB.out)))); have n1_ := Aside0.mk (below_step (by repeat (first | (with_reducible first | exact HB.out | apply below_alloc | apply pw_below_drewN | apply below_drew1) | exact HB.out)) hb); clear HB; have HO143 := n0_; have HB := n1_; clear n0_ n1_; (try clear hb); (try clear hb2); (try clear hk); (try clear hi); (try clear ho0)))
    go_loopg [4, 17] k (fun kq v4 v17 w' => ∃ (x4_1 : List (S37)) (x17_1 : Int), v17 = .int .i64 x17_1 ∧ Aside0 (graph_Back.l0 kq t141 x4_1 l0 (l0.length : Int) x17_1 = some r) ∧ Aside0 (kq ≤ k) ∧ Aside0 (Kd.R (Kd.int .i64) 3 w' w.heap.size (fun _ => True) v142 t141) ∧ Aside0 (Kd.R k37 37 w' w.heap.size (fun _ => True) v4 x4_1) ∧ Aside0 (Below w.heap.size w w'))
    case atStart => exact ⟨(([] : List (S37))), (0), (by first | rfl | (simp; done) | (simp [*]; done)), H', ⟨Nat.le_refl _⟩, ⟨by (with_reducible repeat (first | apply Kd.R_alloc | apply Kd.R_drewN | apply Kd.R_drew)); exact HO143.out⟩, ⟨by first | exact Kd.R_nil _ _ _ _ _ | exact Kd.N_nil _ _ _ _ _ | exact Kd.V_nil _ _ _ _ _ | exact Kd.Q_nil _ _ _ _ _ | exact Kd.S_nil _ _ _ _ _⟩, ⟨by repeat (first | (with_reducible first | exact HB.out | apply below_alloc | apply pw_below_drewN | apply below_drew1) | exact HB.out)⟩⟩
    case round =>
      clear H'
      try clear c1
      try clear p2
      try clear c3
      try clear c5
      obtain ⟨x4_1, x17_1, rfl, HA, HK1, HO_3, HO_4, HB⟩ := hrel
      cases gk with
      | zero => exact absurd HA.out (by simp [graph_Back.l0])
      | succ k1 =>
        have H := HA.out
        clear HA
        simp only [graph_Back.l0] at H
        by_cases c7 : x17_1 < (l0.length : Int)
        · rw [if_pos c7] at H
          have c7b0 : decide (x17_1 < (l0.length : Int)) = true := decide_eq_true c7
          clear c7
          by_cases c8 : 0 ≤ x17_1
          · rw [if_pos c8] at H
            have c8b0 : decide (0 ≤ x17_1) = true := decide_eq_true c8
            clear c8
            by_cases c9 : x17_1 < (l0.length : Int)
            · rw [if_pos c9] at H
              have c9b0 : decide (x17_1 < (l0.length : Int)) = true := decide_eq_true c9
              clear c9
              have H' := Aside0.mk H
              clear H
              have p144 : 0 ≤ (x17_1 : Int) := of_decide_eq_true (by first | (with_reducible assumption) | assumption)
              have q144 : x17_1 < (l0.length : Int) := of_decide_eq_true (by first | (with_reducible assumption) | assumption)
              obtain ⟨ad144, A144_0, c144_0, e144, hx144_0, hl144_0, hi144_0⟩ := at_L1 HR0.out x17_1 p144 q144
              cases e144
              replace hx144_0 := (HB.out.cell (World.block_lt_of_cell? w _ hx144_0)).trans hx144_0
              have HR144_0 := Aside0.mk hi144_0
              have HC144_0 := Aside0.mk hl144_0
              clear hi144_0 hl144_0
              replace p144 := eq_true p144
              replace q144 := eq_true q144
              go_wp2
              go_loopg [4, 24] k1 (fun kq v4 v24 w' => ∃ (x4_2 : List (S37)) (x24_2 : Int), v24 = .int .i64 x24_2 ∧ Aside0 (graph_Back.l1 kq t141 x4_2 x17_1 l0 (l0.length : Int) x17_1 (rd_L1 l0 x17_1) ((rd_L1 l0 x17_1).length : Int) x24_2 = some r) ∧ Aside0 (kq ≤ k1) ∧ Aside0 (Kd.R (Kd.int .i64) 3 w' w.heap.size (fun _ => True) v142 t141) ∧ Aside0 (Kd.R k37 37 w' w.heap.size (fun _ => True) v4 x4_2) ∧ Aside0 (Below w.heap.size w w'))
              case atStart => exact ⟨(x4_1), (0), (by first | rfl | (simp; done) | (simp [*]; done)), H', ⟨Nat.le_refl _⟩, ⟨by (with_reducible repeat (first | apply Kd.R_alloc | apply Kd.R_drewN | apply Kd.R_drew)); exact HO_3.out⟩, ⟨by (with_reducible repeat (first | apply Kd.R_alloc | apply Kd.R_drewN | apply Kd.R_drew)); exact HO_4.out⟩, ⟨by repeat (first | (with_reducible first | exact HB.out | apply below_alloc | apply pw_below_drewN | apply below_drew1) | exact HB.out)⟩⟩
              case round =>
                clear H'
                try clear c1
                try clear p1
                try clear q1
                try clear hx1
                try clear p2
                try clear c3
                try clear c5
                try clear c7
                try clear c7b0
                try clear c8
                try clear c8b0
                try clear c9
                try clear c9b0
                try clear hx144_0
                try clear p144
                try clear p2
                try clear q144
                obtain ⟨x4_2, x24_2, rfl, HA, HK2, HO_3, HO_4, HB⟩ := hrel
                cases gk with
                | zero => exact absurd HA.out (by simp [graph_Back.l1])
                | succ k2 =>
                  have H := HA.out
                  clear HA
                  simp only [graph_Back.l1] at H
                  by_cases c10 : x24_2 < ((rd_L1 l0 x17_1).length : Int)
                  · rw [if_pos c10] at H
                    have c10b0 : decide (x24_2 < ((rd_L1 l0 x17_1).length : Int)) = true := decide_eq_true c10
                    clear c10
                    by_cases c11 : 0 ≤ x24_2
                    · rw [if_pos c11] at H
                      have c11b0 : decide (0 ≤ x24_2) = true := decide_eq_true c11
                      clear c11
                      by_cases c12 : x24_2 < ((rd_L1 l0 x17_1).length : Int)
                      · rw [if_pos c12] at H
                        have c12b0 : decide (x24_2 < ((rd_L1 l0 x17_1).length : Int)) = true := decide_eq_true c12
                        clear c12
                        by_cases c13 : 0 ≤ x17_1
                        · rw [if_pos c13] at H
                          have c13b0 : decide (0 ≤ x17_1) = true := decide_eq_true c13
                          clear c13
                          by_cases c14 : x17_1 < (t141.length : Int)
                          · rw [if_pos c14] at H
                            have c14b0 : decide (x17_1 < (t141.length : Int)) = true := decide_eq_true c14
                            clear c14
                            by_cases c15 : (rd t141 x17_1) ≥ 0
                            · rw [if_pos c15] at H
                              have c15b0 : decide (0 ≤ (rd t141 x17_1)) = true := decide_eq_true c15
                              clear c15
                              by_cases c16 : 0 ≤ (rd (rd_L1 l0 x17_1) x24_2)
                              · rw [if_pos c16] at H
                                have c16b0 : decide (0 ≤ (rd (rd_L1 l0 x17_1) x24_2)) = true := decide_eq_true c16
                                clear c16
                                by_cases c17 : (rd (rd_L1 l0 x17_1) x24_2) < (t141.length : Int)
                                · rw [if_pos c17] at H
                                  have c17b0 : decide ((rd (rd_L1 l0 x17_1) x24_2) < (t141.length : Int)) = true := decide_eq_true c17
                                  clear c17
                                  by_cases c18 : (rd t141 (rd (rd_L1 l0 x17_1) x24_2)) ≤ (rd t141 x17_1)
                                  · rw [if_pos c18] at H
                                    have c18b0 : decide ((rd t141 (rd (rd_L1 l0 x17_1) x24_2)) ≤ (rd t141 x17_1)) = true := decide_eq_true c18
                                    clear c18
                                    replace H := Option.bind_eq_some_iff.mp H
                                    obtain ⟨t150, A190, H⟩ := H
                                    replace H : (if t150 = true then (graph_Back.l1 k2 t141 x4_2 x17_1 l0 (l0.length : Int) x17_1 (rd_L1 l0 x17_1) ((rd_L1 l0 x17_1).length : Int) (wrap64 (x24_2 + 1))) else (if x4_2.length < 8796093022208 then (graph_Back.l1 k2 t141 (x4_2 ++ [(⟨x17_1, rd (rd_L1 l0 x17_1) x24_2⟩ : S37)]) x17_1 l0 (l0.length : Int) x17_1 (rd_L1 l0 x17_1) ((rd_L1 l0 x17_1).length : Int) (wrap64 (x24_2 + 1))) else (none))) = some r := H
                                    have A19 := Aside0.mk A190
                                    clear A190
                                    by_cases c20 : t150 = true
                                    · subst c20
                                      have H1 : (graph_Back.l1 k2 t141 x4_2 x17_1 l0 (l0.length : Int) x17_1 (rd_L1 l0 x17_1) ((rd_L1 l0 x17_1).length : Int) (wrap64 (x24_2 + 1))) = some r := by rw [if_pos rfl] at H; exact H
                                      clear H
                                      have H := H1
                                      clear H1
                                      have H' := Aside0.mk H
                                      clear H
                                      have p145 : 0 ≤ (x24_2 : Int) := of_decide_eq_true (by first | (with_reducible assumption) | assumption)
                                      have q145 : x24_2 < ((rd_L1 l0 x17_1).length : Int) := of_decide_eq_true (by first | (with_reducible assumption) | assumption)
                                      obtain ⟨ad145, e145, hx145_0⟩ := Kd.at_int HR144_0.out x24_2 p145 q145
                                      cases e145
                                      replace hx145_0 := (HB.out.cell (World.block_lt_of_cell? w _ hx145_0)).trans hx145_0
                                      replace p145 := eq_true p145
                                      replace q145 := eq_true q145
                                      try go_wp2_with (first | ((with_reducible refine gate_dst (N := 9) rfl ?_); refine box_event ?hg (N := 9) ?hd (cs := #[.int .i64 0, .int .i64 0]) (t := 37) ?hr ?_; (case hd => rfl); (case hg => rfl); (case hr => first | (go_simp; done) | (go_simp; rfl)); intro gb146 hg w21 hbox hb; have n0_ := Aside0.mk (Kd.R_below (by (with_reducible repeat (first | apply Kd.R_alloc | apply Kd.R_drewN | apply Kd.R_drew)); exact HO_3.out) hb); have n1_ := Aside0.mk (Kd.R_below (Kd.R_elderB (by (with_reducible repeat (first | apply Kd.R_alloc | apply Kd.R_drewN | apply Kd.R_drew)); exact HO_4.out) gb146 (Nat.le_of_eq hg.symm)) hb); have n2_ := Aside0.mk (below_step (by repeat (first | (with_reducible first | exact HB.out | apply below_alloc | apply pw_below_drewN | apply below_drew1) | exact HB.out)) hb); have n3_ := Aside0.mk (hbox); have n4_ := Aside0.mk ((by rw [hg]; exact (below_size (by repeat (first | (with_reducible first | exact HB.out | apply below_alloc | apply pw_below_drewN | apply below_drew1) | exact HB.out))) : w.heap.size ≤ gb146)); have n5_ := Aside0.mk ((by rw [hg]; exact (below_size (by repeat (first | (with_reducible first | exact HB.out | apply below_alloc | apply pw_below_drewN | apply below_drew1) | exact HB.out))) : w.heap.size ≤ gb146)); clear HO_3; clear HO_4; clear HB; have HO_3 := n0_; have HO_4 := n1_; have HB := n2_; have BK146 := n3_; have GW146 := n4_; have GE146 := n5_; clear n0_ n1_ n2_ n3_ n4_ n5_; clear hb hbox hg; have hcz22_0 : w21.cell? ⟨gb146, 0, none⟩ = some (.int .i64 0) := (blk_cell BK146.out 0).trans rfl; have hcz22_1 : w21.cell? ⟨gb146, 1, none⟩ = some (.int .i64 0) := (blk_cell BK146.out 1).trans rfl; have hfz22_0 := blk_frozen BK146.out 0; have hfz22_1 := blk_frozen BK146.out 1))
                                      have n0_ : Aside0 (Kd.R (Kd.int .i64) 3 ((w21.setCell ⟨gb146, 0, none⟩ (.int .i64 x17_1)).setCell ⟨gb146, 1, none⟩ (.int .i64 (rd (rd_L1 l0 x17_1) x24_2))) w.heap.size (fun _ => True) v142 t141) := ⟨by (with_reducible repeat (first | apply Kd.R_alloc | apply Kd.R_drewN | apply Kd.R_drew)); exact Kd.R_mono (Kd.R_far (p := ⟨gb146, 1, none⟩) (Kd.R_far (p := ⟨gb146, 0, none⟩) (Kd.R_types HO_3.out BK146.out (by decide)) (fun _ hk => hk.2) (.int .i64 x17_1)) (fun _ hk => hk.2) (.int .i64 (rd (rd_L1 l0 x17_1) x24_2))) (fun _ hk => trivial)⟩
                                      have n1_ : Aside0 (Kd.R k37 37 ((w21.setCell ⟨gb146, 0, none⟩ (.int .i64 x17_1)).setCell ⟨gb146, 1, none⟩ (.int .i64 (rd (rd_L1 l0 x17_1) x24_2))) w.heap.size (fun k_ => k_ ≠ gb146) u4 x4_2) := ⟨by (with_reducible repeat (first | apply Kd.R_alloc | apply Kd.R_drewN | apply Kd.R_drew)); exact Kd.R_mono (Kd.R_far (p := ⟨gb146, 1, none⟩) (Kd.R_far (p := ⟨gb146, 0, none⟩) (Kd.R_mono HO_4.out (fun k_ hk => (⟨hk, hk.2⟩ : _ ∧ k_ ≠ gb146))) (fun _ hk => hk.2) (.int .i64 x17_1)) (fun _ hk => hk.2) (.int .i64 (rd (rd_L1 l0 x17_1) x24_2))) (fun _ hk => hk.1.2)⟩
                                      have n2_ : Aside0 (((w21.setCell ⟨gb146, 0, none⟩ (.int .i64 x17_1)).setCell ⟨gb146, 1, none⟩ (.int .i64 (rd (rd_L1 l0 x17_1) x24_2))).heap[gb146]? = some (.cells #[.int .i64 x17_1, .int .i64 (rd (rd_L1 l0 x17_1) x24_2)] 37 (0, 0))) := ⟨by (with_reducible repeat (first | refine blk_drewN ?_ _ | refine blk_drew ?_ | refine blk_alloc ?_ _)); refine blk_put (cs := #[.int .i64 x17_1, .int .i64 0]) ?_ 1 _ rfl; (with_reducible repeat (first | refine blk_drewN ?_ _ | refine blk_drew ?_ | refine blk_alloc ?_ _)); refine blk_put (cs := #[.int .i64 0, .int .i64 0]) ?_ 0 _ rfl; (with_reducible repeat (first | refine blk_drewN ?_ _ | refine blk_drew ?_ | refine blk_alloc ?_ _)); exact BK146.out⟩
                                      have n3_ : Aside0 (Below w.heap.size w ((w21.setCell ⟨gb146, 0, none⟩ (.int .i64 x17_1)).setCell ⟨gb146, 1, none⟩ (.int .i64 (rd (rd_L1 l0 x17_1) x24_2)))) := ⟨by repeat (first | (with_reducible first | exact HB.out | apply below_alloc | apply pw_below_drewN | apply below_drew1 | refine below_set ?_ GE146.out) | exact HB.out)⟩
                                      (try clear HO_3)
                                      (try clear HO_4)
                                      (try clear BK146)
                                      (try clear HB)
                                      generalize ((w21.setCell ⟨gb146, 0, none⟩ (.int .i64 x17_1)).setCell ⟨gb146, 1, none⟩ (.int .i64 (rd (rd_L1 l0 x17_1) x24_2))) = w23 at n0_ n1_ n2_ n3_ ⊢
                                      have HO_3 := n0_
                                      have HO_4 := n1_
                                      have BK146 := n2_
                                      have HB := n3_
                                      clear n0_ n1_ n2_ n3_
                                      have n0_ := Aside0.mk (Kd.R_drew HO_3.out)
                                      have n1_ := Aside0.mk (Kd.R_drew HO_4.out)
                                      have n2_ := Aside0.mk (blk_drew BK146.out)
                                      have n3_ := Aside0.mk (below_drew1 HB.out)
                                      clear HO_3
                                      clear HO_4
                                      clear BK146
                                      clear HB
                                      have HO_3 := n0_
                                      have HO_4 := n1_
                                      have BK146 := n2_
                                      have HB := n3_
                                      clear n0_ n1_ n2_ n3_
                                      obtain ⟨Ao25, co25, eo25⟩ := Kd.R_slice HO_3.out
                                      (first | subst eo25 | (injection eo25 with f1_ f2_ f3_; have f4_ := f1_.symm; have f5_ := f3_.symm; clear f1_ f2_ f3_; subst f4_; subst f5_))
                                      have p147 : 0 ≤ (x17_1 : Int) := of_decide_eq_true (by first | (with_reducible assumption) | assumption)
                                      have q147 : x17_1 < (t141.length : Int) := of_decide_eq_true (by first | (with_reducible assumption) | assumption)
                                      obtain ⟨ad147, e147, hx147_0⟩ := Kd.at_int (Kd.R_reads' HO_3.out).2.2 x17_1 p147 q147
                                      cases e147
                                      replace p147 := eq_true p147
                                      replace q147 := eq_true q147
                                      have p148 : 0 ≤ ((rd (rd_L1 l0 x17_1) x24_2) : Int) := of_decide_eq_true (by first | (with_reducible assumption) | assumption)
                                      have q148 : (rd (rd_L1 l0 x17_1) x24_2) < (t141.length : Int) := of_decide_eq_true (by first | (with_reducible assumption) | assumption)
                                      obtain ⟨ad148, e148, hx148_0⟩ := Kd.at_int (Kd.R_reads' HO_3.out).2.2 (rd (rd_L1 l0 x17_1) x24_2) p148 q148
                                      obtain rfl : ad147 = ad148 := (by injection e148)
                                      replace p148 := eq_true p148
                                      replace q148 := eq_true q148
                                      have p149 : 0 ≤ (x17_1 : Int) := of_decide_eq_true (by first | (with_reducible assumption) | assumption)
                                      have q149 : x17_1 < (t141.length : Int) := of_decide_eq_true (by first | (with_reducible assumption) | assumption)
                                      obtain ⟨ad149, e149, hx149_0⟩ := Kd.at_int (Kd.R_reads' HO_3.out).2.2 x17_1 p149 q149
                                      obtain rfl : ad147 = ad149 := (by injection e149)
                                      replace p149 := eq_true p149
                                      replace q149 := eq_true q149
                                      obtain ⟨Ao26, co26, eo26⟩ := Kd.R_slice HO_4.out
                                      (first | subst eo26 | (injection eo26 with f1_ f2_ f3_; have f4_ := f1_.symm; have f5_ := f3_.symm; clear f1_ f2_ f3_; subst f4_; subst f5_))
                                      refine start_ (n := 22) (S := fun w' => w'.cell? ⟨gb146, 0, none⟩ = some (.int .i64 x17_1) ∧ w'.cell? ⟨gb146, 1, none⟩ = some (.int .i64 (rd (rd_L1 l0 x17_1) x24_2)) ∧ w'.cell? (ad147.add (x17_1).toNat) = some (.int .i64 (rd t141 x17_1)) ∧ w'.cell? (ad147.add ((rd (rd_L1 l0 x17_1) x24_2)).toNat) = some (.int .i64 (rd t141 (rd (rd_L1 l0 x17_1) x24_2))) ∧ w'.cell? (ad147.add (x17_1).toNat) = some (.int .i64 (rd t141 x17_1))) (ds := []) #[false, false, false, false, false, false, false, false, false, false, false, false, false, false, false, false, false, false, false, false, false, false] (by kernel_rfl) rfl rfl ⟨(blk_cell BK146.out 0).trans rfl, (blk_cell BK146.out 1).trans rfl, hx147_0, hx148_0, hx149_0⟩ (fun hHeld => ?_); refine with_tabW graph_Back.tab12 graph_Back.bits12 (fun HT_ HW_ => ?_)
                                      generalize w23.drew = w24 at HO_3 HO_4 BK146 HB hx147_0 hx148_0 hx149_0 hHeld ⊢
                                      refine pure_ (i := 0) (N := some 31) (v := ?_) (a' := ?_) #[true, false, false, false, false, false, false, false, false, false, false, false, false, false, false, false, false, false, false, false, false, false] rfl rfl (any_of HT_.out (by kernel_rfl)) (fun _ _ _ h => h) (Or.inl ⟨by rfl, ?_⟩) ?_ ?_
                                      rotate_left
                                      · intro w'
                                        go_simp
                                        with_reducible rfl
                                      rotate_left
                                      · simp only [Act.put, List.setIfInBounds_toArray, List.set_cons_zero, List.set_cons_succ, i64_w, i32_w]
                                        rfl
                                      refine pure_ (i := 1) (N := some 32) (v := ?_) (a' := ?_) #[true, true, false, false, false, false, false, false, false, false, false, false, false, false, false, false, false, false, false, false, false, false] rfl rfl (any_of HT_.out (by kernel_rfl)) (fun _ _ _ h => h) (Or.inl ⟨by rfl, ?_⟩) ?_ ?_
                                      rotate_left
                                      · intro w'
                                        go_simp
                                        with_reducible rfl
                                      rotate_left
                                      · simp only [Act.put, List.setIfInBounds_toArray, List.set_cons_zero, List.set_cons_succ, i64_w, i32_w]
                                        rfl
                                      refine pure_ (i := 2) (N := some 33) (v := ?_) (a' := ?_) #[true, true, true, false, false, false, false, false, false, false, false, false, false, false, false, false, false, false, false, false, false, false] rfl rfl (any_of HT_.out (by kernel_rfl)) (fun _ _ _ h => h) (Or.inl ⟨by rfl, ?_⟩) ?_ ?_
                                      rotate_left
                                      · intro w'
                                        go_simp
                                        with_reducible rfl
                                      rotate_left
                                      · simp only [Act.put, List.setIfInBounds_toArray, List.set_cons_zero, List.set_cons_succ, i64_w, i32_w]
                                        rfl
                                      refine take_ (i := 3) (N := some 34) (v := ?_) (a' := ?_) #[true, true, true, true, false, false, false, false, false, false, false, false, false, false, false, false, false, false, false, false, false, false] rfl rfl (take_ofW HT_.out HW_.out (by kernel_rfl)) (fun _ _ _ h => h) (Or.inl ⟨by rfl, ?_⟩) hHeld ?_ ?_
                                      rotate_left
                                      · rintro w' ⟨s0, s1, s2, s3, s4⟩
                                        go_simp
                                        with_reducible rfl
                                      rotate_left
                                      · simp only [Act.put, List.setIfInBounds_toArray, List.set_cons_zero, List.set_cons_succ, i64_w, i32_w]
                                        rfl
                                      refine pure_ (i := 4) (N := some 35) (v := ?_) (a' := ?_) #[true, true, true, true, true, false, false, false, false, false, false, false, false, false, false, false, false, false, false, false, false, false] rfl rfl (any_of HT_.out (by kernel_rfl)) (fun _ _ _ h => h) (Or.inl ⟨by rfl, ?_⟩) ?_ ?_
                                      rotate_left
                                      · intro w'
                                        go_simp
                                        with_reducible rfl
                                      rotate_left
                                      · simp only [Act.put, List.setIfInBounds_toArray, List.set_cons_zero, List.set_cons_succ, i64_w, i32_w]
                                        rfl
                                      refine pure_ (i := 5) (N := some 36) (v := ?_) (a' := ?_) #[true, true, true, true, true, true, false, false, false, false, false, false, false, false, false, false, false, false, false, false, false, false] rfl rfl (any_of HT_.out (by kernel_rfl)) (fun _ _ _ h => h) (Or.inl ⟨by rfl, ?_⟩) ?_ ?_
                                      rotate_left
                                      · intro w'
                                        go_simp
                                        with_reducible rfl
                                      rotate_left
                                      · simp only [Act.put, List.setIfInBounds_toArray, List.set_cons_zero, List.set_cons_succ, i64_w, i32_w]
                                        rfl
                                      refine pure_ (i := 6) (N := some 37) (v := ?_) (a' := ?_) #[true, true, true, true, true, true, true, false, false, false, false, false, false, false, false, false, false, false, false, false, false, false] rfl rfl (any_of HT_.out (by kernel_rfl)) (fun _ _ _ h => h) (Or.inl ⟨by rfl, ?_⟩) ?_ ?_
                                      rotate_left
                                      · intro w'
                                        go_simp
                                        with_reducible rfl
                                      rotate_left
                                      · simp only [Act.put, List.setIfInBounds_toArray, List.set_cons_zero, List.set_cons_succ, i64_w, i32_w]
                                        rfl
                                      refine pure_ (i := 7) (N := some 38) (v := ?_) (a' := ?_) #[true, true, true, true, true, true, true, true, false, false, false, false, false, false, false, false, false, false, false, false, false, false] rfl rfl (any_of HT_.out (by kernel_rfl)) (fun _ _ _ h => h) (Or.inl ⟨by rfl, ?_⟩) ?_ ?_
                                      rotate_left
                                      · intro w'
                                        go_simp
                                        with_reducible rfl
                                      rotate_left
                                      · simp only [Act.put, List.setIfInBounds_toArray, List.set_cons_zero, List.set_cons_succ, i64_w, i32_w]
                                        rfl
                                      refine pure_ (i := 8) (N := some 39) (v := ?_) (a' := ?_) #[true, true, true, true, true, true, true, true, true, false, false, false, false, false, false, false, false, false, false, false, false, false] rfl rfl (any_of HT_.out (by kernel_rfl)) (fun _ _ _ h => h) (Or.inl ⟨by rfl, ?_⟩) ?_ ?_
                                      rotate_left
                                      · intro w'
                                        go_simp
                                        with_reducible rfl
                                      rotate_left
                                      · simp only [Act.put, List.setIfInBounds_toArray, List.set_cons_zero, List.set_cons_succ, i64_w, i32_w]
                                        rfl
                                      refine pure_ (i := 10) (N := some 41) (v := ?_) (a' := ?_) #[true, true, true, true, true, true, true, true, true, false, true, false, false, false, false, false, false, false, false, false, false, false] rfl rfl (any_of HT_.out (by kernel_rfl)) (fun _ _ _ h => h) (Or.inl ⟨by rfl, ?_⟩) ?_ ?_
                                      rotate_left
                                      · intro w'
                                        go_simp
                                        with_reducible rfl
                                      rotate_left
                                      · simp only [Act.put, List.setIfInBounds_toArray, List.set_cons_zero, List.set_cons_succ, i64_w, i32_w]
                                        rfl
                                      refine pure_ (i := 11) (N := some 42) (v := ?_) (a' := ?_) #[true, true, true, true, true, true, true, true, true, false, true, true, false, false, false, false, false, false, false, false, false, false] rfl rfl (any_of HT_.out (by kernel_rfl)) (fun _ _ _ h => h) (Or.inl ⟨by rfl, ?_⟩) ?_ ?_
                                      rotate_left
                                      · intro w'
                                        go_simp
                                        with_reducible rfl
                                      rotate_left
                                      · simp only [Act.put, List.setIfInBounds_toArray, List.set_cons_zero, List.set_cons_succ, i64_w, i32_w]
                                        rfl
                                      refine pure_ (i := 12) (N := some 43) (v := ?_) (a' := ?_) #[true, true, true, true, true, true, true, true, true, false, true, true, true, false, false, false, false, false, false, false, false, false] rfl rfl (any_of HT_.out (by kernel_rfl)) (fun _ _ _ h => h) (Or.inl ⟨by rfl, ?_⟩) ?_ ?_
                                      rotate_left
                                      · intro w'
                                        go_simp
                                        with_reducible rfl
                                      rotate_left
                                      · simp only [Act.put, List.setIfInBounds_toArray, List.set_cons_zero, List.set_cons_succ, i64_w, i32_w]
                                        rfl
                                      refine take_ (i := 9) (N := some 40) (v := ?_) (a' := ?_) #[true, true, true, true, true, true, true, true, true, true, true, true, true, false, false, false, false, false, false, false, false, false] rfl rfl (take_ofW HT_.out HW_.out (by kernel_rfl)) (fun _ _ _ h => h) (Or.inl ⟨by rfl, ?_⟩) hHeld ?_ ?_
                                      rotate_left
                                      · rintro w' ⟨s0, s1, s2, s3, s4⟩
                                        go_simp
                                        with_reducible rfl
                                      rotate_left
                                      · simp only [Act.put, List.setIfInBounds_toArray, List.set_cons_zero, List.set_cons_succ, i64_w, i32_w]
                                        rfl
                                      refine take_ (i := 13) (N := some 44) (v := ?_) (a' := ?_) #[true, true, true, true, true, true, true, true, true, true, true, true, true, true, false, false, false, false, false, false, false, false] rfl rfl (take_ofW HT_.out HW_.out (by kernel_rfl)) (fun _ _ _ h => h) (Or.inl ⟨by rfl, ?_⟩) hHeld ?_ ?_
                                      rotate_left
                                      · rintro w' ⟨s0, s1, s2, s3, s4⟩
                                        go_simp
                                        with_reducible rfl
                                      rotate_left
                                      · simp only [Act.put, List.setIfInBounds_toArray, List.set_cons_zero, List.set_cons_succ, i64_w, i32_w]
                                        rfl
                                      refine pure_ (i := 14) (N := some 45) (v := ?_) (a' := ?_) #[true, true, true, true, true, true, true, true, true, true, true, true, true, true, true, false, false, false, false, false, false, false] rfl rfl (any_of HT_.out (by kernel_rfl)) (fun _ _ _ h => h) (Or.inl ⟨by rfl, ?_⟩) ?_ ?_
                                      rotate_left
                                      · intro w'
                                        go_simp
                                        with_reducible rfl
                                      rotate_left
                                      · simp only [Act.put, List.setIfInBounds_toArray, List.set_cons_zero, List.set_cons_succ, i64_w, i32_w]
                                        rfl
                                      refine pure_ (i := 15) (N := some 46) (v := ?_) (a' := ?_) #[true, true, true, true, true, true, true, true, true, true, true, true, true, true, true, true, false, false, false, false, false, false] rfl rfl (any_of HT_.out (by kernel_rfl)) (fun _ _ _ h => h) (Or.inl ⟨by rfl, ?_⟩) ?_ ?_
                                      rotate_left
                                      · intro w'
                                        go_simp
                                        with_reducible rfl
                                      rotate_left
                                      · simp only [Act.put, List.setIfInBounds_toArray, List.set_cons_zero, List.set_cons_succ, i64_w, i32_w]
                                        rfl
                                      refine pure_ (i := 16) (N := some 47) (v := ?_) (a' := ?_) #[true, true, true, true, true, true, true, true, true, true, true, true, true, true, true, true, true, false, false, false, false, false] rfl rfl (any_of HT_.out (by kernel_rfl)) (fun _ _ _ h => h) (Or.inl ⟨by rfl, ?_⟩) ?_ ?_
                                      rotate_left
                                      · intro w'
                                        go_simp
                                        with_reducible rfl
                                      rotate_left
                                      · simp only [Act.put, List.setIfInBounds_toArray, List.set_cons_zero, List.set_cons_succ, i64_w, i32_w]
                                        rfl
                                      refine pure_ (i := 17) (N := some 48) (v := ?_) (a' := ?_) #[true, true, true, true, true, true, true, true, true, true, true, true, true, true, true, true, true, true, false, false, false, false] rfl rfl (any_of HT_.out (by kernel_rfl)) (fun _ _ _ h => h) (Or.inl ⟨by rfl, ?_⟩) ?_ ?_
                                      rotate_left
                                      · intro w'
                                        go_simp
                                        with_reducible rfl
                                      rotate_left
                                      · simp only [Act.put, List.setIfInBounds_toArray, List.set_cons_zero, List.set_cons_succ, i64_w, i32_w]
                                        rfl
                                      refine take_ (i := 18) (N := some 49) (v := ?_) (a' := ?_) #[true, true, true, true, true, true, true, true, true, true, true, true, true, true, true, true, true, true, true, false, false, false] rfl rfl (take_ofW HT_.out HW_.out (by kernel_rfl)) (fun _ _ _ h => h) (Or.inl ⟨by rfl, ?_⟩) hHeld ?_ ?_
                                      rotate_left
                                      · rintro w' ⟨s0, s1, s2, s3, s4⟩
                                        go_simp
                                        with_reducible rfl
                                      rotate_left
                                      · simp only [Act.put, List.setIfInBounds_toArray, List.set_cons_zero, List.set_cons_succ, i64_w, i32_w]
                                        rfl
                                      refine one_ (i := 19) (N := some 50) #[true, true, true, true, true, true, true, true, true, true, true, true, true, true, true, true, true, true, true, true, false, false] rfl rfl (one_of HT_.out (by kernel_rfl)) (by decide) (fun K hK => ?_)
                                      refine goes_ Try.func54 (by kernel_rfl) rfl #[.slice Ao26 x4_2.length co26, .agg #[.int .i64 x17_1, .int .i64 (rd (rd_L1 l0 x17_1) x24_2)]] (by rfl) rfl rfl (by (try simp only [List.map_toArray, List.map_cons, List.map_nil]); first | done | rfl | (simp only [List.length_drop, List.length_take]; rfl)) ?_
                                      with_reducible refine (slices_Contains_2_int_2_int.calls k2 _ _ x4_2 x17_1 (rd (rd_L1 l0 x17_1) x24_2) true _ ?side1 ?side2 A19.out).mono ?_
                                      (case side1 => repeat (first | exact (Kd.R_reads' HO_4.out).2.2 | (with_reducible refine Kd.C_alloc ?_ _) | (with_reducible refine Kd.C_drewN ?_ _) | (with_reducible refine Kd.C_drew ?_)))
                                      (case side2 => exact (Kd.R_reads' HO_4.out).2.1)
                                      rintro e w27 ⟨rfl, hb⟩
                                      have HS2_ := (hb.cell (World.block_lt_of_cell? _ _ (hHeld.2.2.1))).trans (hHeld.2.2.1)
                                      have HS3_ := (hb.cell (World.block_lt_of_cell? _ _ (hHeld.2.2.2.1))).trans (hHeld.2.2.2.1)
                                      have HS4_ := (hb.cell (World.block_lt_of_cell? _ _ (hHeld.2.2.2.2))).trans (hHeld.2.2.2.2)
                                      refine ⟨_, rfl, ?_⟩
                                      have n0_ := Aside0.mk (Kd.R_below (by (with_reducible repeat (first | apply Kd.R_alloc | apply Kd.R_drewN | apply Kd.R_drew)); exact HO_3.out) hb)
                                      have n1_ := Aside0.mk (Kd.R_below (by (with_reducible repeat (first | apply Kd.R_alloc | apply Kd.R_drewN | apply Kd.R_drew)); exact HO_4.out) hb)
                                      have n2_ := Aside0.mk (blk_below (g := gb146) (o := .cells #[.int .i64 x17_1, .int .i64 (rd (rd_L1 l0 x17_1) x24_2)] 37 (0, 0)) (by (with_reducible repeat (first | refine blk_drewN ?_ _ | refine blk_drew ?_ | refine blk_alloc ?_ _)); exact BK146.out) hb)
                                      have n3_ := Aside0.mk (below_step (by repeat (first | (with_reducible first | exact HB.out | apply below_alloc | apply pw_below_drewN | apply below_drew1 | refine below_set ?_ GE146.out) | exact HB.out)) hb)
                                      clear HO_3
                                      clear HO_4
                                      clear BK146
                                      clear HB
                                      have HO_3 := n0_
                                      have HO_4 := n1_
                                      have BK146 := n2_
                                      have HB := n3_
                                      clear n0_ n1_ n2_ n3_
                                      (try clear hb)
                                      (try clear hb2)
                                      (try clear hk)
                                      (try clear hi)
                                      refine hK.out _ _ ⟨(blk_cell BK146.out 0).trans rfl, (blk_cell BK146.out 1).trans rfl, HS2_, HS3_, HS4_⟩ (fun hHeld => ?_)
                                      clear hK K
                                      refine norm_ (a' := ?_) ?_ ?_
                                      rotate_left
                                      · show Act.put _ (some 50) _ = _
                                        simp only [Act.put, List.setIfInBounds_toArray, List.set_cons_zero, List.set_cons_succ, i64_w, i32_w]
                                        rfl
                                      refine pure_ (i := 20) (N := some 51) (v := ?_) (a' := ?_) #[true, true, true, true, true, true, true, true, true, true, true, true, true, true, true, true, true, true, true, true, true, false] rfl rfl (any_of HT_.out (by kernel_rfl)) (fun _ _ _ h => h) (Or.inl ⟨by rfl, ?_⟩) ?_ ?_
                                      rotate_left
                                      · intro w'
                                        go_simp
                                        with_reducible rfl
                                      rotate_left
                                      · simp only [Act.put, List.setIfInBounds_toArray, List.set_cons_zero, List.set_cons_succ, i64_w, i32_w]
                                        rfl
                                      refine pure_ (i := 21) (N := some 52) (v := ?_) (a' := ?_) #[true, true, true, true, true, true, true, true, true, true, true, true, true, true, true, true, true, true, true, true, true, true] rfl rfl (any_of HT_.out (by kernel_rfl)) (fun _ _ _ h => h) (Or.inl ⟨by rfl, ?_⟩) ?_ ?_
                                      rotate_left
                                      · intro w'
                                        go_simp
                                        with_reducible rfl
                                      rotate_left
                                      · simp only [Act.put, List.setIfInBounds_toArray, List.set_cons_zero, List.set_cons_succ, i64_w, i32_w]
                                        rfl
                                      refine done_ (done_of HT_.out (by kernel_rfl)) ?_
                                      try go_wp2
                                      go_roundg k2
                                      case measure => have := HK1.out; have := HK2.out; omega
                                      case rel => exact ⟨(x4_2), (wrap64 (x24_2 + 1)), (by first | rfl | (simp; done) | (simp [*]; done)), H', ⟨by have := HK1.out; have := HK2.out; omega⟩, ⟨by (with_reducible repeat (first | apply Kd.R_alloc | apply Kd.R_drewN | apply Kd.R_drew)); exact HO_3.out⟩, ⟨by (with_reducible repeat (first | apply Kd.R_alloc | apply Kd.R_drewN | apply Kd.R_drew)); exact Kd.R_mono HO_4.out (fun _ hk => trivial)⟩, ⟨by repeat (first | (with_reducible first | exact HB.out | apply below_alloc | apply pw_below_drewN | apply below_drew1 | refine below_set ?_ GE146.out) | exact HB.out)⟩⟩
                                    · replace c20 := Bool.eq_false_iff.mpr c20
                                      subst c20
                                      have H1 : (if x4_2.length < 8796093022208 then (graph_Back.l1 k2 t141 (x4_2 ++ [(⟨x17_1, rd (rd_L1 l0 x17_1) x24_2⟩ : S37)]) x17_1 l0 (l0.length : Int) x17_1 (rd_L1 l0 x17_1) ((rd_L1 l0 x17_1).length : Int) (wrap64 (x24_2 + 1))) else (none)) = some r := by rw [if_neg (show ¬ (false = true) by decide)] at H; exact H
                                      clear H
                                      have H := H1
                                      clear H1
                                      by_cases c28 : x4_2.length < 8796093022208
                                      · rw [if_pos c28] at H
                                        have LMc28 := Aside0.mk c28
                                        clear c28
                                        obtain ⟨y151, hy151⟩ : ∃ y_ : List (S37), y_ = (x4_2 ++ [(⟨x17_1, rd (rd_L1 l0 x17_1) x24_2⟩ : S37)]) := ⟨_, rfl⟩
                                        replace H : (graph_Back.l1 k2 t141 y151 x17_1 l0 (l0.length : Int) x17_1 (rd_L1 l0 x17_1) ((rd_L1 l0 x17_1).length : Int) (wrap64 (x24_2 + 1))) = some r := by first | (rw [hy151]; with_reducible exact H) | (have H2_ := (Option.bind_some _ _).symm.trans H; rw [hy151]; with_reducible exact H2_) | (have H2_ := (Option.bind_some _ _).symm.trans H; with_reducible exact H2_) | with_reducible exact H | (rw [hy151]; exact H) | exact H
                                        have Ny151 := Aside0.mk hy151
                                        clear hy151
                                        have H' := Aside0.mk H
                                        clear H
                                        have p145 : 0 ≤ (x24_2 : Int) := of_decide_eq_true (by first | (with_reducible assumption) | assumption)
                                        have q145 : x24_2 < ((rd_L1 l0 x17_1).length : Int) := of_decide_eq_true (by first | (with_reducible assumption) | assumption)
                                        obtain ⟨ad145, e145, hx145_0⟩ := Kd.at_int HR144_0.out x24_2 p145 q145
                                        cases e145
                                        replace hx145_0 := (HB.out.cell (World.block_lt_of_cell? w _ hx145_0)).trans hx145_0
                                        replace p145 := eq_true p145
                                        replace q145 := eq_true q145
                                        try go_wp2_with (first | ((with_reducible refine gate_dst (N := 9) rfl ?_); refine box_event ?hg (N := 9) ?hd (cs := #[.int .i64 0, .int .i64 0]) (t := 37) ?hr ?_; (case hd => rfl); (case hg => rfl); (case hr => first | (go_simp; done) | (go_simp; rfl)); intro gb146 hg w29 hbox hb; have n0_ := Aside0.mk (Kd.R_below (by (with_reducible repeat (first | apply Kd.R_alloc | apply Kd.R_drewN | apply Kd.R_drew)); exact HO_3.out) hb); have n1_ := Aside0.mk (Kd.R_below (Kd.R_elderB (by (with_reducible repeat (first | apply Kd.R_alloc | apply Kd.R_drewN | apply Kd.R_drew)); exact HO_4.out) gb146 (Nat.le_of_eq hg.symm)) hb); have n2_ := Aside0.mk (below_step (by repeat (first | (with_reducible first | exact HB.out | apply below_alloc | apply pw_below_drewN | apply below_drew1) | exact HB.out)) hb); have n3_ := Aside0.mk (hbox); have n4_ := Aside0.mk ((by rw [hg]; exact (below_size (by repeat (first | (with_reducible first | exact HB.out | apply below_alloc | apply pw_below_drewN | apply below_drew1) | exact HB.out))) : w.heap.size ≤ gb146)); have n5_ := Aside0.mk ((by rw [hg]; exact (below_size (by repeat (first | (with_reducible first | exact HB.out | apply below_alloc | apply pw_below_drewN | apply below_drew1) | exact HB.out))) : w.heap.size ≤ gb146)); clear HO_3; clear HO_4; clear HB; have HO_3 := n0_; have HO_4 := n1_; have HB := n2_; have BK146 := n3_; have GW146 := n4_; have GE146 := n5_; clear n0_ n1_ n2_ n3_ n4_ n5_; clear hb hbox hg; have hcz30_0 : w29.cell? ⟨gb146, 0, none⟩ = some (.int .i64 0) := (blk_cell BK146.out 0).trans rfl; have hcz30_1 : w29.cell? ⟨gb146, 1, none⟩ = some (.int .i64 0) := (blk_cell BK146.out 1).trans rfl; have hfz30_0 := blk_frozen BK146.out 0; have hfz30_1 := blk_frozen BK146.out 1))
                                        have n0_ : Aside0 (Kd.R (Kd.int .i64) 3 ((w29.setCell ⟨gb146, 0, none⟩ (.int .i64 x17_1)).setCell ⟨gb146, 1, none⟩ (.int .i64 (rd (rd_L1 l0 x17_1) x24_2))) w.heap.size (fun _ => True) v142 t141) := ⟨by (with_reducible repeat (first | apply Kd.R_alloc | apply Kd.R_drewN | apply Kd.R_drew)); exact Kd.R_mono (Kd.R_far (p := ⟨gb146, 1, none⟩) (Kd.R_far (p := ⟨gb146, 0, none⟩) (Kd.R_types HO_3.out BK146.out (by decide)) (fun _ hk => hk.2) (.int .i64 x17_1)) (fun _ hk => hk.2) (.int .i64 (rd (rd_L1 l0 x17_1) x24_2))) (fun _ hk => trivial)⟩
                                        have n1_ : Aside0 (Kd.R k37 37 ((w29.setCell ⟨gb146, 0, none⟩ (.int .i64 x17_1)).setCell ⟨gb146, 1, none⟩ (.int .i64 (rd (rd_L1 l0 x17_1) x24_2))) w.heap.size (fun k_ => k_ ≠ gb146) u4 x4_2) := ⟨by (with_reducible repeat (first | apply Kd.R_alloc | apply Kd.R_drewN | apply Kd.R_drew)); exact Kd.R_mono (Kd.R_far (p := ⟨gb146, 1, none⟩) (Kd.R_far (p := ⟨gb146, 0, none⟩) (Kd.R_mono HO_4.out (fun k_ hk => (⟨hk, hk.2⟩ : _ ∧ k_ ≠ gb146))) (fun _ hk => hk.2) (.int .i64 x17_1)) (fun _ hk => hk.2) (.int .i64 (rd (rd_L1 l0 x17_1) x24_2))) (fun _ hk => hk.1.2)⟩
                                        have n2_ : Aside0 (((w29.setCell ⟨gb146, 0, none⟩ (.int .i64 x17_1)).setCell ⟨gb146, 1, none⟩ (.int .i64 (rd (rd_L1 l0 x17_1) x24_2))).heap[gb146]? = some (.cells #[.int .i64 x17_1, .int .i64 (rd (rd_L1 l0 x17_1) x24_2)] 37 (0, 0))) := ⟨by (with_reducible repeat (first | refine blk_drewN ?_ _ | refine blk_drew ?_ | refine blk_alloc ?_ _)); refine blk_put (cs := #[.int .i64 x17_1, .int .i64 0]) ?_ 1 _ rfl; (with_reducible repeat (first | refine blk_drewN ?_ _ | refine blk_drew ?_ | refine blk_alloc ?_ _)); refine blk_put (cs := #[.int .i64 0, .int .i64 0]) ?_ 0 _ rfl; (with_reducible repeat (first | refine blk_drewN ?_ _ | refine blk_drew ?_ | refine blk_alloc ?_ _)); exact BK146.out⟩
                                        have n3_ : Aside0 (Below w.heap.size w ((w29.setCell ⟨gb146, 0, none⟩ (.int .i64 x17_1)).setCell ⟨gb146, 1, none⟩ (.int .i64 (rd (rd_L1 l0 x17_1) x24_2)))) := ⟨by repeat (first | (with_reducible first | exact HB.out | apply below_alloc | apply pw_below_drewN | apply below_drew1 | refine below_set ?_ GE146.out) | exact HB.out)⟩
                                        (try clear HO_3)
                                        (try clear HO_4)
                                        (try clear BK146)
                                        (try clear HB)
                                        generalize ((w29.setCell ⟨gb146, 0, none⟩ (.int .i64 x17_1)).setCell ⟨gb146, 1, none⟩ (.int .i64 (rd (rd_L1 l0 x17_1) x24_2))) = w31 at n0_ n1_ n2_ n3_ ⊢
                                        have HO_3 := n0_
                                        have HO_4 := n1_
                                        have BK146 := n2_
                                        have HB := n3_
                                        clear n0_ n1_ n2_ n3_
                                        have n0_ := Aside0.mk (Kd.R_drew HO_3.out)
                                        have n1_ := Aside0.mk (Kd.R_drew HO_4.out)
                                        have n2_ := Aside0.mk (blk_drew BK146.out)
                                        have n3_ := Aside0.mk (below_drew1 HB.out)
                                        clear HO_3
                                        clear HO_4
                                        clear BK146
                                        clear HB
                                        have HO_3 := n0_
                                        have HO_4 := n1_
                                        have BK146 := n2_
                                        have HB := n3_
                                        clear n0_ n1_ n2_ n3_
                                        obtain ⟨Ao33, co33, eo33⟩ := Kd.R_slice HO_3.out
                                        (first | subst eo33 | (injection eo33 with f1_ f2_ f3_; have f4_ := f1_.symm; have f5_ := f3_.symm; clear f1_ f2_ f3_; subst f4_; subst f5_))
                                        have p147 : 0 ≤ (x17_1 : Int) := of_decide_eq_true (by first | (with_reducible assumption) | assumption)
                                        have q147 : x17_1 < (t141.length : Int) := of_decide_eq_true (by first | (with_reducible assumption) | assumption)
                                        obtain ⟨ad147, e147, hx147_0⟩ := Kd.at_int (Kd.R_reads' HO_3.out).2.2 x17_1 p147 q147
                                        cases e147
                                        replace p147 := eq_true p147
                                        replace q147 := eq_true q147
                                        have p148 : 0 ≤ ((rd (rd_L1 l0 x17_1) x24_2) : Int) := of_decide_eq_true (by first | (with_reducible assumption) | assumption)
                                        have q148 : (rd (rd_L1 l0 x17_1) x24_2) < (t141.length : Int) := of_decide_eq_true (by first | (with_reducible assumption) | assumption)
                                        obtain ⟨ad148, e148, hx148_0⟩ := Kd.at_int (Kd.R_reads' HO_3.out).2.2 (rd (rd_L1 l0 x17_1) x24_2) p148 q148
                                        obtain rfl : ad147 = ad148 := (by injection e148)
                                        replace p148 := eq_true p148
                                        replace q148 := eq_true q148
                                        have p149 : 0 ≤ (x17_1 : Int) := of_decide_eq_true (by first | (with_reducible assumption) | assumption)
                                        have q149 : x17_1 < (t141.length : Int) := of_decide_eq_true (by first | (with_reducible assumption) | assumption)
                                        obtain ⟨ad149, e149, hx149_0⟩ := Kd.at_int (Kd.R_reads' HO_3.out).2.2 x17_1 p149 q149
                                        obtain rfl : ad147 = ad149 := (by injection e149)
                                        replace p149 := eq_true p149
                                        replace q149 := eq_true q149
                                        obtain ⟨Ao34, co34, eo34⟩ := Kd.R_slice HO_4.out
                                        (first | subst eo34 | (injection eo34 with f1_ f2_ f3_; have f4_ := f1_.symm; have f5_ := f3_.symm; clear f1_ f2_ f3_; subst f4_; subst f5_))
                                        refine start_ (n := 22) (S := fun w' => w'.cell? ⟨gb146, 0, none⟩ = some (.int .i64 x17_1) ∧ w'.cell? ⟨gb146, 1, none⟩ = some (.int .i64 (rd (rd_L1 l0 x17_1) x24_2)) ∧ w'.cell? (ad147.add (x17_1).toNat) = some (.int .i64 (rd t141 x17_1)) ∧ w'.cell? (ad147.add ((rd (rd_L1 l0 x17_1) x24_2)).toNat) = some (.int .i64 (rd t141 (rd (rd_L1 l0 x17_1) x24_2))) ∧ w'.cell? (ad147.add (x17_1).toNat) = some (.int .i64 (rd t141 x17_1))) (ds := []) #[false, false, false, false, false, false, false, false, false, false, false, false, false, false, false, false, false, false, false, false, false, false] (by kernel_rfl) rfl rfl ⟨(blk_cell BK146.out 0).trans rfl, (blk_cell BK146.out 1).trans rfl, hx147_0, hx148_0, hx149_0⟩ (fun hHeld => ?_); refine with_tabW graph_Back.tab12 graph_Back.bits12 (fun HT_ HW_ => ?_)
                                        generalize w31.drew = w32 at HO_3 HO_4 BK146 HB hx147_0 hx148_0 hx149_0 hHeld ⊢
                                        refine pure_ (i := 0) (N := some 31) (v := ?_) (a' := ?_) #[true, false, false, false, false, false, false, false, false, false, false, false, false, false, false, false, false, false, false, false, false, false] rfl rfl (any_of HT_.out (by kernel_rfl)) (fun _ _ _ h => h) (Or.inl ⟨by rfl, ?_⟩) ?_ ?_
                                        rotate_left
                                        · intro w'
                                          go_simp
                                          with_reducible rfl
                                        rotate_left
                                        · simp only [Act.put, List.setIfInBounds_toArray, List.set_cons_zero, List.set_cons_succ, i64_w, i32_w]
                                          rfl
                                        refine pure_ (i := 1) (N := some 32) (v := ?_) (a' := ?_) #[true, true, false, false, false, false, false, false, false, false, false, false, false, false, false, false, false, false, false, false, false, false] rfl rfl (any_of HT_.out (by kernel_rfl)) (fun _ _ _ h => h) (Or.inl ⟨by rfl, ?_⟩) ?_ ?_
                                        rotate_left
                                        · intro w'
                                          go_simp
                                          with_reducible rfl
                                        rotate_left
                                        · simp only [Act.put, List.setIfInBounds_toArray, List.set_cons_zero, List.set_cons_succ, i64_w, i32_w]
                                          rfl
                                        refine pure_ (i := 2) (N := some 33) (v := ?_) (a' := ?_) #[true, true, true, false, false, false, false, false, false, false, false, false, false, false, false, false, false, false, false, false, false, false] rfl rfl (any_of HT_.out (by kernel_rfl)) (fun _ _ _ h => h) (Or.inl ⟨by rfl, ?_⟩) ?_ ?_
                                        rotate_left
                                        · intro w'
                                          go_simp
                                          with_reducible rfl
                                        rotate_left
                                        · simp only [Act.put, List.setIfInBounds_toArray, List.set_cons_zero, List.set_cons_succ, i64_w, i32_w]
                                          rfl
                                        refine take_ (i := 3) (N := some 34) (v := ?_) (a' := ?_) #[true, true, true, true, false, false, false, false, false, false, false, false, false, false, false, false, false, false, false, false, false, false] rfl rfl (take_ofW HT_.out HW_.out (by kernel_rfl)) (fun _ _ _ h => h) (Or.inl ⟨by rfl, ?_⟩) hHeld ?_ ?_
                                        rotate_left
                                        · rintro w' ⟨s0, s1, s2, s3, s4⟩
                                          go_simp
                                          with_reducible rfl
                                        rotate_left
                                        · simp only [Act.put, List.setIfInBounds_toArray, List.set_cons_zero, List.set_cons_succ, i64_w, i32_w]
                                          rfl
                                        refine pure_ (i := 4) (N := some 35) (v := ?_) (a' := ?_) #[true, true, true, true, true, false, false, false, false, false, false, false, false, false, false, false, false, false, false, false, false, false] rfl rfl (any_of HT_.out (by kernel_rfl)) (fun _ _ _ h => h) (Or.inl ⟨by rfl, ?_⟩) ?_ ?_
                                        rotate_left
                                        · intro w'
                                          go_simp
                                          with_reducible rfl
                                        rotate_left
                                        · simp only [Act.put, List.setIfInBounds_toArray, List.set_cons_zero, List.set_cons_succ, i64_w, i32_w]
                                          rfl
                                        refine pure_ (i := 5) (N := some 36) (v := ?_) (a' := ?_) #[true, true, true, true, true, true, false, false, false, false, false, false, false, false, false, false, false, false, false, false, false, false] rfl rfl (any_of HT_.out (by kernel_rfl)) (fun _ _ _ h => h) (Or.inl ⟨by rfl, ?_⟩) ?_ ?_
                                        rotate_left
                                        · intro w'
                                          go_simp
                                          with_reducible rfl
                                        rotate_left
                                        · simp only [Act.put, List.setIfInBounds_toArray, List.set_cons_zero, List.set_cons_succ, i64_w, i32_w]
                                          rfl
                                        refine pure_ (i := 6) (N := some 37) (v := ?_) (a' := ?_) #[true, true, true, true, true, true, true, false, false, false, false, false, false, false, false, false, false, false, false, false, false, false] rfl rfl (any_of HT_.out (by kernel_rfl)) (fun _ _ _ h => h) (Or.inl ⟨by rfl, ?_⟩) ?_ ?_
                                        rotate_left
                                        · intro w'
                                          go_simp
                                          with_reducible rfl
                                        rotate_left
                                        · simp only [Act.put, List.setIfInBounds_toArray, List.set_cons_zero, List.set_cons_succ, i64_w, i32_w]
                                          rfl
                                        refine pure_ (i := 7) (N := some 38) (v := ?_) (a' := ?_) #[true, true, true, true, true, true, true, true, false, false, false, false, false, false, false, false, false, false, false, false, false, false] rfl rfl (any_of HT_.out (by kernel_rfl)) (fun _ _ _ h => h) (Or.inl ⟨by rfl, ?_⟩) ?_ ?_
                                        rotate_left
                                        · intro w'
                                          go_simp
                                          with_reducible rfl
                                        rotate_left
                                        · simp only [Act.put, List.setIfInBounds_toArray, List.set_cons_zero, List.set_cons_succ, i64_w, i32_w]
                                          rfl
                                        refine pure_ (i := 8) (N := some 39) (v := ?_) (a' := ?_) #[true, true, true, true, true, true, true, true, true, false, false, false, false, false, false, false, false, false, false, false, false, false] rfl rfl (any_of HT_.out (by kernel_rfl)) (fun _ _ _ h => h) (Or.inl ⟨by rfl, ?_⟩) ?_ ?_
                                        rotate_left
                                        · intro w'
                                          go_simp
                                          with_reducible rfl
                                        rotate_left
                                        · simp only [Act.put, List.setIfInBounds_toArray, List.set_cons_zero, List.set_cons_succ, i64_w, i32_w]
                                          rfl
                                        refine pure_ (i := 10) (N := some 41) (v := ?_) (a' := ?_) #[true, true, true, true, true, true, true, true, true, false, true, false, false, false, false, false, false, false, false, false, false, false] rfl rfl (any_of HT_.out (by kernel_rfl)) (fun _ _ _ h => h) (Or.inl ⟨by rfl, ?_⟩) ?_ ?_
                                        rotate_left
                                        · intro w'
                                          go_simp
                                          with_reducible rfl
                                        rotate_left
                                        · simp only [Act.put, List.setIfInBounds_toArray, List.set_cons_zero, List.set_cons_succ, i64_w, i32_w]
                                          rfl
                                        refine pure_ (i := 11) (N := some 42) (v := ?_) (a' := ?_) #[true, true, true, true, true, true, true, true, true, false, true, true, false, false, false, false, false, false, false, false, false, false] rfl rfl (any_of HT_.out (by kernel_rfl)) (fun _ _ _ h => h) (Or.inl ⟨by rfl, ?_⟩) ?_ ?_
                                        rotate_left
                                        · intro w'
                                          go_simp
                                          with_reducible rfl
                                        rotate_left
                                        · simp only [Act.put, List.setIfInBounds_toArray, List.set_cons_zero, List.set_cons_succ, i64_w, i32_w]
                                          rfl
                                        refine pure_ (i := 12) (N := some 43) (v := ?_) (a' := ?_) #[true, true, true, true, true, true, true, true, true, false, true, true, true, false, false, false, false, false, false, false, false, false] rfl rfl (any_of HT_.out (by kernel_rfl)) (fun _ _ _ h => h) (Or.inl ⟨by rfl, ?_⟩) ?_ ?_
                                        rotate_left
                                        · intro w'
                                          go_simp
                                          with_reducible rfl
                                        rotate_left
                                        · simp only [Act.put, List.setIfInBounds_toArray, List.set_cons_zero, List.set_cons_succ, i64_w, i32_w]
                                          rfl
                                        refine take_ (i := 9) (N := some 40) (v := ?_) (a' := ?_) #[true, true, true, true, true, true, true, true, true, true, true, true, true, false, false, false, false, false, false, false, false, false] rfl rfl (take_ofW HT_.out HW_.out (by kernel_rfl)) (fun _ _ _ h => h) (Or.inl ⟨by rfl, ?_⟩) hHeld ?_ ?_
                                        rotate_left
                                        · rintro w' ⟨s0, s1, s2, s3, s4⟩
                                          go_simp
                                          with_reducible rfl
                                        rotate_left
                                        · simp only [Act.put, List.setIfInBounds_toArray, List.set_cons_zero, List.set_cons_succ, i64_w, i32_w]
                                          rfl
                                        refine take_ (i := 13) (N := some 44) (v := ?_) (a' := ?_) #[true, true, true, true, true, true, true, true, true, true, true, true, true, true, false, false, false, false, false, false, false, false] rfl rfl (take_ofW HT_.out HW_.out (by kernel_rfl)) (fun _ _ _ h => h) (Or.inl ⟨by rfl, ?_⟩) hHeld ?_ ?_
                                        rotate_left
                                        · rintro w' ⟨s0, s1, s2, s3, s4⟩
                                          go_simp
                                          with_reducible rfl
                                        rotate_left
                                        · simp only [Act.put, List.setIfInBounds_toArray, List.set_cons_zero, List.set_cons_succ, i64_w, i32_w]
                                          rfl
                                        refine pure_ (i := 14) (N := some 45) (v := ?_) (a' := ?_) #[true, true, true, true, true, true, true, true, true, true, true, true, true, true, true, false, false, false, false, false, false, false] rfl rfl (any_of HT_.out (by kernel_rfl)) (fun _ _ _ h => h) (Or.inl ⟨by rfl, ?_⟩) ?_ ?_
                                        rotate_left
                                        · intro w'
                                          go_simp
                                          with_reducible rfl
                                        rotate_left
                                        · simp only [Act.put, List.setIfInBounds_toArray, List.set_cons_zero, List.set_cons_succ, i64_w, i32_w]
                                          rfl
                                        refine pure_ (i := 15) (N := some 46) (v := ?_) (a' := ?_) #[true, true, true, true, true, true, true, true, true, true, true, true, true, true, true, true, false, false, false, false, false, false] rfl rfl (any_of HT_.out (by kernel_rfl)) (fun _ _ _ h => h) (Or.inl ⟨by rfl, ?_⟩) ?_ ?_
                                        rotate_left
                                        · intro w'
                                          go_simp
                                          with_reducible rfl
                                        rotate_left
                                        · simp only [Act.put, List.setIfInBounds_toArray, List.set_cons_zero, List.set_cons_succ, i64_w, i32_w]
                                          rfl
                                        refine pure_ (i := 16) (N := some 47) (v := ?_) (a' := ?_) #[true, true, true, true, true, true, true, true, true, true, true, true, true, true, true, true, true, false, false, false, false, false] rfl rfl (any_of HT_.out (by kernel_rfl)) (fun _ _ _ h => h) (Or.inl ⟨by rfl, ?_⟩) ?_ ?_
                                        rotate_left
                                        · intro w'
                                          go_simp
                                          with_reducible rfl
                                        rotate_left
                                        · simp only [Act.put, List.setIfInBounds_toArray, List.set_cons_zero, List.set_cons_succ, i64_w, i32_w]
                                          rfl
                                        refine pure_ (i := 17) (N := some 48) (v := ?_) (a' := ?_) #[true, true, true, true, true, true, true, true, true, true, true, true, true, true, true, true, true, true, false, false, false, false] rfl rfl (any_of HT_.out (by kernel_rfl)) (fun _ _ _ h => h) (Or.inl ⟨by rfl, ?_⟩) ?_ ?_
                                        rotate_left
                                        · intro w'
                                          go_simp
                                          with_reducible rfl
                                        rotate_left
                                        · simp only [Act.put, List.setIfInBounds_toArray, List.set_cons_zero, List.set_cons_succ, i64_w, i32_w]
                                          rfl
                                        refine take_ (i := 18) (N := some 49) (v := ?_) (a' := ?_) #[true, true, true, true, true, true, true, true, true, true, true, true, true, true, true, true, true, true, true, false, false, false] rfl rfl (take_ofW HT_.out HW_.out (by kernel_rfl)) (fun _ _ _ h => h) (Or.inl ⟨by rfl, ?_⟩) hHeld ?_ ?_
                                        rotate_left
                                        · rintro w' ⟨s0, s1, s2, s3, s4⟩
                                          go_simp
                                          with_reducible rfl
                                        rotate_left
                                        · simp only [Act.put, List.setIfInBounds_toArray, List.set_cons_zero, List.set_cons_succ, i64_w, i32_w]
                                          rfl
                                        refine one_ (i := 19) (N := some 50) #[true, true, true, true, true, true, true, true, true, true, true, true, true, true, true, true, true, true, true, true, false, false] rfl rfl (one_of HT_.out (by kernel_rfl)) (by decide) (fun K hK => ?_)
                                        refine goes_ Try.func54 (by kernel_rfl) rfl #[.slice Ao34 x4_2.length co34, .agg #[.int .i64 x17_1, .int .i64 (rd (rd_L1 l0 x17_1) x24_2)]] (by rfl) rfl rfl (by (try simp only [List.map_toArray, List.map_cons, List.map_nil]); first | done | rfl | (simp only [List.length_drop, List.length_take]; rfl)) ?_
                                        with_reducible refine (slices_Contains_2_int_2_int.calls k2 _ _ x4_2 x17_1 (rd (rd_L1 l0 x17_1) x24_2) false _ ?side1 ?side2 A19.out).mono ?_
                                        (case side1 => repeat (first | exact (Kd.R_reads' HO_4.out).2.2 | (with_reducible refine Kd.C_alloc ?_ _) | (with_reducible refine Kd.C_drewN ?_ _) | (with_reducible refine Kd.C_drew ?_)))
                                        (case side2 => exact (Kd.R_reads' HO_4.out).2.1)
                                        rintro e w35 ⟨rfl, hb⟩
                                        have HS2_ := (hb.cell (World.block_lt_of_cell? _ _ (hHeld.2.2.1))).trans (hHeld.2.2.1)
                                        have HS3_ := (hb.cell (World.block_lt_of_cell? _ _ (hHeld.2.2.2.1))).trans (hHeld.2.2.2.1)
                                        have HS4_ := (hb.cell (World.block_lt_of_cell? _ _ (hHeld.2.2.2.2))).trans (hHeld.2.2.2.2)
                                        refine ⟨_, rfl, ?_⟩
                                        have n0_ := Aside0.mk (Kd.R_below (by (with_reducible repeat (first | apply Kd.R_alloc | apply Kd.R_drewN | apply Kd.R_drew)); exact HO_3.out) hb)
                                        have n1_ := Aside0.mk (Kd.R_below (by (with_reducible repeat (first | apply Kd.R_alloc | apply Kd.R_drewN | apply Kd.R_drew)); exact HO_4.out) hb)
                                        have n2_ := Aside0.mk (blk_below (g := gb146) (o := .cells #[.int .i64 x17_1, .int .i64 (rd (rd_L1 l0 x17_1) x24_2)] 37 (0, 0)) (by (with_reducible repeat (first | refine blk_drewN ?_ _ | refine blk_drew ?_ | refine blk_alloc ?_ _)); exact BK146.out) hb)
                                        have n3_ := Aside0.mk (below_step (by repeat (first | (with_reducible first | exact HB.out | apply below_alloc | apply pw_below_drewN | apply below_drew1 | refine below_set ?_ GE146.out) | exact HB.out)) hb)
                                        clear HO_3
                                        clear HO_4
                                        clear BK146
                                        clear HB
                                        have HO_3 := n0_
                                        have HO_4 := n1_
                                        have BK146 := n2_
                                        have HB := n3_
                                        clear n0_ n1_ n2_ n3_
                                        (try clear hb)
                                        (try clear hb2)
                                        (try clear hk)
                                        (try clear hi)
                                        refine hK.out _ _ ⟨(blk_cell BK146.out 0).trans rfl, (blk_cell BK146.out 1).trans rfl, HS2_, HS3_, HS4_⟩ (fun hHeld => ?_)
                                        clear hK K
                                        refine norm_ (a' := ?_) ?_ ?_
                                        rotate_left
                                        · show Act.put _ (some 50) _ = _
                                          simp only [Act.put, List.setIfInBounds_toArray, List.set_cons_zero, List.set_cons_succ, i64_w, i32_w]
                                          rfl
                                        refine pure_ (i := 20) (N := some 51) (v := ?_) (a' := ?_) #[true, true, true, true, true, true, true, true, true, true, true, true, true, true, true, true, true, true, true, true, true, false] rfl rfl (any_of HT_.out (by kernel_rfl)) (fun _ _ _ h => h) (Or.inl ⟨by rfl, ?_⟩) ?_ ?_
                                        rotate_left
                                        · intro w'
                                          go_simp
                                          with_reducible rfl
                                        rotate_left
                                        · simp only [Act.put, List.setIfInBounds_toArray, List.set_cons_zero, List.set_cons_succ, i64_w, i32_w]
                                          rfl
                                        refine pure_ (i := 21) (N := some 52) (v := ?_) (a' := ?_) #[true, true, true, true, true, true, true, true, true, true, true, true, true, true, true, true, true, true, true, true, true, true] rfl rfl (any_of HT_.out (by kernel_rfl)) (fun _ _ _ h => h) (Or.inl ⟨by rfl, ?_⟩) ?_ ?_
                                        rotate_left
                                        · intro w'
                                          go_simp
                                          with_reducible rfl
                                        rotate_left
                                        · simp only [Act.put, List.setIfInBounds_toArray, List.set_cons_zero, List.set_cons_succ, i64_w, i32_w]
                                          rfl
                                        refine done_ (done_of HT_.out (by kernel_rfl)) ?_
                                        have hcz36_0 : w35.cell? ⟨gb146, 0, none⟩ = some (.int .i64 x17_1) := (blk_cell BK146.out 0).trans rfl
                                        have hcz36_1 : w35.cell? ⟨gb146, 1, none⟩ = some (.int .i64 (rd (rd_L1 l0 x17_1) x24_2)) := (blk_cell BK146.out 1).trans rfl
                                        have hfz36_0 := blk_frozen BK146.out 0
                                        have hfz36_1 := blk_frozen BK146.out 1
                                        try go_wp2_with (first | ((with_reducible refine gate_builtin (b := .append) (xs := #[.tmp 53, .tmp 55]) rfl ?_); at_builtin; refine Kd.R_append k37 (w0 := w) w.heap.size rfl (.tmp 53) (.tmp 55) 32 37 (.agg #[(.int .i64 0), (.int .i64 0)]) 16 rfl Try.underlying32 info37 rfl (by decide) (by omega) (.slice Ao34 x4_2.length co34) x4_2 (⟨x17_1, rd (rd_L1 l0 x17_1) x24_2⟩ : S37) [.int .i64 x17_1, .int .i64 (rd (rd_L1 l0 x17_1) x24_2)] (fun k_ => k_ ≠ gb146) (fun _ => False) rfl rfl ?aP (fun _ hk => hk.elim) ?aF ?aO ?aB ?aS ?aL ?_; (case aP => exact k37_mkM _ _ _ (⟨x17_1, rd (rd_L1 l0 x17_1) x24_2⟩ : S37)); (case aB => exact (by repeat (first | (with_reducible first | exact HB.out | apply below_alloc | apply pw_below_drewN | apply below_drew1 | refine below_set ?_ GE146.out) | exact HB.out))); (case aF => exact (fun k_ hk => Kd.freshB (g := gb146) (o := .cells #[.int .i64 x17_1, .int .i64 (rd (rd_L1 l0 x17_1) x24_2)] 37 (0, 0)) (by (with_reducible repeat (first | refine blk_drewN ?_ _ | refine blk_drew ?_ | refine blk_alloc ?_ _)); exact BK146.out) k_ hk)); (case aO => exact (by (with_reducible repeat (first | apply Kd.R_alloc | apply Kd.R_drewN | apply Kd.R_drew)); exact HO_4.out)); (case aS => exact (below_size (by repeat (first | (with_reducible first | exact HB.out | apply below_alloc | apply pw_below_drewN | apply below_drew1 | refine below_set ?_ GE146.out) | exact HB.out)))); (case aL => have := LMc28.out; omega); intro v152 w37 ho hb hg hat; rw [← Ny151.out] at ho; have n0_ := Aside0.mk (Kd.R_over' (by (with_reducible repeat (first | apply Kd.R_alloc | apply Kd.R_drewN | apply Kd.R_drew)); exact HO_3.out) (Kd.R_typed (by (with_reducible repeat (first | apply Kd.R_alloc | apply Kd.R_drewN | apply Kd.R_drew)); exact HO_4.out)) (by decide) hg); have n1_ := Aside0.mk (blk_grown (g := gb146) (o := .cells #[.int .i64 x17_1, .int .i64 (rd (rd_L1 l0 x17_1) x24_2)] 37 (0, 0)) (by (with_reducible repeat (first | refine blk_drewN ?_ _ | refine blk_drew ?_ | refine blk_alloc ?_ _)); exact BK146.out) hg (Kd.R_away HO_4.out (fun _ hk => hk))); have n2_ := Aside0.mk (hb); have n3_ := Aside0.mk (ho); clear HO_3; clear BK146; clear HB; clear HO_4; have HO_3 := n0_; have BK146 := n1_; have HB := n2_; have HO153 := n3_; clear n0_ n1_ n2_ n3_; clear ho hb hg hat))
                                        go_roundg k2
                                        case measure => have := HK1.out; have := HK2.out; omega
                                        case rel => exact ⟨(y151), (wrap64 (x24_2 + 1)), (by first | rfl | (simp; done) | (simp [*]; done)), H', ⟨by have := HK1.out; have := HK2.out; omega⟩, ⟨by (with_reducible repeat (first | apply Kd.R_alloc | apply Kd.R_drewN | apply Kd.R_drew)); exact HO_3.out⟩, ⟨by (with_reducible repeat (first | apply Kd.R_alloc | apply Kd.R_drewN | apply Kd.R_drew)); exact Kd.R_mono HO153.out (fun _ hk => trivial)⟩, ⟨by repeat (first | (with_reducible first | exact HB.out | apply below_alloc | apply pw_below_drewN | apply below_drew1 | refine below_set ?_ GE146.out) | exact HB.out)⟩⟩
                                      · rw [if_neg c28] at H
                                        exact absurd H (by simp)
                                  · rw [if_neg c18] at H
                                    have c18b0 : decide ((rd t141 (rd (rd_L1 l0 x17_1) x24_2)) ≤ (rd t141 x17_1)) = false := decide_eq_false c18
                                    clear c18
                                    have H' := Aside0.mk H
                                    clear H
                                    have p145 : 0 ≤ (x24_2 : Int) := of_decide_eq_true (by first | (with_reducible assumption) | assumption)
                                    have q145 : x24_2 < ((rd_L1 l0 x17_1).length : Int) := of_decide_eq_true (by first | (with_reducible assumption) | assumption)
                                    obtain ⟨ad145, e145, hx145_0⟩ := Kd.at_int HR144_0.out x24_2 p145 q145
                                    cases e145
                                    replace hx145_0 := (HB.out.cell (World.block_lt_of_cell? w _ hx145_0)).trans hx145_0
                                    replace p145 := eq_true p145
                                    replace q145 := eq_true q145
                                    try go_wp2_with (first | ((with_reducible refine gate_dst (N := 9) rfl ?_); refine box_event ?hg (N := 9) ?hd (cs := #[.int .i64 0, .int .i64 0]) (t := 37) ?hr ?_; (case hd => rfl); (case hg => rfl); (case hr => first | (go_simp; done) | (go_simp; rfl)); intro gb146 hg w38 hbox hb; have n0_ := Aside0.mk (Kd.R_below (by (with_reducible repeat (first | apply Kd.R_alloc | apply Kd.R_drewN | apply Kd.R_drew)); exact HO_3.out) hb); have n1_ := Aside0.mk (Kd.R_below (Kd.R_elderB (by (with_reducible repeat (first | apply Kd.R_alloc | apply Kd.R_drewN | apply Kd.R_drew)); exact HO_4.out) gb146 (Nat.le_of_eq hg.symm)) hb); have n2_ := Aside0.mk (below_step (by repeat (first | (with_reducible first | exact HB.out | apply below_alloc | apply pw_below_drewN | apply below_drew1) | exact HB.out)) hb); have n3_ := Aside0.mk (hbox); have n4_ := Aside0.mk ((by rw [hg]; exact (below_size (by repeat (first | (with_reducible first | exact HB.out | apply below_alloc | apply pw_below_drewN | apply below_drew1) | exact HB.out))) : w.heap.size ≤ gb146)); have n5_ := Aside0.mk ((by rw [hg]; exact (below_size (by repeat (first | (with_reducible first | exact HB.out | apply below_alloc | apply pw_below_drewN | apply below_drew1) | exact HB.out))) : w.heap.size ≤ gb146)); clear HO_3; clear HO_4; clear HB; have HO_3 := n0_; have HO_4 := n1_; have HB := n2_; have BK146 := n3_; have GW146 := n4_; have GE146 := n5_; clear n0_ n1_ n2_ n3_ n4_ n5_; clear hb hbox hg; have hcz39_0 : w38.cell? ⟨gb146, 0, none⟩ = some (.int .i64 0) := (blk_cell BK146.out 0).trans rfl; have hcz39_1 : w38.cell? ⟨gb146, 1, none⟩ = some (.int .i64 0) := (blk_cell BK146.out 1).trans rfl; have hfz39_0 := blk_frozen BK146.out 0; have hfz39_1 := blk_frozen BK146.out 1))
                                    have n0_ : Aside0 (Kd.R (Kd.int .i64) 3 ((w38.setCell ⟨gb146, 0, none⟩ (.int .i64 x17_1)).setCell ⟨gb146, 1, none⟩ (.int .i64 (rd (rd_L1 l0 x17_1) x24_2))) w.heap.size (fun _ => True) v142 t141) := ⟨by (with_reducible repeat (first | apply Kd.R_alloc | apply Kd.R_drewN | apply Kd.R_drew)); exact Kd.R_mono (Kd.R_far (p := ⟨gb146, 1, none⟩) (Kd.R_far (p := ⟨gb146, 0, none⟩) (Kd.R_types HO_3.out BK146.out (by decide)) (fun _ hk => hk.2) (.int .i64 x17_1)) (fun _ hk => hk.2) (.int .i64 (rd (rd_L1 l0 x17_1) x24_2))) (fun _ hk => trivial)⟩
                                    have n1_ : Aside0 (Kd.R k37 37 ((w38.setCell ⟨gb146, 0, none⟩ (.int .i64 x17_1)).setCell ⟨gb146, 1, none⟩ (.int .i64 (rd (rd_L1 l0 x17_1) x24_2))) w.heap.size (fun k_ => k_ ≠ gb146) u4 x4_2) := ⟨by (with_reducible repeat (first | apply Kd.R_alloc | apply Kd.R_drewN | apply Kd.R_drew)); exact Kd.R_mono (Kd.R_far (p := ⟨gb146, 1, none⟩) (Kd.R_far (p := ⟨gb146, 0, none⟩) (Kd.R_mono HO_4.out (fun k_ hk => (⟨hk, hk.2⟩ : _ ∧ k_ ≠ gb146))) (fun _ hk => hk.2) (.int .i64 x17_1)) (fun _ hk => hk.2) (.int .i64 (rd (rd_L1 l0 x17_1) x24_2))) (fun _ hk => hk.1.2)⟩
                                    have n2_ : Aside0 (((w38.setCell ⟨gb146, 0, none⟩ (.int .i64 x17_1)).setCell ⟨gb146, 1, none⟩ (.int .i64 (rd (rd_L1 l0 x17_1) x24_2))).heap[gb146]? = some (.cells #[.int .i64 x17_1, .int .i64 (rd (rd_L1 l0 x17_1) x24_2)] 37 (0, 0))) := ⟨by (with_reducible repeat (first | refine blk_drewN ?_ _ | refine blk_drew ?_ | refine blk_alloc ?_ _)); refine blk_put (cs := #[.int .i64 x17_1, .int .i64 0]) ?_ 1 _ rfl; (with_reducible repeat (first | refine blk_drewN ?_ _ | refine blk_drew ?_ | refine blk_alloc ?_ _)); refine blk_put (cs := #[.int .i64 0, .int .i64 0]) ?_ 0 _ rfl; (with_reducible repeat (first | refine blk_drewN ?_ _ | refine blk_drew ?_ | refine blk_alloc ?_ _)); exact BK146.out⟩
                                    have n3_ : Aside0 (Below w.heap.size w ((w38.setCell ⟨gb146, 0, none⟩ (.int .i64 x17_1)).setCell ⟨gb146, 1, none⟩ (.int .i64 (rd (rd_L1 l0 x17_1) x24_2)))) := ⟨by repeat (first | (with_reducible first | exact HB.out | apply below_alloc | apply pw_below_drewN | apply below_drew1 | refine below_set ?_ GE146.out) | exact HB.out)⟩
                                    (try clear HO_3)
                                    (try clear HO_4)
                                    (try clear BK146)
                                    (try clear HB)
                                    generalize ((w38.setCell ⟨gb146, 0, none⟩ (.int .i64 x17_1)).setCell ⟨gb146, 1, none⟩ (.int .i64 (rd (rd_L1 l0 x17_1) x24_2))) = w40 at n0_ n1_ n2_ n3_ ⊢
                                    have HO_3 := n0_
                                    have HO_4 := n1_
                                    have BK146 := n2_
                                    have HB := n3_
                                    clear n0_ n1_ n2_ n3_
                                    have n0_ := Aside0.mk (Kd.R_drew HO_3.out)
                                    have n1_ := Aside0.mk (Kd.R_drew HO_4.out)
                                    have n2_ := Aside0.mk (blk_drew BK146.out)
                                    have n3_ := Aside0.mk (below_drew1 HB.out)
                                    clear HO_3
                                    clear HO_4
                                    clear BK146
                                    clear HB
                                    have HO_3 := n0_
                                    have HO_4 := n1_
                                    have BK146 := n2_
                                    have HB := n3_
                                    clear n0_ n1_ n2_ n3_
                                    obtain ⟨Ao42, co42, eo42⟩ := Kd.R_slice HO_3.out
                                    (first | subst eo42 | (injection eo42 with f1_ f2_ f3_; have f4_ := f1_.symm; have f5_ := f3_.symm; clear f1_ f2_ f3_; subst f4_; subst f5_))
                                    have p147 : 0 ≤ (x17_1 : Int) := of_decide_eq_true (by first | (with_reducible assumption) | assumption)
                                    have q147 : x17_1 < (t141.length : Int) := of_decide_eq_true (by first | (with_reducible assumption) | assumption)
                                    obtain ⟨ad147, e147, hx147_0⟩ := Kd.at_int (Kd.R_reads' HO_3.out).2.2 x17_1 p147 q147
                                    cases e147
                                    replace p147 := eq_true p147
                                    replace q147 := eq_true q147
                                    have p148 : 0 ≤ ((rd (rd_L1 l0 x17_1) x24_2) : Int) := of_decide_eq_true (by first | (with_reducible assumption) | assumption)
                                    have q148 : (rd (rd_L1 l0 x17_1) x24_2) < (t141.length : Int) := of_decide_eq_true (by first | (with_reducible assumption) | assumption)
                                    obtain ⟨ad148, e148, hx148_0⟩ := Kd.at_int (Kd.R_reads' HO_3.out).2.2 (rd (rd_L1 l0 x17_1) x24_2) p148 q148
                                    obtain rfl : ad147 = ad148 := (by injection e148)
                                    replace p148 := eq_true p148
                                    replace q148 := eq_true q148
                                    have p149 : 0 ≤ (x17_1 : Int) := of_decide_eq_true (by first | (with_reducible assumption) | assumption)
                                    have q149 : x17_1 < (t141.length : Int) := of_decide_eq_true (by first | (with_reducible assumption) | assumption)
                                    obtain ⟨ad149, e149, hx149_0⟩ := Kd.at_int (Kd.R_reads' HO_3.out).2.2 x17_1 p149 q149
                                    obtain rfl : ad147 = ad149 := (by injection e149)
                                    replace p149 := eq_true p149
                                    replace q149 := eq_true q149
                                    refine start_ (n := 22) (S := fun w' => w'.cell? (ad147.add (x17_1).toNat) = some (.int .i64 (rd t141 x17_1)) ∧ w'.cell? (ad147.add ((rd (rd_L1 l0 x17_1) x24_2)).toNat) = some (.int .i64 (rd t141 (rd (rd_L1 l0 x17_1) x24_2))) ∧ w'.cell? (ad147.add (x17_1).toNat) = some (.int .i64 (rd t141 x17_1))) (ds := []) #[false, false, false, false, false, false, false, false, false, false, false, false, false, false, false, false, false, false, false, false, false, false] (by kernel_rfl) rfl rfl ⟨hx147_0, hx148_0, hx149_0⟩ (fun hHeld => ?_); refine with_tabW graph_Back.tab12 graph_Back.bits12 (fun HT_ HW_ => ?_)
                                    generalize w40.drew = w41 at HO_3 HO_4 BK146 HB hx147_0 hx148_0 hx149_0 hHeld ⊢
                                    refine pure_ (i := 0) (N := some 31) (v := ?_) (a' := ?_) #[true, false, false, false, false, false, false, false, false, false, false, false, false, false, false, false, false, false, false, false, false, false] rfl rfl (any_of HT_.out (by kernel_rfl)) (fun _ _ _ h => h) (Or.inl ⟨by rfl, ?_⟩) ?_ ?_
                                    rotate_left
                                    · intro w'
                                      go_simp
                                      with_reducible rfl
                                    rotate_left
                                    · simp only [Act.put, List.setIfInBounds_toArray, List.set_cons_zero, List.set_cons_succ, i64_w, i32_w]
                                      rfl
                                    refine pure_ (i := 1) (N := some 32) (v := ?_) (a' := ?_) #[true, true, false, false, false, false, false, false, false, false, false, false, false, false, false, false, false, false, false, false, false, false] rfl rfl (any_of HT_.out (by kernel_rfl)) (fun _ _ _ h => h) (Or.inl ⟨by rfl, ?_⟩) ?_ ?_
                                    rotate_left
                                    · intro w'
                                      go_simp
                                      with_reducible rfl
                                    rotate_left
                                    · simp only [Act.put, List.setIfInBounds_toArray, List.set_cons_zero, List.set_cons_succ, i64_w, i32_w]
                                      rfl
                                    refine pure_ (i := 2) (N := some 33) (v := ?_) (a' := ?_) #[true, true, true, false, false, false, false, false, false, false, false, false, false, false, false, false, false, false, false, false, false, false] rfl rfl (any_of HT_.out (by kernel_rfl)) (fun _ _ _ h => h) (Or.inl ⟨by rfl, ?_⟩) ?_ ?_
                                    rotate_left
                                    · intro w'
                                      go_simp
                                      with_reducible rfl
                                    rotate_left
                                    · simp only [Act.put, List.setIfInBounds_toArray, List.set_cons_zero, List.set_cons_succ, i64_w, i32_w]
                                      rfl
                                    refine take_ (i := 3) (N := some 34) (v := ?_) (a' := ?_) #[true, true, true, true, false, false, false, false, false, false, false, false, false, false, false, false, false, false, false, false, false, false] rfl rfl (take_ofW HT_.out HW_.out (by kernel_rfl)) (fun _ _ _ h => h) (Or.inl ⟨by rfl, ?_⟩) hHeld ?_ ?_
                                    rotate_left
                                    · rintro w' ⟨s0, s1, s2⟩
                                      go_simp
                                      with_reducible rfl
                                    rotate_left
                                    · simp only [Act.put, List.setIfInBounds_toArray, List.set_cons_zero, List.set_cons_succ, i64_w, i32_w]
                                      rfl
                                    refine pure_ (i := 4) (N := some 35) (v := ?_) (a' := ?_) #[true, true, true, true, true, false, false, false, false, false, false, false, false, false, false, false, false, false, false, false, false, false] rfl rfl (any_of HT_.out (by kernel_rfl)) (fun _ _ _ h => h) (Or.inl ⟨by rfl, ?_⟩) ?_ ?_
                                    rotate_left
                                    · intro w'
                                      go_simp
                                      with_reducible rfl
                                    rotate_left
                                    · simp only [Act.put, List.setIfInBounds_toArray, List.set_cons_zero, List.set_cons_succ, i64_w, i32_w]
                                      rfl
                                    refine pure_ (i := 5) (N := some 36) (v := ?_) (a' := ?_) #[true, true, true, true, true, true, false, false, false, false, false, false, false, false, false, false, false, false, false, false, false, false] rfl rfl (any_of HT_.out (by kernel_rfl)) (fun _ _ _ h => h) (Or.inl ⟨by rfl, ?_⟩) ?_ ?_
                                    rotate_left
                                    · intro w'
                                      go_simp
                                      with_reducible rfl
                                    rotate_left
                                    · simp only [Act.put, List.setIfInBounds_toArray, List.set_cons_zero, List.set_cons_succ, i64_w, i32_w]
                                      rfl
                                    refine pure_ (i := 6) (N := some 37) (v := ?_) (a' := ?_) #[true, true, true, true, true, true, true, false, false, false, false, false, false, false, false, false, false, false, false, false, false, false] rfl rfl (any_of HT_.out (by kernel_rfl)) (fun _ _ _ h => h) (Or.inl ⟨by rfl, ?_⟩) ?_ ?_
                                    rotate_left
                                    · intro w'
                                      go_simp
                                      with_reducible rfl
                                    rotate_left
                                    · simp only [Act.put, List.setIfInBounds_toArray, List.set_cons_zero, List.set_cons_succ, i64_w, i32_w]
                                      rfl
                                    refine pure_ (i := 7) (N := some 38) (v := ?_) (a' := ?_) #[true, true, true, true, true, true, true, true, false, false, false, false, false, false, false, false, false, false, false, false, false, false] rfl rfl (any_of HT_.out (by kernel_rfl)) (fun _ _ _ h => h) (Or.inl ⟨by rfl, ?_⟩) ?_ ?_
                                    rotate_left
                                    · intro w'
                                      go_simp
                                      with_reducible rfl
                                    rotate_left
                                    · simp only [Act.put, List.setIfInBounds_toArray, List.set_cons_zero, List.set_cons_succ, i64_w, i32_w]
                                      rfl
                                    refine pure_ (i := 8) (N := some 39) (v := ?_) (a' := ?_) #[true, true, true, true, true, true, true, true, true, false, false, false, false, false, false, false, false, false, false, false, false, false] rfl rfl (any_of HT_.out (by kernel_rfl)) (fun _ _ _ h => h) (Or.inl ⟨by rfl, ?_⟩) ?_ ?_
                                    rotate_left
                                    · intro w'
                                      go_simp
                                      with_reducible rfl
                                    rotate_left
                                    · simp only [Act.put, List.setIfInBounds_toArray, List.set_cons_zero, List.set_cons_succ, i64_w, i32_w]
                                      rfl
                                    refine pure_ (i := 10) (N := some 41) (v := ?_) (a' := ?_) #[true, true, true, true, true, true, true, true, true, false, true, false, false, false, false, false, false, false, false, false, false, false] rfl rfl (any_of HT_.out (by kernel_rfl)) (fun _ _ _ h => h) (Or.inl ⟨by rfl, ?_⟩) ?_ ?_
                                    rotate_left
                                    · intro w'
                                      go_simp
                                      with_reducible rfl
                                    rotate_left
                                    · simp only [Act.put, List.setIfInBounds_toArray, List.set_cons_zero, List.set_cons_succ, i64_w, i32_w]
                                      rfl
                                    refine pure_ (i := 11) (N := some 42) (v := ?_) (a' := ?_) #[true, true, true, true, true, true, true, true, true, false, true, true, false, false, false, false, false, false, false, false, false, false] rfl rfl (any_of HT_.out (by kernel_rfl)) (fun _ _ _ h => h) (Or.inl ⟨by rfl, ?_⟩) ?_ ?_
                                    rotate_left
                                    · intro w'
                                      go_simp
                                      with_reducible rfl
                                    rotate_left
                                    · simp only [Act.put, List.setIfInBounds_toArray, List.set_cons_zero, List.set_cons_succ, i64_w, i32_w]
                                      rfl
                                    refine pure_ (i := 12) (N := some 43) (v := ?_) (a' := ?_) #[true, true, true, true, true, true, true, true, true, false, true, true, true, false, false, false, false, false, false, false, false, false] rfl rfl (any_of HT_.out (by kernel_rfl)) (fun _ _ _ h => h) (Or.inl ⟨by rfl, ?_⟩) ?_ ?_
                                    rotate_left
                                    · intro w'
                                      go_simp
                                      with_reducible rfl
                                    rotate_left
                                    · simp only [Act.put, List.setIfInBounds_toArray, List.set_cons_zero, List.set_cons_succ, i64_w, i32_w]
                                      rfl
                                    refine take_ (i := 9) (N := some 40) (v := ?_) (a' := ?_) #[true, true, true, true, true, true, true, true, true, true, true, true, true, false, false, false, false, false, false, false, false, false] rfl rfl (take_ofW HT_.out HW_.out (by kernel_rfl)) (fun _ _ _ h => h) (Or.inl ⟨by rfl, ?_⟩) hHeld ?_ ?_
                                    rotate_left
                                    · rintro w' ⟨s0, s1, s2⟩
                                      go_simp
                                      with_reducible rfl
                                    rotate_left
                                    · simp only [Act.put, List.setIfInBounds_toArray, List.set_cons_zero, List.set_cons_succ, i64_w, i32_w]
                                      rfl
                                    refine take_ (i := 13) (N := some 44) (v := ?_) (a' := ?_) #[true, true, true, true, true, true, true, true, true, true, true, true, true, true, false, false, false, false, false, false, false, false] rfl rfl (take_ofW HT_.out HW_.out (by kernel_rfl)) (fun _ _ _ h => h) (Or.inl ⟨by rfl, ?_⟩) hHeld ?_ ?_
                                    rotate_left
                                    · rintro w' ⟨s0, s1, s2⟩
                                      go_simp
                                      with_reducible rfl
                                    rotate_left
                                    · simp only [Act.put, List.setIfInBounds_toArray, List.set_cons_zero, List.set_cons_succ, i64_w, i32_w]
                                      rfl
                                    refine pure_ (i := 14) (N := some 45) (v := ?_) (a' := ?_) #[true, true, true, true, true, true, true, true, true, true, true, true, true, true, true, false, false, false, false, false, false, false] rfl rfl (any_of HT_.out (by kernel_rfl)) (fun _ _ _ h => h) (Or.inl ⟨by rfl, ?_⟩) ?_ ?_
                                    rotate_left
                                    · intro w'
                                      go_simp
                                      with_reducible rfl
                                    rotate_left
                                    · simp only [Act.put, List.setIfInBounds_toArray, List.set_cons_zero, List.set_cons_succ, i64_w, i32_w]
                                      rfl
                                    refine pure_ (i := 15) (N := some 46) (v := ?_) (a' := ?_) #[true, true, true, true, true, true, true, true, true, true, true, true, true, true, true, true, false, false, false, false, false, false] rfl rfl (any_of HT_.out (by kernel_rfl)) (fun _ _ _ h => h) (Or.inl ⟨by rfl, ?_⟩) ?_ ?_
                                    rotate_left
                                    · intro w'
                                      go_simp
                                      with_reducible rfl
                                    rotate_left
                                    · simp only [Act.put, List.setIfInBounds_toArray, List.set_cons_zero, List.set_cons_succ, i64_w, i32_w]
                                      rfl
                                    refine pure_ (i := 16) (N := some 47) (v := ?_) (a' := ?_) #[true, true, true, true, true, true, true, true, true, true, true, true, true, true, true, true, true, false, false, false, false, false] rfl rfl (any_of HT_.out (by kernel_rfl)) (fun _ _ _ h => h) (Or.inl ⟨by rfl, ?_⟩) ?_ ?_
                                    rotate_left
                                    · intro w'
                                      go_simp
                                      with_reducible rfl
                                    rotate_left
                                    · simp only [Act.put, List.setIfInBounds_toArray, List.set_cons_zero, List.set_cons_succ, i64_w, i32_w]
                                      rfl
                                    refine pure_ (i := 17) (N := some 48) (v := undef) (a' := ?_) #[true, true, true, true, true, true, true, true, true, true, true, true, true, true, true, true, true, true, false, false, false, false] rfl rfl (any_of HT_.out (by kernel_rfl)) (fun _ _ _ h => h) (Or.inr ⟨by rfl, rfl⟩) ?_ ?_
                                    rotate_left
                                    · simp only [Act.put, List.setIfInBounds_toArray, List.set_cons_zero, List.set_cons_succ, i64_w, i32_w]
                                      rfl
                                    refine pure_ (i := 18) (N := some 49) (v := undef) (a' := ?_) #[true, true, true, true, true, true, true, true, true, true, true, true, true, true, true, true, true, true, true, false, false, false] rfl rfl (any_of HT_.out (by kernel_rfl)) (fun _ _ _ h => h) (Or.inr ⟨by rfl, rfl⟩) ?_ ?_
                                    rotate_left
                                    · simp only [Act.put, List.setIfInBounds_toArray, List.set_cons_zero, List.set_cons_succ, i64_w, i32_w]
                                      rfl
                                    refine pure_ (i := 19) (N := some 50) (v := undef) (a' := ?_) #[true, true, true, true, true, true, true, true, true, true, true, true, true, true, true, true, true, true, true, true, false, false] rfl rfl (any_of HT_.out (by kernel_rfl)) (fun _ _ _ h => h) (Or.inr ⟨by rfl, rfl⟩) ?_ ?_
                                    rotate_left
                                    · simp only [Act.put, List.setIfInBounds_toArray, List.set_cons_zero, List.set_cons_succ, i64_w, i32_w]
                                      rfl
                                    refine pure_ (i := 20) (N := some 51) (v := undef) (a' := ?_) #[true, true, true, true, true, true, true, true, true, true, true, true, true, true, true, true, true, true, true, true, true, false] rfl rfl (any_of HT_.out (by kernel_rfl)) (fun _ _ _ h => h) (Or.inr ⟨by rfl, rfl⟩) ?_ ?_
                                    rotate_left
                                    · simp only [Act.put, List.setIfInBounds_toArray, List.set_cons_zero, List.set_cons_succ, i64_w, i32_w]
                                      rfl
                                    refine pure_ (i := 21) (N := some 52) (v := ?_) (a' := ?_) #[true, true, true, true, true, true, true, true, true, true, true, true, true, true, true, true, true, true, true, true, true, true] rfl rfl (any_of HT_.out (by kernel_rfl)) (fun _ _ _ h => h) (Or.inl ⟨by rfl, ?_⟩) ?_ ?_
                                    rotate_left
                                    · intro w'
                                      go_simp
                                      with_reducible rfl
                                    rotate_left
                                    · simp only [Act.put, List.setIfInBounds_toArray, List.set_cons_zero, List.set_cons_succ, i64_w, i32_w]
                                      rfl
                                    refine done_ (done_of HT_.out (by kernel_rfl)) ?_
                                    try go_wp2
                                    go_roundg k2
                                    case measure => have := HK1.out; have := HK2.out; omega
                                    case rel => exact ⟨(x4_2), (wrap64 (x24_2 + 1)), (by first | rfl | (simp; done) | (simp [*]; done)), H', ⟨by have := HK1.out; have := HK2.out; omega⟩, ⟨by (with_reducible repeat (first | apply Kd.R_alloc | apply Kd.R_drewN | apply Kd.R_drew)); exact HO_3.out⟩, ⟨by (with_reducible repeat (first | apply Kd.R_alloc | apply Kd.R_drewN | apply Kd.R_drew)); exact Kd.R_mono HO_4.out (fun _ hk => trivial)⟩, ⟨by repeat (first | (with_reducible first | exact HB.out | apply below_alloc | apply pw_below_drewN | apply below_drew1 | refine below_set ?_ GE146.out) | exact HB.out)⟩⟩
                                · rw [if_neg c17] at H
                                  exact absurd H (by simp)
                              · rw [if_neg c16] at H
                                exact absurd H (by simp)
                            · rw [if_neg c15] at H
                              have c15b0 : decide (0 ≤ (rd t141 x17_1)) = false := decide_eq_false c15
                              clear c15
                              have H' := Aside0.mk H
                              clear H
                              have p145 : 0 ≤ (x24_2 : Int) := of_decide_eq_true (by first | (with_reducible assumption) | assumption)
                              have q145 : x24_2 < ((rd_L1 l0 x17_1).length : Int) := of_decide_eq_true (by first | (with_reducible assumption) | assumption)
                              obtain ⟨ad145, e145, hx145_0⟩ := Kd.at_int HR144_0.out x24_2 p145 q145
                              cases e145
                              replace hx145_0 := (HB.out.cell (World.block_lt_of_cell? w _ hx145_0)).trans hx145_0
                              replace p145 := eq_true p145
                              replace q145 := eq_true q145
                              try go_wp2_with (first | ((with_reducible refine gate_dst (N := 9) rfl ?_); refine box_event ?hg (N := 9) ?hd (cs := #[.int .i64 0, .int .i64 0]) (t := 37) ?hr ?_; (case hd => rfl); (case hg => rfl); (case hr => first | (go_simp; done) | (go_simp; rfl)); intro gb146 hg w43 hbox hb; have n0_ := Aside0.mk (Kd.R_below (by (with_reducible repeat (first | apply Kd.R_alloc | apply Kd.R_drewN | apply Kd.R_drew)); exact HO_3.out) hb); have n1_ := Aside0.mk (Kd.R_below (Kd.R_elderB (by (with_reducible repeat (first | apply Kd.R_alloc | apply Kd.R_drewN | apply Kd.R_drew)); exact HO_4.out) gb146 (Nat.le_of_eq hg.symm)) hb); have n2_ := Aside0.mk (below_step (by repeat (first | (with_reducible first | exact HB.out | apply below_alloc | apply pw_below_drewN | apply below_drew1) | exact HB.out)) hb); have n3_ := Aside0.mk (hbox); have n4_ := Aside0.mk ((by rw [hg]; exact (below_size (by repeat (first | (with_reducible first | exact HB.out | apply below_alloc | apply pw_below_drewN | apply below_drew1) | exact HB.out))) : w.heap.size ≤ gb146)); have n5_ := Aside0.mk ((by rw [hg]; exact (below_size (by repeat (first | (with_reducible first | exact HB.out | apply below_alloc | apply pw_below_drewN | apply below_drew1) | exact HB.out))) : w.heap.size ≤ gb146)); clear HO_3; clear HO_4; clear HB; have HO_3 := n0_; have HO_4 := n1_; have HB := n2_; have BK146 := n3_; have GW146 := n4_; have GE146 := n5_; clear n0_ n1_ n2_ n3_ n4_ n5_; clear hb hbox hg; have hcz44_0 : w43.cell? ⟨gb146, 0, none⟩ = some (.int .i64 0) := (blk_cell BK146.out 0).trans rfl; have hcz44_1 : w43.cell? ⟨gb146, 1, none⟩ = some (.int .i64 0) := (blk_cell BK146.out 1).trans rfl; have hfz44_0 := blk_frozen BK146.out 0; have hfz44_1 := blk_frozen BK146.out 1))
                              have n0_ : Aside0 (Kd.R (Kd.int .i64) 3 ((w43.setCell ⟨gb146, 0, none⟩ (.int .i64 x17_1)).setCell ⟨gb146, 1, none⟩ (.int .i64 (rd (rd_L1 l0 x17_1) x24_2))) w.heap.size (fun _ => True) v142 t141) := ⟨by (with_reducible repeat (first | apply Kd.R_alloc | apply Kd.R_drewN | apply Kd.R_drew)); exact Kd.R_mono (Kd.R_far (p := ⟨gb146, 1, none⟩) (Kd.R_far (p := ⟨gb146, 0, none⟩) (Kd.R_types HO_3.out BK146.out (by decide)) (fun _ hk => hk.2) (.int .i64 x17_1)) (fun _ hk => hk.2) (.int .i64 (rd (rd_L1 l0 x17_1) x24_2))) (fun _ hk => trivial)⟩
                              have n1_ : Aside0 (Kd.R k37 37 ((w43.setCell ⟨gb146, 0, none⟩ (.int .i64 x17_1)).setCell ⟨gb146, 1, none⟩ (.int .i64 (rd (rd_L1 l0 x17_1) x24_2))) w.heap.size (fun k_ => k_ ≠ gb146) u4 x4_2) := ⟨by (with_reducible repeat (first | apply Kd.R_alloc | apply Kd.R_drewN | apply Kd.R_drew)); exact Kd.R_mono (Kd.R_far (p := ⟨gb146, 1, none⟩) (Kd.R_far (p := ⟨gb146, 0, none⟩) (Kd.R_mono HO_4.out (fun k_ hk => (⟨hk, hk.2⟩ : _ ∧ k_ ≠ gb146))) (fun _ hk => hk.2) (.int .i64 x17_1)) (fun _ hk => hk.2) (.int .i64 (rd (rd_L1 l0 x17_1) x24_2))) (fun _ hk => hk.1.2)⟩
                              have n2_ : Aside0 (((w43.setCell ⟨gb146, 0, none⟩ (.int .i64 x17_1)).setCell ⟨gb146, 1, none⟩ (.int .i64 (rd (rd_L1 l0 x17_1) x24_2))).heap[gb146]? = some (.cells #[.int .i64 x17_1, .int .i64 (rd (rd_L1 l0 x17_1) x24_2)] 37 (0, 0))) := ⟨by (with_reducible repeat (first | refine blk_drewN ?_ _ | refine blk_drew ?_ | refine blk_alloc ?_ _)); refine blk_put (cs := #[.int .i64 x17_1, .int .i64 0]) ?_ 1 _ rfl; (with_reducible repeat (first | refine blk_drewN ?_ _ | refine blk_drew ?_ | refine blk_alloc ?_ _)); refine blk_put (cs := #[.int .i64 0, .int .i64 0]) ?_ 0 _ rfl; (with_reducible repeat (first | refine blk_drewN ?_ _ | refine blk_drew ?_ | refine blk_alloc ?_ _)); exact BK146.out⟩
                              have n3_ : Aside0 (Below w.heap.size w ((w43.setCell ⟨gb146, 0, none⟩ (.int .i64 x17_1)).setCell ⟨gb146, 1, none⟩ (.int .i64 (rd (rd_L1 l0 x17_1) x24_2)))) := ⟨by repeat (first | (with_reducible first | exact HB.out | apply below_alloc | apply pw_below_drewN | apply below_drew1 | refine below_set ?_ GE146.out) | exact HB.out)⟩
                              (try clear HO_3)
                              (try clear HO_4)
                              (try clear BK146)
                              (try clear HB)
                              generalize ((w43.setCell ⟨gb146, 0, none⟩ (.int .i64 x17_1)).setCell ⟨gb146, 1, none⟩ (.int .i64 (rd (rd_L1 l0 x17_1) x24_2))) = w45 at n0_ n1_ n2_ n3_ ⊢
                              have HO_3 := n0_
                              have HO_4 := n1_
                              have BK146 := n2_
                              have HB := n3_
                              clear n0_ n1_ n2_ n3_
                              have n0_ := Aside0.mk (Kd.R_drew HO_3.out)
                              have n1_ := Aside0.mk (Kd.R_drew HO_4.out)
                              have n2_ := Aside0.mk (blk_drew BK146.out)
                              have n3_ := Aside0.mk (below_drew1 HB.out)
                              clear HO_3
                              clear HO_4
                              clear BK146
                              clear HB
                              have HO_3 := n0_
                              have HO_4 := n1_
                              have BK146 := n2_
                              have HB := n3_
                              clear n0_ n1_ n2_ n3_
                              obtain ⟨Ao47, co47, eo47⟩ := Kd.R_slice HO_3.out
                              (first | subst eo47 | (injection eo47 with f1_ f2_ f3_; have f4_ := f1_.symm; have f5_ := f3_.symm; clear f1_ f2_ f3_; subst f4_; subst f5_))
                              have p147 : 0 ≤ (x17_1 : Int) := of_decide_eq_true (by first | (with_reducible assumption) | assumption)
                              have q147 : x17_1 < (t141.length : Int) := of_decide_eq_true (by first | (with_reducible assumption) | assumption)
                              obtain ⟨ad147, e147, hx147_0⟩ := Kd.at_int (Kd.R_reads' HO_3.out).2.2 x17_1 p147 q147
                              cases e147
                              replace p147 := eq_true p147
                              replace q147 := eq_true q147
                              refine start_ (n := 22) (S := fun w' => w'.cell? (ad147.add (x17_1).toNat) = some (.int .i64 (rd t141 x17_1))) (ds := []) #[false, false, false, false, false, false, false, false, false, false, false, false, false, false, false, false, false, false, false, false, false, false] (by kernel_rfl) rfl rfl (hx147_0) (fun hHeld => ?_); refine with_tabW graph_Back.tab12 graph_Back.bits12 (fun HT_ HW_ => ?_)
                              generalize w45.drew = w46 at HO_3 HO_4 BK146 HB hx147_0 hHeld ⊢
                              refine pure_ (i := 0) (N := some 31) (v := ?_) (a' := ?_) #[true, false, false, false, false, false, false, false, false, false, false, false, false, false, false, false, false, false, false, false, false, false] rfl rfl (any_of HT_.out (by kernel_rfl)) (fun _ _ _ h => h) (Or.inl ⟨by rfl, ?_⟩) ?_ ?_
                              rotate_left
                              · intro w'
                                go_simp
                                with_reducible rfl
                              rotate_left
                              · simp only [Act.put, List.setIfInBounds_toArray, List.set_cons_zero, List.set_cons_succ, i64_w, i32_w]
                                rfl
                              refine pure_ (i := 1) (N := some 32) (v := ?_) (a' := ?_) #[true, true, false, false, false, false, false, false, false, false, false, false, false, false, false, false, false, false, false, false, false, false] rfl rfl (any_of HT_.out (by kernel_rfl)) (fun _ _ _ h => h) (Or.inl ⟨by rfl, ?_⟩) ?_ ?_
                              rotate_left
                              · intro w'
                                go_simp
                                with_reducible rfl
                              rotate_left
                              · simp only [Act.put, List.setIfInBounds_toArray, List.set_cons_zero, List.set_cons_succ, i64_w, i32_w]
                                rfl
                              refine pure_ (i := 2) (N := some 33) (v := ?_) (a' := ?_) #[true, true, true, false, false, false, false, false, false, false, false, false, false, false, false, false, false, false, false, false, false, false] rfl rfl (any_of HT_.out (by kernel_rfl)) (fun _ _ _ h => h) (Or.inl ⟨by rfl, ?_⟩) ?_ ?_
                              rotate_left
                              · intro w'
                                go_simp
                                with_reducible rfl
                              rotate_left
                              · simp only [Act.put, List.setIfInBounds_toArray, List.set_cons_zero, List.set_cons_succ, i64_w, i32_w]
                                rfl
                              refine take_ (i := 3) (N := some 34) (v := ?_) (a' := ?_) #[true, true, true, true, false, false, false, false, false, false, false, false, false, false, false, false, false, false, false, false, false, false] rfl rfl (take_ofW HT_.out HW_.out (by kernel_rfl)) (fun _ _ _ h => h) (Or.inl ⟨by rfl, ?_⟩) hHeld ?_ ?_
                              rotate_left
                              · intro w' s0
                                go_simp
                                with_reducible rfl
                              rotate_left
                              · simp only [Act.put, List.setIfInBounds_toArray, List.set_cons_zero, List.set_cons_succ, i64_w, i32_w]
                                rfl
                              refine pure_ (i := 4) (N := some 35) (v := ?_) (a' := ?_) #[true, true, true, true, true, false, false, false, false, false, false, false, false, false, false, false, false, false, false, false, false, false] rfl rfl (any_of HT_.out (by kernel_rfl)) (fun _ _ _ h => h) (Or.inl ⟨by rfl, ?_⟩) ?_ ?_
                              rotate_left
                              · intro w'
                                go_simp
                                with_reducible rfl
                              rotate_left
                              · simp only [Act.put, List.setIfInBounds_toArray, List.set_cons_zero, List.set_cons_succ, i64_w, i32_w]
                                rfl
                              refine pure_ (i := 5) (N := some 36) (v := ?_) (a' := ?_) #[true, true, true, true, true, true, false, false, false, false, false, false, false, false, false, false, false, false, false, false, false, false] rfl rfl (any_of HT_.out (by kernel_rfl)) (fun _ _ _ h => h) (Or.inl ⟨by rfl, ?_⟩) ?_ ?_
                              rotate_left
                              · intro w'
                                go_simp
                                with_reducible rfl
                              rotate_left
                              · simp only [Act.put, List.setIfInBounds_toArray, List.set_cons_zero, List.set_cons_succ, i64_w, i32_w]
                                rfl
                              refine pure_ (i := 6) (N := some 37) (v := undef) (a' := ?_) #[true, true, true, true, true, true, true, false, false, false, false, false, false, false, false, false, false, false, false, false, false, false] rfl rfl (any_of HT_.out (by kernel_rfl)) (fun _ _ _ h => h) (Or.inr ⟨by rfl, rfl⟩) ?_ ?_
                              rotate_left
                              · simp only [Act.put, List.setIfInBounds_toArray, List.set_cons_zero, List.set_cons_succ, i64_w, i32_w]
                                rfl
                              refine pure_ (i := 7) (N := some 38) (v := undef) (a' := ?_) #[true, true, true, true, true, true, true, true, false, false, false, false, false, false, false, false, false, false, false, false, false, false] rfl rfl (any_of HT_.out (by kernel_rfl)) (fun _ _ _ h => h) (Or.inr ⟨by rfl, rfl⟩) ?_ ?_
                              rotate_left
                              · simp only [Act.put, List.setIfInBounds_toArray, List.set_cons_zero, List.set_cons_succ, i64_w, i32_w]
                                rfl
                              refine pure_ (i := 8) (N := some 39) (v := undef) (a' := ?_) #[true, true, true, true, true, true, true, true, true, false, false, false, false, false, false, false, false, false, false, false, false, false] rfl rfl (any_of HT_.out (by kernel_rfl)) (fun _ _ _ h => h) (Or.inr ⟨by rfl, rfl⟩) ?_ ?_
                              rotate_left
                              · simp only [Act.put, List.setIfInBounds_toArray, List.set_cons_zero, List.set_cons_succ, i64_w, i32_w]
                                rfl
                              refine pure_ (i := 9) (N := some 40) (v := undef) (a' := ?_) #[true, true, true, true, true, true, true, true, true, true, false, false, false, false, false, false, false, false, false, false, false, false] rfl rfl (any_of HT_.out (by kernel_rfl)) (fun _ _ _ h => h) (Or.inr ⟨by rfl, rfl⟩) ?_ ?_
                              rotate_left
                              · simp only [Act.put, List.setIfInBounds_toArray, List.set_cons_zero, List.set_cons_succ, i64_w, i32_w]
                                rfl
                              refine pure_ (i := 10) (N := some 41) (v := undef) (a' := ?_) #[true, true, true, true, true, true, true, true, true, true, true, false, false, false, false, false, false, false, false, false, false, false] rfl rfl (any_of HT_.out (by kernel_rfl)) (fun _ _ _ h => h) (Or.inr ⟨by rfl, rfl⟩) ?_ ?_
                              rotate_left
                              · simp only [Act.put, List.setIfInBounds_toArray, List.set_cons_zero, List.set_cons_succ, i64_w, i32_w]
                                rfl
                              refine pure_ (i := 11) (N := some 42) (v := undef) (a' := ?_) #[true, true, true, true, true, true, true, true, true, true, true, true, false, false, false, false, false, false, false, false, false, false] rfl rfl (any_of HT_.out (by kernel_rfl)) (fun _ _ _ h => h) (Or.inr ⟨by rfl, rfl⟩) ?_ ?_
                              rotate_left
                              · simp only [Act.put, List.setIfInBounds_toArray, List.set_cons_zero, List.set_cons_succ, i64_w, i32_w]
                                rfl
                              refine pure_ (i := 12) (N := some 43) (v := undef) (a' := ?_) #[true, true, true, true, true, true, true, true, true, true, true, true, true, false, false, false, false, false, false, false, false, false] rfl rfl (any_of HT_.out (by kernel_rfl)) (fun _ _ _ h => h) (Or.inr ⟨by rfl, rfl⟩) ?_ ?_
                              rotate_left
                              · simp only [Act.put, List.setIfInBounds_toArray, List.set_cons_zero, List.set_cons_succ, i64_w, i32_w]
                                rfl
                              refine pure_ (i := 13) (N := some 44) (v := undef) (a' := ?_) #[true, true, true, true, true, true, true, true, true, true, true, true, true, true, false, false, false, false, false, false, false, false] rfl rfl (any_of HT_.out (by kernel_rfl)) (fun _ _ _ h => h) (Or.inr ⟨by rfl, rfl⟩) ?_ ?_
                              rotate_left
                              · simp only [Act.put, List.setIfInBounds_toArray, List.set_cons_zero, List.set_cons_succ, i64_w, i32_w]
                                rfl
                              refine pure_ (i := 14) (N := some 45) (v := undef) (a' := ?_) #[true, true, true, true, true, true, true, true, true, true, true, true, true, true, true, false, false, false, false, false, false, false] rfl rfl (any_of HT_.out (by kernel_rfl)) (fun _ _ _ h => h) (Or.inr ⟨by rfl, rfl⟩) ?_ ?_
                              rotate_left
                              · simp only [Act.put, List.setIfInBounds_toArray, List.set_cons_zero, List.set_cons_succ, i64_w, i32_w]
                                rfl
                              refine pure_ (i := 15) (N := some 46) (v := ?_) (a' := ?_) #[true, true, true, true, true, true, true, true, true, true, true, true, true, true, true, true, false, false, false, false, false, false] rfl rfl (any_of HT_.out (by kernel_rfl)) (fun _ _ _ h => h) (Or.inl ⟨by rfl, ?_⟩) ?_ ?_
                              rotate_left
                              · intro w'
                                go_simp
                                with_reducible rfl
                              rotate_left
                              · simp only [Act.put, List.setIfInBounds_toArray, List.set_cons_zero, List.set_cons_succ, i64_w, i32_w]
                                rfl
                              refine pure_ (i := 16) (N := some 47) (v := ?_) (a' := ?_) #[true, true, true, true, true, true, true, true, true, true, true, true, true, true, true, true, true, false, false, false, false, false] rfl rfl (any_of HT_.out (by kernel_rfl)) (fun _ _ _ h => h) (Or.inl ⟨by rfl, ?_⟩) ?_ ?_
                              rotate_left
                              · intro w'
                                go_simp
                                with_reducible rfl
                              rotate_left
                              · simp only [Act.put, List.setIfInBounds_toArray, List.set_cons_zero, List.set_cons_succ, i64_w, i32_w]
                                rfl
                              refine pure_ (i := 17) (N := some 48) (v := undef) (a' := ?_) #[true, true, true, true, true, true, true, true, true, true, true, true, true, true, true, true, true, true, false, false, false, false] rfl rfl (any_of HT_.out (by kernel_rfl)) (fun _ _ _ h => h) (Or.inr ⟨by rfl, rfl⟩) ?_ ?_
                              rotate_left
                              · simp only [Act.put, List.setIfInBounds_toArray, List.set_cons_zero, List.set_cons_succ, i64_w, i32_w]
                                rfl
                              refine pure_ (i := 18) (N := some 49) (v := undef) (a' := ?_) #[true, true, true, true, true, true, true, true, true, true, true, true, true, true, true, true, true, true, true, false, false, false] rfl rfl (any_of HT_.out (by kernel_rfl)) (fun _ _ _ h => h) (Or.inr ⟨by rfl, rfl⟩) ?_ ?_
                              rotate_left
                              · simp only [Act.put, List.setIfInBounds_toArray, List.set_cons_zero, List.set_cons_succ, i64_w, i32_w]
                                rfl
                              refine pure_ (i := 19) (N := some 50) (v := undef) (a' := ?_) #[true, true, true, true, true, true, true, true, true, true, true, true, true, true, true, true, true, true, true, true, false, false] rfl rfl (any_of HT_.out (by kernel_rfl)) (fun _ _ _ h => h) (Or.inr ⟨by rfl, rfl⟩) ?_ ?_
                              rotate_left
                              · simp only [Act.put, List.setIfInBounds_toArray, List.set_cons_zero, List.set_cons_succ, i64_w, i32_w]
                                rfl
                              refine pure_ (i := 20) (N := some 51) (v := undef) (a' := ?_) #[true, true, true, true, true, true, true, true, true, true, true, true, true, true, true, true, true, true, true, true, true, false] rfl rfl (any_of HT_.out (by kernel_rfl)) (fun _ _ _ h => h) (Or.inr ⟨by rfl, rfl⟩) ?_ ?_
                              rotate_left
                              · simp only [Act.put, List.setIfInBounds_toArray, List.set_cons_zero, List.set_cons_succ, i64_w, i32_w]
                                rfl
                              refine pure_ (i := 21) (N := some 52) (v := ?_) (a' := ?_) #[true, true, true, true, true, true, true, true, true, true, true, true, true, true, true, true, true, true, true, true, true, true] rfl rfl (any_of HT_.out (by kernel_rfl)) (fun _ _ _ h => h) (Or.inl ⟨by rfl, ?_⟩) ?_ ?_
                              rotate_left
                              · intro w'
                                go_simp
                                with_reducible rfl
                              rotate_left
                              · simp only [Act.put, List.setIfInBounds_toArray, List.set_cons_zero, List.set_cons_succ, i64_w, i32_w]
                                rfl
                              refine done_ (done_of HT_.out (by kernel_rfl)) ?_
                              try go_wp2
                              go_roundg k2
                              case measure => have := HK1.out; have := HK2.out; omega
                              case rel => exact ⟨(x4_2), (wrap64 (x24_2 + 1)), (by first | rfl | (simp; done) | (simp [*]; done)), H', ⟨by have := HK1.out; have := HK2.out; omega⟩, ⟨by (with_reducible repeat (first | apply Kd.R_alloc | apply Kd.R_drewN | apply Kd.R_drew)); exact HO_3.out⟩, ⟨by (with_reducible repeat (first | apply Kd.R_alloc | apply Kd.R_drewN | apply Kd.R_drew)); exact Kd.R_mono HO_4.out (fun _ hk => trivial)⟩, ⟨by repeat (first | (with_reducible first | exact HB.out | apply below_alloc | apply pw_below_drewN | apply below_drew1 | refine below_set ?_ GE146.out) | exact HB.out)⟩⟩
                          · rw [if_neg c14] at H
                            exact absurd H (by simp)
                        · rw [if_neg c13] at H
                          exact absurd H (by simp)
                      · rw [if_neg c12] at H
                        exact absurd H (by simp)
                    · rw [if_neg c11] at H
                      exact absurd H (by simp)
                  · rw [if_neg c10] at H
                    have c10b0 : decide (x24_2 < ((rd_L1 l0 x17_1).length : Int)) = false := decide_eq_false c10
                    clear c10
                    have H' := Aside0.mk H
                    clear H
                    go_wp2
                    go_roundg k2
                    case measure => have := HK1.out; have := HK2.out; omega
                    case rel => exact ⟨(x4_2), (wrap64 (x17_1 + 1)), (by first | rfl | (simp; done) | (simp [*]; done)), H', ⟨by have := HK1.out; have := HK2.out; omega⟩, ⟨by (with_reducible repeat (first | apply Kd.R_alloc | apply Kd.R_drewN | apply Kd.R_drew)); exact HO_3.out⟩, ⟨by (with_reducible repeat (first | apply Kd.R_alloc | apply Kd.R_drewN | apply Kd.R_drew)); exact HO_4.out⟩, ⟨by repeat (first | (with_reducible first | exact HB.out | apply below_alloc | apply pw_below_drewN | apply below_drew1) | exact HB.out)⟩⟩
            · rw [if_neg c9] at H
              exact absurd H (by simp)
          · rw [if_neg c8] at H
            exact absurd H (by simp)
        · rw [if_neg c7] at H
          have c7b0 : decide (x17_1 < (l0.length : Int)) = false := decide_eq_false c7
          clear c7
          obtain rfl := Option.some.inj H
          go_wp2
          go_ret
          exact ⟨_, by first | rfl | (simp [errW_none, errW_some] <;> rfl) | (simp [*, errW_none, errW_some] <;> rfl), by (with_reducible repeat (first | apply Kd.R_alloc | apply Kd.R_drewN | apply Kd.R_drew)); exact HO_4.out, by repeat (first | (with_reducible first | exact HB.out | apply below_alloc | apply pw_below_drewN | apply below_drew1) | exact HB.out)⟩
  · replace c3 := Bool.eq_false_iff.mpr c3
    subst c3
    have H1 : (some ([] : List (S37))) = some r := by rw [if_neg (show ¬ (false = true) by decide)] at H; exact H
    clear H
    have H := H1
    clear H1
    obtain rfl := Option.some.inj H
    go_enter Try.func30, Try.ntmps30
    go_wp2_with (first | ((with_reducible refine gate_callee (f := 19) rfl ?_); refine goesL_ (some 11) rfl rfl Try.func19 (by kernel_rfl) rfl #[.slice A0 l0.length c0] rfl (by (try simp only [List.map_toArray, List.map_cons, List.map_nil]); first | done | rfl | (simp only [List.length_drop, List.length_take]; rfl)) ?_; (with_reducible refine (graph_Right.calls _ _ l0 false _ ?side1 ?side2 A2.out).mono ?_); (case side1 => repeat (first | exact HR0.out | (with_reducible refine Kd.C_alloc ?_ _) | (with_reducible refine Kd.C_drewN ?_ _) | (with_reducible refine Kd.C_drew ?_))); (case side2 => exact HC0.out); rintro e w48 ⟨rfl, hb⟩; refine ⟨_, rfl, ?_⟩; have n0_ := Aside0.mk (below_step (by repeat (first | (with_reducible first | exact HB.out | apply below_alloc | apply pw_below_drewN | apply below_drew1) | exact HB.out)) hb); clear HB; have HB := n0_; clear n0_; (try clear hb); (try clear hb2); (try clear hk); (try clear hi)))
    go_ret
    exact ⟨_, by first | rfl | (simp [errW_none, errW_some] <;> rfl) | (simp [*, errW_none, errW_some] <;> rfl), by first | exact Kd.R_nil _ _ _ _ _ | exact Kd.N_nil _ _ _ _ _ | exact Kd.V_nil _ _ _ _ _ | exact Kd.Q_nil _ _ _ _ _ | exact Kd.S_nil _ _ _ _ _, by repeat (first | (with_reducible first | exact HB.out | apply below_alloc | apply pw_below_drewN | apply below_drew1) | exact HB.out)⟩

end Go.Proofs.Ytkmbhknmjnbanaa.A


namespace Go.Proofs.Ytkmbhknmjnbanaa.A
open Go.RowKit Go.Proofs.YtkmbhknmjnbanaaW.PrintWords Go.Proofs.YtkmbhknmjnbanaaW.PrintLast Go.Shelf
set_option linter.unusedVariables false
set_option linter.unusedSimpArgs false

/-- all that is left lies in the graph -/
theorem visit_in_range {g : List (List Int)} (hg : ∀ l ∈ g, ∀ x ∈ l, 0 ≤ x ∧ x < (g.length : Int)) : ∀ (n : Nat) (met : List Bool) (a : Nat), a < g.length → ∀ x ∈ (visit g n met a).2, 0 ≤ x ∧ x < (g.length : Int)
  | 0, _, _, _ => by intro x hx; simp [visit] at hx
  | n + 1, met, a, ha => by
    rw [visit_succ]
    have : ∀ (l : List Int), (∀ x ∈ l, 0 ≤ x ∧ x < (g.length : Int)) → ∀ (s : List Bool × List Int), (∀ x ∈ s.2, 0 ≤ x ∧ x < (g.length : Int)) → ∀ x ∈ (l.foldl (vstep g n) s).2, 0 ≤ x ∧ x < (g.length : Int) := by
      intro l
      induction l with
      | nil => intro _ s hs; exact hs
      | cons y l ih =>
        intro hl s hs
        have hy := hl y (by simp)
        rw [List.foldl_cons]
        refine ih (fun z hz => hl z (by simp [hz])) _ ?_
        unfold vstep
        split
        · exact hs
        · intro z hz
          rcases List.mem_append.1 hz with hz | hz
          · exact hs z hz
          · exact visit_in_range hg n _ _ (by omega) z hz
    intro x hx
    rcases List.mem_append.1 hx with hx | hx
    · exact this (rowOf g a) (hg _ (rowOf_mem ha)) (met.set a true, []) (by simp) x hx
    · simp only [List.mem_singleton] at hx
      subst hx
      omega
theorem order_in_range {g : List (List Int)} (hr : rightB g = true) : ∀ x ∈ orderOf g, 0 ≤ x ∧ x < (g.length : Int) := by
  obtain ⟨h1, h2, h3⟩ := right_rows hr
  intro x hx
  unfold orderOf at hx
  rw [if_pos hr, List.mem_reverse] at hx
  exact visit_in_range h3 _ _ _ (by omega) x hx
theorem order_len {g : List (List Int)} (hr : rightB g = true) : (orderOf g).length ≤ g.length := by
  obtain ⟨h1, h2, h3⟩ := right_rows hr
  unfold orderOf
  rw [if_pos hr, List.length_reverse]
  exact walk_len h3 (by omega)

def plfold (o : List Int) (n m : Nat) : List Int := (List.range m).foldl (fun p (i : Nat) => p.set (o.getD i 0).toNat (i : Int)) (List.replicate n (-1))
theorem plfold_succ (o : List Int) (n m : Nat) : plfold o n (m + 1) = (plfold o n m).set (o.getD m 0).toNat m := by simp [plfold, List.range_succ]
theorem plfold_len (o : List Int) (n : Nat) : ∀ m, (plfold o n m).length = n
  | 0 => by simp [plfold]
  | m + 1 => by rw [plfold_succ, List.length_set, plfold_len o n m]
def placesOf (g : List (List Int)) : List Int := plfold (orderOf g) g.length (orderOf g).length
theorem places_l0 {o : List Int} {n : Nat} (hn : n ≤ 4096) (hol : o.length ≤ 4096) (ho : ∀ x ∈ o, 0 ≤ x ∧ x < (n : Int)) : ∀ (d i : Nat), i + d = o.length → Evt (fun k => graph_places.l0 k (plfold o n i) o o.length i) (plfold o n o.length)
  | 0, i, hi => by
    obtain rfl : i = o.length := by omega
    refine Evt.step (Evt.const rfl) fun k => ?_
    rw [graph_places.l0, if_neg (by omega)]
  | d + 1, i, hi => by
    have hlt : i < o.length := by omega
    have hx := ho o[i] (List.getElem_mem hlt)
    refine Evt.step (places_l0 hn hol ho d (i + 1) (by omega)) fun k => ?_
    rw [graph_places.l0, if_pos (by omega), if_pos (by omega), if_pos (by omega), rdI hlt, if_pos hx.1, plfold_len, if_pos hx.2, w64 (by omega) (by omega), plfold_succ]
    rw [show o.getD i 0 = o[i] by simp [List.getD_eq_getElem?_getD, hlt]]
    rfl
theorem places_ev {g : List (List Int)} (hr : rightB g = true) : Evt (fun k => graph_places.f k g) (placesOf g) := by
  obtain ⟨h1, h2, h3⟩ := right_rows hr
  unfold graph_places.f
  refine Evt.bind (h := fun k t133 => ((graph_Order.f g).bind fun t136 => (graph_places.l0 k t133 t136 (t136.length : Int) 0))) (g := fun _ => slices_Repeat_int_int.f (([(-1)] : List Int)) (g.length : Int)) (x := List.replicate g.length (-1)) (Evt.const ?_) ?_
  · unfold slices_Repeat_int_int.f
    rw [if_pos ⟨rfl, by omega, by omega⟩, Int.toNat_natCast]
  · unfold graph_Order.f
    simp only [Option.bind_some]
    exact places_l0 h1 (Nat.le_trans (order_len hr) h1) (order_in_range hr) (orderOf g).length 0 (by omega)

def isE (i x : Int) (e : S37) : Bool := decide (i = e.f0) && decide (x = e.f1)
theorem rd37 {l : List S37} {i : Nat} (h : i < l.length) : rd_T37 l (i : Int) = l[i] := by unfold rd_T37; simp [h]
theorem index_l0 (l : List S37) (hl : l.length ≤ 1000000) (a b : Int) : ∀ (d i : Nat), i + d = l.length → ∃ r : Int, Evt (fun k => slices_Index_2_int_2_int.l0 k l l.length i a b) r ∧ decide (r ≥ 0) = (l.drop i).any (isE a b)
  | 0, i, hi => ⟨-1, by
      refine Evt.step (Evt.const rfl) fun k => ?_
      rw [slices_Index_2_int_2_int.l0, if_neg (by omega)], by rw [List.drop_eq_nil_of_le (by omega)]; rfl⟩
  | d + 1, i, hi => by
    have hlt : i < l.length := by omega
    rw [List.drop_eq_getElem_cons hlt, List.any_cons]
    cases he : isE a b l[i] with
    | true =>
      refine ⟨i, ?_, by simp⟩
      refine Evt.step (Evt.const rfl) fun k => ?_
      unfold isE at he
      rw [slices_Index_2_int_2_int.l0, if_pos (by omega), if_pos (by omega), if_pos (by omega), rd37 hlt, if_pos]
      simpa using he
    | false =>
      obtain ⟨r, h1, h2⟩ := index_l0 l hl a b d (i + 1) (by omega)
      refine ⟨r, Evt.step h1 fun k => ?_, by rw [h2]; simp⟩
      unfold isE at he
      rw [slices_Index_2_int_2_int.l0, if_pos (by omega), if_pos (by omega), if_pos (by omega), rd37 hlt, if_neg, w64 (by omega) (by omega)]
      · rfl
      · intro h
        have : (decide (a = l[i].f0) && decide (b = l[i].f1)) = true := by simpa using h
        rw [he] at this
        cases this
theorem contains_ev (l : List S37) (hl : l.length ≤ 1000000) (a b : Int) : Evt (fun k => slices_Contains_2_int_2_int.f k l a b) (l.any (isE a b)) := by
  obtain ⟨r, h1, h2⟩ := index_l0 l hl a b l.length 0 (by omega)
  unfold slices_Contains_2_int_2_int.f
  refine Evt.bind h1 (Evt.const ?_)
  rw [List.drop_zero] at h2
  rw [h2]

def bstep (at_ : List Int) (i : Nat) (out : List S37) (x : Int) : List S37 :=
  if 0 ≤ at_.getD i 0 ∧ at_.getD x.toNat 0 ≤ at_.getD i 0 ∧ out.any (isE i x) = false then out ++ [⟨i, x⟩] else out
def brow (at_ : List Int) (i : Nat) (out : List S37) (l : List Int) : List S37 := l.foldl (bstep at_ i) out
def bfold (at_ : List Int) (g : List (List Int)) (m : Nat) : List S37 := (List.range m).foldl (fun out (i : Nat) => brow at_ i out (rowOf g i)) []
theorem bfold_succ (at_ : List Int) (g : List (List Int)) (m : Nat) : bfold at_ g (m + 1) = brow at_ m (bfold at_ g m) (rowOf g m) := by simp [bfold, List.range_succ]
def backOf (g : List (List Int)) : List S37 := if rightB g = true then bfold (placesOf g) g g.length else []
theorem bstep_len (at_ : List Int) (i : Nat) (out : List S37) (x : Int) : (bstep at_ i out x).length ≤ out.length + 1 := by unfold bstep; split <;> simp
theorem brow_len (at_ : List Int) (i : Nat) : ∀ (l : List Int) (out : List S37), (brow at_ i out l).length ≤ out.length + l.length
  | [], out => by simp [brow]
  | x :: l, out => by
    have h1 := brow_len at_ i l (bstep at_ i out x)
    have h2 := bstep_len at_ i out x
    simp only [brow, List.foldl_cons, List.length_cons] at *
    omega
theorem bfold_len {at_ : List Int} {g : List (List Int)} (h8 : ∀ l ∈ g, l.length ≤ 8) : ∀ m, m ≤ g.length → (bfold at_ g m).length ≤ 8 * m
  | 0, _ => by simp [bfold]
  | m + 1, h => by
    have h1 := bfold_len (at_ := at_) h8 m (by omega)
    have h2 := brow_len at_ m (rowOf g m) (bfold at_ g m)
    have h3 := h8 _ (rowOf_mem (show m < g.length by omega))
    rw [bfold_succ]; omega
theorem rdD {l : List Int} {i : Nat} : rd l (i : Int) = l.getD i 0 := by unfold rd; simp
theorem rdD' {l : List Int} {x : Int} (h : 0 ≤ x) : rd l x = l.getD x.toNat 0 := rfl
theorem back_l1 {g : List (List Int)} (hn : g.length ≤ 4096) {at_ : List Int} (hat : at_.length = g.length) {i : Nat} (hi : i < g.length) {R : List Int} (hR : ∀ x ∈ R, 0 ≤ x ∧ x < (g.length : Int)) (hRl : R.length ≤ 100) {r : List S37} : ∀ (d kk : Nat) (out : List S37), kk + d = R.length → out.length + d ≤ 1000000 →
    Evt (fun k => graph_Back.l0 k at_ (brow at_ i out (R.drop kk)) g g.length ((i + 1 : Nat) : Int)) r → Evt (fun k => graph_Back.l1 k at_ out i g g.length i R R.length kk) r
  | 0, kk, out, hk, ho, h => by
    rw [List.drop_eq_nil_of_le (by omega)] at h
    refine Evt.step h fun k => ?_
    rw [graph_Back.l1, if_neg (by omega), w64 (by omega) (by omega)]
    rfl
  | d + 1, kk, out, hk, ho, h => by
    have hlt : kk < R.length := by omega
    have hx := hR R[kk] (List.getElem_mem hlt)
    rw [List.drop_eq_getElem_cons hlt] at h
    have hb : brow at_ i out (R[kk] :: R.drop (kk + 1)) = brow at_ i (bstep at_ i out R[kk]) (R.drop (kk + 1)) := rfl
    rw [hb] at h
    have hbl := bstep_len at_ i out R[kk]
    have ih := back_l1 hn hat hi hR hRl d (kk + 1) (bstep at_ i out R[kk]) (by omega) (by omega) h
    have hw : wrap64 ((kk : Int) + 1) = ((kk + 1 : Nat) : Int) := by rw [w64 (by omega) (by omega)]; rfl
    by_cases h0 : 0 ≤ at_.getD i 0
    · by_cases h1 : at_.getD R[kk].toNat 0 ≤ at_.getD i 0
      · have hc := contains_ev out (by omega) i R[kk]
        have hbs : bstep at_ i out R[kk] = if out.any (isE i R[kk]) = true then out else out ++ [⟨i, R[kk]⟩] := by
          unfold bstep
          cases out.any (isE i R[kk])
          · rw [if_pos ⟨h0, h1, rfl⟩]; rfl
          · rw [if_neg (fun h => by cases h.2.2)]; rfl
        rw [hbs] at ih
        refine Evt.step (Evt.bind (h := fun k t155 => (if t155 = true then (graph_Back.l1 k at_ out i g g.length i R R.length ((kk + 1 : Nat) : Int)) else (if out.length < 8796093022208 then (graph_Back.l1 k at_ (out ++ [(⟨i, R[kk]⟩ : S37)]) i g g.length i R R.length ((kk + 1 : Nat) : Int)) else (none)))) hc ?_) fun k => ?_
        · cases hq : out.any (isE i R[kk])
          · rw [hq] at ih
            simp only [Bool.false_eq_true, if_false] at ih ⊢
            refine Evt.congr ih fun k => ?_
            rw [if_pos (by omega)]
          · rw [hq] at ih
            simp only [if_true] at ih ⊢
            exact ih
        · rw [graph_Back.l1, if_pos (by omega), if_pos (by omega), if_pos (by omega), if_pos (by omega), if_pos (by omega), rdD, if_pos h0, rdI hlt, if_pos hx.1, if_pos (by omega), rdD' hx.1, if_pos h1, hw]
      · have hbs : bstep at_ i out R[kk] = out := by unfold bstep; rw [if_neg (fun h => h1 h.2.1)]
        rw [hbs] at ih
        refine Evt.step ih fun k => ?_
        rw [graph_Back.l1, if_pos (by omega), if_pos (by omega), if_pos (by omega), if_pos (by omega), if_pos (by omega), rdD, if_pos h0, rdI hlt, if_pos hx.1, if_pos (by omega), rdD' hx.1, if_neg h1, hw]
    · have hbs : bstep at_ i out R[kk] = out := by unfold bstep; rw [if_neg (fun h => h0 h.1)]
      rw [hbs] at ih
      refine Evt.step ih fun k => ?_
      rw [graph_Back.l1, if_pos (by omega), if_pos (by omega), if_pos (by omega), if_pos (by omega), if_pos (by omega), rdD, if_neg h0, hw]
theorem back_l0 {g : List (List Int)} (hn : g.length ≤ 4096) {at_ : List Int} (hat : at_.length = g.length) (hg : ∀ l ∈ g, ∀ x ∈ l, 0 ≤ x ∧ x < (g.length : Int)) (h8 : ∀ l ∈ g, l.length ≤ 8) : ∀ (d i : Nat), i + d = g.length →
    Evt (fun k => graph_Back.l0 k at_ (bfold at_ g i) g g.length i) (bfold at_ g g.length)
  | 0, i, hi => by
    obtain rfl : i = g.length := by omega
    refine Evt.step (Evt.const rfl) fun k => ?_
    rw [graph_Back.l0, if_neg (by omega)]
  | d + 1, i, hi => by
    have hlt : i < g.length := by omega
    have ih := back_l0 hn hat hg h8 d (i + 1) (by omega)
    rw [bfold_succ] at ih
    have h1 := h8 _ (rowOf_mem hlt)
    have h2 := bfold_len (at_ := at_) h8 i (by omega)
    refine Evt.step (back_l1 (r := bfold at_ g g.length) hn hat hlt (R := rowOf g i) (hg _ (rowOf_mem hlt)) (by omega) (rowOf g i).length 0 (bfold at_ g i) (by omega) (by omega) ih) fun k => ?_
    rw [graph_Back.l0, if_pos (by omega), if_pos (by omega), if_pos (by omega), rdL]
    rfl
theorem back_ev (g : List (List Int)) : Evt (fun k => graph_Back.f k g) (backOf g) := by
  unfold graph_Back.f graph_Right.f backOf
  simp only [Option.bind_some]
  cases hr : rightB g
  · exact Evt.const rfl
  · obtain ⟨h1, h2, h3⟩ := right_rows hr
    simp only [if_true]
    exact Evt.bind (h := fun k t146 => graph_Back.l0 k t146 ([] : List S37) g (g.length : Int) 0) (places_ev hr) (back_l0 h1 (plfold_len _ _ _) h3 (right_8 hr) g.length 0 (by omega))
end Go.Proofs.Ytkmbhknmjnbanaa.A


namespace Go.Proofs.Ytkmbhknmjnbanaa.A
set_option linter.unusedVariables false
set_option linter.unusedSimpArgs false

def Edge (g : List (List Int)) (a b : Nat) : Prop := (b : Int) ∈ rowOf g a
inductive Way (g : List (List Int)) : Nat → Nat → Prop
  | refl (a : Nat) : Way g a a
  | step {a b c : Nat} : Way g a b → Edge g b c → Way g a c
theorem Way.trans {g : List (List Int)} {a b c : Nat} (h1 : Way g a b) (h2 : Way g b c) : Way g a c := by
  induction h2 with
  | refl => exact h1
  | step _ e ih => exact ih.step e
theorem Way.head {g : List (List Int)} {a b c : Nat} (e : Edge g a b) (h : Way g b c) : Way g a c := ((Way.refl a).step e).trans h
/-- all blocks that edges name are there -/
def InG (g : List (List Int)) : Prop := ∀ l ∈ g, ∀ x ∈ l, 0 ≤ x ∧ x < (g.length : Int)
theorem Edge.lt {g : List (List Int)} (hg : InG g) {a b : Nat} (e : Edge g a b) : b < g.length := by
  by_cases ha : a < g.length
  · have := (hg _ (rowOf_mem ha) _ e).2; omega
  · unfold Edge rowOf at e
    rw [List.getD_eq_getElem?_getD, List.getElem?_eq_none (by omega)] at e
    simp at e
theorem Edge.lt1 {g : List (List Int)} {a b : Nat} (e : Edge g a b) : a < g.length := by
  by_cases ha : a < g.length
  · exact ha
  · unfold Edge rowOf at e
    rw [List.getD_eq_getElem?_getD, List.getElem?_eq_none (by omega)] at e
    simp at e
theorem Way.lt {g : List (List Int)} (hg : InG g) {a b : Nat} (h : Way g a b) (ha : a < g.length) : b < g.length := by
  induction h with
  | refl => exact ha
  | step _ e _ => exact e.lt hg

/-- what stands in the marks -/
abbrev Mk (m : List Bool) (i : Nat) : Prop := m.getD i true = true
theorem mk_set {m : List Bool} {a i : Nat} (ha : a < m.length) : Mk (m.set a true) i ↔ Mk m i ∨ i = a := by
  unfold Mk
  rw [List.getD_eq_getElem?_getD, List.getElem?_set, List.getD_eq_getElem?_getD]
  by_cases e : a = i
  · subst e; simp [ha]
  · have : ¬ i = a := fun h => e h.symm
    simp [e, this]

/-- what holds of the marks and what was left, in a walk from a over marks m0 -/
structure Dfs (g : List (List Int)) (m0 : List Bool) (a : Nat) (m : List Bool) (out : List Int) : Prop where
  len : m.length = m0.length
  mark : ∀ i : Nat, Mk m i ↔ Mk m0 i ∨ (i : Int) ∈ out
  nodup : out.Nodup
  new : ∀ i : Nat, (i : Int) ∈ out → ¬ Mk m0 i
  nat : ∀ x ∈ out, 0 ≤ x
  way : ∀ i : Nat, (i : Int) ∈ out → Way g a i
  clo : ∀ i j : Nat, (i : Int) ∈ out → Edge g i j → Mk m j
  ord : ∀ (pre post : List Int) (i j : Nat), out = pre ++ (i : Int) :: post → Edge g i j → Mk m0 j ∨ (j : Int) ∈ pre ∨ Way g j i

theorem split_append {α : Type} {a b pre post : List α} {x : α} (h : a ++ b = pre ++ x :: post) : (∃ p2, a = pre ++ x :: p2) ∨ ∃ p1, pre = a ++ p1 ∧ b = p1 ++ x :: post := by
  rcases List.append_eq_append_iff.1 h with ⟨c, h1, h2⟩ | ⟨c, h1, h2⟩
  · exact .inr ⟨c, h1, h2⟩
  · cases c with
    | nil => exact .inr ⟨[], by simpa using h1.symm, by simpa using h2.symm⟩
    | cons y c =>
      simp only [List.cons_append, List.cons.injEq] at h2
      obtain ⟨rfl, h2⟩ := h2
      exact .inl ⟨c, h1⟩

theorem Dfs.init (g : List (List Int)) (m0 : List Bool) (a : Nat) : Dfs g m0 a m0 [] :=
  ⟨rfl, fun i => by simp, List.nodup_nil, fun i h => by simp at h, fun x h => by simp at h, fun i h => by simp at h, fun i j h => by simp at h, fun pre post i j h => by simp at h⟩
theorem Dfs.grow {g : List (List Int)} {m0 m m' : List Bool} {a b : Nat} {out o2 : List Int} (h : Dfs g m0 a m out) (he : Edge g a b) (h2 : Dfs g m b m' o2) : Dfs g m0 a m' (out ++ o2) := by
  refine ⟨h2.len.trans h.len, fun i => ?_, ?_, fun i hi => ?_, fun x hx => ?_, fun i hi => ?_, fun i j hi e => ?_, fun pre post i j ho e => ?_⟩
  · rw [h2.mark, h.mark, List.mem_append, or_assoc]
  · rw [List.nodup_append]
    refine ⟨h.nodup, h2.nodup, fun x hx y hy e => ?_⟩
    subst e
    obtain ⟨i, rfl⟩ := Int.eq_ofNat_of_zero_le (h.nat x hx)
    exact h2.new i hy ((h.mark i).2 (.inr hx))
  · rcases List.mem_append.1 hi with hi | hi
    · exact h.new i hi
    · exact fun hm => h2.new i hi ((h.mark i).2 (.inl hm))
  · rcases List.mem_append.1 hx with hx | hx
    · exact h.nat x hx
    · exact h2.nat x hx
  · rcases List.mem_append.1 hi with hi | hi
    · exact h.way i hi
    · exact Way.head he (h2.way i hi)
  · rcases List.mem_append.1 hi with hi | hi
    · exact (h2.mark j).2 (.inl (h.clo i j hi e))
    · exact h2.clo i j hi e
  · rcases split_append ho with ⟨p2, ha⟩ | ⟨p1, hp, hb⟩
    · exact h.ord pre p2 i j ha e
    · rcases h2.ord p1 post i j hb e with h3 | h3 | h3
      · rcases (h.mark j).1 h3 with h4 | h4
        · exact .inl h4
        · exact .inr (.inl (by rw [hp]; exact List.mem_append_left _ h4))
      · exact .inr (.inl (by rw [hp]; exact List.mem_append_right _ h3))
      · exact .inr (.inr h3)
theorem Dfs.done {g : List (List Int)} {m0 m : List Bool} {a : Nat} {out : List Int} (ha : a < m0.length) (hm : ¬ Mk m0 a) (h : Dfs g (m0.set a true) a m out) (hs : ∀ j : Nat, Edge g a j → Mk m j) : Dfs g m0 a m (out ++ [(a : Int)]) := by
  have hna : (a : Int) ∉ out := fun h1 => h.new a h1 ((mk_set ha).2 (.inr rfl))
  refine ⟨by rw [h.len, List.length_set], fun i => ?_, ?_, fun i hi => ?_, fun x hx => ?_, fun i hi => ?_, fun i j hi e => ?_, fun pre post i j ho e => ?_⟩
  · rw [h.mark, mk_set ha, List.mem_append, List.mem_singleton]
    constructor
    · rintro ((h1 | rfl) | h1)
      · exact .inl h1
      · exact .inr (.inr rfl)
      · exact .inr (.inl h1)
    · rintro (h1 | h1 | h1)
      · exact .inl (.inl h1)
      · exact .inr h1
      · exact .inl (.inr (by omega))
  · rw [List.nodup_append]
    refine ⟨h.nodup, by simp, fun x hx y hy e => ?_⟩
    simp only [List.mem_singleton] at hy
    subst hy; subst e
    exact hna hx
  · rcases List.mem_append.1 hi with hi | hi
    · exact fun hm => h.new i hi ((mk_set ha).2 (.inl hm))
    · simp only [List.mem_singleton] at hi
      obtain rfl : i = a := by omega
      exact hm
  · rcases List.mem_append.1 hx with hx | hx
    · exact h.nat x hx
    · simp only [List.mem_singleton] at hx; omega
  · rcases List.mem_append.1 hi with hi | hi
    · exact h.way i hi
    · simp only [List.mem_singleton] at hi
      obtain rfl : i = a := by omega
      exact .refl _
  · rcases List.mem_append.1 hi with hi | hi
    · exact h.clo i j hi e
    · simp only [List.mem_singleton] at hi
      obtain rfl : i = a := by omega
      exact hs j e
  · rcases split_append ho with ⟨p2, ho'⟩ | ⟨p1, hp, hb⟩
    · rcases h.ord pre p2 i j ho' e with h3 | h3 | h3
      · rcases (mk_set ha).1 h3 with h4 | rfl
        · exact .inl h4
        · exact .inr (.inr (h.way i (by rw [ho']; simp)))
      · exact .inr (.inl h3)
      · exact .inr (.inr h3)
    · cases p1 with
      | cons y p1 => simp at hb
      | nil =>
        simp only [List.nil_append, List.cons.injEq] at hb
        obtain rfl : a = i := by omega
        simp only [List.append_nil] at hp
        subst hp
        rcases (h.mark j).1 (hs j e) with h3 | h3
        · rcases (mk_set ha).1 h3 with h4 | rfl
          · exact .inl h4
          · exact .inr (.inr (.refl _))
        · exact .inr (.inl h3)

theorem unmet_le_of {g : List (List Int)} {m0 m : List Bool} {a : Nat} {out : List Int} (h : Dfs g m0 a m out) : unmet m ≤ unmet m0 := by
  unfold unmet
  have hl := h.len
  have hm : ∀ i : Nat, Mk m0 i → Mk m i := fun i hi => (h.mark i).2 (.inl hi)
  clear h
  induction m0 generalizing m with
  | nil => cases m with
    | nil => simp
    | cons => simp at hl
  | cons b m0 ih =>
    cases m with
    | nil => simp at hl
    | cons c m =>
      have h1 := ih (m := m) (by simpa using hl) (fun i hi => by have := hm (i + 1) (by simpa [Mk] using hi); simpa [Mk] using this)
      have h2 : b = true → c = true := fun e => by have := hm 0 (by simpa [Mk] using e); simpa [Mk] using this
      rw [List.count_cons, List.count_cons]
      cases b <;> cases c <;> simp_all <;> omega

theorem visit_dfs {g : List (List Int)} (hg : InG g) : ∀ (n : Nat) (met : List Bool) (a : Nat), met.length = g.length → a < g.length → ¬ Mk met a → unmet met ≤ n → Dfs g met a (visit g n met a).1 (visit g n met a).2
  | 0, met, a, hl, ha, hm, hn => by
    have := unmet_pos (m := met) (a := a) (by omega) (by simpa [Mk] using hm); omega
  | n + 1, met, a, hl, ha, hm, hn => by
    rw [visit_succ]
    have hs := unmet_set (m := met) (a := a) (by omega) (by simpa [Mk] using hm)
    have H : ∀ (l pre : List Int), rowOf g a = pre ++ l → ∀ s : List Bool × List Int, Dfs g (met.set a true) a s.1 s.2 → (∀ j : Nat, (j : Int) ∈ pre → Mk s.1 j) →
        Dfs g (met.set a true) a (l.foldl (vstep g n) s).1 (l.foldl (vstep g n) s).2 ∧ ∀ j : Nat, (j : Int) ∈ rowOf g a → Mk (l.foldl (vstep g n) s).1 j := by
      intro l
      induction l with
      | nil => intro pre hp s hd hj; exact ⟨hd, fun j h => hj j (by rw [hp] at h; simpa using h)⟩
      | cons x l ih =>
        intro pre hp s hd hj
        have hx := hg _ (rowOf_mem ha) x (by rw [hp]; simp)
        obtain ⟨b, rfl⟩ := Int.eq_ofNat_of_zero_le hx.1
        rw [List.foldl_cons]
        have he : Edge g a b := by unfold Edge; rw [hp]; simp
        have hle := unmet_le_of hd
        have hlen := hd.len
        rw [List.length_set] at hlen
        unfold vstep
        rw [Int.toNat_natCast]
        split
        · rename_i hmk
          refine ih (pre ++ [(b : Int)]) (by rw [hp]; simp) s hd fun j h => ?_
          rcases List.mem_append.1 h with h | h
          · exact hj j h
          · simp only [List.mem_singleton] at h
            obtain rfl : j = b := by omega
            exact hmk
        · rename_i hmk
          have hv := visit_dfs hg n s.1 b (by omega) (by omega) (by simpa [Mk] using hmk) (by omega)
          have hg2 := hd.grow he hv
          refine ih (pre ++ [(b : Int)]) (by rw [hp]; simp) _ hg2 fun j h => ?_
          rcases List.mem_append.1 h with h | h
          · exact (hv.mark j).2 (.inl (hj j h))
          · simp only [List.mem_singleton] at h
            obtain rfl : j = b := by omega
            refine (hv.mark j).2 (.inr ?_)
            obtain ⟨n', rfl⟩ : ∃ n', n = n' + 1 := ⟨n - 1, by
              have := unmet_pos (m := s.1) (a := j) (by omega) (by simpa using hmk); omega⟩
            rw [visit_succ]; simp
    have h1 := H (rowOf g a) [] rfl (met.set a true, []) (Dfs.init _ _ _) (fun j h => by simp at h)
    exact Dfs.done (by omega) hm h1.1 h1.2
end Go.Proofs.Ytkmbhknmjnbanaa.A


namespace Go.Proofs.Ytkmbhknmjnbanaa.A
open Go.RowKit Go.Proofs.YtkmbhknmjnbanaaW.PrintWords Go.Proofs.YtkmbhknmjnbanaaW.PrintLast Go.Shelf
set_option linter.unusedVariables false
set_option linter.unusedSimpArgs false

def cstep (b : Bool) (P : List (List Int)) (n : Nat) (i x : Int) : List S37 := if b = true ∧ 1 < n ∧ 1 < (rowOf P x.toNat).length then [⟨i, x⟩] else []
def crow (b : Bool) (P : List (List Int)) (n : Nat) (i : Int) (l : List Int) : List S37 := l.flatMap (cstep b P n i)
def crit (b : Bool) (P g : List (List Int)) (m : Nat) : List S37 := (List.range m).flatMap fun i => crow b P (rowOf g i).length i (rowOf g i)
theorem crow_snoc (b : Bool) (P : List (List Int)) (n : Nat) (i : Int) (l : List Int) (x : Int) : crow b P n i (l ++ [x]) = crow b P n i l ++ cstep b P n i x := by simp [crow]
theorem crit_succ (b : Bool) (P g : List (List Int)) (m : Nat) : crit b P g (m + 1) = crit b P g m ++ crow b P (rowOf g m).length m (rowOf g m) := by simp [crit, List.range_succ]
theorem cstep_len (b : Bool) (P : List (List Int)) (n : Nat) (i x : Int) : (cstep b P n i x).length ≤ 1 := by unfold cstep; split <;> simp
theorem crow_len (b : Bool) (P : List (List Int)) (n : Nat) (i : Int) : ∀ l, (crow b P n i l).length ≤ l.length
  | [] => by simp [crow]
  | x :: l => by
    have := crow_len b P n i l
    have := cstep_len b P n i x
    simp only [crow, List.flatMap_cons, List.length_append, List.length_cons] at *
    omega
theorem crit_len {b : Bool} {P g : List (List Int)} (h8 : ∀ l ∈ g, l.length ≤ 8) : ∀ m, m ≤ g.length → (crit b P g m).length ≤ 8 * m
  | 0, _ => by simp [crit]
  | m + 1, h => by
    have := crit_len (b := b) (P := P) h8 m (by omega)
    have := crow_len b P (rowOf g m).length m (rowOf g m)
    have := h8 _ (rowOf_mem (show m < g.length by omega))
    rw [crit_succ, List.length_append]; omega
theorem cstep_false (P : List (List Int)) (n : Nat) (i x : Int) : cstep false P n i x = [] := by simp [cstep]
theorem crow_false (P : List (List Int)) (n : Nat) (i : Int) (l : List Int) : crow false P n i l = [] := by
  unfold crow
  rw [List.flatMap_eq_nil_iff]
  intro x _; exact cstep_false _ _ _ _
theorem crit_false (P g : List (List Int)) (m : Nat) : crit false P g m = [] := by
  unfold crit
  rw [List.flatMap_eq_nil_iff]
  intro i _; exact crow_false _ _ _ _

set_option maxHeartbeats 1000000 in
theorem preds_nil (A : Option Addr) (c : Nat) (g : List (List Int)) (w : World) (h : Kd.C (Kd.slice 3 (Kd.int .i64)) w A g.length g) (hr : rightB g = false) :
    Calls Try.prog 16 #[.slice A g.length c] w fun e w' => e = .returned (.slice none 0 0) ∧ Below w.heap.size w w' := by
  have hrc := right_calls A c g w h
  rw [hr] at hrc
  go_enter Try.func16, Try.ntmps16
  go_wp2_with fail
  refine hrc.mono ?_
  rintro e w1 ⟨rfl, hb⟩
  go_wp2_with fail
  go_ret
  exact ⟨rfl, hb⟩
/-- what Preds hands back: nil just where the graph is not right -/
theorem preds_val (A : Option Addr) (c : Nat) (g : List (List Int)) (w : World) (h : Kd.C (Kd.slice 3 (Kd.int .i64)) w A g.length g) (hc : g.length ≤ c) :
    Calls Try.prog 16 #[.slice A g.length c] w fun e w' => ∃ (A1 : Option Addr) (n1 c1 : Nat), e = .returned (.slice A1 n1 c1) ∧ (rightB g = false → A1 = none ∧ n1 = 0 ∧ c1 = 0) ∧ (rightB g = true → (∃ ad, A1 = some ad) ∧ n1 = g.length ∧ Kd.C (Kd.slice 3 (Kd.int .i64)) w' A1 g.length (predsOf g)) ∧ Below w.heap.size w w' := by
  cases hr : rightB g
  · exact (preds_nil A c g w h hr).mono fun e w' ⟨h1, h2⟩ => ⟨none, 0, 0, h1, fun _ => ⟨rfl, rfl, rfl⟩, fun h => (by cases h), h2⟩
  · obtain ⟨k, hk⟩ := (preds_ev g).get
    rw [hr] at hk
    refine (graph_Preds.calls k A c g _ w h hc hk).mono ?_
    rintro e w' ⟨v, rfl, hv, hb⟩
    obtain ⟨h1, h2, h3⟩ := right_rows hr
    rw [if_pos rfl] at hv
    obtain ⟨A1, c1, rfl⟩ := Kd.S_slice hv
    have hC := (Kd.S_reads' hv).2.2
    rw [predsOf_len] at hC ⊢
    obtain ⟨ad, _, _, e1, _⟩ := at_L1 hC 0 (by omega) (by omega)
    exact ⟨A1, _, c1, rfl, fun h => (by cases h), fun _ => ⟨⟨ad, e1⟩, rfl, hC⟩, hb⟩

set_option maxRecDepth 100000 in
set_option maxHeartbeats 4000000 in
theorem crit_calls (A : Option Addr) (c : Nat) (g : List (List Int)) (w : World) (h : Kd.C (Kd.slice 3 (Kd.int .i64)) w A g.length g) (hc : g.length ≤ c) :
    Calls Try.prog 25 #[.slice A g.length c] w fun e w' => ∃ v, e = .returned v ∧ Kd.R k37 37 w' w.heap.size (fun _ => True) v (crit (rightB g) (predsOf g) g g.length) ∧ Below w.heap.size w w' := by
  have hbig : g.length ≤ 9223372036854775807 := Kd.C_max h
  have hpv := preds_val A c g w h hc
  have hlen : ∀ (i : Nat) (kk : Nat), i < g.length → (crit (rightB g) (predsOf g) g i ++ crow (rightB g) (predsOf g) (rowOf g i).length i ((rowOf g i).take kk)).length ≤ 100000 := by
    intro i kk hi
    cases hr : rightB g
    · rw [crit_false, crow_false]; simp
    · obtain ⟨h1, h2, h3⟩ := right_rows hr
      have h8 := right_8 hr
      have h4 := crit_len (b := true) (P := predsOf g) h8 i (by omega)
      have h5 := crow_len true (predsOf g) (rowOf g i).length i ((rowOf g i).take kk)
      have h6 := h8 _ (rowOf_mem hi)
      rw [List.length_append]
      rw [List.length_take] at h5
      omega
  have hrows : rightB g = true → ∀ l ∈ g, ∀ x ∈ l, 0 ≤ x ∧ x < (g.length : Int) := fun hr => (right_rows hr).2.2
  generalize hP : predsOf g = P at hpv hlen ⊢
  have hPl : P.length = g.length := by rw [← hP]; exact predsOf_len g
  generalize rightB g = b at hpv hlen hrows ⊢
  go_enter Try.func25, Try.ntmps25
  go_wp2_with fail
  refine hpv.mono ?_
  rintro e w1 ⟨A1, n1, c1, rfl, hp0, hp1, hb1⟩
  have hg1 := Kd.C_below h hb1
  have hlen' := Aside0.mk hlen
  have hp0' := Aside0.mk hp0
  have hp1' := Aside0.mk hp1
  have hrows' := Aside0.mk hrows
  have hb1' := Aside0.mk hb1
  clear hpv h hlen hp0 hp1 hrows hb1
  go_wp2_with fail
  go_loopw [4, 13] (fun s4 s13 wr => ∃ i : Nat, i ≤ g.length ∧ s13 = .int .i64 i ∧ Aside0 (Kd.R k37 37 wr w1.heap.size (fun _ => True) s4 (crit b P g i)) ∧ Aside0 (Below w1.heap.size w1 wr))
    (fun _ s13 _ => g.length - (RowKit.intOf s13).toNat)
  case atStart => exact ⟨0, Nat.zero_le _, rfl, ⟨Kd.R_nil _ _ _ _ _⟩, ⟨Below.refl _ _⟩⟩
  case round =>
    obtain ⟨i, hi, rfl, hv, hB⟩ := hrel
    by_cases hlt : i < g.length
    · have hmn : (i : Int) < (g.length : Int) := by omega
      have hm0 : (0 : Int) ≤ (i : Int) := by omega
      obtain ⟨ad, A2, c2, rfl, q0, q1, q2⟩ := at_L1 hg1 (i : Int) hm0 hmn
      rw [Int.toNat_natCast] at q0
      replace q0 := (hB.out.cell (World.block_lt_of_cell? _ _ q0)).trans q0
      have hR1 := Aside0.mk (rowOf_mem hlt)
      have hcs := Aside0.mk (crit_succ b P g i)
      have hll := Aside0.mk (fun kk => hlen'.out i kk hlt)
      rw [rdL] at q0 q1 q2
      generalize rowOf g i = R at q0 q1 q2 hR1 hcs hll
      have hRbig : R.length ≤ 9223372036854775807 := Kd.C_max q2
      go_wp2_with fail
      go_loopw [4, 20] (fun s4 s20 wq => ∃ kk : Nat, kk ≤ R.length ∧ s20 = .int .i64 kk ∧ Aside0 (Kd.R k37 37 wq w1.heap.size (fun _ => True) s4 (crit b P g i ++ crow b P R.length i (R.take kk))) ∧ Aside0 (Below w1.heap.size w1 wq))
        (fun _ s20 _ => R.length - (RowKit.intOf s20).toNat)
      case atStart => exact ⟨0, Nat.zero_le _, rfl, ⟨by simpa [crow] using hv.out⟩, hB⟩
      case round =>
        clear q0 hv
        obtain ⟨kk, hkk, rfl, hv, hB2⟩ := hrel
        by_cases hlt2 : kk < R.length
        · have hmn2 : (kk : Int) < (R.length : Int) := by omega
          have hk0 : (0 : Int) ≤ (kk : Int) := by omega
          obtain ⟨ae, rfl, r0⟩ := Kd.at_int (Kd.C_below q2 hB2.out) (kk : Int) hk0 hmn2
          rw [Int.toNat_natCast, rdI hlt2] at r0
          have htk := crow_snoc b P R.length i (R.take kk) R[kk]
          rw [← List.take_succ_eq_append_getElem hlt2] at htk
          have htk' := Aside0.mk htk
          have hxm := Aside0.mk (List.getElem_mem hlt2)
          clear htk
          generalize R[kk] = x at r0 htk' hxm
          have hcst : cstep b P R.length i x = if b = true ∧ 1 < R.length ∧ 1 < (rowOf P x.toNat).length then [⟨i, x⟩] else [] := rfl
          cases b with
          | false =>
            obtain ⟨rfl, rfl, rfl⟩ := hp0'.out rfl
            rw [if_neg (by simp)] at hcst
            rw [hcst, List.append_nil] at htk'
            have ht := Aside0.mk htk'.out
            clear htk' hcst hp0' hp1'
            have hnn := Go.run_neq_slice_nil_any (P := Try.prog) wr 22 27 none 0 0 0 0 Try.underlying22
            simp only [Option.isNone_none, Bool.not_true] at hnn
            go_wp2_with fail
            go_roundw
            case rel => exact ⟨kk + 1, by omega, by go_num, by rw [ht.out]; exact hv, hB2⟩
            case measure => simp [RowKit.intOf]; omega
          | true =>
            obtain ⟨⟨ap, rfl⟩, rfl, hCP⟩ := hp1'.out rfl
            have hxr := hrows'.out rfl _ hR1.out x hxm.out
            obtain ⟨ap', A3, c3, e3, p0, p1, p2⟩ := at_L1 (Kd.C_below hCP hB2.out) x hxr.1 hxr.2
            cases e3
            rw [show rd_L1 P x = rowOf P x.toNat from rfl] at p0 p1 p2
            generalize rowOf P x.toNat = Q at p0 p1 p2 hcst
            obtain ⟨xn, rfl⟩ := Int.eq_ofNat_of_zero_le hxr.1
            rw [Int.toNat_natCast] at p0
            have hx0 : (0 : Int) ≤ (xn : Int) := hxr.1
            have hx1 : (xn : Int) < (g.length : Int) := hxr.2
            clear p1 p2 hp0' hp1' hxr
            have hnn := Go.run_neq_slice_nil_any (P := Try.prog) wr 22 27 (some ap) g.length c1 0 0 Try.underlying22
            simp only [Option.isNone_some, Bool.not_false] at hnn
            by_cases h2 : 1 < R.length
            · have h2z : (R.length : Int) > 1 := by omega
              by_cases h3 : 1 < Q.length
              · have h3z : (Q.length : Int) > 1 := by omega
                rw [if_pos ⟨rfl, h2, h3⟩] at hcst
                rw [hcst] at htk'
                have ht := Aside0.mk htk'.out
                have hl6 := hll.out kk
                clear htk' hcst
                generalize heq0 : crit true P g i ++ crow true P R.length i (R.take kk) = out at hv hl6
                have heq := Aside0.mk heq0
                clear heq0
                go_wp2_with (at_builtin; refine Kd.R_append k37 (w0 := w1) w1.heap.size rfl (.tmp 39) (.tmp 43) 32 37 (.agg #[(.int .i64 0), (.int .i64 0)]) 16 rfl Try.underlying32 info37 rfl (by decide) (by omega) _ out ⟨i, xn⟩ [.int .i64 i, .int .i64 xn] (fun _ => True) (fun _ => False) rfl rfl (k37_mkM _ _ _ ⟨i, xn⟩) (fun _ hk => hk.elim) (fun _ _ => trivial) hv.out hB2.out hB2.out.size (by omega) ?_; intro v6 w6 hown6 hb6 hg6 hat6; have hv6 := Aside0.mk hown6; have hb6' := Aside0.mk hb6; clear hown6 hg6 hat6)
                go_roundw
                case rel => exact ⟨kk + 1, by omega, by go_num, by rw [ht.out, ← List.append_assoc, heq.out]; exact hv6, hb6'⟩
                case measure => simp [RowKit.intOf]; omega
              · have h3z : ¬ (Q.length : Int) > 1 := by omega
                rw [if_neg (by simp; omega)] at hcst
                rw [hcst, List.append_nil] at htk'
                have ht := Aside0.mk htk'.out
                clear htk' hcst
                go_wp2_with fail
                go_roundw
                case rel => exact ⟨kk + 1, by omega, by go_num, by rw [ht.out]; exact hv, hB2⟩
                case measure => simp [RowKit.intOf]; omega
            · have h2z : ¬ (R.length : Int) > 1 := by omega
              rw [if_neg (by simp; omega)] at hcst
              rw [hcst, List.append_nil] at htk'
              have ht := Aside0.mk htk'.out
              clear htk' hcst
              go_wp2_with fail
              go_roundw
              case rel => exact ⟨kk + 1, by omega, by go_num, by rw [ht.out]; exact hv, hB2⟩
              case measure => simp [RowKit.intOf]; omega
        · obtain rfl : kk = R.length := by omega
          have hv2 := hv.out
          rw [List.take_length, ← hcs.out] at hv2
          have hv3 := Aside0.mk hv2
          clear hv hv2
          go_wp2_with fail
          go_roundw
          case rel => exact ⟨i + 1, by omega, by go_num, hv3, hB2⟩
          case measure => simp [RowKit.intOf]; omega
    · obtain rfl : i = g.length := by omega
      go_wp2_with fail
      go_ret
      exact ⟨_, rfl, Kd.R_lower hv.out hb1'.out.size, hb1'.out.trans (hB.out.mono hb1'.out.size)⟩
end Go.Proofs.Ytkmbhknmjnbanaa.A


namespace Go.Proofs.Ytkmbhknmjnbanaa.A
open Go.RowKit Go.Proofs.YtkmbhknmjnbanaaW.PrintWords Go.Proofs.YtkmbhknmjnbanaaW.PrintLast Go.Proofs.YtkmbhknmjnbanaaW.PrintMore
attribute [local go_sem] max2_int min2_int max_two min_two max_three min_three max_four min_four   -- for this text's walks alone
set_option linter.unusedVariables false
set_option linter.unusedSimpArgs false

def swageref02_Ints.l0 : Nat → List Int → List Int → Int → Option (Bool)
  | 0, _, _, _ => none
  | k + 1, x0, x1, x5 => if x5 < (x0.length : Int) then (if 0 ≤ x5 then (if x5 < (x1.length : Int) then (if (rd x0 x5) = (rd x1 x5) then (swageref02_Ints.l0 k x0 x1 (wrap64 (x5 + 1))) else (some false)) else (none)) else (none)) else (some true)
def swageref02_Ints.f (k : Nat) (l0 : List Int) (l1 : List Int) : Option (Bool) := if (l0.length : Int) = (l1.length : Int) then (swageref02_Ints.l0 k l0 l1 0) else (some false)
set_option maxHeartbeats 8000000 in
set_option maxRecDepth 100000 in
theorem swageref02_Ints.calls (k : Nat) (A0 : Option Addr) (c0 : Nat) (l0 : List Int) (A1 : Option Addr) (c1 : Nat) (l1 : List Int) (r : Bool) (w : World) (hr0 : Kd.C (Kd.int .i64) w A0 l0.length l0) (hc0 : l0.length ≤ c0) (hr1 : Kd.C (Kd.int .i64) w A1 l1.length l1) (hc1 : l1.length ≤ c1) (h : swageref02_Ints.f k l0 l1 = some r) :
    Calls Try.prog 27 #[.slice A0 l0.length c0, .slice A1 l1.length c1] w fun e w' => e = .returned (.bool r) ∧ Drawn0 w w' := by
  have HR0 := Aside0.mk hr0
  have HC0 := Aside0.mk hc0
  clear hr0 hc0
  have HR1 := Aside0.mk hr1
  have HC1 := Aside0.mk hc1
  clear hr1 hc1
  have H : (if (l0.length : Int) = (l1.length : Int) then (swageref02_Ints.l0 k l0 l1 0) else (some false)) = some r := h
  clear h
  by_cases c3 : (l0.length : Int) = (l1.length : Int)
  · rw [if_pos c3] at H
    have c3b0 : ((l0.length : Int) == (l1.length : Int)) = true := beq_iff_eq.mpr c3
    have c3b1 : ((l0.length : Int) != (l1.length : Int)) = false := bne_eq_false_iff_eq.mpr c3
    have c3b2 : (l0.length == l1.length) = true := by first | simpa using c3 | (simp at c3 ⊢; omega)
    clear c3
    have H' := Aside0.mk H
    clear H
    go_enter Try.func27, Try.ntmps27
    go_wp2
    repeat (go_quiet (fail); try go_wp2)
    go_loopg [5] k (fun kq v5 w' => ∃ (x5_1 : Int), v5 = .int .i64 x5_1 ∧ Aside0 (swageref02_Ints.l0 kq l0 l1 x5_1 = some r) ∧ Aside0 (kq ≤ k) ∧ Drawn0 w w')
    case atStart => exact ⟨(0), (by first | rfl | (simp; done) | (simp [*]; done)), H', ⟨Nat.le_refl _⟩, by repeat (first | exact Drawn0.refl _ | apply Drawn0.step)⟩
    case round =>
      clear H'
      try clear c1
      try clear c2
      try clear p2
      try clear c3
      try clear c3b0
      try clear c3b1
      try clear c3b2
      obtain ⟨x5_1, rfl, HA, HK1, ⟨m1, rfl⟩⟩ := hrel
      cases gk with
      | zero => exact absurd HA.out (by simp [swageref02_Ints.l0])
      | succ k1 =>
        have H := HA.out
        clear HA
        simp only [swageref02_Ints.l0] at H
        by_cases c4 : x5_1 < (l0.length : Int)
        · rw [if_pos c4] at H
          have c4b0 : decide (x5_1 < (l0.length : Int)) = true := decide_eq_true c4
          clear c4
          by_cases c5 : 0 ≤ x5_1
          · rw [if_pos c5] at H
            have c5b0 : decide (0 ≤ x5_1) = true := decide_eq_true c5
            clear c5
            by_cases c6 : x5_1 < (l1.length : Int)
            · rw [if_pos c6] at H
              have c6b0 : decide (x5_1 < (l1.length : Int)) = true := decide_eq_true c6
              clear c6
              by_cases c7 : (rd l0 x5_1) = (rd l1 x5_1)
              · rw [if_pos c7] at H
                have c7b0 : ((rd l0 x5_1) == (rd l1 x5_1)) = true := beq_iff_eq.mpr c7
                have c7b1 : ((rd l0 x5_1) != (rd l1 x5_1)) = false := bne_eq_false_iff_eq.mpr c7
                clear c7
                have H' := Aside0.mk H
                clear H
                have p112 : 0 ≤ (x5_1 : Int) := of_decide_eq_true (by first | (with_reducible assumption) | assumption)
                have q112 : x5_1 < (l0.length : Int) := of_decide_eq_true (by first | (with_reducible assumption) | assumption)
                obtain ⟨ad112, e112, hx112_0⟩ := Kd.at_int HR0.out x5_1 p112 q112
                cases e112
                replace p112 := eq_true p112
                replace q112 := eq_true q112
                have p113 : 0 ≤ (x5_1 : Int) := of_decide_eq_true (by first | (with_reducible assumption) | assumption)
                have q113 : x5_1 < (l1.length : Int) := of_decide_eq_true (by first | (with_reducible assumption) | assumption)
                obtain ⟨ad113, e113, hx113_0⟩ := Kd.at_int HR1.out x5_1 p113 q113
                cases e113
                replace p113 := eq_true p113
                replace q113 := eq_true q113
                go_wp2
                repeat (go_quiet (fail); try go_wp2)
                go_roundg k1
                case measure => have := HK1.out; omega
                case rel => exact ⟨(wrap64 (x5_1 + 1)), (by first | rfl | (simp; done) | (simp [*]; done)), H', ⟨by have := HK1.out; omega⟩, by repeat (first | exact Drawn0.refl _ | apply Drawn0.step)⟩
              · rw [if_neg c7] at H
                have c7b0 : ((rd l0 x5_1) == (rd l1 x5_1)) = false := beq_eq_false_iff_ne.mpr c7
                have c7b1 : ((rd l0 x5_1) != (rd l1 x5_1)) = true := bne_iff_ne.mpr c7
                obtain rfl := Option.some.inj H
                have p112 : 0 ≤ (x5_1 : Int) := of_decide_eq_true (by first | (with_reducible assumption) | assumption)
                have q112 : x5_1 < (l0.length : Int) := of_decide_eq_true (by first | (with_reducible assumption) | assumption)
                obtain ⟨ad112, e112, hx112_0⟩ := Kd.at_int HR0.out x5_1 p112 q112
                cases e112
                replace p112 := eq_true p112
                replace q112 := eq_true q112
                have p113 : 0 ≤ (x5_1 : Int) := of_decide_eq_true (by first | (with_reducible assumption) | assumption)
                have q113 : x5_1 < (l1.length : Int) := of_decide_eq_true (by first | (with_reducible assumption) | assumption)
                obtain ⟨ad113, e113, hx113_0⟩ := Kd.at_int HR1.out x5_1 p113 q113
                cases e113
                replace p113 := eq_true p113
                replace q113 := eq_true q113
                go_wp2
                repeat (go_quiet (fail); try go_wp2)
                go_ret
                exact ⟨by first | rfl | (simp; done) | (simp [*]; done), by repeat (first | exact Drawn0.refl _ | apply Drawn0.step)⟩
            · rw [if_neg c6] at H
              exact absurd H (by simp)
          · rw [if_neg c5] at H
            exact absurd H (by simp)
        · rw [if_neg c4] at H
          have c4b0 : decide (x5_1 < (l0.length : Int)) = false := decide_eq_false c4
          clear c4
          obtain rfl := Option.some.inj H
          go_wp2
          repeat (go_quiet (fail); try go_wp2)
          go_ret
          exact ⟨by first | rfl | (simp; done) | (simp [*]; done), by repeat (first | exact Drawn0.refl _ | apply Drawn0.step)⟩
  · rw [if_neg c3] at H
    have c3b0 : ((l0.length : Int) == (l1.length : Int)) = false := beq_eq_false_iff_ne.mpr c3
    have c3b1 : ((l0.length : Int) != (l1.length : Int)) = true := bne_iff_ne.mpr c3
    have c3b2 : (l0.length == l1.length) = false := by first | simpa using c3 | (simp at c3 ⊢; omega)
    obtain rfl := Option.some.inj H
    go_enter Try.func27, Try.ntmps27
    go_wp2
    repeat (go_quiet (fail); try go_wp2)
    go_ret
    exact ⟨by first | rfl | (simp; done) | (simp [*]; done), by repeat (first | exact Drawn0.refl _ | apply Drawn0.step)⟩

end Go.Proofs.Ytkmbhknmjnbanaa.A


namespace Go.Proofs.Ytkmbhknmjnbanaa.A
open Go.RowKit Go.Proofs.YtkmbhknmjnbanaaW.PrintWords Go.Proofs.YtkmbhknmjnbanaaW.PrintLast Go.Proofs.YtkmbhknmjnbanaaW.PrintMore
attribute [local go_sem] max2_int min2_int max_two min_two max_three min_three max_four min_four   -- for this text's walks alone
set_option linter.unusedVariables false
set_option linter.unusedSimpArgs false

attribute [local go_sem high] eqA37
def swageref05_Pairs.l0 : Nat → List (S37) → List (S37) → Int → Option (Bool)
  | 0, _, _, _ => none
  | k + 1, x0, x1, x5 => if x5 < (x0.length : Int) then (if 0 ≤ x5 then (if x5 < (x1.length : Int) then (if (!(((rd_T37 x0 x5).f0) == ((rd_T37 x1 x5).f0)) || (!(((rd_T37 x0 x5).f1) == ((rd_T37 x1 x5).f1)))) = true then (some false) else (swageref05_Pairs.l0 k x0 x1 (wrap64 (x5 + 1)))) else (none)) else (none)) else (some true)
def swageref05_Pairs.f (k : Nat) (l0 : List (S37)) (l1 : List (S37)) : Option (Bool) := if (l0.length : Int) = (l1.length : Int) then (swageref05_Pairs.l0 k l0 l1 0) else (some false)
set_option maxHeartbeats 8000000 in
set_option maxRecDepth 100000 in
theorem swageref05_Pairs.calls (k : Nat) (A0 : Option Addr) (c0 : Nat) (l0 : List (S37)) (A1 : Option Addr) (c1 : Nat) (l1 : List (S37)) (r : Bool) (w : World) (hr0 : Kd.C k37 w A0 l0.length l0) (hc0 : l0.length ≤ c0) (hr1 : Kd.C k37 w A1 l1.length l1) (hc1 : l1.length ≤ c1) (h : swageref05_Pairs.f k l0 l1 = some r) :
    Calls Try.prog 24 #[.slice A0 l0.length c0, .slice A1 l1.length c1] w fun e w' => e = .returned (.bool r) ∧ Drawn0 w w' := by
  have hu37 := Try.underlying37
  have HR0 := Aside0.mk hr0
  have HC0 := Aside0.mk hc0
  clear hr0 hc0
  have HR1 := Aside0.mk hr1
  have HC1 := Aside0.mk hc1
  clear hr1 hc1
  have H : (if (l0.length : Int) = (l1.length : Int) then (swageref05_Pairs.l0 k l0 l1 0) else (some false)) = some r := h
  clear h
  by_cases c3 : (l0.length : Int) = (l1.length : Int)
  · rw [if_pos c3] at H
    have c3b0 : ((l0.length : Int) == (l1.length : Int)) = true := beq_iff_eq.mpr c3
    have c3b1 : ((l0.length : Int) != (l1.length : Int)) = false := bne_eq_false_iff_eq.mpr c3
    have c3b2 : (l0.length == l1.length) = true := by first | simpa using c3 | (simp at c3 ⊢; omega)
    clear c3
    have H' := Aside0.mk H
    clear H
    go_enter Try.func24, Try.ntmps24
    go_wp2
    repeat (go_quiet (fail); try go_wp2)
    go_loopg [5] k (fun kq v5 w' => ∃ (x5_1 : Int), v5 = .int .i64 x5_1 ∧ Aside0 (swageref05_Pairs.l0 kq l0 l1 x5_1 = some r) ∧ Aside0 (kq ≤ k) ∧ Drawn0 w w')
    case atStart => exact ⟨(0), (by first | rfl | (simp; done) | (simp [*]; done)), H', ⟨Nat.le_refl _⟩, by repeat (first | exact Drawn0.refl _ | apply Drawn0.step)⟩
    case round =>
      clear H'
      try clear c1
      try clear c2
      try clear p2
      try clear c3
      try clear c3b0
      try clear c3b1
      try clear c3b2
      obtain ⟨x5_1, rfl, HA, HK1, ⟨m1, rfl⟩⟩ := hrel
      cases gk with
      | zero => exact absurd HA.out (by simp [swageref05_Pairs.l0])
      | succ k1 =>
        have H := HA.out
        clear HA
        simp only [swageref05_Pairs.l0] at H
        by_cases c4 : x5_1 < (l0.length : Int)
        · rw [if_pos c4] at H
          have c4b0 : decide (x5_1 < (l0.length : Int)) = true := decide_eq_true c4
          clear c4
          by_cases c5 : 0 ≤ x5_1
          · rw [if_pos c5] at H
            have c5b0 : decide (0 ≤ x5_1) = true := decide_eq_true c5
            clear c5
            by_cases c6 : x5_1 < (l1.length : Int)
            · rw [if_pos c6] at H
              have c6b0 : decide (x5_1 < (l1.length : Int)) = true := decide_eq_true c6
              clear c6
              by_cases c7 : (!(((rd_T37 l0 x5_1).f0) == ((rd_T37 l1 x5_1).f0)) || (!(((rd_T37 l0 x5_1).f1) == ((rd_T37 l1 x5_1).f1)))) = true
              · rw [if_pos c7] at H
                have c7b0 : (!(((rd_T37 l0 x5_1).f0) == ((rd_T37 l1 x5_1).f0)) || (!(((rd_T37 l0 x5_1).f1) == ((rd_T37 l1 x5_1).f1)))) = true := c7
                clear c7
                obtain rfl := Option.some.inj H
                have p117 : 0 ≤ (x5_1 : Int) := of_decide_eq_true (by first | (with_reducible assumption) | assumption)
                have q117 : x5_1 < (l0.length : Int) := of_decide_eq_true (by first | (with_reducible assumption) | assumption)
                obtain ⟨ad117, e117, hx117_0, hx117_1⟩ := at_T37 HR0.out x5_1 p117 q117
                cases e117
                replace p117 := eq_true p117
                replace q117 := eq_true q117
                have p118 : 0 ≤ (x5_1 : Int) := of_decide_eq_true (by first | (with_reducible assumption) | assumption)
                have q118 : x5_1 < (l1.length : Int) := of_decide_eq_true (by first | (with_reducible assumption) | assumption)
                obtain ⟨ad118, e118, hx118_0, hx118_1⟩ := at_T37 HR1.out x5_1 p118 q118
                cases e118
                replace p118 := eq_true p118
                replace q118 := eq_true q118
                go_wp2
                repeat (go_quiet (fail); try go_wp2)
                go_ret
                exact ⟨by first | rfl | (simp; done) | (simp [*]; done), by repeat (first | exact Drawn0.refl _ | apply Drawn0.step)⟩
              · rw [if_neg c7] at H
                have c7b0 : (!(((rd_T37 l0 x5_1).f0) == ((rd_T37 l1 x5_1).f0)) || (!(((rd_T37 l0 x5_1).f1) == ((rd_T37 l1 x5_1).f1)))) = false := by simpa using c7
                clear c7
                have H' := Aside0.mk H
                clear H
                have p117 : 0 ≤ (x5_1 : Int) := of_decide_eq_true (by first | (with_reducible assumption) | assumption)
                have q117 : x5_1 < (l0.length : Int) := of_decide_eq_true (by first | (with_reducible assumption) | assumption)
                obtain ⟨ad117, e117, hx117_0, hx117_1⟩ := at_T37 HR0.out x5_1 p117 q117
                cases e117
                replace p117 := eq_true p117
                replace q117 := eq_true q117
                have p118 : 0 ≤ (x5_1 : Int) := of_decide_eq_true (by first | (with_reducible assumption) | assumption)
                have q118 : x5_1 < (l1.length : Int) := of_decide_eq_true (by first | (with_reducible assumption) | assumption)
                obtain ⟨ad118, e118, hx118_0, hx118_1⟩ := at_T37 HR1.out x5_1 p118 q118
                cases e118
                replace p118 := eq_true p118
                replace q118 := eq_true q118
                go_wp2
                repeat (go_quiet (fail); try go_wp2)
                go_roundg k1
                case measure => have := HK1.out; omega
                case rel => exact ⟨(wrap64 (x5_1 + 1)), (by first | rfl | (simp; done) | (simp [*]; done)), H', ⟨by have := HK1.out; omega⟩, by repeat (first | exact Drawn0.refl _ | apply Drawn0.step)⟩
            · rw [if_neg c6] at H
              exact absurd H (by simp)
          · rw [if_neg c5] at H
            exact absurd H (by simp)
        · rw [if_neg c4] at H
          have c4b0 : decide (x5_1 < (l0.length : Int)) = false := decide_eq_false c4
          clear c4
          obtain rfl := Option.some.inj H
          go_wp2
          repeat (go_quiet (fail); try go_wp2)
          go_ret
          exact ⟨by first | rfl | (simp; done) | (simp [*]; done), by repeat (first | exact Drawn0.refl _ | apply Drawn0.step)⟩
  · rw [if_neg c3] at H
    have c3b0 : ((l0.length : Int) == (l1.length : Int)) = false := beq_eq_false_iff_ne.mpr c3
    have c3b1 : ((l0.length : Int) != (l1.length : Int)) = true := bne_iff_ne.mpr c3
    have c3b2 : (l0.length == l1.length) = false := by first | simpa using c3 | (simp at c3 ⊢; omega)
    obtain rfl := Option.some.inj H
    go_enter Try.func24, Try.ntmps24
    go_wp2
    repeat (go_quiet (fail); try go_wp2)
    go_ret
    exact ⟨by first | rfl | (simp; done) | (simp [*]; done), by repeat (first | exact Drawn0.refl _ | apply Drawn0.step)⟩

end Go.Proofs.Ytkmbhknmjnbanaa.A


namespace Go.Proofs.Ytkmbhknmjnbanaa.A
open Go.RowKit Go.Proofs.YtkmbhknmjnbanaaW.PrintWords Go.Proofs.YtkmbhknmjnbanaaW.PrintLast Go.Proofs.YtkmbhknmjnbanaaW.PrintMore
attribute [local go_sem] max2_int min2_int max_two min_two max_three min_three max_four min_four   -- for this text's walks alone
set_option linter.unusedVariables false
set_option linter.unusedSimpArgs false

def swageref06_Rows.l0 : Nat → List (List Int) → List (List Int) → Int → Option (Bool)
  | 0, _, _, _ => none
  | k + 1, x0, x1, x5 => if x5 < (x0.length : Int) then (if 0 ≤ x5 then (if x5 < (x1.length : Int) then ((swageref02_Ints.f k (rd_L1 x0 x5) (rd_L1 x1 x5)).bind fun t116 => (if t116 = true then (swageref06_Rows.l0 k x0 x1 (wrap64 (x5 + 1))) else (some false))) else (none)) else (none)) else (some true)
def swageref06_Rows.f (k : Nat) (l0 : List (List Int)) (l1 : List (List Int)) : Option (Bool) := if (l0.length : Int) = (l1.length : Int) then (swageref06_Rows.l0 k l0 l1 0) else (some false)
set_option maxHeartbeats 8000000 in
set_option maxRecDepth 100000 in
theorem swageref06_Rows.calls (k : Nat) (A0 : Option Addr) (c0 : Nat) (l0 : List (List Int)) (A1 : Option Addr) (c1 : Nat) (l1 : List (List Int)) (r : Bool) (w : World) (hr0 : Kd.C (Kd.slice 3 (Kd.int .i64)) w A0 l0.length l0) (hc0 : l0.length ≤ c0) (hr1 : Kd.C (Kd.slice 3 (Kd.int .i64)) w A1 l1.length l1) (hc1 : l1.length ≤ c1) (h : swageref06_Rows.f k l0 l1 = some r) :
    Calls Try.prog 17 #[.slice A0 l0.length c0, .slice A1 l1.length c1] w fun e w' => e = .returned (.bool r) ∧ Drawn0 w w' := by
  have HR0 := Aside0.mk hr0
  have HC0 := Aside0.mk hc0
  clear hr0 hc0
  have HR1 := Aside0.mk hr1
  have HC1 := Aside0.mk hc1
  clear hr1 hc1
  have H : (if (l0.length : Int) = (l1.length : Int) then (swageref06_Rows.l0 k l0 l1 0) else (some false)) = some r := h
  clear h
  by_cases c3 : (l0.length : Int) = (l1.length : Int)
  · rw [if_pos c3] at H
    have c3b0 : ((l0.length : Int) == (l1.length : Int)) = true := beq_iff_eq.mpr c3
    have c3b1 : ((l0.length : Int) != (l1.length : Int)) = false := bne_eq_false_iff_eq.mpr c3
    have c3b2 : (l0.length == l1.length) = true := by first | simpa using c3 | (simp at c3 ⊢; omega)
    clear c3
    have H' := Aside0.mk H
    clear H
    go_enter Try.func17, Try.ntmps17
    go_wp2
    repeat (go_quiet (fail); try go_wp2)
    go_loopg [5] k (fun kq v5 w' => ∃ (x5_1 : Int), v5 = .int .i64 x5_1 ∧ Aside0 (swageref06_Rows.l0 kq l0 l1 x5_1 = some r) ∧ Aside0 (kq ≤ k) ∧ Drawn0 w w')
    case atStart => exact ⟨(0), (by first | rfl | (simp; done) | (simp [*]; done)), H', ⟨Nat.le_refl _⟩, by repeat (first | exact Drawn0.refl _ | apply Drawn0.step)⟩
    case round =>
      clear H'
      try clear c1
      try clear p2
      try clear c3
      try clear c3b0
      try clear c3b1
      try clear c3b2
      obtain ⟨x5_1, rfl, HA, HK1, ⟨m1, rfl⟩⟩ := hrel
      cases gk with
      | zero => exact absurd HA.out (by simp [swageref06_Rows.l0])
      | succ k1 =>
        have H := HA.out
        clear HA
        simp only [swageref06_Rows.l0] at H
        by_cases c4 : x5_1 < (l0.length : Int)
        · rw [if_pos c4] at H
          have c4b0 : decide (x5_1 < (l0.length : Int)) = true := decide_eq_true c4
          clear c4
          by_cases c5 : 0 ≤ x5_1
          · rw [if_pos c5] at H
            have c5b0 : decide (0 ≤ x5_1) = true := decide_eq_true c5
            clear c5
            by_cases c6 : x5_1 < (l1.length : Int)
            · rw [if_pos c6] at H
              have c6b0 : decide (x5_1 < (l1.length : Int)) = true := decide_eq_true c6
              clear c6
              replace H := Option.bind_eq_some_iff.mp H
              obtain ⟨t116, A70, H⟩ := H
              replace H : (if t116 = true then (swageref06_Rows.l0 k1 l0 l1 (wrap64 (x5_1 + 1))) else (some false)) = some r := H
              have A7 := Aside0.mk A70
              clear A70
              by_cases c8 : t116 = true
              · subst c8
                have H1 : (swageref06_Rows.l0 k1 l0 l1 (wrap64 (x5_1 + 1))) = some r := by rw [if_pos rfl] at H; exact H
                clear H
                have H := H1
                clear H1
                have H' := Aside0.mk H
                clear H
                have p114 : 0 ≤ (x5_1 : Int) := of_decide_eq_true (by first | (with_reducible assumption) | assumption)
                have q114 : x5_1 < (l0.length : Int) := of_decide_eq_true (by first | (with_reducible assumption) | assumption)
                obtain ⟨ad114, A114_0, c114_0, e114, hx114_0, hl114_0, hi114_0⟩ := at_L1 HR0.out x5_1 p114 q114
                cases e114
                have HR114_0 := Aside0.mk hi114_0
                have HC114_0 := Aside0.mk hl114_0
                clear hi114_0 hl114_0
                replace p114 := eq_true p114
                replace q114 := eq_true q114
                have p115 : 0 ≤ (x5_1 : Int) := of_decide_eq_true (by first | (with_reducible assumption) | assumption)
                have q115 : x5_1 < (l1.length : Int) := of_decide_eq_true (by first | (with_reducible assumption) | assumption)
                obtain ⟨ad115, A115_0, c115_0, e115, hx115_0, hl115_0, hi115_0⟩ := at_L1 HR1.out x5_1 p115 q115
                cases e115
                have HR115_0 := Aside0.mk hi115_0
                have HC115_0 := Aside0.mk hl115_0
                clear hi115_0 hl115_0
                replace p115 := eq_true p115
                replace q115 := eq_true q115
                go_wp2_with (first | (go_at_call 27; (with_reducible refine (swageref02_Ints.calls k1 _ _ (rd_L1 l0 x5_1) _ _ (rd_L1 l1 x5_1) true _ ?side1 ?side2 ?side3 ?side4 A7.out).mono ?_); (case side1 => repeat (first | exact HR114_0.out | (with_reducible refine Kd.C_alloc ?_ _) | (with_reducible refine Kd.C_drewN ?_ _) | (with_reducible refine Kd.C_drew ?_))); (case side2 => exact HC114_0.out); (case side3 => repeat (first | exact HR115_0.out | (with_reducible refine Kd.C_alloc ?_ _) | (with_reducible refine Kd.C_drewN ?_ _) | (with_reducible refine Kd.C_drew ?_))); (case side4 => exact HC115_0.out); rintro e w' ⟨rfl, ⟨nd, rfl⟩⟩; (try first | exact ⟨rfl, _, World.drewN_drewN _ _ _⟩ | exact ⟨rfl, _, Eq.trans (World.drewN_drewN _ _ _) (congrArg (World.drewN _) (Nat.add_assoc _ _ _))⟩)))
                repeat (go_quiet (first | (go_at_call 27; (with_reducible refine (swageref02_Ints.calls k1 _ _ (rd_L1 l0 x5_1) _ _ (rd_L1 l1 x5_1) true _ ?side1 ?side2 ?side3 ?side4 A7.out).mono ?_); (case side1 => repeat (first | exact HR114_0.out | (with_reducible refine Kd.C_alloc ?_ _) | (with_reducible refine Kd.C_drewN ?_ _) | (with_reducible refine Kd.C_drew ?_))); (case side2 => exact HC114_0.out); (case side3 => repeat (first | exact HR115_0.out | (with_reducible refine Kd.C_alloc ?_ _) | (with_reducible refine Kd.C_drewN ?_ _) | (with_reducible refine Kd.C_drew ?_))); (case side4 => exact HC115_0.out); rintro e w' ⟨rfl, ⟨nd, rfl⟩⟩; (try first | exact ⟨rfl, _, World.drewN_drewN _ _ _⟩ | exact ⟨rfl, _, Eq.trans (World.drewN_drewN _ _ _) (congrArg (World.drewN _) (Nat.add_assoc _ _ _))⟩))); try go_wp2_with (first | (go_at_call 27; (with_reducible refine (swageref02_Ints.calls k1 _ _ (rd_L1 l0 x5_1) _ _ (rd_L1 l1 x5_1) true _ ?side1 ?side2 ?side3 ?side4 A7.out).mono ?_); (case side1 => repeat (first | exact HR114_0.out | (with_reducible refine Kd.C_alloc ?_ _) | (with_reducible refine Kd.C_drewN ?_ _) | (with_reducible refine Kd.C_drew ?_))); (case side2 => exact HC114_0.out); (case side3 => repeat (first | exact HR115_0.out | (with_reducible refine Kd.C_alloc ?_ _) | (with_reducible refine Kd.C_drewN ?_ _) | (with_reducible refine Kd.C_drew ?_))); (case side4 => exact HC115_0.out); rintro e w' ⟨rfl, ⟨nd, rfl⟩⟩; (try first | exact ⟨rfl, _, World.drewN_drewN _ _ _⟩ | exact ⟨rfl, _, Eq.trans (World.drewN_drewN _ _ _) (congrArg (World.drewN _) (Nat.add_assoc _ _ _))⟩))))
                go_roundg k1
                case measure => have := HK1.out; omega
                case rel => exact ⟨(wrap64 (x5_1 + 1)), (by first | rfl | (simp; done) | (simp [*]; done)), H', ⟨by have := HK1.out; omega⟩, by repeat (first | exact Drawn0.refl _ | apply Drawn0.step)⟩
              · replace c8 := Bool.eq_false_iff.mpr c8
                subst c8
                have H1 : (some false) = some r := by rw [if_neg (show ¬ (false = true) by decide)] at H; exact H
                clear H
                have H := H1
                clear H1
                obtain rfl := Option.some.inj H
                have p114 : 0 ≤ (x5_1 : Int) := of_decide_eq_true (by first | (with_reducible assumption) | assumption)
                have q114 : x5_1 < (l0.length : Int) := of_decide_eq_true (by first | (with_reducible assumption) | assumption)
                obtain ⟨ad114, A114_0, c114_0, e114, hx114_0, hl114_0, hi114_0⟩ := at_L1 HR0.out x5_1 p114 q114
                cases e114
                have HR114_0 := Aside0.mk hi114_0
                have HC114_0 := Aside0.mk hl114_0
                clear hi114_0 hl114_0
                replace p114 := eq_true p114
                replace q114 := eq_true q114
                have p115 : 0 ≤ (x5_1 : Int) := of_decide_eq_true (by first | (with_reducible assumption) | assumption)
                have q115 : x5_1 < (l1.length : Int) := of_decide_eq_true (by first | (with_reducible assumption) | assumption)
                obtain ⟨ad115, A115_0, c115_0, e115, hx115_0, hl115_0, hi115_0⟩ := at_L1 HR1.out x5_1 p115 q115
                cases e115
                have HR115_0 := Aside0.mk hi115_0
                have HC115_0 := Aside0.mk hl115_0
                clear hi115_0 hl115_0
                replace p115 := eq_true p115
                replace q115 := eq_true q115
                go_wp2_with (first | (go_at_call 27; (with_reducible refine (swageref02_Ints.calls k1 _ _ (rd_L1 l0 x5_1) _ _ (rd_L1 l1 x5_1) false _ ?side1 ?side2 ?side3 ?side4 A7.out).mono ?_); (case side1 => repeat (first | exact HR114_0.out | (with_reducible refine Kd.C_alloc ?_ _) | (with_reducible refine Kd.C_drewN ?_ _) | (with_reducible refine Kd.C_drew ?_))); (case side2 => exact HC114_0.out); (case side3 => repeat (first | exact HR115_0.out | (with_reducible refine Kd.C_alloc ?_ _) | (with_reducible refine Kd.C_drewN ?_ _) | (with_reducible refine Kd.C_drew ?_))); (case side4 => exact HC115_0.out); rintro e w' ⟨rfl, ⟨nd, rfl⟩⟩; (try first | exact ⟨rfl, _, World.drewN_drewN _ _ _⟩ | exact ⟨rfl, _, Eq.trans (World.drewN_drewN _ _ _) (congrArg (World.drewN _) (Nat.add_assoc _ _ _))⟩)))
                repeat (go_quiet (first | (go_at_call 27; (with_reducible refine (swageref02_Ints.calls k1 _ _ (rd_L1 l0 x5_1) _ _ (rd_L1 l1 x5_1) false _ ?side1 ?side2 ?side3 ?side4 A7.out).mono ?_); (case side1 => repeat (first | exact HR114_0.out | (with_reducible refine Kd.C_alloc ?_ _) | (with_reducible refine Kd.C_drewN ?_ _) | (with_reducible refine Kd.C_drew ?_))); (case side2 => exact HC114_0.out); (case side3 => repeat (first | exact HR115_0.out | (with_reducible refine Kd.C_alloc ?_ _) | (with_reducible refine Kd.C_drewN ?_ _) | (with_reducible refine Kd.C_drew ?_))); (case side4 => exact HC115_0.out); rintro e w' ⟨rfl, ⟨nd, rfl⟩⟩; (try first | exact ⟨rfl, _, World.drewN_drewN _ _ _⟩ | exact ⟨rfl, _, Eq.trans (World.drewN_drewN _ _ _) (congrArg (World.drewN _) (Nat.add_assoc _ _ _))⟩))); try go_wp2_with (first | (go_at_call 27; (with_reducible refine (swageref02_Ints.calls k1 _ _ (rd_L1 l0 x5_1) _ _ (rd_L1 l1 x5_1) false _ ?side1 ?side2 ?side3 ?side4 A7.out).mono ?_); (case side1 => repeat (first | exact HR114_0.out | (with_reducible refine Kd.C_alloc ?_ _) | (with_reducible refine Kd.C_drewN ?_ _) | (with_reducible refine Kd.C_drew ?_))); (case side2 => exact HC114_0.out); (case side3 => repeat (first | exact HR115_0.out | (with_reducible refine Kd.C_alloc ?_ _) | (with_reducible refine Kd.C_drewN ?_ _) | (with_reducible refine Kd.C_drew ?_))); (case side4 => exact HC115_0.out); rintro e w' ⟨rfl, ⟨nd, rfl⟩⟩; (try first | exact ⟨rfl, _, World.drewN_drewN _ _ _⟩ | exact ⟨rfl, _, Eq.trans (World.drewN_drewN _ _ _) (congrArg (World.drewN _) (Nat.add_assoc _ _ _))⟩))))
                go_ret
                exact ⟨by first | rfl | (simp; done) | (simp [*]; done), by repeat (first | exact Drawn0.refl _ | apply Drawn0.step)⟩
            · rw [if_neg c6] at H
              exact absurd H (by simp)
          · rw [if_neg c5] at H
            exact absurd H (by simp)
        · rw [if_neg c4] at H
          have c4b0 : decide (x5_1 < (l0.length : Int)) = false := decide_eq_false c4
          clear c4
          obtain rfl := Option.some.inj H
          go_wp2
          repeat (go_quiet (fail); try go_wp2)
          go_ret
          exact ⟨by first | rfl | (simp; done) | (simp [*]; done), by repeat (first | exact Drawn0.refl _ | apply Drawn0.step)⟩
  · rw [if_neg c3] at H
    have c3b0 : ((l0.length : Int) == (l1.length : Int)) = false := beq_eq_false_iff_ne.mpr c3
    have c3b1 : ((l0.length : Int) != (l1.length : Int)) = true := bne_iff_ne.mpr c3
    have c3b2 : (l0.length == l1.length) = false := by first | simpa using c3 | (simp at c3 ⊢; omega)
    obtain rfl := Option.some.inj H
    go_enter Try.func17, Try.ntmps17
    go_wp2
    repeat (go_quiet (fail); try go_wp2)
    go_ret
    exact ⟨by first | rfl | (simp; done) | (simp [*]; done), by repeat (first | exact Drawn0.refl _ | apply Drawn0.step)⟩

end Go.Proofs.Ytkmbhknmjnbanaa.A


namespace Go.Proofs.Ytkmbhknmjnbanaa.A
open Go.RowKit Go.Proofs.YtkmbhknmjnbanaaW.PrintWords Go.Proofs.YtkmbhknmjnbanaaW.PrintLast Go.Shelf
set_option linter.unusedVariables false
set_option linter.unusedSimpArgs false

theorem wsucc {i : Nat} (h : i ≤ 1000000000) : wrap64 ((i : Int) + 1) = ((i + 1 : Nat) : Int) := by rw [w64 (by omega) (by omega)]; rfl

theorem pairs_l0 (l : List S37) (hl : l.length ≤ 1000000) : ∀ (d i : Nat), i + d = l.length → Evt (fun k => swageref05_Pairs.l0 k l l i) true
  | 0, i, hi => Evt.step (Evt.const rfl) fun k => by rw [swageref05_Pairs.l0, if_neg (by omega)]
  | d + 1, i, hi => Evt.step (pairs_l0 l hl d (i + 1) (by omega)) fun k => by
    rw [swageref05_Pairs.l0, if_pos (by omega), if_pos (by omega), if_pos (by omega), if_neg (by simp), wsucc (by omega)]
theorem pairs_ev (l : List S37) (hl : l.length ≤ 1000000) : Evt (fun k => swageref05_Pairs.f k l l) true := by
  unfold swageref05_Pairs.f
  exact Evt.congr (pairs_l0 l hl l.length 0 (by omega)) fun k => by rw [if_pos rfl]; rfl
end Go.Proofs.Ytkmbhknmjnbanaa.A


namespace Go.Proofs.Ytkmbhknmjnbanaa.A
open Go.RowKit Go.Proofs.YtkmbhknmjnbanaaW.PrintWords Go.Proofs.YtkmbhknmjnbanaaW.PrintLast Go.Shelf
set_option linter.unusedVariables false
set_option linter.unusedSimpArgs false

theorem mk_met0 (g : List (List Int)) (i : Nat) (hi : i < g.length) : ¬ Mk (met0 g) i := by
  unfold Mk met0
  rw [List.getD_eq_getElem?_getD, List.getElem?_replicate, if_pos hi]
  simp
theorem walk_dfs {g : List (List Int)} (hg : InG g) {a : Nat} (ha : a < g.length) : Dfs g (met0 g) a (visit g g.length (met0 g) a).1 (walkOf g a) :=
  visit_dfs hg _ _ _ (by simp [met0]) ha (mk_met0 g a ha) (by rw [unmet_met0]; exact Nat.le_refl _)
theorem walk_last {g : List (List Int)} {a : Nat} (ha : a < g.length) : ∃ o, walkOf g a = o ++ [(a : Int)] := by
  unfold walkOf
  obtain ⟨n, hn⟩ : ∃ n, g.length = n + 1 := ⟨g.length - 1, by omega⟩
  rw [hn, visit_succ]
  exact ⟨_, rfl⟩
theorem walk_mem {g : List (List Int)} (hg : InG g) {a : Nat} (ha : a < g.length) (i : Nat) : (i : Int) ∈ walkOf g a ↔ Way g a i := by
  have h := walk_dfs hg ha
  refine ⟨h.way i, fun hw => ?_⟩
  induction hw with
  | refl => obtain ⟨o, e⟩ := walk_last ha; rw [e]; simp
  | step hw e ih =>
    rcases (h.mark _).1 (h.clo _ _ ih e) with h1 | h1
    · exact absurd h1 (mk_met0 g _ (e.lt hg))
    · exact h1
theorem walk_nodup {g : List (List Int)} (hg : InG g) {a : Nat} (ha : a < g.length) : (walkOf g a).Nodup := (walk_dfs hg ha).nodup

theorem mk_lt {m : List Bool} {i : Nat} (hi : i < m.length) : Mk m i ↔ m[i] = true := by unfold Mk; rw [List.getD_eq_getElem?_getD, List.getElem?_eq_getElem hi]; rfl
theorem mk_marks {n : Nat} {pre : List Int} {i : Nat} (hi : i < n) : Mk (marks n pre) i ↔ (i : Int) ∈ pre := by
  rw [mk_lt (by rw [marks_len]; exact hi)]
  simp [marks]

end Go.Proofs.Ytkmbhknmjnbanaa.A


namespace Go.Proofs.Ytkmbhknmjnbanaa.A
open Go.RowKit Go.Proofs.YtkmbhknmjnbanaaW.PrintWords Go.Proofs.YtkmbhknmjnbanaaW.PrintLast Go.Shelf
set_option linter.unusedVariables false
set_option linter.unusedSimpArgs false

theorem orderOf_in (g : List (List Int)) : ∀ x ∈ orderOf g, 0 ≤ x ∧ x < (g.length : Int) := by
  cases hr : rightB g
  · intro x hx; unfold orderOf at hx; rw [hr] at hx; simp at hx
  · exact order_in_range hr
end Go.Proofs.Ytkmbhknmjnbanaa.A


namespace Go.Proofs
open Go.Shelf
def Try.keys68_ren : Go.Shelf.Ren := ⟨fun | 7 => 68 | 10 => 82 | n => n, fun | 23 => 69 | 26 => 3 | 3 => 4 | 28 => 49 | 0 => 0 | 27 => 48 | 33 => 45 | 4 => 4 | n => n, fun | n => n⟩
theorem Try.keys68 : Go.Proofs.SlLaysZI.n7 Try.prog Try.keys68_ren := {
  mixed := by kernel_rfl
  f7 := ⟨Try.f68.name, by decide, Try.func68.trans (congrArg some (by kernel_rfl))⟩
  f10 := ⟨Try.f82.name, by decide, Try.func82.trans (congrArg some (by kernel_rfl))⟩
  t0 := Try.underlying0
  a0 := Try.isAgg0
  z0 := Try.sizeOf0
  v0 := Try.zeroValue0
  t4 := Try.underlying4
  a4 := Try.isAgg4
  z4 := Try.sizeOf4
  v4 := Try.zeroValue4
  t23 := Try.underlying69
  a23 := Try.isAgg69
  z23 := Try.sizeOf69
  v23 := Try.zeroValue69
  t26 := Try.underlying3
  a26 := Try.isAgg3
  z26 := Try.sizeOf3
  v26 := Try.zeroValue3
  t27 := Try.underlying48
  a27 := Try.isAgg48
  z27 := Try.sizeOf48
  v27 := Try.zeroValue48
  t28 := Try.underlying49
  a28 := Try.isAgg49
  z28 := Try.sizeOf49
  v28 := Try.zeroValue49
  t33 := Try.underlying45
  a33 := Try.isAgg45
  z33 := Try.sizeOf45
  v33 := Try.zeroValue45 }
def Try.keys58_ren : Go.Shelf.Ren := ⟨fun | 7 => 58 | 10 => 76 | n => n, fun | 23 => 56 | 26 => 3 | 3 => 27 | 28 => 49 | 0 => 0 | 27 => 48 | 33 => 45 | 4 => 4 | n => n, fun | n => n⟩
theorem Try.keys58 : Go.Proofs.SlLaysZI.n7 Try.prog Try.keys58_ren := {
  mixed := by kernel_rfl
  f7 := ⟨Try.f58.name, by decide, Try.func58.trans (congrArg some (by kernel_rfl))⟩
  f10 := ⟨Try.f76.name, by decide, Try.func76.trans (congrArg some (by kernel_rfl))⟩
  t0 := Try.underlying0
  a0 := Try.isAgg0
  z0 := Try.sizeOf0
  v0 := Try.zeroValue0
  t4 := Try.underlying4
  a4 := Try.isAgg4
  z4 := Try.sizeOf4
  v4 := Try.zeroValue4
  t23 := Try.underlying56
  a23 := Try.isAgg56
  z23 := Try.sizeOf56
  v23 := Try.zeroValue56
  t26 := Try.underlying3
  a26 := Try.isAgg3
  z26 := Try.sizeOf3
  v26 := Try.zeroValue3
  t27 := Try.underlying48
  a27 := Try.isAgg48
  z27 := Try.sizeOf48
  v27 := Try.zeroValue48
  t28 := Try.underlying49
  a28 := Try.isAgg49
  z28 := Try.sizeOf49
  v28 := Try.zeroValue49
  t33 := Try.underlying45
  a33 := Try.isAgg45
  z33 := Try.sizeOf45
  v33 := Try.zeroValue45 }
def Try.sorted57_ren : Go.Shelf.Ren := ⟨fun | 6 => 57 | 8 => 50 | 9 => 75 | 11 => 73 | 13 => 84 | 12 => 83 | 23 => 96 | 24 => 97 | 14 => 87 | 15 => 88 | 16 => 89 | 17 => 90 | 18 => 91 | 19 => 92 | 20 => 93 | 21 => 94 | 22 => 95 | 25 => 98 | 26 => 99 | 27 => 100 | 28 => 101 | 29 => 102 | 30 => 103 | 31 => 104 | n => n, fun | 26 => 3 | 28 => 49 | 24 => 27 | 0 => 0 | 3 => 3 | 37 => 75 | 48 => 81 | 50 => 84 | 4 => 4 | 40 => 89 | 39 => 88 | 45 => 92 | 5 => 5 | 9 => 9 | 51 => 96 | 55 => 100 | 57 => 102 | 58 => 103 | 33 => 45 | n => n, fun | n => n⟩
theorem Try.sorted57 : Go.Proofs.SlLaysZI.n6 Try.prog Try.sorted57_ren := {
  mixed := by kernel_rfl
  f6 := ⟨Try.f57.name, by decide, Try.func57.trans (congrArg some (by kernel_rfl))⟩
  f8 := ⟨Try.f50.name, by decide, Try.func50.trans (congrArg some (by kernel_rfl))⟩
  f11 := ⟨Try.f73.name, by decide, Try.func73.trans (congrArg some (by kernel_rfl))⟩
  t0 := Try.underlying0
  a0 := Try.isAgg0
  z0 := Try.sizeOf0
  v0 := Try.zeroValue0
  t24 := Try.underlying27
  a24 := Try.isAgg27
  z24 := Try.sizeOf27
  v24 := Try.zeroValue27
  t26 := Try.underlying3
  a26 := Try.isAgg3
  z26 := Try.sizeOf3
  v26 := Try.zeroValue3
  t28 := Try.underlying49
  a28 := Try.isAgg49
  z28 := Try.sizeOf49
  v28 := Try.zeroValue49
  i26 := by kernel_rfl }
def Try.sort75_ren : Go.Shelf.Ren := ⟨fun | 5 => 75 | 8 => 84 | 7 => 83 | 19 => 96 | 20 => 97 | 10 => 87 | 11 => 88 | 12 => 89 | 13 => 90 | 14 => 91 | 15 => 92 | 16 => 93 | 17 => 94 | 18 => 95 | 30 => 98 | 31 => 99 | 32 => 100 | 33 => 101 | 34 => 102 | 35 => 103 | 40 => 104 | n => n, fun | 23 => 27 | 25 => 3 | 3 => 3 | 32 => 75 | 22 => 27 | 0 => 0 | 44 => 81 | 46 => 84 | 4 => 4 | 36 => 89 | 35 => 88 | 41 => 92 | 5 => 5 | 9 => 9 | 53 => 96 | 57 => 100 | 63 => 102 | 64 => 103 | n => n, fun | n => n⟩
theorem Try.sort75 : Go.Proofs.SlLaysM.n5 Try.prog Try.sort75_ren := {
  mixed := by kernel_rfl
  f5 := ⟨Try.f75.name, by decide, Try.func75.trans (congrArg some (by kernel_rfl))⟩
  f7 := ⟨Try.f83.name, by decide, Try.func83.trans (congrArg some (by kernel_rfl))⟩
  f8 := Try.func84.trans (congrArg some (by kernel_rfl))
  f10 := ⟨Try.f87.name, by decide, Try.func87.trans (congrArg some (by kernel_rfl))⟩
  f11 := ⟨Try.f88.name, by decide, Try.func88.trans (congrArg some (by kernel_rfl))⟩
  f12 := ⟨Try.f89.name, by decide, Try.func89.trans (congrArg some (by kernel_rfl))⟩
  f13 := ⟨Try.f90.name, by decide, Try.func90.trans (congrArg some (by kernel_rfl))⟩
  f14 := ⟨Try.f91.name, by decide, Try.func91.trans (congrArg some (by kernel_rfl))⟩
  f15 := ⟨Try.f92.name, by decide, Try.func92.trans (congrArg some (by kernel_rfl))⟩
  f16 := ⟨Try.f93.name, by decide, Try.func93.trans (congrArg some (by kernel_rfl))⟩
  f17 := ⟨Try.f94.name, by decide, Try.func94.trans (congrArg some (by kernel_rfl))⟩
  f18 := ⟨Try.f95.name, by decide, Try.func95.trans (congrArg some (by kernel_rfl))⟩
  f19 := Try.func96.trans (congrArg some (by kernel_rfl))
  f20 := Try.func97.trans (congrArg some (by kernel_rfl))
  f30 := ⟨Try.f98.name, by decide, Try.func98.trans (congrArg some (by kernel_rfl))⟩
  f31 := Try.func99.trans (congrArg some (by kernel_rfl))
  f32 := Try.func100.trans (congrArg some (by kernel_rfl))
  f33 := ⟨Try.f101.name, by decide, Try.func101.trans (congrArg some (by kernel_rfl))⟩
  f34 := ⟨Try.f102.name, by decide, Try.func102.trans (congrArg some (by kernel_rfl))⟩
  f35 := ⟨Try.f103.name, by decide, Try.func103.trans (congrArg some (by kernel_rfl))⟩
  f40 := ⟨Try.f104.name, by decide, Try.func104.trans (congrArg some (by kernel_rfl))⟩
  t0 := Try.underlying0
  a0 := Try.isAgg0
  z0 := Try.sizeOf0
  v0 := Try.zeroValue0
  t3 := Try.underlying3
  a3 := Try.isAgg3
  z3 := Try.sizeOf3
  v3 := Try.zeroValue3
  t4 := Try.underlying4
  a4 := Try.isAgg4
  z4 := Try.sizeOf4
  v4 := Try.zeroValue4
  t5 := Try.underlying5
  a5 := Try.isAgg5
  z5 := Try.sizeOf5
  v5 := Try.zeroValue5
  t9 := Try.underlying9
  a9 := Try.isAgg9
  z9 := Try.sizeOf9
  v9 := Try.zeroValue9
  t22 := Try.underlying27
  a22 := Try.isAgg27
  z22 := Try.sizeOf27
  v22 := Try.zeroValue27
  t23 := Try.underlying27
  a23 := Try.isAgg27
  z23 := Try.sizeOf27
  v23 := Try.zeroValue27
  t25 := Try.underlying3
  a25 := Try.isAgg3
  z25 := Try.sizeOf3
  v25 := Try.zeroValue3
  t32 := Try.underlying75
  a32 := Try.isAgg75
  z32 := Try.sizeOf75
  v32 := Try.zeroValue75
  t35 := Try.underlying88
  a35 := Try.isAgg88
  z35 := Try.sizeOf88
  v35 := Try.zeroValue88
  t36 := Try.underlying89
  a36 := Try.isAgg89
  z36 := Try.sizeOf89
  v36 := Try.zeroValue89
  t41 := Try.underlying92
  a41 := Try.isAgg92
  z41 := Try.sizeOf92
  v41 := Try.zeroValue92
  t44 := Try.underlying81
  a44 := Try.isAgg81
  z44 := Try.sizeOf81
  v44 := Try.zeroValue81
  t46 := Try.underlying84
  a46 := Try.isAgg84
  z46 := Try.sizeOf84
  v46 := Try.zeroValue84
  t53 := Try.underlying96
  a53 := Try.isAgg96
  z53 := Try.sizeOf96
  v53 := Try.zeroValue96
  t57 := Try.underlying100
  a57 := Try.isAgg100
  z57 := Try.sizeOf100
  v57 := Try.zeroValue100
  t63 := Try.underlying102
  a63 := Try.isAgg102
  z63 := Try.sizeOf102
  v63 := Try.zeroValue102
  t64 := Try.underlying103
  a64 := Try.isAgg103
  z64 := Try.sizeOf103
  v64 := Try.zeroValue103 }
end Go.Proofs


namespace Go.Proofs.Ytkmbhknmjnbanaa.A
open Go.RowKit Go.Maps Go.Proofs.YtkmbhknmjnbanaaW.PrintWords Go.Proofs.YtkmbhknmjnbanaaW.PrintLast Go.Shelf
set_option linter.unusedVariables false
set_option linter.unusedSimpArgs false

theorem law3 : Keyed Try.prog 3 := int_keyed Try.underlying3
theorem zero4 (w : World) : (zeroValue 4).run Try.prog w = .ok (.bool false) w := by kernel_rfl
def Wf (n : Int) : Prop := (Lit.int .i64 n).wf = true
theorem wf_small {n : Int} (h0 : 0 ≤ n) (h1 : n ≤ 1000000) : Wf n := by
  unfold Wf; simp [Lit.wf, IntKind.min, IntKind.max, IntKind.signed, IntKind.bits]; omega
theorem key3 {n : Int} (h : Wf n) : keyOf Try.prog 3 (.int .i64 n) = some (.int .i64 n) := keyOf_int_mk Try.underlying3 h
abbrev DU := DataW Unit
theorem isKey (k : Int) : WideAt.IsKeyLit (.int .i64 k) := by simp [WideAt.IsKeyLit]
def ins (s : Int → Bool) (k : Int) : Int → Bool := fun j => decide (j = k) || s j
def rem (s : Int → Bool) (k : Int) : Int → Bool := fun j => !decide (j = k) && s j

theorem plainElem_bool_inv {P : Program} {e : TypeId} (he : P.underlying e = some .bool) {v : Value} {z : DataW Unit × List MemPlace} (h : plainElem P e v = some z) : ∃ x, v = .bool x ∧ z = (.lit (.bool x), []) := by
  unfold plainElem at h
  rw [he] at h
  cases v <;> simp at h
  exact ⟨_, rfl, h.symm⟩
structure ReadsB (D : DU) (s : Int → Bool) : Prop where
  tidy : Tidy D
  has : ∀ k, Maps.has D (.int .i64 k) = s k
  at_ : ∀ k, D.atKey (.int .i64 k) (.lit (.bool false)) = .lit (.bool (s k))
theorem ReadsB.empty : ReadsB (.map []) (fun _ => false) := ⟨tidy_empty, fun k => rfl, fun k => rfl⟩
theorem ReadsB.put {D : DU} {s : Int → Bool} (h : ReadsB D s) (k : Int) : ReadsB (D.put (.int .i64 k) (.lit (.bool true))) (ins s k) := by
  refine ⟨h.tidy.put (isKey k) _, fun j => ?_, fun j => ?_⟩
  · by_cases hj : j = k
    · subst hj
      rw [has_put_same h.tidy.isMap (isKey j)]
      simp [ins]
    · rw [has_put_other (by simpa using hj), h.has j]
      simp [ins, hj]
  · by_cases hj : j = k
    · subst hj
      rw [atKey_put_same h.tidy.isMap (isKey j)]
      simp [ins]
    · rw [atKey_put_other (by simpa using hj), h.at_ j]
      simp [ins, hj]
theorem ReadsB.del {D : DU} {s : Int → Bool} (h : ReadsB D s) (k : Int) : ReadsB (D.del (.int .i64 k)) (rem s k) := by
  refine ⟨h.tidy.del _, fun j => ?_, fun j => ?_⟩
  · by_cases hj : j = k
    · subst hj
      rw [has_del_same]
      simp [rem]
    · rw [has_del_other (by simpa using hj), h.has j]
      simp [rem, hj]
  · by_cases hj : j = k
    · subst hj
      rw [atKey_del_same]
      simp [rem]
    · rw [atKey_del_other (by simpa using hj), h.at_ j]
      simp [rem, hj]

/-- block b is a set of at most n numbers that reads as s -/
def SetAt (w : World) (b n : Nat) (s : Int → Bool) : Prop := ∃ D : DU, w.ownsMap Try.prog 3 (plainElem Try.prog 4) b n D ∧ ReadsB D s
theorem SetAt.lt {w : World} {b n : Nat} {s : Int → Bool} (h : SetAt w b n s) : b < w.heap.size := by
  obtain ⟨D, h1, _⟩ := h; exact h1.lt
theorem SetAt.below {w w1 : World} {b n : Nat} {s : Int → Bool} (h : SetAt w b n s) (hb : Below w.heap.size w w1) : SetAt w1 b n s := by
  have hl := h.lt
  obtain ⟨D, ⟨es, clock, h1, h2⟩, h3⟩ := h
  exact ⟨D, ⟨es, clock, (hb.block _ hl).trans h1, h2⟩, h3⟩
theorem SetAt.grown {w w1 : World} {b n : Nat} {s : Int → Bool} (h : SetAt w b n s) {row : Option Nat} (hg : w.grownBy w1 row) (hne : some b ≠ row) : SetAt w1 b n s := by
  obtain ⟨D, h1, h3⟩ := h
  exact ⟨D, h1.kept hg hne, h3⟩
theorem SetAt.made (w : World) : SetAt (w.alloc (.map #[] 0)) w.heap.size 0 (fun _ => false) := ⟨.map [], World.ownsMap_made _ _ _ _, ReadsB.empty⟩
theorem SetAt.look {w : World} {b n : Nat} {s : Int → Bool} (h : SetAt w b n s) {k : Int} (hk : Wf k) : (Instr.lookup 69 (.map (some b)) (.int .i64 k) false).run Try.prog w = .ok (.bool (s k)) w := by
  obtain ⟨D, h1, h3⟩ := h
  obtain ⟨v, ps, hrun, hv⟩ := h1.lookup law3 Try.underlying69 (zero4 w) (plainElem_bool Try.underlying4 false) (key3 hk)
  obtain ⟨x, rfl, hz⟩ := plainElem_bool_inv (P := Try.prog) (e := 4) Try.underlying4 hv
  have hx : D.atKey (.int .i64 k) (.lit (.bool false)) = .lit (.bool x) := congrArg Prod.fst hz
  rw [h3.at_ k] at hx
  simp only [DataW.lit.injEq, Lit.bool.injEq] at hx
  rw [hrun, hx]
theorem SetAt.store {w : World} {b n : Nat} {s : Int → Bool} (h : SetAt w b n s) (hn : n < maxLen) {k : Int} (hk : Wf k) :
    ∃ w1, (Instr.mapUpdate 69 (.map (some b)) (.int .i64 k) (.bool true)).run Try.prog w = .ok () w1 ∧ SetAt w1 b (n + 1) (ins s k) ∧ w.grownBy w1 (some b) := by
  obtain ⟨D, h1, h3⟩ := h
  obtain ⟨w1, r1, r2, r3⟩ := h1.update law3 Try.underlying69 hn (key3 hk) (plainElem_bool Try.underlying4 true)
  exact ⟨w1, r1, ⟨_, r2, h3.put k⟩, r3⟩
theorem SetAt.drop {w : World} {b n : Nat} {s : Int → Bool} (h : SetAt w b n s) {k : Int} (hk : Wf k) (ty : TypeId) :
    ∃ w1, (Builtin.delete_ #[69, 3] ty #[.map (some b), .int .i64 k]).run Try.prog w = .ok (.tuple #[]) w1 ∧ SetAt w1 b n (rem s k) ∧ w.grownBy w1 (some b) := by
  obtain ⟨D, h1, h3⟩ := h
  obtain ⟨w1, r1, r2, r3⟩ := h1.drop law3 Try.underlying69 (key3 hk) ty
  exact ⟨w1, r1, ⟨_, r2, h3.del k⟩, r3.grown⟩
end Go.Proofs.Ytkmbhknmjnbanaa.A


namespace Go.Proofs.Ytkmbhknmjnbanaa.A
open Go.RowKit Go.Maps Go.Proofs.YtkmbhknmjnbanaaW.PrintWords Go.Proofs.YtkmbhknmjnbanaaW.PrintLast Go.Shelf
set_option linter.unusedVariables false
set_option linter.unusedSimpArgs false

theorem perm_of_sub {α : Type} [DecidableEq α] : ∀ {l m : List α}, l.Nodup → l ⊆ m → m.length ≤ l.length → m.Perm l
  | [], m, _, _, h => by
    have : m = [] := List.eq_nil_of_length_eq_zero (by simpa using h)
    subst this; exact List.Perm.refl _
  | a :: l, m, hn, hs, h => by
    have ha : a ∈ m := hs (by simp)
    have hn' := List.nodup_cons.1 hn
    have h1 := List.perm_cons_erase ha
    have h2 : l ⊆ m.erase a := fun x hx => by
      have hxa : x ≠ a := fun e => hn'.1 (e ▸ hx)
      rw [List.mem_erase_of_ne hxa]; exact hs (by simp [hx])
    have h3 : (m.erase a).length ≤ l.length := by rw [List.length_erase_of_mem ha]; simp at h; omega
    exact h1.trans ((perm_of_sub hn'.2 h2 h3).cons a)

def Rising (ks : List Int) : Prop := ks.Pairwise (· < ·)
theorem rising_eq {a b : List Int} (ha : Rising a) (hb : Rising b) (h : ∀ k, k ∈ a ↔ k ∈ b) : a = b := by
  have hna : a.Nodup := ha.imp (fun h e => by omega)
  have hnb : b.Nodup := hb.imp (fun h e => by omega)
  have hp : a.Perm b := by
    refine perm_of_sub hnb (fun x hx => (h x).2 hx) ?_ |>.trans (List.Perm.refl _)
    exact List.Nodup.length_le_of_subset hna (fun x hx => (h x).1 hx)
  exact List.Perm.eq_of_pairwise (le := (· < ·)) (fun x y _ _ h1 h2 => by omega) ha hb hp
theorem merge_rising {ss : List Int} (h : ss.Nodup) : Rising (ss.mergeSort fun x y => decide (x ≤ y)) := by
  have h1 : (ss.mergeSort fun x y => decide (x ≤ y)).Pairwise (fun x y => decide (x ≤ y) = true) := List.pairwise_mergeSort (by intro a b c; simp; omega) (by intro a b; simp; omega) ss
  have h2 : (ss.mergeSort fun x y => decide (x ≤ y)).Nodup := (List.mergeSort_perm ss _).nodup_iff.2 h
  exact (h1.and h2).imp (fun {a b} ⟨h3, h4⟩ => by have := of_decide_eq_true h3; omega)
theorem intKeys_nodup {D : DU} {s : Int → Bool} (hR : ∀ k, Maps.has D (.int .i64 k) = s k) {R : Value → Option (DU × List MemPlace)} {w : World} {b n : Nat} (hown : w.ownsMap Try.prog 3 R b n D) : (intKeys D).Nodup ∧ ∀ k, k ∈ intKeys D ↔ s k = true := by
  obtain ⟨es, hD, hpw, _⟩ := hown.entries law3
  obtain ⟨es', hD', hko⟩ := hown.keysOf
  obtain rfl : es = es' := by rw [hD] at hD'; simpa using hD'
  subst hD
  have hk : ∀ p ∈ es, ∃ x, p.1 = Lit.int .i64 x := fun p hp => by
    obtain ⟨v, hv⟩ := hko p hp
    obtain ⟨x, _, hx, _⟩ := Maps.keyOf_i64 Try.underlying3 hv
    exact ⟨x, hx⟩
  refine ⟨?_, fun k => ?_⟩
  · show (es.map fun p => Go.intOf p.1).Nodup
    refine List.pairwise_map.2 (hpw.imp_of_mem fun {p q} hp' hq' hne e => hne ?_)
    obtain ⟨a, ha⟩ := hk p hp'
    obtain ⟨b, hb⟩ := hk q hq'
    rw [ha, hb] at e ⊢
    exact congrArg _ e
  · rw [← hR k, has_eq, List.any_eq_true]
    show k ∈ (es.map fun p => Go.intOf p.1) ↔ _
    rw [List.mem_map]
    constructor
    · rintro ⟨p, hp', rfl⟩
      obtain ⟨a, ha⟩ := hk p hp'
      exact ⟨p, hp', by rw [ha]; simp [Lit.sameKey, Go.intOf]⟩
    · rintro ⟨p, hp', hs⟩
      obtain ⟨a, ha⟩ := hk p hp'
      rw [ha] at hs
      exact ⟨p, hp', by rw [ha]; simpa [Lit.sameKey, Go.intOf] using hs⟩

theorem sorts57 (m : Nat) : AnyZI.SortsIn Try.prog Try.sorted57_ren Fence.wide m :=
  ⟨fun blk off cap ss W hH hblk hsz => callsIn_wide.2 (AnyM.slices_Sort_int Try.sort75 blk off cap ss W hH hblk hsz),
   fun p cap W => callsIn_wide.2 (AnyM.slices_Sort_int_none Try.sort75 p cap W)⟩

theorem keys68_calls (mb : Option Nat) (W : World) : Calls Try.prog 68 #[.map mb] W fun e w' => e = .returned (.func (.func 82) #[] #[.pointer (some ⟨W.heap.size, 0, none⟩)]) ∧ w' = W.alloc (.cells #[.map mb] 69) :=
  (callsIn_wide (n := 5)).1 (AnyZI.keys_in Try.keys68 Fence.wide 5 trivial rfl mb W)
theorem sorted68_calls (b n : Nat) (s : Int → Bool) (w : World) {R : Value → Option (DU × List MemPlace)} {D : DU} (hown : w.ownsMap Try.prog 3 R b n D) (hR : ∀ k, Maps.has D (.int .i64 k) = s k) (hn : n ≤ 1000000) :
    Calls Try.prog 57 #[.func (.func 82) #[] #[.pointer (some ⟨w.heap.size, 0, none⟩)]] (w.alloc (.cells #[.map (some b)] 69)) fun e w' => ∃ (v : Value) (ks : List Int), e = .returned v ∧ Rising ks ∧ (∀ k, k ∈ ks ↔ s k = true) ∧ ks.length ≤ n ∧
      Kd.R (Kd.int .i64) 3 w' w.heap.size (fun _ => True) v ks ∧ Below w.heap.size w w' := by
  have hbl := hown.lt
  have hsz := hown.size_le
  obtain ⟨hnd, hmem⟩ := intKeys_nodup hR hown
  have hseq : SeqGives Fence.wide 2 Try.prog 82 #[.pointer (some ⟨w.heap.size, 0, none⟩)] Go.encZ (fun ss => ss.Perm (intKeys D)) (Maps.size D) (w.alloc (.cells #[.map (some b)] 69)) :=
    AnyZI.keys_gives (ρ := Try.keys68_ren) { Try.keys68 with } Fence.wide _ trivial rfl (by omega) w.heap.size b n D _ (by simp) (by simp) (by
      obtain ⟨es, clock, hb, Ft, hs, hD⟩ := hown
      exact ⟨es, clock, (Below.heap_alloc _ _ b hbl).trans hb, Ft, hs, hD⟩)
  have cS := AnyZI.sorted_in Try.sorted57 Fence.wide 5 trivial trivial trivial trivial rfl (by omega) (sorts57 _) (enters_of Try.func75 (by kernel_rfl) rfl) 82 #[.pointer (some ⟨w.heap.size, 0, none⟩)] trivial (enters_of Try.func82 (by kernel_rfl) rfl) _ _ (by unfold maxLen; omega) (by omega) _ hseq
  refine ((callsIn_wide (n := 5)).1 cS).mono ?_
  rintro e w' ⟨v, ss, rfl, hS, hrow, hnil, hb⟩
  have hlen : ss.length = (ss.mergeSort fun x y => decide (x ≤ y)).length := by simp
  refine ⟨v, _, rfl, merge_rising (hS.nodup_iff.2 hnd), fun k => ?_, ?_, ?_, ((Below.refl _ w).alloc (Nat.le_refl _) _).trans (hb.mono (by simp))⟩
  · rw [List.mem_mergeSort, hS.mem_iff, hmem]
  · rw [← hlen, hS.length_eq]
    have : (intKeys D).length = size D := by
      obtain ⟨es, rfl, _⟩ := hown.keysOf
      simp [intKeys, size]
    omega
  · refine Kd.R_of_own ?_ (fun _ _ => trivial)
    rw [← hlen]
    exact ownsRow_base_a hrow (by simp)

theorem keys58_calls (mb : Option Nat) (W : World) : Calls Try.prog 58 #[.map mb] W fun e w' => e = .returned (.func (.func 76) #[] #[.pointer (some ⟨W.heap.size, 0, none⟩)]) ∧ w' = W.alloc (.cells #[.map mb] 56) :=
  (callsIn_wide (n := 5)).1 (AnyZI.keys_in Try.keys58 Fence.wide 5 trivial rfl mb W)
theorem sorted58_calls (b n : Nat) (s : Int → Bool) (w : World) {R : Value → Option (DU × List MemPlace)} {D : DU} (hown : w.ownsMap Try.prog 3 R b n D) (hR : ∀ k, Maps.has D (.int .i64 k) = s k) (hn : n ≤ 1000000) :
    Calls Try.prog 57 #[.func (.func 76) #[] #[.pointer (some ⟨w.heap.size, 0, none⟩)]] (w.alloc (.cells #[.map (some b)] 56)) fun e w' => ∃ (v : Value) (ks : List Int), e = .returned v ∧ Rising ks ∧ (∀ k, k ∈ ks ↔ s k = true) ∧ ks.length ≤ n ∧
      Kd.R (Kd.int .i64) 3 w' w.heap.size (fun _ => True) v ks ∧ Below w.heap.size w w' := by
  have hbl := hown.lt
  have hsz := hown.size_le
  obtain ⟨hnd, hmem⟩ := intKeys_nodup hR hown
  have hseq : SeqGives Fence.wide 2 Try.prog 76 #[.pointer (some ⟨w.heap.size, 0, none⟩)] Go.encZ (fun ss => ss.Perm (intKeys D)) (Maps.size D) (w.alloc (.cells #[.map (some b)] 56)) :=
    AnyZI.keys_gives (ρ := Try.keys58_ren) { Try.keys58 with } Fence.wide _ trivial rfl (by omega) w.heap.size b n D _ (by simp) (by simp) (by
      obtain ⟨es, clock, hb, Ft, hs, hD⟩ := hown
      exact ⟨es, clock, (Below.heap_alloc _ _ b hbl).trans hb, Ft, hs, hD⟩)
  have cS := AnyZI.sorted_in Try.sorted57 Fence.wide 5 trivial trivial trivial trivial rfl (by omega) (sorts57 _) (enters_of Try.func75 (by kernel_rfl) rfl) 76 #[.pointer (some ⟨w.heap.size, 0, none⟩)] trivial (enters_of Try.func76 (by kernel_rfl) rfl) _ _ (by unfold maxLen; omega) (by omega) _ hseq
  refine ((callsIn_wide (n := 5)).1 cS).mono ?_
  rintro e w' ⟨v, ss, rfl, hS, hrow, hnil, hb⟩
  have hlen : ss.length = (ss.mergeSort fun x y => decide (x ≤ y)).length := by simp
  refine ⟨v, _, rfl, merge_rising (hS.nodup_iff.2 hnd), fun k => ?_, ?_, ?_, ((Below.refl _ w).alloc (Nat.le_refl _) _).trans (hb.mono (by simp))⟩
  · rw [List.mem_mergeSort, hS.mem_iff, hmem]
  · rw [← hlen, hS.length_eq]
    have : (intKeys D).length = size D := by
      obtain ⟨es, rfl, _⟩ := hown.keysOf
      simp [intKeys, size]
    omega
  · refine Kd.R_of_own ?_ (fun _ _ => trivial)
    rw [← hlen]
    exact ownsRow_base_a hrow (by simp)
end Go.Proofs.Ytkmbhknmjnbanaa.A


namespace Go.Proofs.Ytkmbhknmjnbanaa.A
open Go.RowKit Go.Maps Go.Proofs.YtkmbhknmjnbanaaW.PrintWords Go.Proofs.YtkmbhknmjnbanaaW.PrintLast Go.Shelf
set_option linter.unusedVariables false
set_option linter.unusedSimpArgs false

/-- numbers that one can read there -/
def IntsAt (w : World) (A : Option Addr) (ws : List Int) : Prop := ∀ j (h : j < ws.length), ∃ ad, A = some ad ∧ w.cell? (ad.add j) = some (.int .i64 ws[j])
theorem IntsAt.of_C {w : World} {A : Option Addr} {ws : List Int} (h : Kd.C (Kd.int .i64) w A ws.length ws) : IntsAt w A ws := by
  intro j hj
  obtain ⟨ad, e, hc⟩ := Kd.at_int h (j : Int) (by omega) (by omega)
  rw [Int.toNat_natCast, rdI hj] at hc
  exact ⟨ad, e, hc⟩
theorem IntsAt.cells {w : World} {ad : Addr} {ws : List Int} (h : IntsAt w (some ad) ws) : ∀ j u, (ws.map (Value.int .i64))[j]? = some u → w.cell? (ad.add j) = some u := by
  intro j u hu
  obtain ⟨hj, rfl⟩ := List.getElem?_eq_some_iff.1 hu
  rw [List.length_map] at hj
  obtain ⟨ad', e, hc⟩ := h j hj
  cases e
  rw [hc, List.getElem_map]
theorem app_ex (W : World) (ad : Addr) (ws row : List Int) (A : Option Addr) (c : Nat) (hI : IntsAt W (some ad) ws) (hrow : IntsAt W A row) (hc : row.length ≤ c) (hb : ws.length + row.length ≤ 1000000) :
    ∃ v' W', (Builtin.append_ #[27, 27] 27 #[.slice (some ad) ws.length ws.length, .slice A row.length c]).run Try.prog W = .ok v' W' ∧ (∃ A' c', v' = .slice A' (ws ++ row).length c' ∧ (ws ++ row).length ≤ c' ∧ IntsAt W' A' (ws ++ row)) ∧ W.grownBy W' none := by
  obtain ⟨i0, hi, hz0, hz1, hz2⟩ := info_parts info3
  cases row with
  | nil =>
    refine ⟨_, W, run_append_nothing W 27 27 27 3 i0 Try.underlying27 hi (some ad) ws.length ws.length (Nat.le_refl _) _ ?_, ⟨some ad, ws.length, by simp, by simp, by simpa using hI⟩, ⟨rfl, rfl, rfl, Nat.le_refl _, fun _ _ _ => rfl⟩⟩
    cases A with
    | none => exact Src.ofNil W Try.underlying27 c
    | some a => exact Src.ofSlice W Try.underlying27 a 0 c [] (by simp) (by simp) (by simp)
  | cons x row =>
    obtain ⟨ar, rfl, _⟩ := hrow 0 (by simp)
    obtain ⟨v', W', h1, h2, h3⟩ := run_append_arg_grows (P := Try.prog) W 27 27 3 i0 _ 1 8 Try.underlying27 hi hz0 hz1 hz2 rfl (by decide) ad ws.length ws.length (ws.map (Value.int .i64)) (by simp) hI.cells ar (x :: row).length c ((x :: row).map (Value.int .i64)) (by simp) hrow.cells (by simp) (by unfold maxLen; omega) (by omega)
    refine ⟨v', W', h1, ?_, h3⟩
    rw [← List.map_append] at h2
    have hR : Kd.R (Kd.int .i64) 3 W' W.heap.size (fun _ => True) v' (ws ++ x :: row) := Kd.R_of_own (by rw [List.length_append]; exact h2) (fun _ _ => trivial)
    obtain ⟨A', c', rfl⟩ := Kd.R_slice hR
    have := Kd.R_reads' hR
    exact ⟨A', c', rfl, this.2.1, IntsAt.of_C this.2.2⟩
theorem step_append_run {P : Program} {ops : Array Oper} {o : Oper} {a : Act} {w : World} {K : Act → World → Prop} {Q : Exit → Act → World → Prop} {E : Prop}
    (hg : o.guard = none) (s x : Operand) (t : TypeId) (hop : o.op = Op.call { callee := Callee.builtin Builtin.append, args := #[s, x], argTypes := #[t, t] })
    (sv xv v' : Value) (w' : World) (hs : a.eval s = sv) (hx : a.eval x = xv) (hrun : (Builtin.append_ #[t, t] o.type #[sv, xv]).run P w = .ok v' w') (hK : K (a.put o.dst v') w') :
    if Region.wanted o (yielded ops a.tmps) = true then Oper.wp P o a w K Q else E := by
  have hw : Region.wanted o (yielded ops a.tmps) = true := by simp [Region.wanted, hg]
  rw [if_pos hw]
  unfold Oper.wp
  simp [execOp, hop, resolve, invoke, builtin, hs, hx, hrun, Result.andThen]
  exact hK
end Go.Proofs.Ytkmbhknmjnbanaa.A


namespace Go.Proofs.Ytkmbhknmjnbanaa.A
open Go.RowKit Go.Maps Go.Proofs.YtkmbhknmjnbanaaW.PrintWords Go.Proofs.YtkmbhknmjnbanaaW.PrintLast Go.Shelf
set_option linter.unusedVariables false
set_option linter.unusedSimpArgs false

/-- going back from what waits, as long as there is something -/
def bodyW (P : List (List Int)) (re : List Bool) : Nat → (Int → Bool) → List Int → (Int → Bool)
  | 0, S, _ => S
  | n + 1, S, [] => S
  | n + 1, S, a :: ws => if S a = true ∨ re.getD a.toNat false = false then bodyW P re n S ws else bodyW P re n (ins S a) (ws ++ rowOf P a.toNat)
/-- how many rounds that takes at most -/
def budget (P : List (List Int)) (S : Int → Bool) (ws : List Int) : Nat := ws.length + ((List.range P.length).map fun k : Nat => if S (k : Int) = true then 0 else (rowOf P k).length).sum

theorem IntsAt.below {w w' : World} {A : Option Addr} {ws : List Int} (h : IntsAt w A ws) (hb : Below w.heap.size w w') : IntsAt w' A ws := by
  intro j hj
  obtain ⟨ad, e, hc⟩ := h j hj
  exact ⟨ad, e, (hb.cell (World.block_lt_of_cell? _ _ hc)).trans hc⟩
theorem IntsAt.grown {w w' : World} {A : Option Addr} {ws : List Int} (h : IntsAt w A ws) {b : Nat} (hg : w.grownBy w' (some b)) (hm : ∀ c t f, w.heap[b]? ≠ some (.cells c t f)) : IntsAt w' A ws := by
  intro j hj
  obtain ⟨ad, e, hc⟩ := h j hj
  refine ⟨ad, e, ?_⟩
  have hl := World.block_lt_of_cell? _ _ hc
  have hne : (ad.add j).block ≠ b := by
    intro e
    unfold World.cell? at hc
    rw [e] at hc
    split at hc
    · rename_i h; exact hm _ _ _ h
    all_goals first | cases hc | skip
  have hb := hg.block _ hl (fun e => hne (by injection e))
  unfold World.cell? at hc ⊢
  rw [hb]; exact hc
theorem R_new_lit {α : Type} (d : Kd α) (W : World) (base e : Nat) {xs : List α} {inner : List Value} {ok okp : Nat → Prop}
    (hrep : Reps (d.M W base okp) d.sz xs inner) (hok : ∀ k, okp k → ok k) (hfresh : ok W.heap.size) (hbase : base ≤ W.heap.size) (hm : xs.length ≤ 9223372036854775807) :
    d.R e (W.alloc (.cells inner.toArray e)) base ok (.slice (some ⟨W.heap.size, 0, none⟩) xs.length xs.length) xs := by
  refine ⟨fun k hk => ?_, inner, ?_, ?_⟩
  · have : W.heap.size = k := by simpa [Value.ownBlock] using hk
    subst this
    exact hfresh
  · have h2 := World.ownsRow_lit (base := base) (e := e) (size := d.sz) W inner.toArray xs.length hbase (by simpa [maxLen] using hm) (by simpa using hrep.1)
    simpa using h2
  · refine hrep.imp_ (fun p c hp => d.M_mono (fun k hk => ⟨hok k hk.1, fun he => ?_⟩) (Kd.M_below (d.M_bound hp) (below_alloc (Below.refl _ _) _)))
    have : W.heap.size = k := by simpa [Value.ownBlock] using he.symm
    have := hk.2.2.1
    omega

theorem reps_one {W : World} {base : Nat} {ok : Nat → Prop} (x : Int) : Reps ((Kd.int .i64).M W base ok) (Kd.int .i64).sz [x] [.int .i64 x] := by
  refine ⟨rfl, fun j p hj => ?_⟩
  cases j with
  | zero => simp at hj; subst hj; rfl
  | succ j => simp at hj

theorem sum_ins (P : List (List Int)) (S : Int → Bool) (a : Nat) (hS : S (a : Int) = false) : ∀ m, (((List.range m).map fun k : Nat => if ins S (a : Int) (k : Int) = true then 0 else (rowOf P k).length).sum) + (if a < m then (rowOf P a).length else 0) = ((List.range m).map fun k : Nat => if S (k : Int) = true then 0 else (rowOf P k).length).sum
  | 0 => by simp
  | m + 1 => by
    have ih := sum_ins P S a hS m
    rw [List.range_succ, List.map_append, List.map_append, List.sum_append, List.sum_append]
    simp only [List.map_cons, List.map_nil, List.sum_cons, List.sum_nil, Nat.add_zero]
    by_cases e : m = a
    · subst e
      rw [if_neg (Nat.lt_irrefl _)] at ih
      rw [if_pos (Nat.lt_succ_self _), hS]
      have : ins S (m : Int) (m : Int) = true := by simp [ins]
      rw [this]
      simp only [if_true, Bool.false_eq_true, if_false]
      omega
    · have : ins S (a : Int) (m : Int) = S (m : Int) := by
        unfold ins
        have : ¬ (m : Int) = (a : Int) := by omega
        simp [this]
      rw [this]
      generalize (if S (m : Int) = true then 0 else (rowOf P m).length) = z
      by_cases h : a < m
      · rw [if_pos h] at ih
        rw [if_pos (by omega)]
        omega
      · rw [if_neg h] at ih
        rw [if_neg (by omega)]
        omega
theorem sum_le (P : List (List Int)) (S : Int → Bool) : ∀ m, m ≤ P.length → (((List.range m).map fun k : Nat => if S (k : Int) = true then 0 else (rowOf P k).length).sum) ≤ tot (P.take m)
  | 0, _ => by simp [tot]
  | m + 1, h => by
    have ih := sum_le P S m (by omega)
    rw [List.range_succ, List.map_append, List.sum_append, List.take_succ_eq_append_getElem (show m < P.length by omega), tot_append]
    have : (rowOf P m).length = P[m].length := by unfold rowOf; rw [List.getD_eq_getElem?_getD, List.getElem?_eq_getElem (show m < P.length by omega)]; rfl
    simp only [List.map_cons, List.map_nil, List.sum_cons, List.sum_nil, Nat.add_zero, tot] at *
    split <;> omega
theorem budget_le (P : List (List Int)) (S : Int → Bool) (ws : List Int) : budget P S ws ≤ ws.length + tot P := by
  have := sum_le P S P.length (Nat.le_refl _)
  rw [List.take_length] at this
  unfold budget; omega
theorem budget_ins {P : List (List Int)} {S : Int → Bool} {a : Nat} (ha : a < P.length) (hS : S (a : Int) = false) (ws : List Int) : budget P (ins S (a : Int)) (ws ++ rowOf P a) = budget P S ws := by
  have := sum_ins P S a hS P.length
  rw [if_pos ha] at this
  unfold budget
  rw [List.length_append]
  omega
theorem budget_cons (P : List (List Int)) (S : Int → Bool) (x : Int) (ws : List Int) : budget P S (x :: ws) = budget P S ws + 1 := by unfold budget; rw [List.length_cons]; omega
theorem bodyW_nil (P : List (List Int)) (re : List Bool) (n : Nat) (S : Int → Bool) : bodyW P re n S [] = S := by cases n <;> rfl
/-- a loop's row: its head, then the others, rising -/
def others (n : Nat) (R : Int → Bool) (head : Nat) : List Int := ((List.range n).filter fun k : Nat => R (k : Int) && !decide (k = head)).map fun k : Nat => (k : Int)
def bodyRes (P : List (List Int)) (re : List Bool) (head : Nat) (fr : List Int) : List Int :=
  (head : Int) :: others P.length (bodyW P re (budget P (ins (fun _ => false) head) fr) (ins (fun _ => false) head) fr) head

set_option maxRecDepth 100000 in
set_option maxHeartbeats 4000000 in
theorem body_calls (A0 A1 A3 : Option Addr) (c0 c1 c3 : Nat) (P : List (List Int)) (re : List Bool) (head : Nat) (fr : List Int) (w : World)
    (h0 : Kd.C (Kd.slice 3 (Kd.int .i64)) w A0 P.length P) (h1 : Kd.C Kd.bool w A1 P.length re) (h3 : Kd.C (Kd.int .i64) w A3 fr.length fr) (hc3 : fr.length ≤ c3)
    (hn : P.length ≤ 4096) (hP : ∀ l ∈ P, ∀ x ∈ l, 0 ≤ x ∧ x < (P.length : Int)) (hf : ∀ x ∈ fr, 0 ≤ x ∧ x < (P.length : Int)) (hh : head < P.length) (ht : tot P ≤ 100000) (hfl : fr.length ≤ 100000) :
    Calls Try.prog 59 #[.slice A0 P.length c0, .slice A1 P.length c1, .int .i64 head, .slice A3 fr.length c3] w fun e w' => ∃ v, e = .returned v ∧
      Kd.R (Kd.int .i64) 3 w' w.heap.size (fun _ => True) v (bodyRes P re head fr) ∧ Below w.heap.size w w' := by
  unfold bodyRes
  have hbud : budget P (ins (fun _ => false) head) fr ≤ 200000 := by have := budget_le P (ins (fun _ => false) head) fr; omega
  generalize hR : bodyW P re (budget P (ins (fun _ => false) head) fr) (ins (fun _ => false) head) fr = R
  have hR' := Aside0.mk hR
  clear hR
  have hmm := @run_makeMap Try.prog
  have hwf : ∀ x : Int, 0 ≤ x → x < (P.length : Int) → Wf x := fun x a b => wf_small a (by omega)
  obtain ⟨w1, i1, i2, i3⟩ := (SetAt.made w).store (by unfold maxLen; omega) (hwf head (by omega) (by omega))
  go_enter Try.func59, Try.ntmps59
  go_wp2_with fail
  go_loopg [10, 11] (budget P (ins (fun _ => false) head) fr) (fun gk s10 _ wr => ∃ (S : Int → Bool) (ws : List Int) (A : Option Addr) (c n : Nat), s10 = .slice A ws.length c ∧ ws.length ≤ c ∧ budget P S ws ≤ gk ∧ n + gk ≤ 300000 ∧ Aside0 (IntsAt wr A ws) ∧ Aside0 (SetAt wr w.heap.size n S) ∧ Aside0 (bodyW P re gk S ws = R) ∧ Aside0 (∀ x ∈ ws, 0 ≤ x ∧ x < (P.length : Int)) ∧ Aside0 (Below w.heap.size w wr) ∧ Aside0 (∀ k, S k = true → 0 ≤ k ∧ k < (P.length : Int)))
  case atStart =>
    have hB1 : Below w.heap.size w w1 := (below_alloc (Below.refl _ _) (.map #[] 0)).grown i3 (by simp) (fun j e => by cases e; exact Nat.le_refl _)
    exact ⟨_, fr, A3, c3, 1, rfl, hc3, Nat.le_refl _, by omega, ⟨IntsAt.of_C (Kd.C_below h3 hB1)⟩, ⟨i2⟩, hR', ⟨hf⟩, ⟨hB1⟩, ⟨fun k hk => by simp [ins] at hk; omega⟩⟩
  case round =>
    obtain ⟨S, ws, A, c, n, rfl, hwc, hbg, hng, hI, hS, hb, hx, hB, hin⟩ := hrel
    cases ws with
    | nil =>
      have hbe := hb.out
      rw [bodyW_nil] at hbe
      subst hbe
      obtain ⟨wd, d1, d2, d3⟩ := hS.out.drop (hwf head (by omega) (by omega)) 0
      have hBd : Below w.heap.size w wd := hB.out.grown d3 hB.out.size (fun j e => by cases e; exact Nat.le_refl _)
      obtain ⟨D, hown, hRb⟩ := d2
      have hwd : w.heap.size ≤ wd.heap.size := hBd.size
      have hown2 := hown.alloc (.cells #[.int .i64 (head : Int)] 3)
      have hHO : Kd.R (Kd.int .i64) 3 (wd.alloc (.cells #[.int .i64 (head : Int)] 3)) w.heap.size (fun _ => True) (.slice (some ⟨wd.heap.size, 0, none⟩) 1 1) [(head : Int)] :=
        R_new_lit (Kd.int .i64) wd w.heap.size 3 (xs := [(head : Int)]) (inner := [.int .i64 (head : Int)]) (ok := fun _ => True) (okp := fun _ => True) (reps_one (head : Int)) (fun _ h => h) trivial hwd (by simp)
      have hBd2 := below_alloc hBd (.cells #[.int .i64 (head : Int)] 3)
      have hsz : (wd.alloc (.cells #[.int .i64 (head : Int)] 3)).heap.size = wd.heap.size + 1 := by simp
      have hso := sorted68_calls w.heap.size n _ (wd.alloc (.cells #[.int .i64 (head : Int)] 3)) hown2 hRb.has (by omega)
      have hhas := Aside0.mk (show ∀ k, rem S (head : Int) k = (S k && !decide (k = (head : Int))) from fun k => Bool.and_comm _ _)
      clear hS hB hI hb hx hown hown2 hRb d3 hBd
      rw [hsz] at hso
      have hHO' := Aside0.mk hHO
      have hBd2' := Aside0.mk hBd2
      clear hHO hBd2
      go_wp2_with fail
      refine (keys68_calls _ _).mono ?_
      rintro e w' ⟨rfl, rfl⟩
      rw [hsz]
      go_wp2_with fail
      refine hso.mono ?_
      rintro e w5 ⟨v, ks, rfl, k1, k2, k3, k4, k5⟩
      obtain ⟨A5, c5, rfl⟩ := Kd.R_slice k4
      have HO := Aside0.mk (Kd.R_below hHO'.out (by rw [hsz]; exact k5))
      have HR := Aside0.mk (Kd.R_reads' k4).2.2
      have hBa := Aside0.mk (hBd2'.out.trans (k5.mono (by omega)))
      have k1' := Aside0.mk k1
      have k2' := Aside0.mk k2
      clear hso hHO' hBd2' k1 k2 k4 k5
      go_wp2_with (at_builtin; refine Kd.R_append_row (Value.int .i64) (0 : Int) (w0 := w) w.heap.size rfl (.tmp 50) (.tmp 53) 27 3 (.int .i64 0) 8 rfl Try.underlying27 info3 rfl (by decide) _ [(head : Int)] ks A5 ks.length c5 (fun _ => True) rfl rfl (fun _ _ => trivial) HO.out HR.out hBa.out hBa.out.size (by simp; omega) ?_; intro v1 w6 hown1 hb1 hg1 hat1)
      go_ret
      refine ⟨_, rfl, ?_, hb1⟩
      have : others P.length S head = ks := by
        refine rising_eq ?_ k1'.out fun k => ?_
        · unfold Rising others
          rw [List.pairwise_map]
          exact (List.pairwise_lt_range.filter _).imp (fun h => by omega)
        · rw [k2'.out, hhas.out]
          unfold others
          simp only [List.mem_map, List.mem_filter, List.mem_range, Bool.and_eq_true, Bool.not_eq_true', decide_eq_false_iff_not]
          constructor
          · rintro ⟨m, ⟨h1, h2, h3⟩, rfl⟩
            exact ⟨h2, by omega⟩
          · rintro ⟨h1, h2⟩
            have := hin.out k h1
            obtain ⟨m, rfl⟩ := Int.eq_ofNat_of_zero_le this.1
            exact ⟨m, ⟨by omega, h1, by omega⟩, rfl⟩
      rw [this]
      exact hown1
    | cons x ws =>
      obtain ⟨hx0, hx1⟩ := hx.out x (by simp)
      have hxt := Aside0.mk (fun y hy => hx.out y (List.mem_cons_of_mem _ hy))
      obtain ⟨a, rfl⟩ := Int.eq_ofNat_of_zero_le hx0
      obtain ⟨ad, rfl, q0⟩ := hI.out 0 (by simp)
      rw [Addr.add_zero', List.getElem_cons_zero] at q0
      rw [budget_cons] at hbg
      obtain ⟨gk, rfl⟩ : ∃ g', gk = g' + 1 := ⟨gk - 1, by omega⟩
      have hlk := hS.out.look (hwf (a : Int) hx0 hx1)
      rw [List.length_cons] at hwc ⊢
      have hl0 : ((ws.length + 1 : Nat) : Int) > 0 := by omega
      have hwl : ws.length ≤ 300000 := by unfold budget at hbg; omega
      obtain ⟨ar, eR, r0⟩ := Kd.at_bool (Kd.C_below h1 hB.out) (a : Int) hx0 hx1
      subst eR
      rw [Int.toNat_natCast] at r0
      have hb' := hb.out
      unfold bodyW at hb'
      rw [Int.toNat_natCast] at hb'
      have hrd : rdOf false re (a : Int) = re.getD a false := by unfold rdOf; rw [Int.toNat_natCast]
      rw [hrd] at r0
      have hI2 : IntsAt wr (some ⟨ad.block, ad.off + 1, none⟩) ws := by
        intro j hj
        obtain ⟨ad', e, hc⟩ := hI.out (j + 1) (by simp; omega)
        cases e
        refine ⟨_, rfl, ?_⟩
        rw [List.getElem_cons_succ, Addr.add_succ'] at hc
        rw [Addr.add_lit, ← hc]
        congr 2
        omega
      have hI0 : c = 1 → ∀ A, IntsAt wr A ws := fun e A j hj => absurd hj (by omega)
      have hI2' := Aside0.mk hI2
      have hI0' := Aside0.mk hI0
      clear hI hI2 hI0 hrd
      by_cases hskip : S (a : Int) = true ∨ re.getD a false = false
      · have hb2 := hb'
        rw [if_pos hskip] at hb2
        have hbn := Aside0.mk hb2
        clear hb hb' hb2
        cases hSa : S (a : Int) with
        | true =>
          rw [hSa] at hlk
          clear hskip
          by_cases hc1 : c = 1
          · subst hc1
            obtain rfl : ws = [] := List.eq_nil_of_length_eq_zero (by omega)
            go_wp2_with fail
            go_roundg gk
            case measure => omega
            case rel => exact ⟨S, [], some ad, 0, n, rfl, Nat.le_refl _, by omega, by omega, ⟨fun j hj => absurd hj (Nat.not_lt_zero _)⟩, hS, hbn, ⟨fun y hy => absurd hy (List.not_mem_nil)⟩, hB, hin⟩
          · have hc2 : ¬ (c : Int) = 1 := by omega
            go_wp2_with fail
            go_roundg gk
            case measure => omega
            case rel => exact ⟨S, ws, _, _, n, rfl, by omega, by omega, by omega, hI2', hS, hbn, hxt, hB, hin⟩
        | false =>
          rw [hSa] at hlk
          have hre0 : re.getD a false = false := by rcases hskip with h | h; rw [hSa] at h; cases h; exact h
          rw [hre0] at r0
          clear hskip
          by_cases hc1 : c = 1
          · subst hc1
            obtain rfl : ws = [] := List.eq_nil_of_length_eq_zero (by omega)
            go_wp2_with fail
            go_roundg gk
            case measure => omega
            case rel => exact ⟨S, [], some ad, 0, n, rfl, Nat.le_refl _, by omega, by omega, ⟨fun j hj => absurd hj (Nat.not_lt_zero _)⟩, hS, hbn, ⟨fun y hy => absurd hy (List.not_mem_nil)⟩, hB, hin⟩
          · have hc2 : ¬ (c : Int) = 1 := by omega
            go_wp2_with fail
            go_roundg gk
            case measure => omega
            case rel => exact ⟨S, ws, _, _, n, rfl, by omega, by omega, by omega, hI2', hS, hbn, hxt, hB, hin⟩
      · obtain ⟨hSa, hre1⟩ := not_or.1 hskip
        rw [Bool.not_eq_true] at hSa
        rw [Bool.not_eq_false] at hre1
        rw [if_neg hskip] at hb'
        have hbn := Aside0.mk hb'
        have hbi := budget_ins (P := P) (show a < P.length by omega) hSa ws
        rw [hSa] at hlk
        rw [hre1] at r0
        clear hb hb' hskip
        have hin2 : Aside0 (∀ k, ins S (a : Int) k = true → 0 ≤ k ∧ k < (P.length : Int)) := ⟨fun k hk => by
          simp only [ins, Bool.or_eq_true, decide_eq_true_eq] at hk
          rcases hk with rfl | hk
          · exact ⟨hx0, hx1⟩
          · exact hin.out k hk⟩
        obtain ⟨wu, u1, u2, u3⟩ := hS.out.store (by unfold maxLen; omega) (hwf (a : Int) hx0 hx1)
        have hBu : Below w.heap.size w wu := hB.out.grown u3 hB.out.size (fun j e => by cases e; exact Nat.le_refl _)
        obtain ⟨es, clock, hmb⟩ : ∃ es clock, wr.heap[w.heap.size]? = some (.map es clock) := by
          obtain ⟨D, ⟨es, clock, h, _⟩, _⟩ := hS.out
          exact ⟨es, clock, h⟩
        have hI3 : IntsAt wu (some ⟨ad.block, ad.off + 1, none⟩) ws := hI2'.out.grown u3 (fun _ _ _ h => by rw [hmb] at h; cases h)
        obtain ⟨ap, A4, c4, rfl, p0, p1, p2⟩ := at_L1 (Kd.C_below h0 hBu) (a : Int) hx0 hx1
        rw [Int.toNat_natCast] at p0
        rw [rdL] at p0 p1 p2
        have hrr := hP _ (rowOf_mem (show a < P.length by omega))
        have hrb : (rowOf P a).length ≤ 100000 := Nat.le_trans (row_le_tot P a) ht
        generalize rowOf P a = row at p0 p1 p2 hrr hrb hbn hbi
        have hxn := Aside0.mk (fun y (hy : y ∈ ws ++ row) => (List.mem_append.1 hy).elim (hxt.out y) (hrr y))
        have p3 : IntsAt wu.drew A4 row := IntsAt.of_C p2
        have hw3 : (0 : Int) ≤ (ws.length : Int) := by omega
        have q1 : wu.drew.cell? (ap.add a) = some (.slice A4 row.length c4) := p0
        by_cases hc1 : c = 1
        · subst hc1
          obtain rfl : ws = [] := List.eq_nil_of_length_eq_zero (by omega)
          obtain ⟨v', W', a1, ⟨A', c', rfl, a3, a4⟩, a5⟩ := app_ex wu.drew ad [] row A4 c4 (fun j hj => absurd hj (Nat.not_lt_zero _)) p3 p1 (by simp; omega)
          have a4' := Aside0.mk a4
          have a5' := Aside0.mk a5
          have u2' := Aside0.mk u2
          have hBu' := Aside0.mk hBu
          clear a4 a5 u2 hBu hS hB p2 p3 hmb u3 hI2' hI0' hI3
          go_wp2_with fail
          go_region_law (refine step_append_run rfl (.tmp 41) (.tmp 45) 27 rfl (.slice (some ad) 0 0) (.slice A4 row.length c4) _ W' (by simp [Act.eval, Act.put]) (by simp [Act.eval, Act.put]) a1 ?_)
          simp [Act.put]
          go_wp2_with fail
          go_roundg gk
          case measure => omega
          case rel => exact ⟨ins S (a : Int), row, A', c', n + 1, by simp, a3, by have := hbi; simp only [List.nil_append] at this; omega, by omega, a4', ⟨(show SetAt wu.drew _ _ _ from u2'.out).grown a5'.out (by simp)⟩, hbn, hxn, ⟨(hBu'.out.trans (show Below w.heap.size wu wu.drew from ⟨rfl, rfl, rfl, Nat.le_refl _, fun _ _ => rfl⟩)).grown a5'.out (show w.heap.size ≤ wu.drew.heap.size from hBu'.out.size) (fun j e => by cases e)⟩, hin2⟩
        · have hc2 : ¬ (c : Int) = 1 := by omega
          have hc3 : ws.length ≤ c - 1 := by omega
          have hc4 : (ws.length : Int) ≤ ((c - 1 : Nat) : Int) := by omega
          obtain ⟨v', W', a1, ⟨A', c', rfl, a3, a4⟩, a5⟩ := app_ex wu.drew ⟨ad.block, ad.off + 1, none⟩ ws row A4 c4 hI3 p3 p1 (by omega)
          have a4' := Aside0.mk a4
          have a5' := Aside0.mk a5
          have u2' := Aside0.mk u2
          have hBu' := Aside0.mk hBu
          clear a4 a5 u2 hBu hS hB p2 p3 hmb u3 hI2' hI0'
          go_wp2_with fail
          go_region_law (refine step_append_run rfl (.tmp 41) (.tmp 45) 27 rfl (.slice (some ⟨ad.block, ad.off + 1, none⟩) ws.length ws.length) (.slice A4 row.length c4) _ W' (by simp [Act.eval, Act.put]) (by simp [Act.eval, Act.put]) a1 ?_)
          simp [Act.put]
          go_wp2_with fail
          go_roundg gk
          case measure => omega
          case rel => exact ⟨ins S (a : Int), ws ++ row, A', c', n + 1, by simp, a3, by omega, by omega, a4', ⟨(show SetAt wu.drew _ _ _ from u2'.out).grown a5'.out (by simp)⟩, hbn, hxn, ⟨(hBu'.out.trans (show Below w.heap.size wu wu.drew from ⟨rfl, rfl, rfl, Nat.le_refl _, fun _ _ => rfl⟩)).grown a5'.out (show w.heap.size ≤ wu.drew.heap.size from hBu'.out.size) (fun j e => by cases e)⟩, hin2⟩
end Go.Proofs.Ytkmbhknmjnbanaa.A


namespace Go.Proofs.Ytkmbhknmjnbanaa.A
open Go.ChangeShapes Go.RowKit Go.Maps Go.Proofs.YtkmbhknmjnbanaaW.PrintWords Go.Proofs.YtkmbhknmjnbanaaW.PrintLast Go.Shelf
set_option linter.unusedVariables false
set_option linter.unusedSimpArgs false

def gupd (H : Int → List Int) (k x : Int) : Int → List Int := fun j => if j = k then H k ++ [x] else H j
structure ReadsG (D : DU) (H : Int → List Int) : Prop where
  tidy : Tidy D
  has : ∀ k, Maps.has D (.int .i64 k) = !(H k).isEmpty
  at_ : ∀ k, D.atKey (.int .i64 k) .nil = if H k = [] then .nil else .slice (lits .i64 (H k)) []
theorem ReadsG.empty : ReadsG (.map []) (fun _ => []) := ⟨tidy_empty, fun k => rfl, fun k => rfl⟩
theorem ReadsG.put {D : DU} {H : Int → List Int} (h : ReadsG D H) (k x : Int) : ReadsG (D.put (.int .i64 k) (.slice (lits .i64 (H k ++ [x])) [])) (gupd H k x) := by
  refine ⟨h.tidy.put (isKey k) _, fun j => ?_, fun j => ?_⟩
  · by_cases hj : j = k
    · subst hj
      rw [has_put_same h.tidy.isMap (isKey j)]
      simp [gupd]
    · rw [has_put_other (by simpa using hj), h.has j]
      simp [gupd, hj]
  · by_cases hj : j = k
    · subst hj
      rw [atKey_put_same h.tidy.isMap (isKey j)]
      simp [gupd]
    · rw [atKey_put_other (by simpa using hj), h.at_ j]
      simp [gupd, hj]
theorem lits_inj {a b : List Int} (h : (lits .i64 a : List (DataW Unit)) = lits .i64 b) : a = b := by
  unfold lits at h
  exact List.map_inj_right (f := fun z : Int => (DataW.lit (Lit.int .i64 z) : DataW Unit)) (fun x y e => by simpa using e) |>.1 h
theorem zeroL (w : World) : (zeroValue 27).run Try.prog w = .ok (.slice none 0 0) w := by kernel_rfl
/-- block b is such a map of at most n entries -/
def GrpAt (w : World) (b n : Nat) (H : Int → List Int) : Prop := ∃ D : DU, w.ownsGroups Try.prog 3 (b + 1) 3 .i64 b n D ∧ ReadsG D H
theorem GrpAt.made (w : World) : GrpAt (w.alloc (.map #[] 0)) w.heap.size 0 (fun _ => []) := ⟨.map [], World.ownsGroups_made _ _ _ _ _, ReadsG.empty⟩
/-- m[k]: a row that one may append to and store again -/
theorem GrpAt.look {w : World} {b n : Nat} {H : Int → List Int} (h : GrpAt w b n H) (hn : n < maxLen) {k : Int} (hk : Wf k) :
    ∃ v, (Instr.lookup 56 (.map (some b)) (.int .i64 k) false).run Try.prog w = .ok v w ∧ w.ownsInts (b + 1) 3 .i64 v (H k) ∧ (H k).length ≤ n ∧
      ∀ (w1 : World) (v' : Value) (x : Int), w.grownBy w1 v.ownBlock → w1.ownsInts (b + 1) 3 .i64 v' (H k ++ [x]) → (v'.ownBlock = v.ownBlock ∨ ∃ g, v'.ownBlock = some g ∧ w.heap.size ≤ g) →
        ∃ w2, (Instr.mapUpdate 56 (.map (some b)) (.int .i64 k) v').run Try.prog w1 = .ok () w2 ∧ GrpAt w2 b (n + 1) (gupd H k x) ∧ w1.grownBy w2 (some b) := by
  obtain ⟨D, hg, hR⟩ := h
  obtain ⟨v, zs, h1, h2, h3, h4, h5⟩ := hg.at law3 Try.underlying56 (zeroL w) hn (key3 hk)
  have hz : zs = H k := by
    rw [hR.at_ k] at h2
    rcases h3.datum (H := Unit) with ⟨e1, e2⟩ | e1
    · rw [e1] at h2
      by_cases e : H k = []
      · rw [e2, e]
      · rw [if_neg e] at h2; simp at h2
    · rw [e1] at h2
      by_cases e : H k = []
      · rw [if_pos e] at h2; simp at h2
      · rw [if_neg e] at h2
        simp only [DataW.slice.injEq, and_true] at h2
        exact (lits_inj h2).symm
  subst hz
  refine ⟨v, h1, h3, h4, fun w1 v' x hg1 ho hl => ?_⟩
  obtain ⟨w2, r1, r2, r3⟩ := h5 w1 v' (H k ++ [x]) hg1 ho (by simp; omega) hl
  rw [ho.datum_pos (by simp)] at r2
  exact ⟨w2, r1, ⟨_, r2, hR.put k x⟩, r3⟩
theorem GrpAt.keys {w : World} {b n : Nat} {H : Int → List Int} (h : GrpAt w b n H) : ∃ (D : DU) (R : Value → Option (DU × List MemPlace)), w.ownsMap Try.prog 3 R b n D ∧ ∀ k, Maps.has D (.int .i64 k) = !(H k).isEmpty := by
  obtain ⟨D, ⟨es, clock, hb, F, hs, hD, _⟩, hR⟩ := h
  exact ⟨D, _, ⟨es, clock, hb, F, hs, hD⟩, hR.has⟩
theorem GrpAt.lt {w : World} {b n : Nat} {H : Int → List Int} (h : GrpAt w b n H) : b < w.heap.size := by
  obtain ⟨D, R, h1, _⟩ := h.keys; exact h1.lt
theorem GrpAt.grown {w w1 : World} {b n : Nat} {H : Int → List Int} (h : GrpAt w b n H) (hg : w.grownBy w1 none) : GrpAt w1 b n H := by
  obtain ⟨D, h1, h3⟩ := h
  exact ⟨D, h1.kept hg (by simp) (fun es clock _ x _ => by cases x.val.ownBlock <;> simp), h3⟩
end Go.Proofs.Ytkmbhknmjnbanaa.A


namespace Go.Proofs.Ytkmbhknmjnbanaa.A
open Go.RowKit Go.Maps Go.Proofs.YtkmbhknmjnbanaaW.PrintWords Go.Proofs.YtkmbhknmjnbanaaW.PrintLast Go.Shelf
set_option linter.unusedVariables false
set_option linter.unusedSimpArgs false

theorem look_val {w : World} {b : Nat} {es : Array MapEntry} {clock : Nat} {R : Value → Option (DU × List MemPlace)} (hb : w.heap[b]? = some (.map es clock)) (F : Go.WideElems.Fit Try.prog 3 R es clock) {k : Int} (hk : Wf k) :
    ((Instr.lookup 56 (.map (some b)) (.int .i64 k) false).run Try.prog w = .ok (.slice none 0 0) w ∧ ∀ e ∈ es.toList, e.key ≠ .int .i64 k) ∨ ∃ (j : Nat) (e : MapEntry), (Instr.lookup 56 (.map (some b)) (.int .i64 k) false).run Try.prog w = .ok e.val w ∧ es.toList[j]? = some e ∧ e.key = .int .i64 k := by
  have hz := zeroL w
  rcases law3.find w (key3 hk) es.toList F.keys with ⟨h1, h2⟩ | ⟨j, e0, h1, h2, h3⟩
  · exact .inl ⟨by simp [Instr.lookup, run_underlying Try.underlying56, MapKept.run_getObj_map hb, law3.check w _ (key3 hk), h1, hz, Result.andThen], h2⟩
  · exact .inr ⟨j, e0, by simp [Instr.lookup, run_underlying Try.underlying56, MapKept.run_getObj_map hb, law3.check w _ (key3 hk), h1, Result.andThen], h2, h3⟩
theorem look_same {w w' : World} {b : Nat} {es : Array MapEntry} {clock : Nat} {R : Value → Option (DU × List MemPlace)} (hb : w.heap[b]? = some (.map es clock)) (hb' : w'.heap[b]? = some (.map es clock)) (F : Go.WideElems.Fit Try.prog 3 R es clock) {k : Int} (hk : Wf k) {v : Value}
    (h : (Instr.lookup 56 (.map (some b)) (.int .i64 k) false).run Try.prog w = .ok v w) : (Instr.lookup 56 (.map (some b)) (.int .i64 k) false).run Try.prog w' = .ok v w' := by
  rcases look_val hb F hk with ⟨h1, h2⟩ | ⟨j, e, h1, h2, h3⟩ <;> rcases look_val hb' F hk with ⟨g1, g2⟩ | ⟨i, f, g1, g2, g3⟩
  · rw [h1] at h; simp only [Result.ok.injEq, and_true] at h; subst h; exact g1
  · exact absurd g3 (h2 f (List.mem_of_getElem? g2))
  · exact absurd h3 (g2 e (List.mem_of_getElem? h2))
  · rw [h1] at h; simp only [Result.ok.injEq, and_true] at h; subst h
    have hn := F.stamped.2.2
    have e1 : (es.toList.map (·.key))[j]? = some (.int .i64 k) := by rw [List.getElem?_map, h2]; simp [h3]
    have e2 : (es.toList.map (·.key))[i]? = some (.int .i64 k) := by rw [List.getElem?_map, g2]; simp [g3]
    have hij : j = i := (List.getElem?_inj (by have := (List.getElem?_eq_some_iff.1 e1).1; exact this) hn).1 (e1.trans e2.symm)
    subst hij
    have : e = f := Option.some.inj (h2.symm.trans g2)
    subst this
    exact g1
theorem GrpAt.look2 {w w' : World} {b n : Nat} {H : Int → List Int} (h : GrpAt w b n H) (hg : w.grownBy w' none) {k : Int} (hk : Wf k) {v : Value}
    (hv : (Instr.lookup 56 (.map (some b)) (.int .i64 k) false).run Try.prog w' = .ok v w') : (Instr.lookup 56 (.map (some b)) (.int .i64 k) false).run Try.prog w = .ok v w := by
  have hl := h.lt
  obtain ⟨D, ⟨es, clock, hb, F, _⟩, _⟩ := h
  exact look_same ((hg.block b hl (by simp)).trans hb) hb F hk hv
end Go.Proofs.Ytkmbhknmjnbanaa.A


namespace Go.Proofs.Ytkmbhknmjnbanaa.A
open Go.RowKit Go.Maps Go.Proofs.YtkmbhknmjnbanaaW.PrintWords Go.Proofs.YtkmbhknmjnbanaaW.PrintLast Go.Shelf
set_option linter.unusedVariables false
set_option linter.unusedSimpArgs false

/-- where edges come back from, by head -/
def hfold (l : List S37) : Int → List Int := l.foldl (fun H e => gupd H e.f1 e.f0) (fun _ => [])
theorem hfold_snoc (l : List S37) (e : S37) : hfold (l ++ [e]) = gupd (hfold l) e.f1 e.f0 := by simp [hfold]
def headsOf (n : Nat) (H : Int → List Int) : List Int := ((List.range n).filter fun k : Nat => !(H (k : Int)).isEmpty).map fun k : Nat => (k : Int)
def loopsOf (g : List (List Int)) : List (List Int) :=
  (headsOf g.length (hfold (backOf g))).map fun h => bodyRes (predsOf g) (reachRes g 0) h.toNat (hfold (backOf g) h)
theorem brow_in {at_ : List Int} {g : List (List Int)} {i : Nat} (hi : i < g.length) : ∀ (l : List Int) (out : List S37), (∀ x ∈ l, 0 ≤ x ∧ x < (g.length : Int)) → (∀ e ∈ out, (0 ≤ e.f0 ∧ e.f0 < (g.length : Int)) ∧ 0 ≤ e.f1 ∧ e.f1 < (g.length : Int)) → ∀ e ∈ brow at_ i out l, (0 ≤ e.f0 ∧ e.f0 < (g.length : Int)) ∧ 0 ≤ e.f1 ∧ e.f1 < (g.length : Int)
  | [], out, _, h => h
  | x :: l, out, hl, h => by
    refine brow_in hi l (bstep at_ i out x) (fun y hy => hl y (by simp [hy])) ?_
    unfold bstep
    split
    · intro e he
      rcases List.mem_append.1 he with he | he
      · exact h e he
      · simp only [List.mem_singleton] at he
        subst he
        exact ⟨⟨by show (0 : Int) ≤ (i : Int); omega, by show (i : Int) < _; omega⟩, hl x (by simp)⟩
    · exact h
theorem back_in (g : List (List Int)) : ∀ e ∈ backOf g, (0 ≤ e.f0 ∧ e.f0 < (g.length : Int)) ∧ 0 ≤ e.f1 ∧ e.f1 < (g.length : Int) := by
  unfold backOf
  cases hr : rightB g
  · intro e he; simp at he
  · obtain ⟨h1, h2, h3⟩ := right_rows hr
    rw [if_pos rfl]
    suffices H : ∀ m, m ≤ g.length → ∀ e ∈ bfold (placesOf g) g m, (0 ≤ e.f0 ∧ e.f0 < (g.length : Int)) ∧ 0 ≤ e.f1 ∧ e.f1 < (g.length : Int) from H _ (Nat.le_refl _)
    intro m
    induction m with
    | zero => intro _ e he; simp [bfold] at he
    | succ m ih =>
      intro hm
      rw [bfold_succ]
      exact brow_in (by omega) _ _ (h3 _ (rowOf_mem (by omega))) (ih (by omega))
theorem back_len (g : List (List Int)) : (backOf g).length ≤ 40000 := by
  unfold backOf
  cases hr : rightB g
  · simp
  · obtain ⟨h1, h2, h3⟩ := right_rows hr
    rw [if_pos rfl]
    have := bfold_len (at_ := placesOf g) (right_8 hr) g.length (Nat.le_refl _)
    omega

theorem hfold_mem (l : List S37) (k y : Int) : y ∈ hfold l k ↔ ∃ e ∈ l, e.f1 = k ∧ e.f0 = y := by
  unfold hfold
  suffices H : ∀ F : Int → List Int, y ∈ l.foldl (fun H e => gupd H e.f1 e.f0) F k ↔ y ∈ F k ∨ ∃ e ∈ l, e.f1 = k ∧ e.f0 = y by
    have := H (fun _ => []); simpa using this
  induction l with
  | nil => intro F; simp
  | cons x l ih =>
    intro F
    rw [List.foldl_cons, ih]
    unfold gupd
    by_cases e : k = x.f1
    · subst e
      rw [if_pos rfl, List.mem_append, List.mem_singleton]
      constructor
      · rintro ((h | h) | ⟨e, h1, h2⟩)
        · exact .inl h
        · exact .inr ⟨x, by simp, rfl, h.symm⟩
        · exact .inr ⟨e, by simp [h1], h2⟩
      · rintro (h | ⟨e, h1, h2⟩)
        · exact .inl (.inl h)
        · rcases List.mem_cons.1 h1 with rfl | h1
          · exact .inl (.inr h2.2.symm)
          · exact .inr ⟨e, h1, h2⟩
    · rw [if_neg e]
      constructor
      · rintro (h | ⟨e', h1, h2⟩)
        · exact .inl h
        · exact .inr ⟨e', by simp [h1], h2⟩
      · rintro (h | ⟨e', h1, h2⟩)
        · exact .inl h
        · rcases List.mem_cons.1 h1 with rfl | h1
          · exact absurd h2.1.symm e
          · exact .inr ⟨e', h1, h2⟩

set_option maxRecDepth 100000 in
set_option maxHeartbeats 4000000 in
theorem loops_calls (A : Option Addr) (c : Nat) (g : List (List Int)) (w : World) (h : Kd.C (Kd.slice 3 (Kd.int .i64)) w A g.length g) (hc : g.length ≤ c) :
    Calls Try.prog 32 #[.slice A g.length c] w fun e w' => ∃ v, e = .returned v ∧ Kd.S (Kd.slice 3 (Kd.int .i64)) 27 w' w.heap.size (fun _ => True) v (loopsOf g) ∧ Below w.heap.size w w' := by
  have hmm := @run_makeMap Try.prog
  have hu37 := Try.underlying37
  obtain ⟨kb, hkb⟩ := (back_ev g).get
  have hbw : Below w.heap.size w (w.alloc (.map #[] 0)) := below_alloc (Below.refl _ _) _
  have hbk := graph_Back.calls kb A c g _ (w.alloc (.map #[] 0)) (Kd.C_below h hbw) hc hkb
  have hin := back_in g
  have hbl := back_len g
  have hGm := GrpAt.made w
  have hgl : 0 < (backOf g).length → g.length ≤ 4096 := by
    unfold backOf
    cases hr : rightB g
    · intro h; simp at h
    · intro _; exact (right_rows hr).1
  have hrt0 : 0 < (backOf g).length → rightB g = true := by
    unfold backOf
    cases hr : rightB g
    · intro h; simp at h
    · intro _; rfl
  unfold loopsOf
  generalize backOf g = bs at hbk hin hbl hgl hrt0 ⊢
  go_enter Try.func32, Try.ntmps32
  go_wp2_with fail
  refine hbk.mono ?_
  rintro e w1 ⟨v1, rfl, hv1, hb1⟩
  obtain ⟨A1, c1, rfl⟩ := Kd.R_slice hv1
  have hsz1 : (w.alloc (.map #[] 0)).heap.size = w.heap.size + 1 := by simp
  have hC1 := Aside0.mk (show Kd.R k37 37 w1 (w.heap.size + 1) (fun _ => True) (.slice A1 bs.length c1) bs by rw [← hsz1]; exact hv1)
  have hG1 : GrpAt w1 w.heap.size 0 (fun _ => []) := hGm.grown (grown_of_below hb1 none)
  have hB1 := Aside0.mk (hbw.trans (hb1.mono (by rw [hsz1]; omega)))
  clear hbk hv1 hb1 hGm
  go_wp2_with fail
  go_loopw [15] (fun s wr => ∃ m : Nat, m ≤ bs.length ∧ s = .int .i64 m ∧ Aside0 (GrpAt wr w.heap.size m (hfold (bs.take m))) ∧ Aside0 (Kd.R k37 37 wr (w.heap.size + 1) (fun _ => True) (.slice A1 bs.length c1) bs) ∧ Aside0 (Below w.heap.size w wr))
    (fun s _ => bs.length - (RowKit.intOf s).toNat)
  case atStart => exact ⟨0, Nat.zero_le _, rfl, ⟨hG1⟩, hC1, hB1⟩
  case round =>
    obtain ⟨m, hm, rfl, hG, hC, hB⟩ := hrel
    by_cases hlt : m < bs.length
    · have hmn : (m : Int) < (bs.length : Int) := by omega
      have hm0 : (0 : Int) ≤ (m : Int) := by omega
      obtain ⟨ad, rfl, q0, q1⟩ := at_T37 (Kd.R_reads' hC.out).2.2 (m : Int) hm0 hmn
      rw [Int.toNat_natCast] at q0 q1
      have htk : bs.take (m + 1) = bs.take m ++ [rd_T37 bs m] := by
        rw [List.take_succ_eq_append_getElem hlt]
        simp [rd_T37, hlt]
      have hme := hin (rd_T37 bs m) (by simp [rd_T37, hlt])
      have hsn := hfold_snoc (bs.take m) (rd_T37 bs m)
      rw [← htk] at hsn
      have hsn' := Aside0.mk hsn
      clear htk hsn
      generalize rd_T37 bs (m : Int) = e at q0 q1 hme hsn'
      obtain ⟨f0, f1⟩ := e
      dsimp only at q0 q1 hme hsn'
      have hgl' := hgl (by omega)
      have hw0 : Wf f0 := wf_small hme.1.1 (by omega)
      have hw1 : Wf f1 := wf_small hme.2.1 (by omega)
      obtain ⟨W3, hW3⟩ : ∃ W3, wr.alloc (.cells #[.int .i64 f0, .int .i64 f1] 37) = W3 := ⟨_, rfl⟩
      have hgr3 : wr.grownBy W3 none := by rw [← hW3]; exact World.grownBy_alloc _ _ _
      have hB3 : Below w.heap.size w W3 := by rw [← hW3]; exact below_alloc hB.out _
      have e0 : W3.cell? ⟨wr.heap.size, 0, none⟩ = some (.int .i64 f0) := by rw [← hW3]; simp [go_sem]
      have e1 : W3.cell? ⟨wr.heap.size, 1, none⟩ = some (.int .i64 f1) := by rw [← hW3]; simp [go_sem]
      have hG3 : GrpAt W3.drew w.heap.size m (hfold (bs.take m)) := hG.out.grown (show wr.grownBy W3.drew none from ⟨hgr3.os, hgr3.tape, hgr3.output, hgr3.size, hgr3.block⟩)
      obtain ⟨i0, hi, hz0, hz1, hz2⟩ := info_parts info3
      obtain ⟨W4, hW4⟩ : ∃ W4, W3.drew.alloc (.cells #[.int .i64 f0] 3) = W4 := ⟨_, rfl⟩
      have hgr4 : W3.drew.grownBy W4 none := by rw [← hW4]; exact World.grownBy_alloc _ _ _
      have hG4 := hG3.grown hgr4
      have e2 : W4.cell? ⟨wr.heap.size, 0, none⟩ = some (.int .i64 f0) := by rw [← hW4]; exact (World.cell?_alloc_lt _ _ _ (World.block_lt_of_cell? W3 _ e0)).trans e0
      have e3 : W4.cell? ⟨wr.heap.size, 1, none⟩ = some (.int .i64 f1) := by rw [← hW4]; exact (World.cell?_alloc_lt _ _ _ (World.block_lt_of_cell? W3 _ e1)).trans e1
      obtain ⟨v, l1, l2, l3, l4⟩ := hG4.look (by unfold maxLen; omega) hw1
      have l0 := hG3.look2 hgr4 hw1 l1
      have hown4 : W4.ownsRow (w.heap.size + 1) 3 1 v (hfold (bs.take m) f1).length ((hfold (bs.take m) f1).map (Value.int .i64)) := l2.1
      have hsz4 : W4.heap.size = W3.heap.size + 1 := by rw [← hW4]; simp
      obtain ⟨v', W5, a1, a2, a3, a4, a5⟩ := run_append_own_at (P := Try.prog) W4 (w.heap.size + 1) 27 27 3 i0 _ 1 8 Try.underlying27 hi hz0 hz1 hz2 rfl (by decide) v _ _ hown4 ⟨W3.heap.size, 0, none⟩ 1 1 [.int .i64 f0] rfl (by rw [← hW4]; exact cell_one_new W3.drew _ _) (by simp [Value.oneCell']) (by unfold maxLen; omega) (by omega) (by have := hB3.size; omega)
      have hB4 : Below w.heap.size w W4 := (hB3.trans (show Below w.heap.size W3 W3.drew from ⟨rfl, rfl, rfl, Nat.le_refl _, fun _ _ => rfl⟩)).grown hgr4 (show w.heap.size ≤ W3.drew.heap.size from hB3.size) (fun j ej => by cases ej)
      have hblk : W4.heap[wr.heap.size]? = some (.cells #[.int .i64 f0, .int .i64 f1] 37 (0, 0)) := by
        rw [← hW4, Below.heap_alloc _ _ _ (by show wr.heap.size < W3.heap.size; rw [← hW3]; simp)]
        show W3.heap[wr.heap.size]? = _
        rw [← hW3]; exact World.alloc_heap_new _ _
      have hne : some wr.heap.size ≠ v.ownBlock := by
        intro e
        rcases l2.1.2 with ⟨rfl, _⟩ | ⟨gg, cap, cur, rfl, _, hgb, _⟩
        · simp [Value.ownBlock] at e
        · obtain rfl : wr.heap.size = gg := by simpa [Value.ownBlock] using e
          rw [hblk] at hgb
          cases hgb
      have e4 : W5.cell? ⟨wr.heap.size, 1, none⟩ = some (.int .i64 f1) := by
        have hb5 := a3.block wr.heap.size (Array.getElem?_eq_some_iff.1 hblk).1 hne
        unfold World.cell? at e3 ⊢
        rw [show (⟨wr.heap.size, 1, none⟩ : Addr).block = wr.heap.size from rfl] at e3 ⊢
        rw [hb5]; exact e3
      obtain ⟨W6, u1, u2, u3⟩ := l4 W5 v' f0 a3 ⟨by rw [List.length_append, List.map_append]; exact a2, fun z hz => by
        rcases List.mem_append.1 hz with hz | hz
        · exact l2.2 z hz
        · simp only [List.mem_singleton] at hz; subst hz; exact hw0⟩ (a5.imp id fun h => ⟨_, h, Nat.le_refl _⟩)
      have u2' := Aside0.mk u2
      have hB6 : Aside0 (Below w.heap.size w W6) := ⟨(hB4.grown a3 hB4.size (fun j ej => by have := (own_base l2.1 j ej).1; omega)).grown u3 (Nat.le_trans hB4.size a3.size) (fun j ej => by cases ej; exact Nat.le_refl _)⟩
      have hC4 : Kd.R k37 37 W4 (w.heap.size + 1) (fun _ => True) (.slice (some ad) bs.length c1) bs := by
        refine Kd.R_grown (Kd.R_grown hC.out (show wr.grownBy W3.drew none from ⟨hgr3.os, hgr3.tape, hgr3.output, hgr3.size, hgr3.block⟩) (fun _ _ => by simp)) hgr4 (fun _ _ => by simp)
      have hRv : Kd.R (Kd.int .i64) 3 W4 (w.heap.size + 1) (fun _ => True) v (hfold (bs.take m) f1) := Kd.R_of_own l2.1 (fun _ _ => trivial)
      have hC5 := Kd.R_over hC4 hRv (by decide) a3
      have hC6 := Aside0.mk (Kd.R_mono (Kd.R_grown (Kd.R_bound hC5) u3 (fun k hk => by have := hk.2.1; intro e; injection e with e; omega)) (fun _ _ => trivial))
      clear l4 u2 u3 a2 a3 a4 a5 hown4 l2 hG3 hG4 hgr4
      go_wp2_with fail
      go_region_law (refine step_append_run rfl (.tmp 25) (.tmp 28) 27 rfl v (.slice (some ⟨W3.heap.size, 0, none⟩) 1 1) v' W5 (by simp [Act.eval, Act.put]) (by simp [Act.eval, Act.put]) a1 ?_)
      all_goals
        go_wp2_with fail
        go_roundw
        case rel => exact ⟨m + 1, by omega, by go_num, ⟨by rw [hsn'.out]; exact u2'.out⟩, hC6, hB6⟩
        case measure => simp [RowKit.intOf]; omega
    · obtain rfl : m = bs.length := by omega
      have hG2 := hG.out
      rw [List.take_length] at hG2
      generalize hH : hfold bs = H at hG2 ⊢
      obtain ⟨kp, hkp⟩ := (preds_ev g).get
      generalize hP00 : (if rightB g = true then predsOf g else []) = P0 at hkp
      have hP0 := Aside0.mk hP00
      clear hP00
      have hpr := graph_Preds.calls kp A c g _ wr (Kd.C_below h hB.out) hc hkp
      have hG2' := Aside0.mk hG2
      clear hG hG2 hC hC1 hG1
      go_wp2_with fail
      refine hpr.mono ?_
      rintro e w2 ⟨v2, rfl, hv2, hb2⟩
      have hB2 := hB.out.trans (hb2.mono hB.out.size)
      have hre := graph_Reach.calls A c g 0 _ w2 (Kd.C_below h hB2) hc rfl
      go_wp2_with fail
      refine hre.mono ?_
      rintro e w3 ⟨v3, rfl, hv3, hb3⟩
      have hG3 : GrpAt w3 w.heap.size bs.length H := (hG2'.out.grown (grown_of_below hb2 none)).grown (grown_of_below hb3 none)
      have hB3 := hB2.trans (hb3.mono hB2.size)
      obtain ⟨D, Rr, hown, hhas⟩ := hG3.keys
      have hso := sorted58_calls w.heap.size bs.length _ w3 hown hhas (by omega)
      have hv2' := Kd.S_below hv2 hb3
      obtain ⟨A2, c2, rfl⟩ := Kd.S_slice hv2'
      obtain ⟨A3, c3, rfl⟩ := Kd.R_slice hv3
      have hP2 := Aside0.mk (Kd.S_reads' hv2').2.2
      have hP3 := Aside0.mk (Kd.R_reads' hv3).2.2
      have hG3' := Aside0.mk hG3
      have hB3' := Aside0.mk hB3
      clear hpr hre hv2 hv3 hb2 hb3 hB2 hB3 hB hG2' hG3 hv2' hown hhas
      go_wp2_with fail
      refine (keys58_calls _ _).mono ?_
      rintro e w' ⟨rfl, rfl⟩
      go_wp2_with fail
      refine hso.mono ?_
      rintro e w5 ⟨v5, ks, rfl, k1, k2, k3, k4, k5⟩
      obtain ⟨A5, c5, rfl⟩ := Kd.R_slice k4
      have hG5 := Aside0.mk (hG3'.out.grown (grown_of_below k5 none))
      have hQ2 := Aside0.mk (Kd.C_below hP2.out k5)
      have hQ3 := Aside0.mk (Kd.C_below hP3.out k5)
      have hK5 := Aside0.mk (Kd.R_reads' k4).2.2
      have hB5 := Aside0.mk (hB3'.out.trans (k5.mono hB3'.out.size))
      have k1' := Aside0.mk k1
      have k2' := Aside0.mk k2
      clear hso hP2 hP3 hG3' hB3' k1 k2 k4 k5
      go_wp2_with fail
      go_loopw [8, 39] (fun s8 s39 wr => ∃ m : Nat, m ≤ ks.length ∧ s39 = .int .i64 m ∧ Aside0 (Kd.S (Kd.slice 3 (Kd.int .i64)) 27 wr w5.heap.size (fun _ => True) s8 ((ks.take m).map fun h => bodyRes (predsOf g) (reachRes g 0) h.toNat (H h))) ∧ Aside0 (Below w5.heap.size w5 wr))
        (fun _ s39 _ => ks.length - (RowKit.intOf s39).toNat)
      case atStart => exact ⟨0, Nat.zero_le _, rfl, ⟨Kd.S_nil _ _ _ _ _⟩, ⟨Below.refl _ _⟩⟩
      case round =>
        obtain ⟨m, hm, rfl, hv, hB⟩ := hrel
        by_cases hlt : m < ks.length
        · have hmn : (m : Int) < (ks.length : Int) := by omega
          have hm0 : (0 : Int) ≤ (m : Int) := by omega
          obtain ⟨ad, rfl, q0⟩ := Kd.at_int (Kd.C_below hK5.out hB.out) (m : Int) hm0 hmn
          rw [Int.toNat_natCast, rdI hlt] at q0
          have htk : ks.take (m + 1) = ks.take m ++ [ks[m]] := List.take_succ_eq_append_getElem hlt
          have hxm : ks[m] ∈ ks := List.getElem_mem hlt
          generalize ks[m] = x at q0 htk hxm
          have hHx := (k2'.out x).1 hxm
          have hHne : H x ≠ [] := by intro e; rw [e] at hHx; cases hHx
          obtain ⟨y0, hy0⟩ := List.exists_mem_of_ne_nil _ hHne
          have hmemH : ∀ y ∈ H x, 0 ≤ y ∧ y < (g.length : Int) := by
            intro y hy
            rw [← hH, hfold_mem] at hy
            obtain ⟨e, he, _, rfl⟩ := hy
            exact (hin e he).1
          rw [← hH, hfold_mem] at hy0
          obtain ⟨e0, he0, hx0, _⟩ := hy0
          have hxr := (hin e0 he0).2
          rw [hx0] at hxr
          have hbp : 0 < bs.length := List.length_pos_of_mem he0
          have hrt := hrt0 hbp
          obtain ⟨hgn, hg1, hgr⟩ := right_rows hrt
          obtain rfl : P0 = predsOf g := by rw [← hP0.out, if_pos hrt]
          obtain ⟨xn, rfl⟩ := Int.eq_ofNat_of_zero_le hxr.1
          have hwx : Wf (xn : Int) := wf_small hxr.1 (by omega)
          have hGq := hG5.out.grown (grown_of_below hB.out none)
          obtain ⟨vr, l1, l2, l3, _⟩ := hGq.look (by unfold maxLen; omega) hwx
          have hRr : Kd.R (Kd.int .i64) 3 wr (w.heap.size + 1) (fun _ => True) vr (H xn) := Kd.R_of_own l2.1 (fun _ _ => trivial)
          obtain ⟨Ar, cr, rfl⟩ := Kd.R_slice hRr
          have hrr := Kd.R_reads' hRr
          have hlp : (predsOf g).length = g.length := predsOf_len g
          have hlr : (reachRes g 0).length = (predsOf g).length := by
            rw [hlp]; unfold reachRes; rw [if_pos ⟨hrt, by omega, by omega⟩, marks_len]
          have hbo : Calls Try.prog 59 #[.slice A2 (predsOf g).length c2, .slice A3 (reachRes g 0).length c3, .int .i64 xn, .slice Ar (H xn).length cr] wr fun e w' => ∃ v, e = .returned v ∧
              Kd.R (Kd.int .i64) 3 w' wr.heap.size (fun _ => True) v (bodyRes (predsOf g) (reachRes g 0) xn (H xn)) ∧ Below wr.heap.size wr w' := by
            have hq3 := Kd.C_below hQ3.out hB.out
            rw [hlr] at hq3 ⊢
            refine body_calls A2 A3 Ar c2 c3 cr (predsOf g) (reachRes g 0) xn (H xn) wr (Kd.C_below hQ2.out hB.out) hq3 hrr.2.2 hrr.2.1 (by omega) ?_ ?_ (by omega) ?_ (by omega)
            · intro l hl y hy
              obtain ⟨j, hj, rfl⟩ := List.getElem_of_mem hl
              have : y ∈ rowOf (predsOf g) j := by unfold rowOf; rw [List.getD_eq_getElem?_getD, List.getElem?_eq_getElem hj]; exact hy
              rw [predsOf_mem hgr] at this
              obtain ⟨i, hi, rfl, _⟩ := this
              omega
            · intro y hy
              have := hmemH y hy; omega
            · have h1 := tot_pfold hgr g.length (Nat.le_refl _)
              rw [List.take_length] at h1
              have h2 := tot_le (right_8 hrt)
              unfold predsOf; omega
          have hml : ((ks.take m).map fun h => bodyRes (predsOf g) (reachRes g 0) h.toNat (H h)).length ≤ 1000000 := by
            rw [List.length_map, List.length_take]; have := k3; omega
          have htk' : ((ks.take (m + 1)).map fun h => bodyRes (predsOf g) (reachRes g 0) h.toNat (H h)) = ((ks.take m).map fun h => bodyRes (predsOf g) (reachRes g 0) h.toNat (H h)) ++ [bodyRes (predsOf g) (reachRes g 0) xn (H xn)] := by
            rw [htk, List.map_append]; simp
          generalize hL : ((ks.take m).map fun h => bodyRes (predsOf g) (reachRes g 0) h.toNat (H h)) = L at hv hml htk'
          generalize bodyRes (predsOf g) (reachRes g 0) xn (H xn) = row at hbo htk'
          have htk2 := Aside0.mk htk'
          clear hL htk htk' hmemH hHx hHne hRr hrr hGq l2 l3 hlp hlr
          go_wp2_with fail
          refine hbo.mono ?_
          rintro e w6 ⟨v6, rfl, hR6, hB6⟩
          obtain ⟨A6, c6, rfl⟩ := Kd.R_slice hR6
          have hv3 := Aside0.mk (Kd.S_mono (Kd.S_below (Kd.S_bound hv.out) hB6) (ok' := fun k => True ∧ ¬ wr.heap.size ≤ k) (fun k hk => ⟨trivial, by have := hk.2.2.1; omega⟩))
          have hcM := Aside0.mk (Kd.M_row (Kd.R_lower (Kd.R_mono (Kd.R_bound hR6) (ok' := fun k => wr.heap.size ≤ k) (fun k hk => hk.2.1)) hB.out.size))
          have hvl := Aside0.mk (Kd.S_lt hv.out)
          have hB3' := Aside0.mk (hB.out.trans (hB6.mono hB.out.size))
          clear hbo hR6 hB6 hv hB q0
          go_wp2_with (at_builtin; refine Kd.S_append (Kd.slice 3 (Kd.int .i64)) (w0 := w5) w5.heap.size rfl (.tmp 43) (.tmp 51) 22 27 (.slice none 0 0) 24 rfl Try.underlying22 info27 rfl (by decide) (by omega) _ L row [.slice A6 row.length c6] (fun _ => True) (fun k => wr.heap.size ≤ k) rfl rfl hcM.out (fun k hk => ⟨trivial, fun e => by have := hvl.out k e.symm; omega⟩) (fun _ _ => trivial) hv3.out hB3'.out hB3'.out.size (by omega) ?_; intro v7 w7 hown7 hb7 hg7 hat7; have hv7 := Aside0.mk hown7; have hb7' := Aside0.mk hb7; clear hown7 hb7 hg7 hat7)
          go_roundw
          case rel => exact ⟨m + 1, by omega, by go_num, ⟨by rw [htk2.out]; exact hv7.out⟩, hb7'⟩
          case measure => simp [RowKit.intOf]; omega
        · obtain rfl : m = ks.length := by omega
          have hv2 := hv.out
          rw [List.take_length] at hv2
          have hks : ks = headsOf g.length H := by
            refine rising_eq k1'.out ?_ fun k => ?_
            · unfold Rising headsOf
              rw [List.pairwise_map]
              exact (List.pairwise_lt_range.filter _).imp (fun h => by omega)
            · rw [k2'.out]
              unfold headsOf
              simp only [List.mem_map, List.mem_filter, List.mem_range]
              constructor
              · intro h1
                have h2 : H k ≠ [] := by intro e; rw [e] at h1; cases h1
                obtain ⟨y, hy⟩ := List.exists_mem_of_ne_nil _ h2
                rw [← hH, hfold_mem] at hy
                obtain ⟨e, he, rfl, _⟩ := hy
                have := (hin e he).2
                obtain ⟨a, ha⟩ := Int.eq_ofNat_of_zero_le this.1
                exact ⟨a, ⟨by omega, by rw [← ha]; exact h1⟩, ha.symm⟩
              · rintro ⟨a, ⟨_, h2⟩, rfl⟩
                exact h2
          have hv3 := Aside0.mk hv2
          clear hv hv2
          go_wp2_with fail
          go_ret
          refine ⟨_, rfl, ?_, hB5.out.trans (hB.out.mono hB5.out.size)⟩
          rw [hH, ← hks]
          exact Kd.S_lower hv3.out hB5.out.size
end Go.Proofs.Ytkmbhknmjnbanaa.A

