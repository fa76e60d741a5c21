/- Parts of the proof, in the order in which they rest on one another. -/
import Derived.Test.YtkmbhknmjnbanaaMTells3
import Derived.Below
import Derived.Deep.Draws
import Derived.Deep.AppendLies
import Derived.Maps.AppendAt
import Derived.OwnWalk
import Derived.Laws.BytesArg
import Derived.Laws.MakeOwn
import Derived.Laws.OwnMore
import Derived.Deep.OwnRows
import Derived.Tactics
import Derived.Lib.ConvBytes
import Derived.Laws.Slices
import Derived.WalkKit
import Derived.KernelRfl
import Derived.RowKit3
import Derived.Deep.LoopGhost
import Derived.Deep.QuietTactic
import Derived.BigQuiet
import Derived.WideLaws
import Derived.Deep.DeepCutAuto
import Derived.Deep.CutBlock
import Derived.Deep.RegionHeld3
import Derived.Laws.Rows
import Derived.Lib.AppendStr
import Derived.ArgAppend
import Derived.Laws.IdiomCopy
import Derived.RowKit
import Derived.OrdersHeld
import Derived.Laws.BitsLemmas
import Derived.Laws.StructEq
import Derived.Test.YtkmbhknmjnbanaaProg
import Derived.Shelf.Abstract
import Derived.Lib.Walk
import Derived.RangeFuncWrites
import Derived.RangeFuncNested
import Derived.RangeFuncBound
import Derived.RangeFuncCalls
import Derived.RangeFuncLeaves
import Derived.Shelf.RegionOpen
import Derived.OwnWalkIn
import Derived.TacticsInMore
import Derived.LoopNIn
import Derived.LoopIn
import Derived.Laws.EntriesVeiled
import Derived.RangeFuncBox
import Derived.Laws.CopyOwn
import Derived.Deep.RegionLaw
import Derived.BigRegion
import Derived.WalkSpells
import Derived.Shelf.SlIterI.Nil
import Derived.Shelf.SortM.Plain
import Derived.Shelf.SortM.SortNone
import Derived.Ground.GgzProg
import Derived.Ground.SlgmProg
import Derived.Shelf.SlGeneric
import Derived.Maps.Own
import Derived.Maps.OwnOps
import Derived.Maps.OwnSet
import Derived.Maps.Views
import Derived.RangeFuncRecord
import Derived.Deep.RegionLawGrows
import Derived.Deep.Upon
import Derived.Maps.OwnRows
import Derived.Maps.GroupsBeside
namespace Go.Proofs.Ytkmbhknmjnbanaa.A
open Go.RowKit Go.Proofs.YtkmbhknmjnbanaaW.PrintWords Go.Proofs.YtkmbhknmjnbanaaW.PrintLast Go.Proofs.YtkmbhknmjnbanaaW.PrintMore
attribute [local go_sem] max2_int min2_int max_two min_two max_three min_three max_four min_four   -- for this text's walks alone
set_option linter.unusedVariables false
set_option linter.unusedSimpArgs false

mutual
def swageref06_Preds.l0 : Nat → List (List Int) → List (List Int) → Int → Option ((List (List Int)))
  | 0, _, _, _ => none
  | k + 1, x0, x4, x5 => if x5 < (x0.length : Int) then (swageref06_Preds.l1 k x0 x4 x5 0) else (some x4)
def swageref06_Preds.l1 : Nat → List (List Int) → List (List Int) → Int → Int → Option ((List (List Int)))
  | 0, _, _, _, _ => none
  | k + 1, x0, x4, x5, x6 => if 0 ≤ x5 then (if x5 < (x0.length : Int) then (if x6 < ((rd_L1 x0 x5).length : Int) then (if 0 ≤ x6 then (if 0 ≤ (rd (rd_L1 x0 x5) x6) then (if (rd (rd_L1 x0 x5) x6) < (x4.length : Int) then (if (rd_L1 x4 (rd (rd_L1 x0 x5) x6)).length < 17592186044416 then (swageref06_Preds.l1 k x0 (x4.set ((rd (rd_L1 x0 x5) x6) : Int).toNat ((rd_L1 x4 (rd (rd_L1 x0 x5) x6)) ++ [x5])) x5 (wrap64 (x6 + 1))) else (none)) else (none)) else (none)) else (none)) else (swageref06_Preds.l0 k x0 x4 (wrap64 (x5 + 1)))) else (none)) else (none)
end
def swageref06_Preds.f (k : Nat) (l0 : List (List Int)) : Option ((List (List Int))) := (swageref06_Right.f k l0).bind fun t291 => (if t291 = true then (if 0 ≤ (l0.length : Int) then (if ((l0.length : Int) : Int).toNat ≤ 11728124029610 then (swageref06_Preds.l0 k l0 (List.replicate ((l0.length : Int) : Int).toNat []) 0) else (none)) else (none)) else (some ([] : List (List Int))))
def swageref06_Preds.T11 : Bool × List (List Nat × List Nat) := (true, [([], []), ([], []), ([], []), ([1, 2], [1, 2]), ([3], [3]), ([], []), ([4, 5], [4, 5]), ([6], [6]), ([], []), ([], []), ([], []), ([9, 10], [9, 10]), ([11], [11]), ([], []), ([12, 13], [12, 13]), ([14], [14]), ([8, 15], [8, 15]), ([16], [16]), ([], []), ([18], [18]), ([17, 19], [17, 19]), ([0, 7, 0, 1, 2, 3, 4, 5, 6, 7, 8, 9, 10, 11, 12, 13, 14, 15, 16, 17, 18, 19, 20], [0, 7]), ([21, 20, 20, 0, 1, 2, 3, 4, 5, 6, 7, 8, 9, 10, 11, 12, 13, 14, 15, 16, 17, 18, 19, 20], [20, 21])])
def swageref06_Preds.B11 : List Nat := [0, 0, 0, 6, 14, 0, 62, 126, 0, 0, 0, 1536, 3584, 0, 15872, 32256, 65280, 130816, 0, 262144, 1048320, 2097151, 4194303]
theorem swageref06_Preds.tab11 : rtab .any (opsOf Try.f18 11) = swageref06_Preds.T11 := by kernel_rfl
theorem swageref06_Preds.bits11 : waitsOk swageref06_Preds.T11.2 swageref06_Preds.B11 = true := by kernel_rfl
set_option maxHeartbeats 8000000 in
set_option maxRecDepth 100000 in
theorem swageref06_Preds.calls (k : Nat) (A0 : Option Addr) (c0 : Nat) (l0 : List (List Int)) (r : List (List Int)) (w : World) (hr0 : Kd.C (Kd.slice 3 (Kd.int .i64)) w A0 l0.length l0) (hc0 : l0.length ≤ c0) (h : swageref06_Preds.f k l0 = some r) :
    Calls Try.prog 18 #[.slice A0 l0.length c0] w fun e w' => ∃ v0_ : Value, e = .returned (v0_) ∧ Kd.S (Kd.slice 3 (Kd.int .i64)) 27 w' w.heap.size (fun _ => True) v0_ r ∧ Below w.heap.size w w' := by
  have HR0 := Aside0.mk hr0
  have HC0 := Aside0.mk hc0
  clear hr0 hc0
  have HB := Aside0.mk (Below.refl w.heap.size w)
  have H : ((swageref06_Right.f k l0).bind fun t291 => (if t291 = true then (if 0 ≤ (l0.length : Int) then (if ((l0.length : Int) : Int).toNat ≤ 11728124029610 then (swageref06_Preds.l0 k l0 (List.replicate ((l0.length : Int) : Int).toNat []) 0) else (none)) else (none)) else (some ([] : List (List Int))))) = some r := h
  clear h
  replace H := Option.bind_eq_some_iff.mp H
  obtain ⟨t291, A20, H⟩ := H
  replace H : (if t291 = true then (if 0 ≤ (l0.length : Int) then (if ((l0.length : Int) : Int).toNat ≤ 11728124029610 then (swageref06_Preds.l0 k l0 (List.replicate ((l0.length : Int) : Int).toNat []) 0) else (none)) else (none)) else (some ([] : List (List Int)))) = some r := H
  have A2 := Aside0.mk A20
  clear A20
  by_cases c3 : t291 = true
  · subst c3
    have H1 : (if 0 ≤ (l0.length : Int) then (if ((l0.length : Int) : Int).toNat ≤ 11728124029610 then (swageref06_Preds.l0 k l0 (List.replicate ((l0.length : Int) : Int).toNat []) 0) else (none)) else (none)) = some r := by rw [if_pos rfl] at H; exact H
    clear H
    have H := H1
    clear H1
    by_cases c4 : 0 ≤ (l0.length : Int)
    · rw [if_pos c4] at H
      have c4b0 := eq_true c4
      have c4b1 : decide (0 ≤ (l0.length : Int)) = true := decide_eq_true c4
      clear c4
      by_cases c5 : ((l0.length : Int) : Int).toNat ≤ 11728124029610
      · rw [if_pos c5] at H
        have c5b0 := eq_true c5
        have c5b1 : decide (((l0.length : Int) : Int).toNat ≤ 11728124029610) = true := decide_eq_true c5
        clear c5
        obtain ⟨y292, hy292⟩ : ∃ y_ : List (List Int), y_ = (List.replicate ((l0.length : Int) : Int).toNat []) := ⟨_, rfl⟩
        replace H : (swageref06_Preds.l0 k l0 y292 0) = some r := by first | (rw [hy292]; with_reducible exact H) | (have H2_ := (Option.bind_some _ _).symm.trans H; rw [hy292]; with_reducible exact H2_) | (have H2_ := (Option.bind_some _ _).symm.trans H; with_reducible exact H2_) | with_reducible exact H | (rw [hy292]; exact H) | exact H
        have Ny292 := Aside0.mk hy292
        clear hy292
        have H' := Aside0.mk H
        clear H
        go_enter Try.func18, Try.ntmps18
        go_wp2_with (first | ((with_reducible refine gate_callee (f := 20) rfl ?_); refine goesL_ (some 8) rfl rfl Try.func20 (by kernel_rfl) rfl #[.slice A0 l0.length c0] rfl (by (try simp only [List.map_toArray, List.map_cons, List.map_nil]); first | done | rfl | (simp only [List.length_drop, List.length_take]; rfl)) ?_; (with_reducible refine (swageref06_Right.calls k _ _ l0 true _ ?side1 ?side2 A2.out).mono ?_); (case side1 => repeat (first | exact HR0.out | (with_reducible refine Kd.C_alloc ?_ _) | (with_reducible refine Kd.C_drewN ?_ _) | (with_reducible refine Kd.C_drew ?_))); (case side2 => exact HC0.out); rintro e w' ⟨rfl, ⟨nd, rfl⟩⟩; refine ⟨_, rfl, ?_⟩) | ((with_reducible refine gate_dst (N := 13) rfl ?_); refine Kd.S_make (Kd.slice 3 (Kd.int .i64)) _ 27 rfl (N := 13) rfl 22 _ _ rfl (l0.length : Int) rfl rfl Try.underlying22 (.slice none 0 0) 24 info27 rfl (by decide) (by omega) [] (ok := fun _ => True) (okp := fun _ => True) ⟨_, rfl, Kd.R_nil _ _ _ _ _⟩ (fun _ hk => hk) trivial (of_decide_eq_true (by first | (with_reducible assumption) | assumption)) (Nat.le_trans (Nat.mul_le_mul_right _ (of_decide_eq_true (by first | (with_reducible assumption) | assumption) : (l0.length : Int).toNat ≤ 11728124029610)) (by omega)) (Below.refl _ _) (Nat.le_refl _) ?_; intro v293 w6 ho7 hb hg_ hnew_; clear hg_ hnew_; (first | rw [← Ny292.out] at ho7 | (simp only [Int.reduceToNat] at ho7; rw [← Ny292.out] at ho7)); have n0_ := Aside0.mk (Kd.S_lower ho7 (below_size (by repeat (first | (with_reducible first | exact HB.out | apply below_alloc | apply pw_below_drewN | apply below_drew1) | exact HB.out)))); have n1_ := Aside0.mk (below_step (by repeat (first | (with_reducible first | exact HB.out | apply below_alloc | apply pw_below_drewN | apply below_drew1) | exact HB.out)) hb); clear HB; have HO294 := n0_; have HB := n1_; clear n0_ n1_; clear hb ho7))
        go_loopg [5] k (fun kq v5 w' => ∃ (x4_1 : List (List Int)) (x5_1 : Int), v5 = .int .i64 x5_1 ∧ Aside0 (swageref06_Preds.l0 kq l0 x4_1 x5_1 = some r) ∧ Aside0 (kq ≤ k) ∧ Aside0 (Kd.S (Kd.slice 3 (Kd.int .i64)) 27 w' w.heap.size (fun _ => True) v293 x4_1) ∧ Aside0 (Below w.heap.size w w'))
        case atStart => exact ⟨(y292), (0), (by first | rfl | (simp; done) | (simp [*]; done)), H', ⟨Nat.le_refl _⟩, ⟨by (with_reducible repeat (first | apply Kd.S_alloc | apply Kd.S_drewN | apply Kd.S_drew)); exact HO294.out⟩, ⟨by repeat (first | (with_reducible first | exact HB.out | apply below_alloc | apply pw_below_drewN | apply below_drew1) | exact HB.out)⟩⟩
        case round =>
          clear H'
          try clear c1
          try clear c2
          try clear p2
          try clear c3
          try clear c4
          try clear c4b0
          try clear c4b1
          try clear c5
          try clear c5b0
          try clear c5b1
          obtain ⟨x4_1, x5_1, rfl, HA, HK1, HO_4, HB⟩ := hrel
          cases gk with
          | zero => exact absurd HA.out (by simp [swageref06_Preds.l0])
          | succ k1 =>
            have H := HA.out
            clear HA
            simp only [swageref06_Preds.l0] at H
            by_cases c8 : x5_1 < (l0.length : Int)
            · rw [if_pos c8] at H
              have c8b0 : decide (x5_1 < (l0.length : Int)) = true := decide_eq_true c8
              clear c8
              have H' := Aside0.mk H
              clear H
              go_wp2
              go_loopg [6] k1 (fun kq v6 w' => ∃ (x4_2 : List (List Int)) (x6_2 : Int), v6 = .int .i64 x6_2 ∧ Aside0 (swageref06_Preds.l1 kq l0 x4_2 x5_1 x6_2 = some r) ∧ Aside0 (kq ≤ k1) ∧ Aside0 (Kd.S (Kd.slice 3 (Kd.int .i64)) 27 w' w.heap.size (fun _ => True) v293 x4_2) ∧ Aside0 (Below w.heap.size w w'))
              case atStart => exact ⟨(x4_1), (0), (by first | rfl | (simp; done) | (simp [*]; done)), H', ⟨Nat.le_refl _⟩, ⟨by (with_reducible repeat (first | apply Kd.S_alloc | apply Kd.S_drewN | apply Kd.S_drew)); exact HO_4.out⟩, ⟨by repeat (first | (with_reducible first | exact HB.out | apply below_alloc | apply pw_below_drewN | apply below_drew1) | exact HB.out)⟩⟩
              case round =>
                clear H'
                try clear c1
                try clear c2
                try clear p2
                try clear c3
                try clear c4
                try clear c4b0
                try clear c4b1
                try clear c5
                try clear c5b0
                try clear c5b1
                try clear c8
                try clear c8b0
                try clear p2
                obtain ⟨x4_2, x6_2, rfl, HA, HK2, HO_4, HB⟩ := hrel
                cases gk with
                | zero => exact absurd HA.out (by simp [swageref06_Preds.l1])
                | succ k2 =>
                  have H := HA.out
                  clear HA
                  simp only [swageref06_Preds.l1] at H
                  by_cases c9 : 0 ≤ x5_1
                  · rw [if_pos c9] at H
                    have c9b0 : decide (0 ≤ x5_1) = true := decide_eq_true c9
                    clear c9
                    by_cases c10 : x5_1 < (l0.length : Int)
                    · rw [if_pos c10] at H
                      have c10b0 : decide (x5_1 < (l0.length : Int)) = true := decide_eq_true c10
                      clear c10
                      by_cases c11 : x6_2 < ((rd_L1 l0 x5_1).length : Int)
                      · rw [if_pos c11] at H
                        have c11b0 : decide (x6_2 < ((rd_L1 l0 x5_1).length : Int)) = true := decide_eq_true c11
                        clear c11
                        by_cases c12 : 0 ≤ x6_2
                        · rw [if_pos c12] at H
                          have c12b0 : decide (0 ≤ x6_2) = true := decide_eq_true c12
                          clear c12
                          by_cases c13 : 0 ≤ (rd (rd_L1 l0 x5_1) x6_2)
                          · rw [if_pos c13] at H
                            have c13b0 : decide (0 ≤ (rd (rd_L1 l0 x5_1) x6_2)) = true := decide_eq_true c13
                            clear c13
                            by_cases c14 : (rd (rd_L1 l0 x5_1) x6_2) < (x4_2.length : Int)
                            · rw [if_pos c14] at H
                              have c14b0 : decide ((rd (rd_L1 l0 x5_1) x6_2) < (x4_2.length : Int)) = true := decide_eq_true c14
                              clear c14
                              by_cases c15 : (rd_L1 x4_2 (rd (rd_L1 l0 x5_1) x6_2)).length < 17592186044416
                              · rw [if_pos c15] at H
                                have LMc15 := Aside0.mk c15
                                clear c15
                                obtain ⟨y301, hy301⟩ : ∃ y_ : List Int, y_ = ((rd_L1 x4_2 (rd (rd_L1 l0 x5_1) x6_2)) ++ [x5_1]) := ⟨_, rfl⟩
                                replace H : (swageref06_Preds.l1 k2 l0 (x4_2.set ((rd (rd_L1 l0 x5_1) x6_2) : Int).toNat y301) x5_1 (wrap64 (x6_2 + 1))) = some r := by first | (rw [hy301]; with_reducible exact H) | (have H2_ := (Option.bind_some _ _).symm.trans H; rw [hy301]; with_reducible exact H2_) | (have H2_ := (Option.bind_some _ _).symm.trans H; with_reducible exact H2_) | with_reducible exact H | (rw [hy301]; exact H) | exact H
                                have Ny301 := Aside0.mk hy301
                                clear hy301
                                obtain ⟨y304, hy304⟩ : ∃ y_ : List (List Int), y_ = (x4_2.set ((rd (rd_L1 l0 x5_1) x6_2) : Int).toNat y301) := ⟨_, rfl⟩
                                replace H : (swageref06_Preds.l1 k2 l0 y304 x5_1 (wrap64 (x6_2 + 1))) = some r := by first | (rw [hy304]; with_reducible exact H) | (have H2_ := (Option.bind_some _ _).symm.trans H; rw [hy304]; with_reducible exact H2_) | (have H2_ := (Option.bind_some _ _).symm.trans H; with_reducible exact H2_) | with_reducible exact H | (rw [hy304]; exact H) | exact H
                                have Ny304 := Aside0.mk hy304
                                clear hy304
                                have H' := Aside0.mk H
                                clear H
                                have p295 : 0 ≤ (x5_1 : Int) := of_decide_eq_true (by first | (with_reducible assumption) | assumption)
                                have q295 : x5_1 < (l0.length : Int) := of_decide_eq_true (by first | (with_reducible assumption) | assumption)
                                obtain ⟨ad295, A295_0, c295_0, e295, hx295_0, hl295_0, hi295_0⟩ := at_L1 HR0.out x5_1 p295 q295
                                cases e295
                                replace hx295_0 := (HB.out.cell (World.block_lt_of_cell? w _ hx295_0)).trans hx295_0
                                have HR295_0 := Aside0.mk hi295_0
                                have HC295_0 := Aside0.mk hl295_0
                                clear hi295_0 hl295_0
                                replace p295 := eq_true p295
                                replace q295 := eq_true q295
                                try go_wp2
                                have n0_ := Aside0.mk (Kd.S_drew HO_4.out)
                                have n1_ := Aside0.mk (below_drew1 HB.out)
                                clear HO_4
                                clear HB
                                have HO_4 := n0_
                                have HB := n1_
                                clear n0_ n1_
                                have p296 : 0 ≤ (x5_1 : Int) := of_decide_eq_true (by first | (with_reducible assumption) | assumption)
                                have q296 : x5_1 < (l0.length : Int) := of_decide_eq_true (by first | (with_reducible assumption) | assumption)
                                obtain ⟨ad296, A296_0, c296_0, e296, hx296_0, hl296_0, hi296_0⟩ := at_L1 HR0.out x5_1 p296 q296
                                have hw296_0 := hx296_0
                                obtain rfl : ad295 = ad296 := (by injection e296)
                                replace hx296_0 := (HB.out.cell (World.block_lt_of_cell? w _ hx296_0)).trans hx296_0
                                have HR296_0 := Aside0.mk hi296_0
                                have HC296_0 := Aside0.mk hl296_0
                                clear hi296_0 hl296_0
                                replace p296 := eq_true p296
                                replace q296 := eq_true q296
                                have p297 : 0 ≤ (x6_2 : Int) := of_decide_eq_true (by first | (with_reducible assumption) | assumption)
                                have q297 : x6_2 < ((rd_L1 l0 x5_1).length : Int) := of_decide_eq_true (by first | (with_reducible assumption) | assumption)
                                obtain ⟨ad297, e297, hx297_0⟩ := Kd.at_int HR296_0.out x6_2 p297 q297
                                have hw297_0 := hx297_0
                                cases e297
                                replace hx297_0 := (HB.out.cell (World.block_lt_of_cell? w _ hx297_0)).trans hx297_0
                                replace p297 := eq_true p297
                                replace q297 := eq_true q297
                                have p298 : 0 ≤ (x5_1 : Int) := of_decide_eq_true (by first | (with_reducible assumption) | assumption)
                                have q298 : x5_1 < (l0.length : Int) := of_decide_eq_true (by first | (with_reducible assumption) | assumption)
                                obtain ⟨ad298, A298_0, c298_0, e298, hx298_0, hl298_0, hi298_0⟩ := at_L1 HR0.out x5_1 p298 q298
                                have hw298_0 := hx298_0
                                obtain rfl : ad295 = ad298 := (by injection e298)
                                replace hx298_0 := (HB.out.cell (World.block_lt_of_cell? w _ hx298_0)).trans hx298_0
                                have HR298_0 := Aside0.mk hi298_0
                                have HC298_0 := Aside0.mk hl298_0
                                clear hi298_0 hl298_0
                                replace p298 := eq_true p298
                                replace q298 := eq_true q298
                                have ea_ := Option.some.inj (hx296_0.symm.trans hx298_0)
                                injection ea_ with ea_ en_ ec_
                                subst ea_
                                subst ec_
                                clear en_
                                have p299 : 0 ≤ (x6_2 : Int) := of_decide_eq_true (by first | (with_reducible assumption) | assumption)
                                have q299 : x6_2 < ((rd_L1 l0 x5_1).length : Int) := of_decide_eq_true (by first | (with_reducible assumption) | assumption)
                                obtain ⟨ad299, e299, hx299_0⟩ := Kd.at_int HR298_0.out x6_2 p299 q299
                                have hw299_0 := hx299_0
                                cases e299
                                replace hx299_0 := (HB.out.cell (World.block_lt_of_cell? w _ hx299_0)).trans hx299_0
                                replace p299 := eq_true p299
                                replace q299 := eq_true q299
                                obtain ⟨Ao18, co18, eo18⟩ := Kd.S_slice HO_4.out
                                (first | subst eo18 | (injection eo18 with f1_ f2_ f3_; have f4_ := f1_.symm; have f5_ := f3_.symm; clear f1_ f2_ f3_; subst f4_; subst f5_))
                                have p300 : 0 ≤ ((rd (rd_L1 l0 x5_1) x6_2) : Int) := of_decide_eq_true (by first | (with_reducible assumption) | assumption)
                                have q300 : (rd (rd_L1 l0 x5_1) x6_2) < (x4_2.length : Int) := of_decide_eq_true (by first | (with_reducible assumption) | assumption)
                                obtain ⟨ad300, A300_0, c300_0, e300, hx300_0, hl300_0, hi300_0⟩ := at_L1 (Kd.S_reads' HO_4.out).2.2 (rd (rd_L1 l0 x5_1) x6_2) p300 q300
                                cases e300
                                obtain ⟨ce300, hce300, hMe300, hcc300⟩ := Kd.S_get HO_4.out [] (rd (rd_L1 l0 x5_1) x6_2) p300 (by first | exact q300 | exact of_decide_eq_true (by first | (with_reducible assumption) | assumption) | (have e_ := (Kd.S_reads' HO_4.out).1; omega))
                                obtain ⟨ve300_0, rfl, ge300_0⟩ := hMe300
                                have hv300_0 := hcc300 0 _ rfl
                                rw [Nat.add_zero, show ((Kd.slice 3 (Kd.int .i64))).sz = 1 from rfl, Nat.mul_one] at hv300_0
                                replace hv300_0 := Option.some.inj (hv300_0.symm.trans hx300_0)
                                rw [hv300_0] at ge300_0
                                have HL300_0 := Aside0.mk (show Kd.R (Kd.int .i64) 3 _ _ _ _ (rd_L1 x4_2 (rd (rd_L1 l0 x5_1) x6_2)) from ge300_0)
                                clear hv300_0 ge300_0
                                have HX300_0 := Aside0.mk hx300_0
                                clear hcc300 hce300
                                have HR300_0 := Aside0.mk hi300_0
                                have HC300_0 := Aside0.mk hl300_0
                                clear hi300_0 hl300_0
                                replace p300 := eq_true p300
                                replace q300 := eq_true q300
                                obtain ⟨go19, co19, eo19, gb19, gl19, cl19, HG19⟩ := Kd.S_form HO_4.out (by have h_ : ((rd (rd_L1 l0 x5_1) x6_2) : Int) < ((x4_2.length : Int) : Int) := of_decide_eq_true (by first | (with_reducible assumption) | assumption); have h2_ : 0 ≤ ((rd (rd_L1 l0 x5_1) x6_2) : Int) := (of_decide_eq_true (by first | (with_reducible assumption) | assumption)); omega)
                                (first | cases eo19 | (injection eo19 with ea_ en_ ec_; (first | subst ea_ | (injection ea_ with ea_; subst ea_)); subst ec_; clear en_))
                                have GB19 := Aside0.mk gb19
                                have GG19 := Aside0.mk HG19
                                clear gb19 gl19 HG19
                                (first | simp only [add_plain] at hx300_0 | skip)
                                obtain ⟨oki19, ce19, hcl19, hM19, hcc19, _, _, hH19⟩ := Kd.S_elem HO_4.out [] ((rd (rd_L1 l0 x5_1) x6_2) : Int) (of_decide_eq_true (by first | (with_reducible assumption) | assumption)) (by have h_ : ((rd (rd_L1 l0 x5_1) x6_2) : Int) < ((x4_2.length : Int) : Int) := of_decide_eq_true (by first | (with_reducible assumption) | assumption); first | exact h_ | (have e_ := (Kd.S_reads' HO_4.out).1; omega) | simpa using h_)
                                obtain ⟨ve19_0, rfl, ge19_0⟩ := hM19
                                have hv19 := hcc19 0 _ rfl
                                have hX19 := HX300_0.out
                                (try simp only [add_plain] at hX19)
                                (try simp only [Nat.add_zero] at hv19)
                                (try rw [show ((Kd.slice 3 (Kd.int .i64))).sz = 1 from rfl, Nat.mul_one] at hv19)
                                replace hv19 := Option.some.inj (hv19.symm.trans hX19)
                                subst hv19
                                clear hX19 hcc19 hcl19
                                have UU19 := Aside0.mk (show Kd.R (Kd.int .i64) 3 _ w.heap.size oki19 (.slice A300_0 (rd_L1 x4_2 (rd (rd_L1 l0 x5_1) x6_2)).length c300_0) (rd_L1 x4_2 (rd (rd_L1 l0 x5_1) x6_2)) from ge19_0)
                                have HH19 := Aside0.mk hH19
                                have HN19 := Aside0.mk (Kd.S_reads' HO_4.out).1
                                clear hH19 ge19_0
                                refine start_ (n := 23) (S := fun w' => w'.cell? (ad295.add (x5_1).toNat) = some (.slice (some ad297) (rd_L1 l0 x5_1).length c296_0) ∧ w'.cell? (ad297.add (x6_2).toNat) = some (.int .i64 (rd (rd_L1 l0 x5_1) x6_2)) ∧ w'.cell? (ad295.add (x5_1).toNat) = some (.slice (some ad297) (rd_L1 l0 x5_1).length c296_0) ∧ w'.cell? (ad297.add (x6_2).toNat) = some (.int .i64 (rd (rd_L1 l0 x5_1) x6_2)) ∧ w'.cell? (Addr.mk go19 ((rd (rd_L1 l0 x5_1) x6_2)).toNat none) = some (.slice A300_0 (rd_L1 x4_2 (rd (rd_L1 l0 x5_1) x6_2)).length c300_0)) (ds := [22]) #[false, false, false, false, false, false, false, false, false, false, false, false, false, false, false, false, false, false, false, false, false, false, false] (by kernel_rfl) rfl rfl ⟨((HB.out.cell (World.block_lt_of_cell? w _ hw296_0)).trans hw296_0), ((HB.out.cell (World.block_lt_of_cell? w _ hw297_0)).trans hw297_0), ((HB.out.cell (World.block_lt_of_cell? w _ hw298_0)).trans hw298_0), ((HB.out.cell (World.block_lt_of_cell? w _ hw299_0)).trans hw299_0), hx300_0⟩ (fun hHeld => ?_); refine with_tabW swageref06_Preds.tab11 swageref06_Preds.bits11 (fun HT_ HW_ => ?_)
                                generalize wr.drew = w17 at HO_4 HB GG19 HH19 HL300_0 HR296_0 HR298_0 HR300_0 HX300_0 UU19 hx296_0 hx297_0 hx298_0 hx299_0 hx300_0 hHeld ⊢
                                refine pure_ (i := 0) (N := some 29) (v := ?_) (a' := ?_) #[true, false, false, false, false, false, false, false, false, false, false, false, false, false, false, false, false, false, false, false, false, false, false] rfl rfl (any_of HT_.out (by kernel_rfl)) (fun _ _ _ h => h) (Or.inl ⟨by rfl, ?_⟩) ?_ ?_
                                rotate_left
                                · intro w'
                                  go_simp
                                  with_reducible rfl
                                rotate_left
                                · simp only [Act.put, List.setIfInBounds_toArray, List.set_cons_zero, List.set_cons_succ, i64_w, i32_w]
                                  rfl
                                refine pure_ (i := 1) (N := some 30) (v := ?_) (a' := ?_) #[true, true, false, false, false, false, false, false, false, false, false, false, false, false, false, false, false, false, false, false, false, false, false] rfl rfl (any_of HT_.out (by kernel_rfl)) (fun _ _ _ h => h) (Or.inl ⟨by rfl, ?_⟩) ?_ ?_
                                rotate_left
                                · intro w'
                                  go_simp
                                  with_reducible rfl
                                rotate_left
                                · simp only [Act.put, List.setIfInBounds_toArray, List.set_cons_zero, List.set_cons_succ, i64_w, i32_w]
                                  rfl
                                refine pure_ (i := 2) (N := some 31) (v := ?_) (a' := ?_) #[true, true, true, false, false, false, false, false, false, false, false, false, false, false, false, false, false, false, false, false, false, false, false] rfl rfl (any_of HT_.out (by kernel_rfl)) (fun _ _ _ h => h) (Or.inl ⟨by rfl, ?_⟩) ?_ ?_
                                rotate_left
                                · intro w'
                                  go_simp
                                  with_reducible rfl
                                rotate_left
                                · simp only [Act.put, List.setIfInBounds_toArray, List.set_cons_zero, List.set_cons_succ, i64_w, i32_w]
                                  rfl
                                refine pure_ (i := 3) (N := some 32) (v := ?_) (a' := ?_) #[true, true, true, true, false, false, false, false, false, false, false, false, false, false, false, false, false, false, false, false, false, false, false] rfl rfl (any_of HT_.out (by kernel_rfl)) (fun _ _ _ h => h) (Or.inl ⟨by rfl, ?_⟩) ?_ ?_
                                rotate_left
                                · intro w'
                                  go_simp
                                  with_reducible rfl
                                rotate_left
                                · simp only [Act.put, List.setIfInBounds_toArray, List.set_cons_zero, List.set_cons_succ, i64_w, i32_w]
                                  rfl
                                refine pure_ (i := 5) (N := some 34) (v := ?_) (a' := ?_) #[true, true, true, true, false, true, false, false, false, false, false, false, false, false, false, false, false, false, false, false, false, false, false] rfl rfl (any_of HT_.out (by kernel_rfl)) (fun _ _ _ h => h) (Or.inl ⟨by rfl, ?_⟩) ?_ ?_
                                rotate_left
                                · intro w'
                                  go_simp
                                  with_reducible rfl
                                rotate_left
                                · simp only [Act.put, List.setIfInBounds_toArray, List.set_cons_zero, List.set_cons_succ, i64_w, i32_w]
                                  rfl
                                refine pure_ (i := 8) (N := some 37) (v := ?_) (a' := ?_) #[true, true, true, true, false, true, false, false, true, false, false, false, false, false, false, false, false, false, false, false, false, false, false] rfl rfl (any_of HT_.out (by kernel_rfl)) (fun _ _ _ h => h) (Or.inl ⟨by rfl, ?_⟩) ?_ ?_
                                rotate_left
                                · intro w'
                                  go_simp
                                  with_reducible rfl
                                rotate_left
                                · simp only [Act.put, List.setIfInBounds_toArray, List.set_cons_zero, List.set_cons_succ, i64_w, i32_w]
                                  rfl
                                refine pure_ (i := 9) (N := some 38) (v := ?_) (a' := ?_) #[true, true, true, true, false, true, false, false, true, true, false, false, false, false, false, false, false, false, false, false, false, false, false] rfl rfl (any_of HT_.out (by kernel_rfl)) (fun _ _ _ h => h) (Or.inl ⟨by rfl, ?_⟩) ?_ ?_
                                rotate_left
                                · intro w'
                                  go_simp
                                  with_reducible rfl
                                rotate_left
                                · simp only [Act.put, List.setIfInBounds_toArray, List.set_cons_zero, List.set_cons_succ, i64_w, i32_w]
                                  rfl
                                refine pure_ (i := 10) (N := some 39) (v := ?_) (a' := ?_) #[true, true, true, true, false, true, false, false, true, true, true, false, false, false, false, false, false, false, false, false, false, false, false] rfl rfl (any_of HT_.out (by kernel_rfl)) (fun _ _ _ h => h) (Or.inl ⟨by rfl, ?_⟩) ?_ ?_
                                rotate_left
                                · intro w'
                                  go_simp
                                  with_reducible rfl
                                rotate_left
                                · simp only [Act.put, List.setIfInBounds_toArray, List.set_cons_zero, List.set_cons_succ, i64_w, i32_w]
                                  rfl
                                refine pure_ (i := 11) (N := some 40) (v := ?_) (a' := ?_) #[true, true, true, true, false, true, false, false, true, true, true, true, false, false, false, false, false, false, false, false, false, false, false] rfl rfl (any_of HT_.out (by kernel_rfl)) (fun _ _ _ h => h) (Or.inl ⟨by rfl, ?_⟩) ?_ ?_
                                rotate_left
                                · intro w'
                                  go_simp
                                  with_reducible rfl
                                rotate_left
                                · simp only [Act.put, List.setIfInBounds_toArray, List.set_cons_zero, List.set_cons_succ, i64_w, i32_w]
                                  rfl
                                refine pure_ (i := 13) (N := some 42) (v := ?_) (a' := ?_) #[true, true, true, true, false, true, false, false, true, true, true, true, false, true, false, false, false, false, false, false, false, false, false] rfl rfl (any_of HT_.out (by kernel_rfl)) (fun _ _ _ h => h) (Or.inl ⟨by rfl, ?_⟩) ?_ ?_
                                rotate_left
                                · intro w'
                                  go_simp
                                  with_reducible rfl
                                rotate_left
                                · simp only [Act.put, List.setIfInBounds_toArray, List.set_cons_zero, List.set_cons_succ, i64_w, i32_w]
                                  rfl
                                refine pure_ (i := 18) (N := some 47) (v := ?_) (a' := ?_) #[true, true, true, true, false, true, false, false, true, true, true, true, false, true, false, false, false, false, true, false, false, false, false] rfl rfl (any_of HT_.out (by kernel_rfl)) (fun _ _ _ h => h) (Or.inl ⟨by rfl, ?_⟩) ?_ ?_
                                rotate_left
                                · intro w'
                                  go_simp
                                  with_reducible rfl
                                rotate_left
                                · simp only [Act.put, List.setIfInBounds_toArray, List.set_cons_zero, List.set_cons_succ, i64_w, i32_w]
                                  rfl
                                refine take_ (i := 4) (N := some 33) (v := ?_) (a' := ?_) #[true, true, true, true, true, true, false, false, true, true, true, true, false, true, false, false, false, false, true, false, false, false, false] rfl rfl (take_ofW HT_.out HW_.out (by kernel_rfl)) (fun _ _ _ h => h) (Or.inl ⟨by rfl, ?_⟩) hHeld ?_ ?_
                                rotate_left
                                · rintro w' ⟨s0, s1, s2, s3, s4⟩
                                  go_simp
                                  with_reducible rfl
                                rotate_left
                                · simp only [Act.put, List.setIfInBounds_toArray, List.set_cons_zero, List.set_cons_succ, i64_w, i32_w]
                                  rfl
                                refine pure_ (i := 6) (N := some 35) (v := ?_) (a' := ?_) #[true, true, true, true, true, true, true, false, true, true, true, true, false, true, false, false, false, false, true, false, false, false, false] rfl rfl (any_of HT_.out (by kernel_rfl)) (fun _ _ _ h => h) (Or.inl ⟨by rfl, ?_⟩) ?_ ?_
                                rotate_left
                                · intro w'
                                  go_simp
                                  with_reducible rfl
                                rotate_left
                                · simp only [Act.put, List.setIfInBounds_toArray, List.set_cons_zero, List.set_cons_succ, i64_w, i32_w]
                                  rfl
                                refine take_ (i := 7) (N := some 36) (v := ?_) (a' := ?_) #[true, true, true, true, true, true, true, true, true, true, true, true, false, true, false, false, false, false, true, false, false, false, false] rfl rfl (take_ofW HT_.out HW_.out (by kernel_rfl)) (fun _ _ _ h => h) (Or.inl ⟨by rfl, ?_⟩) hHeld ?_ ?_
                                rotate_left
                                · rintro w' ⟨s0, s1, s2, s3, s4⟩
                                  go_simp
                                  with_reducible rfl
                                rotate_left
                                · simp only [Act.put, List.setIfInBounds_toArray, List.set_cons_zero, List.set_cons_succ, i64_w, i32_w]
                                  rfl
                                refine take_ (i := 12) (N := some 41) (v := ?_) (a' := ?_) #[true, true, true, true, true, true, true, true, true, true, true, true, true, true, false, false, false, false, true, false, false, false, false] rfl rfl (take_ofW HT_.out HW_.out (by kernel_rfl)) (fun _ _ _ h => h) (Or.inl ⟨by rfl, ?_⟩) hHeld ?_ ?_
                                rotate_left
                                · rintro w' ⟨s0, s1, s2, s3, s4⟩
                                  go_simp
                                  with_reducible rfl
                                rotate_left
                                · simp only [Act.put, List.setIfInBounds_toArray, List.set_cons_zero, List.set_cons_succ, i64_w, i32_w]
                                  rfl
                                refine pure_ (i := 14) (N := some 43) (v := ?_) (a' := ?_) #[true, true, true, true, true, true, true, true, true, true, true, true, true, true, true, false, false, false, true, false, false, false, false] rfl rfl (any_of HT_.out (by kernel_rfl)) (fun _ _ _ h => h) (Or.inl ⟨by rfl, ?_⟩) ?_ ?_
                                rotate_left
                                · intro w'
                                  go_simp
                                  with_reducible rfl
                                rotate_left
                                · simp only [Act.put, List.setIfInBounds_toArray, List.set_cons_zero, List.set_cons_succ, i64_w, i32_w]
                                  rfl
                                refine take_ (i := 15) (N := some 44) (v := ?_) (a' := ?_) #[true, true, true, true, true, true, true, true, true, true, true, true, true, true, true, true, false, false, true, false, false, false, false] rfl rfl (take_ofW HT_.out HW_.out (by kernel_rfl)) (fun _ _ _ h => h) (Or.inl ⟨by rfl, ?_⟩) hHeld ?_ ?_
                                rotate_left
                                · rintro w' ⟨s0, s1, s2, s3, s4⟩
                                  go_simp
                                  with_reducible rfl
                                rotate_left
                                · simp only [Act.put, List.setIfInBounds_toArray, List.set_cons_zero, List.set_cons_succ, i64_w, i32_w]
                                  rfl
                                refine pure_ (i := 16) (N := some 45) (v := ?_) (a' := ?_) #[true, true, true, true, true, true, true, true, true, true, true, true, true, true, true, true, true, false, true, false, false, false, false] rfl rfl (any_of HT_.out (by kernel_rfl)) (fun _ _ _ h => h) (Or.inl ⟨by rfl, ?_⟩) ?_ ?_
                                rotate_left
                                · intro w'
                                  go_simp
                                  with_reducible rfl
                                rotate_left
                                · simp only [Act.put, List.setIfInBounds_toArray, List.set_cons_zero, List.set_cons_succ, i64_w, i32_w]
                                  rfl
                                refine take_ (i := 17) (N := some 46) (v := ?_) (a' := ?_) #[true, true, true, true, true, true, true, true, true, true, true, true, true, true, true, true, true, true, true, false, false, false, false] rfl rfl (take_ofW HT_.out HW_.out (by kernel_rfl)) (fun _ _ _ h => h) (Or.inl ⟨by rfl, ?_⟩) hHeld ?_ ?_
                                rotate_left
                                · rintro w' ⟨s0, s1, s2, s3, s4⟩
                                  go_simp
                                  with_reducible rfl
                                rotate_left
                                · simp only [Act.put, List.setIfInBounds_toArray, List.set_cons_zero, List.set_cons_succ, i64_w, i32_w]
                                  rfl
                                refine one_ (i := 19) (N := some 48) #[true, true, true, true, true, true, true, true, true, true, true, true, true, true, true, true, true, true, true, true, false, false, false] rfl rfl (one_of HT_.out (by kernel_rfl)) (by decide) (fun K hK => ?_)
                                refine value_ (w1 := ?_) (v := ?_) (by rfl) rfl ?_ ?_
                                rotate_left 2
                                · go_simp
                                  constructor
                                  · rfl
                                  · rfl
                                refine hK.out _ _ ⟨(World.cell?_alloc_lt _ _ _ (World.block_lt_of_cell? _ _ (((HB.out.cell (World.block_lt_of_cell? w _ hw296_0)).trans hw296_0)))).trans (((HB.out.cell (World.block_lt_of_cell? w _ hw296_0)).trans hw296_0)), (World.cell?_alloc_lt _ _ _ (World.block_lt_of_cell? _ _ (((HB.out.cell (World.block_lt_of_cell? w _ hw297_0)).trans hw297_0)))).trans (((HB.out.cell (World.block_lt_of_cell? w _ hw297_0)).trans hw297_0)), (World.cell?_alloc_lt _ _ _ (World.block_lt_of_cell? _ _ (((HB.out.cell (World.block_lt_of_cell? w _ hw298_0)).trans hw298_0)))).trans (((HB.out.cell (World.block_lt_of_cell? w _ hw298_0)).trans hw298_0)), (World.cell?_alloc_lt _ _ _ (World.block_lt_of_cell? _ _ (((HB.out.cell (World.block_lt_of_cell? w _ hw299_0)).trans hw299_0)))).trans (((HB.out.cell (World.block_lt_of_cell? w _ hw299_0)).trans hw299_0)), (World.cell?_alloc_lt _ _ _ (World.block_lt_of_cell? _ _ (hHeld.2.2.2.2))).trans (hHeld.2.2.2.2)⟩ (fun hHeld => ?_)
                                clear hK K
                                refine norm_ (a' := ?_) ?_ ?_
                                rotate_left
                                · show Act.put _ (some 48) _ = _
                                  simp only [Act.put, List.setIfInBounds_toArray, List.set_cons_zero, List.set_cons_succ, i64_w, i32_w]
                                  rfl
                                refine one_ (i := 20) (N := some 49) #[true, true, true, true, true, true, true, true, true, true, true, true, true, true, true, true, true, true, true, true, true, false, false] rfl rfl (one_of HT_.out (by kernel_rfl)) (by decide) (fun K hK => ?_)
                                refine Kd.R_append_step (Kd.int .i64) (w0 := w) w.heap.size (by rfl) (.tmp 46) (.tmp 48) 27 3 (.int .i64 0) 8 rfl Try.underlying27 info3 rfl (by decide) (by omega) (.slice A300_0 (rd_L1 x4_2 (rd (rd_L1 l0 x5_1) x6_2)).length c300_0) (rd_L1 x4_2 (rd (rd_L1 l0 x5_1) x6_2)) x5_1 [.int .i64 x5_1] (fun k_ => oki19 k_ ∨ ((fun _ => True)) k_ ∧ w17.heap.size ≤ k_) (fun _ => False) rfl rfl ?aP (fun _ hk => hk.elim) ?aF ?aO ?aB ?aS ?aL ?_
                                (case aP => exact rfl)
                                (case aB => exact (by repeat (first | (with_reducible first | exact HB.out | apply below_alloc | apply pw_below_drewN | apply below_drew1) | exact HB.out)))
                                (case aF => exact (fun k_ hk => .inr ⟨trivial, hk⟩))
                                (case aO => exact (by (with_reducible repeat (first | apply Kd.R_alloc | apply Kd.R_drewN | apply Kd.R_drew)); exact Kd.R_mono UU19.out (fun _ hk => .inl hk)))
                                (case aS => exact (below_size (by repeat (first | (with_reducible first | exact HB.out | apply below_alloc | apply pw_below_drewN | apply below_drew1) | exact HB.out))))
                                (case aL => have := LMc15.out; omega)
                                intro v302 w20 ho hb hg hat
                                (first | have HS4_ := cell_grown hg (hHeld.2.2.2.2) (by first | (rw [add_block]; exact (fun e_ => ((HL300_0.out.1 _ e_.symm).2) rfl)) | (show some (Addr.add _ _).block ≠ _; rw [add_block]; exact (fun e_ => ((HL300_0.out.1 _ e_.symm).2) rfl)) | exact (fun e_ => ((HL300_0.out.1 _ e_.symm).2) rfl)) | have HS4_ := cell_grown hg (cell_unalloc (hHeld.2.2.2.2) (by first | (rw [add_block]; exact Kd.S_lt HO_4.out _ rfl) | (show (Addr.add _ _).block < _; rw [add_block]; exact Kd.S_lt HO_4.out _ rfl) | exact Kd.S_lt HO_4.out _ rfl)) (by first | (rw [add_block]; exact (fun e_ => ((HL300_0.out.1 _ e_.symm).2) rfl)) | (show some (Addr.add _ _).block ≠ _; rw [add_block]; exact (fun e_ => ((HL300_0.out.1 _ e_.symm).2) rfl)) | exact (fun e_ => ((HL300_0.out.1 _ e_.symm).2) rfl)))
                                rw [← Ny301.out] at ho
                                have n0_ := Aside0.mk (hb)
                                have n1_ := Aside0.mk (Kd.H_grown (Kd.H_widen (by repeat (first | exact HH19.out | refine Kd.H_alloc ?_ _ | refine Kd.H_drewN ?_ _ | refine Kd.H_drew ?_))) hg (fun k_ e_ => .inl (UU19.out.1 k_ e_)))
                                have n2_ := Aside0.mk (ho)
                                clear HB
                                clear HH19
                                clear HO_4
                                clear UU19
                                clear HL300_0
                                have HB := n0_
                                have HH19 := n1_
                                have HO303 := n2_
                                clear n0_ n1_ n2_
                                clear ho hb hg hat
                                have p16 : 0 ≤ ((rd (rd_L1 l0 x5_1) x6_2) : Int) := of_decide_eq_true (by first | (with_reducible assumption) | assumption)
                                have q16 : ((rd (rd_L1 l0 x5_1) x6_2) : Int) < ((x4_2.length : Int) : Int) := of_decide_eq_true (by first | (with_reducible assumption) | assumption)
                                replace p16 := eq_true p16
                                replace q16 := eq_true q16
                                obtain ⟨Ao23, co23, eo23⟩ := Kd.R_slice HO303.out
                                (first | subst eo23 | (injection eo23 with f1_ f2_ f3_; have f4_ := f1_.symm; have f5_ := f3_.symm; clear f1_ f2_ f3_; subst f4_; subst f5_))
                                obtain ⟨_, _, hraw21, _, _, hcc21, _⟩ := Kd.H_raw HH19.out (of_decide_eq_true (by first | (with_reducible assumption) | assumption)) (by have h_ : ((rd (rd_L1 l0 x5_1) x6_2) : Int) < ((x4_2.length : Int) : Int) := of_decide_eq_true (by first | (with_reducible assumption) | assumption); first | exact h_ | (have e_ := (HN19.out); omega) | simpa using h_)
                                obtain ⟨_, hfr21⟩ := Kd.H_at HH19.out (of_decide_eq_true (by first | (with_reducible assumption) | assumption)) (by have h_ : ((rd (rd_L1 l0 x5_1) x6_2) : Int) < ((x4_2.length : Int) : Int) := of_decide_eq_true (by first | (with_reducible assumption) | assumption); first | exact h_ | (have e_ := (HN19.out); omega) | simpa using h_)
                                have hx21_0 := hcc21 0 _ rfl
                                have hf21_0 := hfr21 0
                                (try simp only [Nat.add_zero] at hx21_0 hf21_0)
                                (try rw [show ((Kd.slice 3 (Kd.int .i64))).sz = 1 from rfl, Nat.mul_one] at hx21_0)
                                (try rw [show ((Kd.slice 3 (Kd.int .i64))).sz = 1 from rfl, Nat.mul_one] at hf21_0)
                                have HP21 := Kd.S_seg0 HH19.out (of_decide_eq_true (by first | (with_reducible assumption) | assumption)) (by have h_ : ((rd (rd_L1 l0 x5_1) x6_2) : Int) < ((x4_2.length : Int) : Int) := of_decide_eq_true (by first | (with_reducible assumption) | assumption); first | exact h_ | (have e_ := (HN19.out); omega) | simpa using h_) (seg := [.slice Ao23 y301.length co23]) (j := 0) (show 1 ≤ 1 from by decide) (x' := y301) (Kd.M_row HO303.out) (fun _ hk => hk)
                                (try simp only [show ((Kd.slice 3 (Kd.int .i64))).sz = 1 from rfl, Nat.mul_one, Nat.add_zero] at HP21)
                                clear hcc21 hfr21
                                have HS21 := HP21.1
                                rw [← Ny304.out] at HS21
                                have HQ21 := Aside0.mk HS21
                                obtain ⟨_, hgg21⟩ := Kd.R_typed hraw21 go19 rfl
                                have GG21_ := Aside0.mk hgg21
                                clear HP21 HS21 hgg21
                                refine hK.out _ _ ⟨((HB.out.cell (World.block_lt_of_cell? w _ hw296_0)).trans hw296_0), ((HB.out.cell (World.block_lt_of_cell? w _ hw297_0)).trans hw297_0), ((HB.out.cell (World.block_lt_of_cell? w _ hw298_0)).trans hw298_0), ((HB.out.cell (World.block_lt_of_cell? w _ hw299_0)).trans hw299_0), HS4_⟩ (fun hHeld => ?_)
                                clear hK K
                                refine norm_ (a' := ?_) ?_ ?_
                                rotate_left
                                · show Act.put _ (some 49) _ = _
                                  simp only [Act.put, List.setIfInBounds_toArray, List.set_cons_zero, List.set_cons_succ, i64_w, i32_w]
                                  rfl
                                refine pure_ (i := 21) (N := some 50) (v := ?_) (a' := ?_) #[true, true, true, true, true, true, true, true, true, true, true, true, true, true, true, true, true, true, true, true, true, true, false] rfl rfl (any_of HT_.out (by kernel_rfl)) (fun _ _ _ h => h) (Or.inl ⟨by rfl, ?_⟩) ?_ ?_
                                rotate_left
                                · intro w'
                                  go_simp
                                  with_reducible rfl
                                rotate_left
                                · simp only [Act.put, List.setIfInBounds_toArray, List.set_cons_zero, List.set_cons_succ, i64_w, i32_w]
                                  rfl
                                refine last_ (i := 22) (N := none) #[true, true, true, true, true, true, true, true, true, true, true, true, true, true, true, true, true, true, true, true, true, true, true] rfl rfl (one_of HT_.out (by kernel_rfl)) (by decide) (fun K hK => ?_)
                                refine skip_ (w1 := ?_) (by rfl) rfl ?_ ?_
                                rotate_left
                                · go_simp
                                  rfl
                                refine hK.out _ _ ?_
                                clear hK K
                                refine done_ (done_of HT_.out (by kernel_rfl)) ?_
                                try go_wp2
                                go_roundg k2
                                case measure => have := HK1.out; have := HK2.out; omega
                                case rel => exact ⟨(y304), (wrap64 (x6_2 + 1)), (by first | rfl | (simp; done) | (simp [*]; done)), H', ⟨by have := HK1.out; have := HK2.out; omega⟩, ⟨by (with_reducible repeat (first | apply Kd.S_alloc | apply Kd.S_drewN | apply Kd.S_drew)); exact HQ21.out⟩, ⟨by repeat (first | (with_reducible first | exact HB.out | apply below_alloc | apply pw_below_drewN | apply below_drew1 | refine below_set ?_ GB19.out) | exact HB.out)⟩⟩
                              · rw [if_neg c15] at H
                                exact absurd H (by simp)
                            · rw [if_neg c14] at H
                              exact absurd H (by simp)
                          · rw [if_neg c13] at H
                            exact absurd H (by simp)
                        · rw [if_neg c12] at H
                          exact absurd H (by simp)
                      · rw [if_neg c11] at H
                        have c11b0 : decide (x6_2 < ((rd_L1 l0 x5_1).length : Int)) = false := decide_eq_false c11
                        clear c11
                        have H' := Aside0.mk H
                        clear H
                        have p295 : 0 ≤ (x5_1 : Int) := of_decide_eq_true (by first | (with_reducible assumption) | assumption)
                        have q295 : x5_1 < (l0.length : Int) := of_decide_eq_true (by first | (with_reducible assumption) | assumption)
                        obtain ⟨ad295, A295_0, c295_0, e295, hx295_0, hl295_0, hi295_0⟩ := at_L1 HR0.out x5_1 p295 q295
                        cases e295
                        replace hx295_0 := (HB.out.cell (World.block_lt_of_cell? w _ hx295_0)).trans hx295_0
                        have HR295_0 := Aside0.mk hi295_0
                        have HC295_0 := Aside0.mk hl295_0
                        clear hi295_0 hl295_0
                        replace p295 := eq_true p295
                        replace q295 := eq_true q295
                        go_wp2
                        go_roundg k2
                        case measure => have := HK1.out; have := HK2.out; omega
                        case rel => exact ⟨(x4_2), (wrap64 (x5_1 + 1)), (by first | rfl | (simp; done) | (simp [*]; done)), H', ⟨by have := HK1.out; have := HK2.out; omega⟩, ⟨by (with_reducible repeat (first | apply Kd.S_alloc | apply Kd.S_drewN | apply Kd.S_drew)); exact HO_4.out⟩, ⟨by repeat (first | (with_reducible first | exact HB.out | apply below_alloc | apply pw_below_drewN | apply below_drew1) | exact HB.out)⟩⟩
                    · rw [if_neg c10] at H
                      exact absurd H (by simp)
                  · rw [if_neg c9] at H
                    exact absurd H (by simp)
            · rw [if_neg c8] at H
              have c8b0 : decide (x5_1 < (l0.length : Int)) = false := decide_eq_false c8
              clear c8
              obtain rfl := Option.some.inj H
              go_wp2
              go_ret
              exact ⟨_, by first | rfl | (simp [errW_none, errW_some] <;> rfl) | (simp [*, errW_none, errW_some] <;> rfl), by (with_reducible repeat (first | apply Kd.S_alloc | apply Kd.S_drewN | apply Kd.S_drew)); exact HO_4.out, by repeat (first | (with_reducible first | exact HB.out | apply below_alloc | apply pw_below_drewN | apply below_drew1) | exact HB.out)⟩
      · rw [if_neg c5] at H
        exact absurd H (by simp)
    · rw [if_neg c4] at H
      exact absurd H (by simp)
  · replace c3 := Bool.eq_false_iff.mpr c3
    subst c3
    have H1 : (some ([] : List (List Int))) = some r := by rw [if_neg (show ¬ (false = true) by decide)] at H; exact H
    clear H
    have H := H1
    clear H1
    obtain rfl := Option.some.inj H
    go_enter Try.func18, Try.ntmps18
    go_wp2_with (first | ((with_reducible refine gate_callee (f := 20) rfl ?_); refine goesL_ (some 8) rfl rfl Try.func20 (by kernel_rfl) rfl #[.slice A0 l0.length c0] rfl (by (try simp only [List.map_toArray, List.map_cons, List.map_nil]); first | done | rfl | (simp only [List.length_drop, List.length_take]; rfl)) ?_; (with_reducible refine (swageref06_Right.calls k _ _ l0 false _ ?side1 ?side2 A2.out).mono ?_); (case side1 => repeat (first | exact HR0.out | (with_reducible refine Kd.C_alloc ?_ _) | (with_reducible refine Kd.C_drewN ?_ _) | (with_reducible refine Kd.C_drew ?_))); (case side2 => exact HC0.out); rintro e w' ⟨rfl, ⟨nd, rfl⟩⟩; refine ⟨_, rfl, ?_⟩))
    go_ret
    exact ⟨_, by first | rfl | (simp [errW_none, errW_some] <;> rfl) | (simp [*, errW_none, errW_some] <;> rfl), by first | exact Kd.S_nil _ _ _ _ _ | exact Kd.N_nil _ _ _ _ _ | exact Kd.V_nil _ _ _ _ _ | exact Kd.Q_nil _ _ _ _ _ | exact Kd.R_nil _ _ _ _ _, by repeat (first | (with_reducible first | exact HB.out | apply below_alloc | apply pw_below_drewN | apply below_drew1) | exact HB.out)⟩

end Go.Proofs.Ytkmbhknmjnbanaa.A


namespace Go.Proofs.Ytkmbhknmjnbanaa.A
open Go.RowKit Go.Proofs.YtkmbhknmjnbanaaW.PrintWords Go.Proofs.YtkmbhknmjnbanaaW.PrintLast Go.Proofs.YtkmbhknmjnbanaaW.PrintMore
attribute [local go_sem] max2_int min2_int max_two min_two max_three min_three max_four min_four   -- for this text's walks alone
set_option linter.unusedVariables false
set_option linter.unusedSimpArgs false

mutual
def swageref06_Critical.l0 : Nat → List (List Int) → List (List Int) → List (S37) → Int → Option ((List (S37)))
  | 0, _, _, _, _ => none
  | k + 1, x0, x3, x4, x5 => if x5 < (x3.length : Int) then (swageref06_Critical.l1 k x0 x3 x4 x5 0) else (some x4)
def swageref06_Critical.l1 : Nat → List (List Int) → List (List Int) → List (S37) → Int → Int → Option ((List (S37)))
  | 0, _, _, _, _, _ => none
  | k + 1, x0, x3, x4, x5, x6 => if 0 ≤ x5 then (if x5 < (x0.length : Int) then (if x6 < ((rd_L1 x0 x5).length : Int) then (swageref06_Critical.j2 k x0 x3 x4 x5 x6 (decide (((rd_L1 x0 x5).length : Int) > 1))) else (swageref06_Critical.j2 k x0 x3 x4 x5 x6 false)) else (none)) else (none)
def swageref06_Critical.j2 : Nat → List (List Int) → List (List Int) → List (S37) → Int → Int → Bool → Option ((List (S37)))
  | 0, _, _, _, _, _, _ => none
  | k + 1, x0, x3, x4, x5, x6, x29 => if x29 = true then (if 0 ≤ x5 then (if x5 < (x0.length : Int) then (if 0 ≤ x6 then (if x6 < ((rd_L1 x0 x5).length : Int) then (if 0 ≤ (rd (rd_L1 x0 x5) x6) then (if (rd (rd_L1 x0 x5) x6) < (x3.length : Int) then (if ((rd_L1 x3 (rd (rd_L1 x0 x5) x6)).length : Int) > 1 then (if x4.length < 8796093022208 then (swageref06_Critical.l1 k x0 x3 (x4 ++ [(⟨x5, rd (rd_L1 x0 x5) x6⟩ : S37)]) x5 (wrap64 (x6 + 1))) else (none)) else (swageref06_Critical.l1 k x0 x3 x4 x5 (wrap64 (x6 + 1)))) else (none)) else (none)) else (none)) else (none)) else (none)) else (none)) else (swageref06_Critical.l0 k x0 x3 x4 (wrap64 (x5 + 1)))
end
def swageref06_Critical.f (k : Nat) (l0 : List (List Int)) : Option ((List (S37))) := (swageref06_Preds.f k l0).bind fun t320 => (swageref06_Critical.l0 k l0 t320 ([] : List (S37)) 0)
set_option maxHeartbeats 8000000 in
set_option maxRecDepth 100000 in
theorem swageref06_Critical.calls (k : Nat) (A0 : Option Addr) (c0 : Nat) (l0 : List (List Int)) (r : List (S37)) (w : World) (hr0 : Kd.C (Kd.slice 3 (Kd.int .i64)) w A0 l0.length l0) (hc0 : l0.length ≤ c0) (h : swageref06_Critical.f k l0 = some r) :
    Calls Try.prog 26 #[.slice A0 l0.length c0] w fun e w' => ∃ v0_ : Value, e = .returned (v0_) ∧ Kd.R k37 37 w' w.heap.size (fun _ => True) v0_ r ∧ Below w.heap.size w w' := by
  have hu37 := Try.underlying37
  have HR0 := Aside0.mk hr0
  have HC0 := Aside0.mk hc0
  clear hr0 hc0
  have HB := Aside0.mk (Below.refl w.heap.size w)
  have H : ((swageref06_Preds.f k l0).bind fun t320 => (swageref06_Critical.l0 k l0 t320 ([] : List (S37)) 0)) = some r := h
  clear h
  replace H := Option.bind_eq_some_iff.mp H
  obtain ⟨t320, A20, H⟩ := H
  replace H : (swageref06_Critical.l0 k l0 t320 ([] : List (S37)) 0) = some r := H
  have A2 := Aside0.mk A20
  clear A20
  have H' := Aside0.mk H
  clear H
  go_enter Try.func26, Try.ntmps26
  go_wp2_with (first | ((with_reducible refine gate_callee (f := 18) rfl ?_); refine goesL_ (some 8) rfl rfl Try.func18 (by kernel_rfl) rfl #[.slice A0 l0.length c0] rfl (by (try simp only [List.map_toArray, List.map_cons, List.map_nil]); first | done | rfl | (simp only [List.length_drop, List.length_take]; rfl)) ?_; (with_reducible refine (swageref06_Preds.calls k _ _ l0 t320 _ ?side1 ?side2 A2.out).mono ?_); (case side1 => repeat (first | exact HR0.out | (with_reducible refine Kd.C_alloc ?_ _) | (with_reducible refine Kd.C_drewN ?_ _) | (with_reducible refine Kd.C_drew ?_))); (case side2 => exact HC0.out); rintro e w3 ⟨v321, rfl, ho0, hb⟩; refine ⟨_, rfl, ?_⟩; have n0_ := Aside0.mk (Kd.S_lower ho0 (below_size (by repeat (first | (with_reducible first | exact HB.out | apply below_alloc | apply pw_below_drewN | apply below_drew1) | exact HB.out)))); have n1_ := Aside0.mk (below_step (by repeat (first | (with_reducible first | exact HB.out | apply below_alloc | apply pw_below_drewN | apply below_drew1) | exact HB.out)) hb); clear HB; have HO322 := n0_; have HB := n1_; clear n0_ n1_; (try clear hb); (try clear hb2); (try clear hk); (try clear hi); (try clear ho0)))
  go_loopg [4, 5] k (fun kq v4 v5 w' => ∃ (x4_1 : List (S37)) (x5_1 : Int), v5 = .int .i64 x5_1 ∧ Aside0 (swageref06_Critical.l0 kq l0 t320 x4_1 x5_1 = some r) ∧ Aside0 (kq ≤ k) ∧ Aside0 (Kd.S (Kd.slice 3 (Kd.int .i64)) 27 w' w.heap.size (fun _ => True) v321 t320) ∧ Aside0 (Kd.R k37 37 w' w.heap.size (fun _ => True) v4 x4_1) ∧ Aside0 (Below w.heap.size w w'))
  case atStart => exact ⟨(([] : List (S37))), (0), (by first | rfl | (simp; done) | (simp [*]; done)), H', ⟨Nat.le_refl _⟩, ⟨by (with_reducible repeat (first | apply Kd.S_alloc | apply Kd.S_drewN | apply Kd.S_drew)); exact HO322.out⟩, ⟨by first | exact Kd.R_nil _ _ _ _ _ | exact Kd.N_nil _ _ _ _ _ | exact Kd.V_nil _ _ _ _ _ | exact Kd.Q_nil _ _ _ _ _ | exact Kd.S_nil _ _ _ _ _⟩, ⟨by repeat (first | (with_reducible first | exact HB.out | apply below_alloc | apply pw_below_drewN | apply below_drew1) | exact HB.out)⟩⟩
  case round =>
    clear H'
    try clear c1
    try clear c2
    try clear p2
    obtain ⟨x4_1, x5_1, rfl, HA, HK1, HO_3, HO_4, HB⟩ := hrel
    cases gk with
    | zero => exact absurd HA.out (by simp [swageref06_Critical.l0])
    | succ k1 =>
      have H := HA.out
      clear HA
      simp only [swageref06_Critical.l0] at H
      by_cases c4 : x5_1 < (t320.length : Int)
      · rw [if_pos c4] at H
        have c4b0 : decide (x5_1 < (t320.length : Int)) = true := decide_eq_true c4
        clear c4
        have H' := Aside0.mk H
        clear H
        obtain ⟨Ao5, co5, eo5⟩ := Kd.S_slice HO_3.out
        subst eo5
        go_wp2
        go_loopg [4, 6] k1 (fun kq v4 v6 w' => ∃ (x4_2 : List (S37)) (x6_2 : Int), v6 = .int .i64 x6_2 ∧ Aside0 (swageref06_Critical.l1 kq l0 t320 x4_2 x5_1 x6_2 = some r) ∧ Aside0 (kq ≤ k1) ∧ Aside0 (Kd.S (Kd.slice 3 (Kd.int .i64)) 27 w' w.heap.size (fun _ => True) (.slice Ao5 t320.length co5) t320) ∧ Aside0 (Kd.R k37 37 w' w.heap.size (fun _ => True) v4 x4_2) ∧ Aside0 (Below w.heap.size w w'))
        case atStart => exact ⟨(x4_1), (0), (by first | rfl | (simp; done) | (simp [*]; done)), H', ⟨Nat.le_refl _⟩, ⟨by (with_reducible repeat (first | apply Kd.S_alloc | apply Kd.S_drewN | apply Kd.S_drew)); exact HO_3.out⟩, ⟨by (with_reducible repeat (first | apply Kd.R_alloc | apply Kd.R_drewN | apply Kd.R_drew)); exact HO_4.out⟩, ⟨by repeat (first | (with_reducible first | exact HB.out | apply below_alloc | apply pw_below_drewN | apply below_drew1) | exact HB.out)⟩⟩
        case round =>
          clear H'
          try clear c1
          try clear c2
          try clear p2
          try clear c4
          try clear c4b0
          try clear p2
          obtain ⟨x4_2, x6_2, rfl, HA, HK2, HO_3, HO_4, HB⟩ := hrel
          cases gk with
          | zero => exact absurd HA.out (by simp [swageref06_Critical.l1])
          | succ k2 =>
            have H := HA.out
            clear HA
            simp only [swageref06_Critical.l1] at H
            have HC6 := Aside0.mk H
            clear H
            go_upto_region 7 with (fail)
            go_cut [29] (fun v29 wc => ∃ (kq : Nat) (x29_5 : Bool), v29 = .bool x29_5 ∧ Aside0 (swageref06_Critical.j2 kq l0 t320 x4_2 x5_1 x6_2 x29_5 = some r) ∧ Aside0 (kq ≤ k2) ∧ Aside0 (Kd.S (Kd.slice 3 (Kd.int .i64)) 27 wc w.heap.size (fun _ => True) (.slice Ao5 t320.length co5) t320) ∧ Aside0 (Kd.R k37 37 wc w.heap.size (fun _ => True) u4 x4_2) ∧ Aside0 (Below w.heap.size w wc))
            case first =>
              have H := HC6.out
              clear HC6
              by_cases c7 : 0 ≤ x5_1
              · rw [if_pos c7] at H
                have c7b0 : decide (0 ≤ x5_1) = true := decide_eq_true c7
                clear c7
                (first | rw [c7b0] | (simp only [i64_w, i32_w]; rw [c7b0]) | skip)
                by_cases c8 : x5_1 < (l0.length : Int)
                · rw [if_pos c8] at H
                  have c8b0 : decide (x5_1 < (l0.length : Int)) = true := decide_eq_true c8
                  clear c8
                  by_cases c9 : x6_2 < ((rd_L1 l0 x5_1).length : Int)
                  · rw [if_pos c9] at H
                    have c9b0 : decide (x6_2 < ((rd_L1 l0 x5_1).length : Int)) = true := decide_eq_true c9
                    clear c9
                    have H' := Aside0.mk H
                    clear H
                    have p323 : 0 ≤ (x5_1 : Int) := of_decide_eq_true (by first | (with_reducible assumption) | assumption)
                    have q323 : x5_1 < (l0.length : Int) := of_decide_eq_true (by first | (with_reducible assumption) | assumption)
                    obtain ⟨ad323, A323_0, c323_0, e323, hx323_0, hl323_0, hi323_0⟩ := at_L1 HR0.out x5_1 p323 q323
                    cases e323
                    replace hx323_0 := (HB.out.cell (World.block_lt_of_cell? w _ hx323_0)).trans hx323_0
                    have HR323_0 := Aside0.mk hi323_0
                    have HC323_0 := Aside0.mk hl323_0
                    clear hi323_0 hl323_0
                    replace p323 := eq_true p323
                    replace q323 := eq_true q323
                    have p324 : 0 ≤ (x5_1 : Int) := of_decide_eq_true (by first | (with_reducible assumption) | assumption)
                    have q324 : x5_1 < (l0.length : Int) := of_decide_eq_true (by first | (with_reducible assumption) | assumption)
                    obtain ⟨ad324, A324_0, c324_0, e324, hx324_0, hl324_0, hi324_0⟩ := at_L1 HR0.out x5_1 p324 q324
                    obtain rfl : ad323 = ad324 := (by injection e324)
                    replace hx324_0 := (HB.out.cell (World.block_lt_of_cell? w _ hx324_0)).trans hx324_0
                    have HR324_0 := Aside0.mk hi324_0
                    have HC324_0 := Aside0.mk hl324_0
                    clear hi324_0 hl324_0
                    replace p324 := eq_true p324
                    replace q324 := eq_true q324
                    have ea_ := Option.some.inj (hx323_0.symm.trans hx324_0)
                    injection ea_ with ea_ en_ ec_
                    subst ea_
                    subst ec_
                    clear en_
                    go_wp2
                    go_meet
                    case rel => exact ⟨_, (decide (((rd_L1 l0 x5_1).length : Int) > 1)), (by first | rfl | (simp; done) | (simp [*]; done)), H', ⟨by have := HK1.out; have := HK2.out; first | omega | exact Nat.le_refl _⟩, ⟨by (with_reducible repeat (first | apply Kd.S_alloc | apply Kd.S_drewN | apply Kd.S_drew)); exact HO_3.out⟩, ⟨by (with_reducible repeat (first | apply Kd.R_alloc | apply Kd.R_drewN | apply Kd.R_drew)); exact HO_4.out⟩, ⟨by repeat (first | (with_reducible first | exact HB.out | apply below_alloc | apply pw_below_drewN | apply below_drew1) | exact HB.out)⟩⟩
                  · rw [if_neg c9] at H
                    have c9b0 : decide (x6_2 < ((rd_L1 l0 x5_1).length : Int)) = false := decide_eq_false c9
                    clear c9
                    have H' := Aside0.mk H
                    clear H
                    have p323 : 0 ≤ (x5_1 : Int) := of_decide_eq_true (by first | (with_reducible assumption) | assumption)
                    have q323 : x5_1 < (l0.length : Int) := of_decide_eq_true (by first | (with_reducible assumption) | assumption)
                    obtain ⟨ad323, A323_0, c323_0, e323, hx323_0, hl323_0, hi323_0⟩ := at_L1 HR0.out x5_1 p323 q323
                    cases e323
                    replace hx323_0 := (HB.out.cell (World.block_lt_of_cell? w _ hx323_0)).trans hx323_0
                    have HR323_0 := Aside0.mk hi323_0
                    have HC323_0 := Aside0.mk hl323_0
                    clear hi323_0 hl323_0
                    replace p323 := eq_true p323
                    replace q323 := eq_true q323
                    go_wp2
                    go_meet
                    case rel => exact ⟨_, (false), (by first | rfl | (simp; done) | (simp [*]; done)), H', ⟨by have := HK1.out; have := HK2.out; first | omega | exact Nat.le_refl _⟩, ⟨by (with_reducible repeat (first | apply Kd.S_alloc | apply Kd.S_drewN | apply Kd.S_drew)); exact HO_3.out⟩, ⟨by (with_reducible repeat (first | apply Kd.R_alloc | apply Kd.R_drewN | apply Kd.R_drew)); exact HO_4.out⟩, ⟨by repeat (first | (with_reducible first | exact HB.out | apply below_alloc | apply pw_below_drewN | apply below_drew1) | exact HB.out)⟩⟩
                · rw [if_neg c8] at H
                  exact absurd H (by simp)
              · rw [if_neg c7] at H
                exact absurd H (by simp)
            case rest =>
              clear HC6
              try clear c1
              try clear c2
              try clear p2
              try clear c3
              try clear p3
              try clear q3
              try clear hx3
              try clear c4
              try clear c4b0
              try clear c7
              try clear c7b0
              try clear c8
              try clear c8b0
              try clear c9
              try clear c9b0
              try clear hx323_0
              try clear hx324_0
              try clear p2
              try clear p323
              try clear p324
              try clear q323
              try clear q324
              obtain ⟨kq, x29_5, rfl, HA, HJ5, HO_3, HO_4, HB⟩ := hcut
              cases kq with
              | zero => exact absurd HA.out (by simp [swageref06_Critical.j2])
              | succ kj5 =>
                have H := HA.out
                clear HA
                simp only [swageref06_Critical.j2] at H
                by_cases c10 : x29_5 = true
                · subst c10
                  have H1 : (if 0 ≤ x5_1 then (if x5_1 < (l0.length : Int) then (if 0 ≤ x6_2 then (if x6_2 < ((rd_L1 l0 x5_1).length : Int) then (if 0 ≤ (rd (rd_L1 l0 x5_1) x6_2) then (if (rd (rd_L1 l0 x5_1) x6_2) < (t320.length : Int) then (if ((rd_L1 t320 (rd (rd_L1 l0 x5_1) x6_2)).length : Int) > 1 then (if x4_2.length < 8796093022208 then (swageref06_Critical.l1 kj5 l0 t320 (x4_2 ++ [(⟨x5_1, rd (rd_L1 l0 x5_1) x6_2⟩ : S37)]) x5_1 (wrap64 (x6_2 + 1))) else (none)) else (swageref06_Critical.l1 kj5 l0 t320 x4_2 x5_1 (wrap64 (x6_2 + 1)))) else (none)) else (none)) else (none)) else (none)) else (none)) else (none)) = some r := by rw [if_pos rfl] at H; exact H
                  clear H
                  have H := H1
                  clear H1
                  by_cases c11 : 0 ≤ x5_1
                  · rw [if_pos c11] at H
                    have c11b0 : decide (0 ≤ x5_1) = true := decide_eq_true c11
                    clear c11
                    by_cases c12 : x5_1 < (l0.length : Int)
                    · rw [if_pos c12] at H
                      have c12b0 : decide (x5_1 < (l0.length : Int)) = true := decide_eq_true c12
                      clear c12
                      by_cases c13 : 0 ≤ x6_2
                      · rw [if_pos c13] at H
                        have c13b0 : decide (0 ≤ x6_2) = true := decide_eq_true c13
                        clear c13
                        by_cases c14 : x6_2 < ((rd_L1 l0 x5_1).length : Int)
                        · rw [if_pos c14] at H
                          have c14b0 : decide (x6_2 < ((rd_L1 l0 x5_1).length : Int)) = true := decide_eq_true c14
                          clear c14
                          by_cases c15 : 0 ≤ (rd (rd_L1 l0 x5_1) x6_2)
                          · rw [if_pos c15] at H
                            have c15b0 : decide (0 ≤ (rd (rd_L1 l0 x5_1) x6_2)) = true := decide_eq_true c15
                            clear c15
                            by_cases c16 : (rd (rd_L1 l0 x5_1) x6_2) < (t320.length : Int)
                            · rw [if_pos c16] at H
                              have c16b0 : decide ((rd (rd_L1 l0 x5_1) x6_2) < (t320.length : Int)) = true := decide_eq_true c16
                              clear c16
                              by_cases c17 : ((rd_L1 t320 (rd (rd_L1 l0 x5_1) x6_2)).length : Int) > 1
                              · rw [if_pos c17] at H
                                have c17b0 : decide (1 < ((rd_L1 t320 (rd (rd_L1 l0 x5_1) x6_2)).length : Int)) = true := decide_eq_true c17
                                have c17b1 : decide (1 < (rd_L1 t320 (rd (rd_L1 l0 x5_1) x6_2)).length) = true := decide_eq_true (by omega)
                                clear c17
                                by_cases c18 : x4_2.length < 8796093022208
                                · rw [if_pos c18] at H
                                  have LMc18 := Aside0.mk c18
                                  clear c18
                                  obtain ⟨y330, hy330⟩ : ∃ y_ : List (S37), y_ = (x4_2 ++ [(⟨x5_1, rd (rd_L1 l0 x5_1) x6_2⟩ : S37)]) := ⟨_, rfl⟩
                                  replace H : (swageref06_Critical.l1 kj5 l0 t320 y330 x5_1 (wrap64 (x6_2 + 1))) = some r := by first | (rw [hy330]; with_reducible exact H) | (have H2_ := (Option.bind_some _ _).symm.trans H; rw [hy330]; with_reducible exact H2_) | (have H2_ := (Option.bind_some _ _).symm.trans H; with_reducible exact H2_) | with_reducible exact H | (rw [hy330]; exact H) | exact H
                                  have Ny330 := Aside0.mk hy330
                                  clear hy330
                                  have H' := Aside0.mk H
                                  clear H
                                  have p325 : 0 ≤ (x5_1 : Int) := of_decide_eq_true (by first | (with_reducible assumption) | assumption)
                                  have q325 : x5_1 < (l0.length : Int) := of_decide_eq_true (by first | (with_reducible assumption) | assumption)
                                  obtain ⟨ad325, A325_0, c325_0, e325, hx325_0, hl325_0, hi325_0⟩ := at_L1 HR0.out x5_1 p325 q325
                                  cases e325
                                  replace hx325_0 := (HB.out.cell (World.block_lt_of_cell? w _ hx325_0)).trans hx325_0
                                  have HR325_0 := Aside0.mk hi325_0
                                  have HC325_0 := Aside0.mk hl325_0
                                  clear hi325_0 hl325_0
                                  replace p325 := eq_true p325
                                  replace q325 := eq_true q325
                                  have p326 : 0 ≤ (x6_2 : Int) := of_decide_eq_true (by first | (with_reducible assumption) | assumption)
                                  have q326 : x6_2 < ((rd_L1 l0 x5_1).length : Int) := of_decide_eq_true (by first | (with_reducible assumption) | assumption)
                                  obtain ⟨ad326, e326, hx326_0⟩ := Kd.at_int HR325_0.out x6_2 p326 q326
                                  cases e326
                                  replace hx326_0 := (HB.out.cell (World.block_lt_of_cell? w _ hx326_0)).trans hx326_0
                                  replace p326 := eq_true p326
                                  replace q326 := eq_true q326
                                  have p327 : 0 ≤ ((rd (rd_L1 l0 x5_1) x6_2) : Int) := of_decide_eq_true (by first | (with_reducible assumption) | assumption)
                                  have q327 : (rd (rd_L1 l0 x5_1) x6_2) < (t320.length : Int) := of_decide_eq_true (by first | (with_reducible assumption) | assumption)
                                  obtain ⟨ad327, A327_0, c327_0, e327, hx327_0, hl327_0, hi327_0⟩ := at_L1 (Kd.S_reads' HO_3.out).2.2 (rd (rd_L1 l0 x5_1) x6_2) p327 q327
                                  cases e327
                                  obtain ⟨ce327, hce327, hMe327, hcc327⟩ := Kd.S_get HO_3.out [] (rd (rd_L1 l0 x5_1) x6_2) p327 (by first | exact q327 | exact of_decide_eq_true (by first | (with_reducible assumption) | assumption) | (have e_ := (Kd.S_reads' HO_3.out).1; omega))
                                  obtain ⟨ve327_0, rfl, ge327_0⟩ := hMe327
                                  have hv327_0 := hcc327 0 _ rfl
                                  rw [Nat.add_zero, show ((Kd.slice 3 (Kd.int .i64))).sz = 1 from rfl, Nat.mul_one] at hv327_0
                                  replace hv327_0 := Option.some.inj (hv327_0.symm.trans hx327_0)
                                  rw [hv327_0] at ge327_0
                                  have HL327_0 := Aside0.mk (show Kd.R (Kd.int .i64) 3 _ _ _ _ (rd_L1 t320 (rd (rd_L1 l0 x5_1) x6_2)) from ge327_0)
                                  clear hv327_0 ge327_0
                                  clear hcc327 hce327
                                  have HR327_0 := Aside0.mk hi327_0
                                  have HC327_0 := Aside0.mk hl327_0
                                  clear hi327_0 hl327_0
                                  replace p327 := eq_true p327
                                  replace q327 := eq_true q327
                                  have p328 : 0 ≤ (x5_1 : Int) := of_decide_eq_true (by first | (with_reducible assumption) | assumption)
                                  have q328 : x5_1 < (l0.length : Int) := of_decide_eq_true (by first | (with_reducible assumption) | assumption)
                                  obtain ⟨ad328, A328_0, c328_0, e328, hx328_0, hl328_0, hi328_0⟩ := at_L1 HR0.out x5_1 p328 q328
                                  obtain rfl : ad325 = ad328 := (by injection e328)
                                  replace hx328_0 := (HB.out.cell (World.block_lt_of_cell? w _ hx328_0)).trans hx328_0
                                  have HR328_0 := Aside0.mk hi328_0
                                  have HC328_0 := Aside0.mk hl328_0
                                  clear hi328_0 hl328_0
                                  replace p328 := eq_true p328
                                  replace q328 := eq_true q328
                                  have ea_ := Option.some.inj (hx325_0.symm.trans hx328_0)
                                  injection ea_ with ea_ en_ ec_
                                  subst ea_
                                  subst ec_
                                  clear en_
                                  have p329 : 0 ≤ (x6_2 : Int) := of_decide_eq_true (by first | (with_reducible assumption) | assumption)
                                  have q329 : x6_2 < ((rd_L1 l0 x5_1).length : Int) := of_decide_eq_true (by first | (with_reducible assumption) | assumption)
                                  obtain ⟨ad329, e329, hx329_0⟩ := Kd.at_int HR328_0.out x6_2 p329 q329
                                  cases e329
                                  replace hx329_0 := (HB.out.cell (World.block_lt_of_cell? w _ hx329_0)).trans hx329_0
                                  replace p329 := eq_true p329
                                  replace q329 := eq_true q329
                                  go_wp2_with (first | ((with_reducible refine gate_builtin (b := .append) (xs := #[.tmp 44, .tmp 54]) rfl ?_); (try (refine gate_guard (by rfl) ?_; dsimp only)); at_builtin; refine Kd.R_append k37 (w0 := w) w.heap.size rfl (.tmp 44) (.tmp 54) 32 37 (.agg #[(.int .i64 0), (.int .i64 0)]) 16 rfl Try.underlying32 info37 rfl (by decide) (by omega) u4 x4_2 (⟨x5_1, rd (rd_L1 l0 x5_1) x6_2⟩ : S37) [.int .i64 x5_1, .int .i64 (rd (rd_L1 l0 x5_1) x6_2)] (fun _ => True) (fun _ => False) rfl rfl ?aP (fun _ hk => hk.elim) ?aF ?aO ?aB ?aS ?aL ?_; (case aP => exact k37_mkM _ _ _ (⟨x5_1, rd (rd_L1 l0 x5_1) x6_2⟩ : S37)); (case aB => exact (by repeat (first | (with_reducible first | exact HB.out | apply below_alloc | apply pw_below_drewN | apply below_drew1) | exact HB.out))); (case aF => exact (fun _ _ => trivial)); (case aO => exact (by (with_reducible repeat (first | apply Kd.R_alloc | apply Kd.R_drewN | apply Kd.R_drew)); exact HO_4.out)); (case aS => exact (below_size (by repeat (first | (with_reducible first | exact HB.out | apply below_alloc | apply pw_below_drewN | apply below_drew1) | exact HB.out)))); (case aL => have := LMc18.out; omega); intro v331 w19 ho hb hg hat; rw [← Ny330.out] at ho; have n0_ := Aside0.mk (Kd.S_over' (by (with_reducible repeat (first | apply Kd.S_alloc | apply Kd.S_drewN | apply Kd.S_drew)); exact HO_3.out) (Kd.R_typed (by (with_reducible repeat (first | apply Kd.R_alloc | apply Kd.R_drewN | apply Kd.R_drew)); exact HO_4.out)) (by decide) hg); have n1_ := Aside0.mk (Kd.R_over' (by (with_reducible repeat (first | apply Kd.R_alloc | apply Kd.R_drewN | apply Kd.R_drew)); exact HL327_0.out) (Kd.R_typed (by (with_reducible repeat (first | apply Kd.R_alloc | apply Kd.R_drewN | apply Kd.R_drew)); exact HO_4.out)) (by decide) hg); have n2_ := Aside0.mk (hb); have n3_ := Aside0.mk (ho); clear HO_3; clear HL327_0; clear HB; clear HO_4; have HO_3 := n0_; have HL327_0 := n1_; have HB := n2_; have HO332 := n3_; clear n0_ n1_ n2_ n3_; clear ho hb hg hat))
                                  go_roundg kj5
                                  case measure => have := HK1.out; have := HK2.out; have := HJ5.out; omega
                                  case rel => exact ⟨(y330), (wrap64 (x6_2 + 1)), (by first | rfl | (simp; done) | (simp [*]; done)), H', ⟨by have := HK1.out; have := HK2.out; have := HJ5.out; omega⟩, ⟨by (with_reducible repeat (first | apply Kd.S_alloc | apply Kd.S_drewN | apply Kd.S_drew)); exact HO_3.out⟩, ⟨by (with_reducible repeat (first | apply Kd.R_alloc | apply Kd.R_drewN | apply Kd.R_drew)); exact HO332.out⟩, ⟨by repeat (first | (with_reducible first | exact HB.out | apply below_alloc | apply pw_below_drewN | apply below_drew1) | exact HB.out)⟩⟩
                                · rw [if_neg c18] at H
                                  exact absurd H (by simp)
                              · rw [if_neg c17] at H
                                have c17b0 : decide (1 < ((rd_L1 t320 (rd (rd_L1 l0 x5_1) x6_2)).length : Int)) = false := decide_eq_false c17
                                have c17b1 : decide (1 < (rd_L1 t320 (rd (rd_L1 l0 x5_1) x6_2)).length) = false := decide_eq_false (by omega)
                                clear c17
                                have H' := Aside0.mk H
                                clear H
                                have p325 : 0 ≤ (x5_1 : Int) := of_decide_eq_true (by first | (with_reducible assumption) | assumption)
                                have q325 : x5_1 < (l0.length : Int) := of_decide_eq_true (by first | (with_reducible assumption) | assumption)
                                obtain ⟨ad325, A325_0, c325_0, e325, hx325_0, hl325_0, hi325_0⟩ := at_L1 HR0.out x5_1 p325 q325
                                cases e325
                                replace hx325_0 := (HB.out.cell (World.block_lt_of_cell? w _ hx325_0)).trans hx325_0
                                have HR325_0 := Aside0.mk hi325_0
                                have HC325_0 := Aside0.mk hl325_0
                                clear hi325_0 hl325_0
                                replace p325 := eq_true p325
                                replace q325 := eq_true q325
                                have p326 : 0 ≤ (x6_2 : Int) := of_decide_eq_true (by first | (with_reducible assumption) | assumption)
                                have q326 : x6_2 < ((rd_L1 l0 x5_1).length : Int) := of_decide_eq_true (by first | (with_reducible assumption) | assumption)
                                obtain ⟨ad326, e326, hx326_0⟩ := Kd.at_int HR325_0.out x6_2 p326 q326
                                cases e326
                                replace hx326_0 := (HB.out.cell (World.block_lt_of_cell? w _ hx326_0)).trans hx326_0
                                replace p326 := eq_true p326
                                replace q326 := eq_true q326
                                have p327 : 0 ≤ ((rd (rd_L1 l0 x5_1) x6_2) : Int) := of_decide_eq_true (by first | (with_reducible assumption) | assumption)
                                have q327 : (rd (rd_L1 l0 x5_1) x6_2) < (t320.length : Int) := of_decide_eq_true (by first | (with_reducible assumption) | assumption)
                                obtain ⟨ad327, A327_0, c327_0, e327, hx327_0, hl327_0, hi327_0⟩ := at_L1 (Kd.S_reads' HO_3.out).2.2 (rd (rd_L1 l0 x5_1) x6_2) p327 q327
                                cases e327
                                obtain ⟨ce327, hce327, hMe327, hcc327⟩ := Kd.S_get HO_3.out [] (rd (rd_L1 l0 x5_1) x6_2) p327 (by first | exact q327 | exact of_decide_eq_true (by first | (with_reducible assumption) | assumption) | (have e_ := (Kd.S_reads' HO_3.out).1; omega))
                                obtain ⟨ve327_0, rfl, ge327_0⟩ := hMe327
                                have hv327_0 := hcc327 0 _ rfl
                                rw [Nat.add_zero, show ((Kd.slice 3 (Kd.int .i64))).sz = 1 from rfl, Nat.mul_one] at hv327_0
                                replace hv327_0 := Option.some.inj (hv327_0.symm.trans hx327_0)
                                rw [hv327_0] at ge327_0
                                have HL327_0 := Aside0.mk (show Kd.R (Kd.int .i64) 3 _ _ _ _ (rd_L1 t320 (rd (rd_L1 l0 x5_1) x6_2)) from ge327_0)
                                clear hv327_0 ge327_0
                                clear hcc327 hce327
                                have HR327_0 := Aside0.mk hi327_0
                                have HC327_0 := Aside0.mk hl327_0
                                clear hi327_0 hl327_0
                                replace p327 := eq_true p327
                                replace q327 := eq_true q327
                                go_wp2
                                go_roundg kj5
                                case measure => have := HK1.out; have := HK2.out; have := HJ5.out; omega
                                case rel => exact ⟨(x4_2), (wrap64 (x6_2 + 1)), (by first | rfl | (simp; done) | (simp [*]; done)), H', ⟨by have := HK1.out; have := HK2.out; have := HJ5.out; omega⟩, ⟨by (with_reducible repeat (first | apply Kd.S_alloc | apply Kd.S_drewN | apply Kd.S_drew)); exact HO_3.out⟩, ⟨by (with_reducible repeat (first | apply Kd.R_alloc | apply Kd.R_drewN | apply Kd.R_drew)); exact HO_4.out⟩, ⟨by repeat (first | (with_reducible first | exact HB.out | apply below_alloc | apply pw_below_drewN | apply below_drew1) | exact HB.out)⟩⟩
                            · rw [if_neg c16] at H
                              exact absurd H (by simp)
                          · rw [if_neg c15] at H
                            exact absurd H (by simp)
                        · rw [if_neg c14] at H
                          exact absurd H (by simp)
                      · rw [if_neg c13] at H
                        exact absurd H (by simp)
                    · rw [if_neg c12] at H
                      exact absurd H (by simp)
                  · rw [if_neg c11] at H
                    exact absurd H (by simp)
                · replace c10 := Bool.eq_false_iff.mpr c10
                  subst c10
                  have H1 : (swageref06_Critical.l0 kj5 l0 t320 x4_2 (wrap64 (x5_1 + 1))) = some r := by rw [if_neg (show ¬ (false = true) by decide)] at H; exact H
                  clear H
                  have H := H1
                  clear H1
                  have H' := Aside0.mk H
                  clear H
                  go_wp2
                  go_roundg kj5
                  case measure => have := HK1.out; have := HK2.out; have := HJ5.out; omega
                  case rel => exact ⟨(x4_2), (wrap64 (x5_1 + 1)), (by first | rfl | (simp; done) | (simp [*]; done)), H', ⟨by have := HK1.out; have := HK2.out; have := HJ5.out; omega⟩, ⟨by (with_reducible repeat (first | apply Kd.S_alloc | apply Kd.S_drewN | apply Kd.S_drew)); exact HO_3.out⟩, ⟨by (with_reducible repeat (first | apply Kd.R_alloc | apply Kd.R_drewN | apply Kd.R_drew)); exact HO_4.out⟩, ⟨by repeat (first | (with_reducible first | exact HB.out | apply below_alloc | apply pw_below_drewN | apply below_drew1) | exact HB.out)⟩⟩
      · rw [if_neg c4] at H
        have c4b0 : decide (x5_1 < (t320.length : Int)) = false := decide_eq_false c4
        clear c4
        obtain rfl := Option.some.inj H
        obtain ⟨Ao20, co20, eo20⟩ := Kd.S_slice HO_3.out
        subst eo20
        go_wp2
        go_ret
        exact ⟨_, by first | rfl | (simp [errW_none, errW_some] <;> rfl) | (simp [*, errW_none, errW_some] <;> rfl), by (with_reducible repeat (first | apply Kd.R_alloc | apply Kd.R_drewN | apply Kd.R_drew)); exact HO_4.out, by repeat (first | (with_reducible first | exact HB.out | apply below_alloc | apply pw_below_drewN | apply below_drew1) | exact HB.out)⟩

end Go.Proofs.Ytkmbhknmjnbanaa.A


namespace Go.Proofs.Ytkmbhknmjnbanaa.A
open Go.RowKit Go.Proofs.YtkmbhknmjnbanaaW.PrintWords Go.Proofs.YtkmbhknmjnbanaaW.PrintLast Go.Proofs.YtkmbhknmjnbanaaW.PrintMore
attribute [local go_sem] max2_int min2_int max_two min_two max_three min_three max_four min_four   -- for this text's walks alone
set_option linter.unusedVariables false
set_option linter.unusedSimpArgs false

def swageref06_Copy.l0 : Nat → List (List Int) → List (List Int) → Int → Option ((List (List Int)))
  | 0, _, _, _ => none
  | k + 1, x0, x3, x4 => if x4 < (x0.length : Int) then ((some (([] : List Int) : List Int)).bind fun y275 => (if 0 ≤ x4 then (if y275.length + (rd_L1 x0 x4).length < 17592186044416 then (if x3.length < 5864062014805 then (swageref06_Copy.l0 k x0 (x3 ++ [(y275 ++ (rd_L1 x0 x4))]) (wrap64 (x4 + 1))) else (none)) else (none)) else (none))) else (some x3)
def swageref06_Copy.f (k : Nat) (l0 : List (List Int)) : Option ((List (List Int))) := swageref06_Copy.l0 k l0 ([] : List (List Int)) 0
set_option maxHeartbeats 8000000 in
set_option maxRecDepth 100000 in
theorem swageref06_Copy.calls (k : Nat) (A0 : Option Addr) (c0 : Nat) (l0 : List (List Int)) (r : List (List Int)) (w : World) (hr0 : Kd.C (Kd.slice 3 (Kd.int .i64)) w A0 l0.length l0) (hc0 : l0.length ≤ c0) (h : swageref06_Copy.f k l0 = some r) :
    Calls Try.prog 15 #[.slice A0 l0.length c0] w fun e w' => ∃ v0_ : Value, e = .returned (v0_) ∧ Kd.S (Kd.slice 3 (Kd.int .i64)) 27 w' w.heap.size (fun _ => True) v0_ r ∧ Below w.heap.size w w' := by
  have HR0 := Aside0.mk hr0
  have HC0 := Aside0.mk hc0
  clear hr0 hc0
  have HB := Aside0.mk (Below.refl w.heap.size w)
  have H : (swageref06_Copy.l0 k l0 ([] : List (List Int)) 0) = some r := h
  clear h
  have H' := Aside0.mk H
  clear H
  go_enter Try.func15, Try.ntmps15
  go_wp2
  go_loopg [3, 4] k (fun kq v3 v4 w' => ∃ (x3_1 : List (List Int)) (x4_1 : Int), v4 = .int .i64 x4_1 ∧ Aside0 (swageref06_Copy.l0 kq l0 x3_1 x4_1 = some r) ∧ Aside0 (kq ≤ k) ∧ Aside0 (Kd.S (Kd.slice 3 (Kd.int .i64)) 27 w' w.heap.size (fun _ => True) v3 x3_1) ∧ Aside0 (Below w.heap.size w w'))
  case atStart => exact ⟨(([] : List (List Int))), (0), (by first | rfl | (simp; done) | (simp [*]; done)), H', ⟨Nat.le_refl _⟩, ⟨by first | exact Kd.S_nil _ _ _ _ _ | exact Kd.N_nil _ _ _ _ _ | exact Kd.V_nil _ _ _ _ _ | exact Kd.Q_nil _ _ _ _ _ | exact Kd.R_nil _ _ _ _ _⟩, ⟨by repeat (first | (with_reducible first | exact HB.out | apply below_alloc | apply pw_below_drewN | apply below_drew1) | exact HB.out)⟩⟩
  case round =>
    clear H'
    try clear c1
    obtain ⟨x3_1, x4_1, rfl, HA, HK1, HO_3, HB⟩ := hrel
    cases gk with
    | zero => exact absurd HA.out (by simp [swageref06_Copy.l0])
    | succ k1 =>
      have H := HA.out
      clear HA
      simp only [swageref06_Copy.l0] at H
      by_cases c2 : x4_1 < (l0.length : Int)
      · rw [if_pos c2] at H
        have c2b0 : decide (x4_1 < (l0.length : Int)) = true := decide_eq_true c2
        clear c2
        obtain ⟨y275, hy275⟩ : ∃ y_ : List Int, y_ = (([] : List Int)) := ⟨_, rfl⟩
        replace H : (if 0 ≤ x4_1 then (if y275.length + (rd_L1 l0 x4_1).length < 17592186044416 then (if x3_1.length < 5864062014805 then (swageref06_Copy.l0 k1 l0 (x3_1 ++ [(y275 ++ (rd_L1 l0 x4_1))]) (wrap64 (x4_1 + 1))) else (none)) else (none)) else (none)) = some r := by first | (rw [hy275]; with_reducible exact H) | (have H2_ := (Option.bind_some _ _).symm.trans H; rw [hy275]; with_reducible exact H2_) | (have H2_ := (Option.bind_some _ _).symm.trans H; with_reducible exact H2_) | with_reducible exact H | (rw [hy275]; exact H) | exact H
        have Ny275 := Aside0.mk hy275
        clear hy275
        by_cases c3 : 0 ≤ x4_1
        · rw [if_pos c3] at H
          have c3b0 : decide (0 ≤ x4_1) = true := decide_eq_true c3
          clear c3
          by_cases c4 : y275.length + (rd_L1 l0 x4_1).length < 17592186044416
          · rw [if_pos c4] at H
            have LMc4 := Aside0.mk c4
            clear c4
            obtain ⟨y279, hy279⟩ : ∃ y_ : List Int, y_ = (y275 ++ (rd_L1 l0 x4_1)) := ⟨_, rfl⟩
            replace H : (if x3_1.length < 5864062014805 then (swageref06_Copy.l0 k1 l0 (x3_1 ++ [y279]) (wrap64 (x4_1 + 1))) else (none)) = some r := by first | (rw [hy279]; with_reducible exact H) | (have H2_ := (Option.bind_some _ _).symm.trans H; rw [hy279]; with_reducible exact H2_) | (have H2_ := (Option.bind_some _ _).symm.trans H; with_reducible exact H2_) | with_reducible exact H | (rw [hy279]; exact H) | exact H
            have Ny279 := Aside0.mk hy279
            clear hy279
            by_cases c5 : x3_1.length < 5864062014805
            · rw [if_pos c5] at H
              have LMc5 := Aside0.mk c5
              clear c5
              obtain ⟨y282, hy282⟩ : ∃ y_ : List (List Int), y_ = (x3_1 ++ [y279]) := ⟨_, rfl⟩
              replace H : (swageref06_Copy.l0 k1 l0 y282 (wrap64 (x4_1 + 1))) = some r := by first | (rw [hy282]; with_reducible exact H) | (have H2_ := (Option.bind_some _ _).symm.trans H; rw [hy282]; with_reducible exact H2_) | (have H2_ := (Option.bind_some _ _).symm.trans H; with_reducible exact H2_) | with_reducible exact H | (rw [hy282]; exact H) | exact H
              have Ny282 := Aside0.mk hy282
              clear hy282
              have H' := Aside0.mk H
              clear H
              go_wp2_with (first | ((with_reducible refine gate_dst (N := 12) rfl ?_); refine Kd.R_lit (Kd.int .i64) _ 3 ?hg (N := 12) ?hd (xs := ([] : List Int)) (inner := []) (ok := fun _ => True) (okp := fun _ => True) ?hr ?hp (fun _ hk => hk) trivial (Below.refl _ _) (Nat.le_refl _) (by simp) ?_; (case hd => rfl); (case hg => rfl); (case hr => first | (go_simp; done) | (go_simp; rfl)); (case hp => exact (Reps.none _ _)); intro v276 w6 ho7 hb hg_ hnew_; clear hg_ hnew_; (first | rw [← Ny275.out] at ho7 | (simp only [Int.reduceToNat] at ho7; rw [← Ny275.out] at ho7)); have n0_ := Aside0.mk (Kd.S_elder' (by (with_reducible repeat (first | apply Kd.S_alloc | apply Kd.S_drewN | apply Kd.S_drew)); exact HO_3.out) (Kd.R_base ho7) hb); have n1_ := Aside0.mk (Kd.R_lower ho7 (below_size (by repeat (first | (with_reducible first | exact HB.out | apply below_alloc | apply pw_below_drewN | apply below_drew1) | exact HB.out)))); have n2_ := Aside0.mk (below_step (by repeat (first | (with_reducible first | exact HB.out | apply below_alloc | apply pw_below_drewN | apply below_drew1) | exact HB.out)) hb); clear HO_3; clear HB; have HO_3 := n0_; have HO277 := n1_; have HB := n2_; clear n0_ n1_ n2_; clear hb ho7; have p278 : 0 ≤ (x4_1 : Int) := of_decide_eq_true (by first | (with_reducible assumption) | assumption); have q278 : x4_1 < (l0.length : Int) := of_decide_eq_true (by first | (with_reducible assumption) | assumption); obtain ⟨ad278, A278_0, c278_0, e278, hx278_0, hl278_0, hi278_0⟩ := at_L1 HR0.out x4_1 p278 q278; cases e278; replace hx278_0 := (HB.out.cell (World.block_lt_of_cell? w _ hx278_0)).trans hx278_0; have HR278_0 := Aside0.mk hi278_0; have HC278_0 := Aside0.mk hl278_0; clear hi278_0 hl278_0; replace p278 := eq_true p278; replace q278 := eq_true q278) | ((with_reducible refine gate_builtin (b := .append) (xs := #[.tmp 12, .tmp 16]) rfl ?_); at_builtin; refine Kd.R_append_rows (Kd.int .i64) (w0 := w) w.heap.size rfl (.tmp 12) (.tmp 16) 27 3 (.int .i64 0) 8 rfl Try.underlying27 info3 rfl (by decide) (by omega) v276 y275 (rd_L1 l0 x4_1) _ _ _ (fun _ => True) (fun _ => False) rfl rfl ?aO ?aR (fun _ _ h => h) (fun _ h => h.elim) ?aF ?aB ?aS ?aL ?_; (case aR => repeat (first | exact (Kd.C_below HR278_0.out HB.out) | (with_reducible refine Kd.C_alloc ?_ _) | (with_reducible refine Kd.C_drewN ?_ _) | (with_reducible refine Kd.C_drew ?_))); (case aB => exact (by repeat (first | (with_reducible first | exact HB.out | apply below_alloc | apply pw_below_drewN | apply below_drew1) | exact HB.out))); (case aF => exact (fun _ _ => trivial)); (case aO => exact (by (with_reducible repeat (first | apply Kd.R_alloc | apply Kd.R_drewN | apply Kd.R_drew)); exact HO277.out)); (case aS => exact (below_size (by repeat (first | (with_reducible first | exact HB.out | apply below_alloc | apply pw_below_drewN | apply below_drew1) | exact HB.out)))); (case aL => have := LMc4.out; omega); intro v280 w8 ho hb hg hat; rw [← Ny279.out] at ho; have n0_ := Aside0.mk (Kd.S_after (ok := (fun _ => True)) (by (with_reducible repeat (first | apply Kd.S_alloc | apply Kd.S_drewN | apply Kd.S_drew)); exact HO_3.out) hg hat); have n1_ := Aside0.mk (hb); have n2_ := Aside0.mk (ho); clear HO_3; clear HB; clear HO277; have HO_3 := n0_; have HB := n1_; have HO281 := n2_; clear n0_ n1_ n2_; clear ho hb hg hat; obtain ⟨Ao10, co10, eo10⟩ := Kd.R_slice HO281.out; subst eo10) | ((with_reducible refine gate_builtin (b := .append) (xs := #[.tmp 11, .tmp 18]) rfl ?_); at_builtin; refine Kd.S_append (Kd.slice 3 (Kd.int .i64)) (w0 := w) w.heap.size rfl (.tmp 11) (.tmp 18) 22 27 (.slice none 0 0) 24 rfl Try.underlying22 info27 rfl (by decide) (by omega) u3 x3_1 y279 [.slice Ao10 y279.length co10] (fun _ => True) (fun k_ => some k_ = (.slice Ao10 y279.length co10 : Value).ownBlock) rfl rfl ?aP (fun k_ hk_ => ((Kd.R_mono (ok' := fun k_ => ((fun _ => True)) k_ ∧ some k_ ≠ (u3 : Value).ownBlock) (Kd.R_apart' (HO281.out) (Kd.S_typed HO_3.out) (by decide)) (fun k_ hk => ⟨trivial, hk.2⟩))).1 k_ hk_.symm) ?aF ?aO ?aB ?aS ?aL ?_; (case aP => exact Kd.M_row (Kd.R_mono (Kd.R_tight rfl (Kd.R_mono (ok' := fun k_ => ((fun _ => True)) k_ ∧ some k_ ≠ (u3 : Value).ownBlock) (Kd.R_apart' (HO281.out) (Kd.S_typed HO_3.out) (by decide)) (fun k_ hk => ⟨trivial, hk.2⟩))) (fun _ h_ => h_))); (case aB => exact (by repeat (first | (with_reducible first | exact HB.out | apply below_alloc | apply pw_below_drewN | apply below_drew1) | exact HB.out))); (case aF => exact (fun _ _ => trivial)); (case aO => exact (by (with_reducible repeat (first | apply Kd.S_alloc | apply Kd.S_drewN | apply Kd.S_drew)); exact Kd.S_mono HO_3.out (fun k_ hk => ⟨trivial, fun e_ => hk.2 e_⟩))); (case aS => exact (below_size (by repeat (first | (with_reducible first | exact HB.out | apply below_alloc | apply pw_below_drewN | apply below_drew1) | exact HB.out)))); (case aL => have := LMc5.out; omega); intro v283 w9 ho hb hg hat; rw [← Ny282.out] at ho; have n0_ := Aside0.mk (hb); have n1_ := Aside0.mk (ho); clear HB; clear HO_3; clear HO281; have HB := n0_; have HO284 := n1_; clear n0_ n1_; clear ho hb hg hat))
              go_roundg k1
              case measure => have := HK1.out; omega
              case rel => exact ⟨(y282), (wrap64 (x4_1 + 1)), (by first | rfl | (simp; done) | (simp [*]; done)), H', ⟨by have := HK1.out; omega⟩, ⟨by (with_reducible repeat (first | apply Kd.S_alloc | apply Kd.S_drewN | apply Kd.S_drew)); exact HO284.out⟩, ⟨by repeat (first | (with_reducible first | exact HB.out | apply below_alloc | apply pw_below_drewN | apply below_drew1) | exact HB.out)⟩⟩
            · rw [if_neg c5] at H
              exact absurd H (by simp)
          · rw [if_neg c4] at H
            exact absurd H (by simp)
        · rw [if_neg c3] at H
          exact absurd H (by simp)
      · rw [if_neg c2] at H
        have c2b0 : decide (x4_1 < (l0.length : Int)) = false := decide_eq_false c2
        clear c2
        obtain rfl := Option.some.inj H
        go_wp2
        go_ret
        exact ⟨_, by first | rfl | (simp [errW_none, errW_some] <;> rfl) | (simp [*, errW_none, errW_some] <;> rfl), by (with_reducible repeat (first | apply Kd.S_alloc | apply Kd.S_drewN | apply Kd.S_drew)); exact HO_3.out, by repeat (first | (with_reducible first | exact HB.out | apply below_alloc | apply pw_below_drewN | apply below_drew1) | exact HB.out)⟩

end Go.Proofs.Ytkmbhknmjnbanaa.A


namespace Go.Proofs.Ytkmbhknmjnbanaa.A
open Go.RowKit Go.Proofs.YtkmbhknmjnbanaaW.PrintWords Go.Proofs.YtkmbhknmjnbanaaW.PrintLast Go.Shelf
set_option linter.unusedVariables false
set_option linter.unusedSimpArgs false

theorem wsucc {i : Nat} (h : i ≤ 1000000000) : wrap64 ((i : Int) + 1) = ((i + 1 : Nat) : Int) := by rw [w64 (by omega) (by omega)]; rfl

theorem ints_l0 (l : List Int) (hl : l.length ≤ 1000000) : ∀ (d i : Nat), i + d = l.length → Evt (fun k => swageref02_Ints.l0 k l l i) true
  | 0, i, hi => Evt.step (Evt.const rfl) fun k => by rw [swageref02_Ints.l0, if_neg (by omega)]
  | d + 1, i, hi => Evt.step (ints_l0 l hl d (i + 1) (by omega)) fun k => by
    rw [swageref02_Ints.l0, if_pos (by omega), if_pos (by omega), if_pos (by omega), if_pos rfl, wsucc (by omega)]
theorem ints_ev (l : List Int) (hl : l.length ≤ 1000000) : Evt (fun k => swageref02_Ints.f k l l) true := by
  unfold swageref02_Ints.f
  exact Evt.congr (ints_l0 l hl l.length 0 (by omega)) fun k => by rw [if_pos rfl]; rfl
theorem flags_l0 (l : List Bool) (hl : l.length ≤ 1000000) : ∀ (d i : Nat), i + d = l.length → Evt (fun k => swageref06_Flags.l0 k l l i) true
  | 0, i, hi => Evt.step (Evt.const rfl) fun k => by rw [swageref06_Flags.l0, if_neg (by omega)]
  | d + 1, i, hi => Evt.step (flags_l0 l hl d (i + 1) (by omega)) fun k => by
    rw [swageref06_Flags.l0, if_pos (by omega), if_pos (by omega), if_pos (by omega), if_neg (by simp), wsucc (by omega)]
theorem flags_ev (l : List Bool) (hl : l.length ≤ 1000000) : Evt (fun k => swageref06_Flags.f k l l) true := by
  unfold swageref06_Flags.f
  exact Evt.congr (flags_l0 l hl l.length 0 (by omega)) fun k => by rw [if_pos rfl]; rfl
theorem pairs_l0 (l : List S37) (hl : l.length ≤ 1000000) : ∀ (d i : Nat), i + d = l.length → Evt (fun k => swageref05_Pairs.l0 k l l i) true
  | 0, i, hi => Evt.step (Evt.const rfl) fun k => by rw [swageref05_Pairs.l0, if_neg (by omega)]
  | d + 1, i, hi => Evt.step (pairs_l0 l hl d (i + 1) (by omega)) fun k => by
    rw [swageref05_Pairs.l0, if_pos (by omega), if_pos (by omega), if_pos (by omega), if_neg (by simp), wsucc (by omega)]
theorem pairs_ev (l : List S37) (hl : l.length ≤ 1000000) : Evt (fun k => swageref05_Pairs.f k l l) true := by
  unfold swageref05_Pairs.f
  exact Evt.congr (pairs_l0 l hl l.length 0 (by omega)) fun k => by rw [if_pos rfl]; rfl
theorem rows_l0 (l : List (List Int)) (hl : l.length ≤ 1000000) (hr : ∀ x ∈ l, x.length ≤ 1000000) : ∀ (d i : Nat), i + d = l.length → Evt (fun k => swageref06_Rows.l0 k l l i) true
  | 0, i, hi => Evt.step (Evt.const rfl) fun k => by rw [swageref06_Rows.l0, if_neg (by omega)]
  | d + 1, i, hi => by
    have h1 := ints_ev (rowOf l i) (hr _ (rowOf_mem (show i < l.length by omega)))
    refine Evt.step (Evt.bind (h := fun k t116 => (if t116 = true then (swageref06_Rows.l0 k l l ((i + 1 : Nat) : Int)) else (some false))) h1 (Evt.congr (rows_l0 l hl hr d (i + 1) (by omega)) fun k => by rw [if_pos rfl])) fun k => ?_
    rw [swageref06_Rows.l0, if_pos (by omega), if_pos (by omega), if_pos (by omega), rdL, wsucc (by omega)]
theorem rows_ev (l : List (List Int)) (hl : l.length ≤ 1000000) (hr : ∀ x ∈ l, x.length ≤ 1000000) : Evt (fun k => swageref06_Rows.f k l l) true := by
  unfold swageref06_Rows.f
  exact Evt.congr (rows_l0 l hl hr l.length 0 (by omega)) fun k => by rw [if_pos rfl]; rfl

theorem rref_l1 {g : List (List Int)} (hn : g.length ≤ 4096) {i : Nat} (hi : i < g.length) (h8 : (rowOf g i).length ≤ 8) {r : Bool} (h : Evt (fun k => swageref06_Right.l0 k g ((i + 1 : Nat) : Int)) r) :
    ∀ (d j : Nat), j + d = (rowOf g i).length → Evt (fun k => swageref06_Right.l1 k g i j) (!(((rowOf g i).drop j).any (badN g.length)) && r)
  | 0, j, hj => by
    rw [List.drop_eq_nil_of_le (by omega)]
    refine Evt.step h fun k => ?_
    rw [swageref06_Right.l1, if_pos (by omega), if_pos (by omega), rdL, if_neg (by omega), wsucc (by omega)]
  | d + 1, j, hj => by
    have hlt : j < (rowOf g i).length := by omega
    rw [List.drop_eq_getElem_cons hlt, List.any_cons]
    by_cases h1 : (rowOf g i)[j] < 0
    · rw [show badN g.length (rowOf g i)[j] = true by simp [badN, h1]]
      refine Evt.step (Evt.const rfl) fun k => ?_
      rw [swageref06_Right.l1, if_pos (by omega), if_pos (by omega), rdL, if_pos (by omega), if_pos (by omega), rdI hlt, if_pos h1]
      rfl
    · by_cases h2 : (rowOf g i)[j] ≥ (g.length : Int)
      · rw [show badN g.length (rowOf g i)[j] = true by simp [badN]; omega]
        refine Evt.step (Evt.const rfl) fun k => ?_
        rw [swageref06_Right.l1, if_pos (by omega), if_pos (by omega), rdL, if_pos (by omega), if_pos (by omega), rdI hlt, if_neg h1, if_pos h2]
        rfl
      · rw [show badN g.length (rowOf g i)[j] = false by simp [badN]; omega]
        refine Evt.step (rref_l1 hn hi h8 h d (j + 1) (by omega)) fun k => ?_
        rw [swageref06_Right.l1, if_pos (by omega), if_pos (by omega), rdL, if_pos (by omega), if_pos (by omega), rdI hlt, if_neg h1, if_neg h2, wsucc (by omega)]
theorem rref_l0 {g : List (List Int)} (hn : g.length ≤ 4096) : ∀ (d i : Nat), i + d = g.length → Evt (fun k => swageref06_Right.l0 k g i) (!((g.drop i).any (badL g.length)) && decide (1 ≤ g.length))
  | 0, i, hi => by
    rw [List.drop_eq_nil_of_le (by omega)]
    refine Evt.step (Evt.const rfl) fun k => ?_
    rw [swageref06_Right.l0, if_neg (by omega)]
    by_cases h : 1 ≤ g.length
    · rw [if_pos (by omega), decide_eq_true (by omega), decide_eq_true h]; rfl
    · rw [if_neg (by omega), decide_eq_false h]; rfl
  | d + 1, i, hi => by
    have hlt : i < g.length := by omega
    have hrow : rowOf g i = g[i] := by unfold rowOf; rw [List.getD_eq_getElem?_getD, List.getElem?_eq_getElem hlt]; rfl
    rw [List.drop_eq_getElem_cons hlt, List.any_cons, ← hrow]
    by_cases h : (rowOf g i).length > 8
    · rw [show badL g.length (rowOf g i) = true by simp [badL]; left; omega]
      refine Evt.step (Evt.const rfl) fun k => ?_
      rw [swageref06_Right.l0, if_pos (by omega), if_pos (by omega), rdL, if_pos (by omega)]
      rfl
    · have h1 := rref_l1 hn hlt (by omega) (rref_l0 hn d (i + 1) (by omega)) (rowOf g i).length 0 (by omega)
      rw [List.drop_zero] at h1
      rw [show badL g.length (rowOf g i) = (rowOf g i).any (badN g.length) by unfold badL; rw [decide_eq_false (by omega)]; rfl, Bool.not_or, Bool.and_assoc]
      refine Evt.step h1 fun k => ?_
      rw [swageref06_Right.l0, if_pos (by omega), if_pos (by omega), rdL, if_neg (by omega)]
      rfl
theorem rref_ev {g : List (List Int)} (hn : g.length ≤ 4096) : Evt (fun k => swageref06_Right.f k g) (rightB g) := by
  have h := rref_l0 hn g.length 0 (by omega)
  rw [List.drop_zero] at h
  have e : rightB g = (!(g.any (badL g.length)) && decide (1 ≤ g.length)) := by
    unfold rightB
    rw [decide_eq_true (p := g.length ≤ 4096) hn]
    cases decide (1 ≤ g.length) <;> cases g.any (badL g.length) <;> rfl
  rw [e]
  exact h

theorem pref_l1 {g : List (List Int)} (hn : g.length ≤ 4096) {i : Nat} (hi : i < g.length) (hR : ∀ x ∈ rowOf g i, 0 ≤ x ∧ x < (g.length : Int)) (hRl : (rowOf g i).length ≤ 100) {r : List (List Int)} : ∀ (d kk : Nat) (out : List (List Int)), kk + d = (rowOf g i).length → out.length = g.length → tot out + d ≤ 1000000 →
    Evt (fun k => swageref06_Preds.l0 k g (prow out i ((rowOf g i).drop kk)) ((i + 1 : Nat) : Int)) r → Evt (fun k => swageref06_Preds.l1 k g out i kk) r
  | 0, kk, out, hk, ho, ht, h => by
    rw [List.drop_eq_nil_of_le (by omega)] at h
    refine Evt.step h fun k => ?_
    rw [swageref06_Preds.l1, if_pos (by omega), if_pos (by omega), rdL, if_neg (by omega), wsucc (by omega)]
    rfl
  | d + 1, kk, out, hk, ho, ht, h => by
    have hlt : kk < (rowOf g i).length := by omega
    have hx := hR (rowOf g i)[kk] (List.getElem_mem hlt)
    have hlen : (rowOf g i)[kk].toNat < out.length := by omega
    rw [List.drop_eq_getElem_cons hlt] at h
    refine Evt.step (pref_l1 hn hi hR hRl d (kk + 1) (padd i out (rowOf g i)[kk]) (by omega) (by rw [padd_len, ho]) (by rw [tot_padd hlen]; omega) h) fun k => ?_
    have hrl := row_le_tot out (rowOf g i)[kk].toNat
    rw [swageref06_Preds.l1, if_pos (by omega), if_pos (by omega), rdL, if_pos (by omega), if_pos (by omega), rdI hlt, if_pos hx.1, if_pos (by omega)]
    rw [show rd_L1 out (rowOf g i)[kk] = rowOf out (rowOf g i)[kk].toNat from rfl, if_pos (by omega), wsucc (by omega)]
    rfl
theorem pref_l0 {g : List (List Int)} (hn : g.length ≤ 4096) (hg : InG g) (h8 : ∀ l ∈ g, l.length ≤ 8) : ∀ (d i : Nat), i + d = g.length →
    Evt (fun k => swageref06_Preds.l0 k g (pfold g i) i) (predsOf g)
  | 0, i, hi => by
    obtain rfl : i = g.length := by omega
    refine Evt.step (Evt.const rfl) fun k => ?_
    rw [swageref06_Preds.l0, if_neg (by omega)]
    rfl
  | d + 1, i, hi => by
    have hlt : i < g.length := by omega
    have ih := pref_l0 hn hg h8 d (i + 1) (by omega)
    rw [pfold_succ] at ih
    have h1 := h8 _ (rowOf_mem hlt)
    have h2 := tot_pfold hg i (by omega)
    have h3 := tot_take g i
    have h4 := tot_le h8
    refine Evt.step (pref_l1 (r := predsOf g) hn hlt (hg _ (rowOf_mem hlt)) (by omega) (rowOf g i).length 0 (pfold g i) (by omega) (pfold_len g i) (by omega) ih) fun k => ?_
    rw [swageref06_Preds.l0, if_pos (by omega)]
    rfl
theorem pref_ev {g : List (List Int)} (hn : g.length ≤ 4096) : Evt (fun k => swageref06_Preds.f k g) (if rightB g = true then predsOf g else []) := by
  unfold swageref06_Preds.f
  refine Evt.bind (h := fun k t291 => (if t291 = true then (if 0 ≤ (g.length : Int) then (if ((g.length : Int) : Int).toNat ≤ 11728124029610 then (swageref06_Preds.l0 k g (List.replicate ((g.length : Int) : Int).toNat []) 0) else (none)) else (none)) else (some ([] : List (List Int))))) (rref_ev hn) ?_
  cases hr : rightB g
  · exact Evt.const rfl
  · obtain ⟨h1, h2, h3⟩ := right_rows hr
    refine Evt.congr (pref_l0 h1 h3 (right_8 hr) g.length 0 (by omega)) fun k => ?_
    rw [if_pos rfl, if_pos (by omega), if_pos (by omega), Int.toNat_natCast]
    rfl

theorem cref_l1 {g : List (List Int)} (hn : g.length ≤ 4096) (hr : rightB g = true) {i : Nat} (hi : i < g.length) (hR : ∀ x ∈ rowOf g i, 0 ≤ x ∧ x < (g.length : Int)) (hRl : (rowOf g i).length ≤ 100) {r : List S37} : ∀ (d kk : Nat) (out : List S37), kk + d = (rowOf g i).length → out.length + d ≤ 1000000 →
    Evt (fun k => swageref06_Critical.l0 k g (predsOf g) (out ++ crow true (predsOf g) (rowOf g i).length i ((rowOf g i).drop kk)) ((i + 1 : Nat) : Int)) r → Evt (fun k => swageref06_Critical.l1 k g (predsOf g) out i kk) r
  | 0, kk, out, hk, ho, h => by
    rw [List.drop_eq_nil_of_le (by omega)] at h
    refine Evt.step (Evt.step h (f := fun k => swageref06_Critical.j2 k g (predsOf g) out i kk false) fun k => ?_) fun k => ?_
    · rw [swageref06_Critical.j2, if_neg (by simp), wsucc (by omega)]
      simp [crow]
    · rw [swageref06_Critical.l1, if_pos (by omega), if_pos (by omega), rdL, if_neg (by omega)]
  | d + 1, kk, out, hk, ho, h => by
    have hlt : kk < (rowOf g i).length := by omega
    have hx := hR (rowOf g i)[kk] (List.getElem_mem hlt)
    have hpl := predsOf_len g
    rw [List.drop_eq_getElem_cons hlt] at h
    have e : crow true (predsOf g) (rowOf g i).length i ((rowOf g i)[kk] :: (rowOf g i).drop (kk + 1)) = cstep true (predsOf g) (rowOf g i).length i (rowOf g i)[kk] ++ crow true (predsOf g) (rowOf g i).length i ((rowOf g i).drop (kk + 1)) := by unfold crow; rw [List.flatMap_cons]
    rw [e, ← List.append_assoc] at h
    by_cases h1 : 1 < (rowOf g i).length
    · by_cases h2 : 1 < (rowOf (predsOf g) (rowOf g i)[kk].toNat).length
      · have ec : cstep true (predsOf g) (rowOf g i).length i (rowOf g i)[kk] = [⟨i, (rowOf g i)[kk]⟩] := by unfold cstep; rw [if_pos ⟨rfl, h1, h2⟩]
        rw [ec] at h
        refine Evt.step (Evt.step (cref_l1 hn hr hi hR hRl d (kk + 1) _ (by omega) (by simp; omega) h) (f := fun k => swageref06_Critical.j2 k g (predsOf g) out i kk true) fun k => ?_) fun k => ?_
        · rw [swageref06_Critical.j2, if_pos rfl, if_pos (by omega), if_pos (by omega), if_pos (by omega), rdL, if_pos (by omega), rdI hlt, if_pos hx.1, if_pos (by omega)]
          rw [show rd_L1 (predsOf g) (rowOf g i)[kk] = rowOf (predsOf g) (rowOf g i)[kk].toNat from rfl, if_pos (by omega), if_pos (by omega), wsucc (by omega)]
        · rw [swageref06_Critical.l1, if_pos (by omega), if_pos (by omega), rdL, if_pos (by omega), decide_eq_true (by omega)]
      · have ec : cstep true (predsOf g) (rowOf g i).length i (rowOf g i)[kk] = [] := by unfold cstep; rw [if_neg (fun h => h2 h.2.2)]
        rw [ec, List.append_nil] at h
        refine Evt.step (Evt.step (cref_l1 hn hr hi hR hRl d (kk + 1) _ (by omega) (by omega) h) (f := fun k => swageref06_Critical.j2 k g (predsOf g) out i kk true) fun k => ?_) fun k => ?_
        · rw [swageref06_Critical.j2, if_pos rfl, if_pos (by omega), if_pos (by omega), if_pos (by omega), rdL, if_pos (by omega), rdI hlt, if_pos hx.1, if_pos (by omega)]
          rw [show rd_L1 (predsOf g) (rowOf g i)[kk] = rowOf (predsOf g) (rowOf g i)[kk].toNat from rfl, if_neg (by omega), wsucc (by omega)]
        · rw [swageref06_Critical.l1, if_pos (by omega), if_pos (by omega), rdL, if_pos (by omega), decide_eq_true (by omega)]
    · have ec : ∀ x, cstep true (predsOf g) (rowOf g i).length i x = [] := by intro x; unfold cstep; rw [if_neg (fun h => h1 h.2.1)]
      have ec2 : crow true (predsOf g) (rowOf g i).length i ((rowOf g i).drop (kk + 1)) = [] := by
        unfold crow; rw [List.flatMap_eq_nil_iff]; intro x _; exact ec x
      rw [ec, ec2, List.append_nil, List.append_nil] at h
      refine Evt.step (Evt.step h (f := fun k => swageref06_Critical.j2 k g (predsOf g) out i kk false) fun k => ?_) fun k => ?_
      · rw [swageref06_Critical.j2, if_neg (by simp), wsucc (by omega)]
      · rw [swageref06_Critical.l1, if_pos (by omega), if_pos (by omega), rdL, if_pos (by omega), decide_eq_false (by omega)]
theorem cref_l0 {g : List (List Int)} (hn : g.length ≤ 4096) (hr : rightB g = true) : ∀ (d i : Nat), i + d = g.length →
    Evt (fun k => swageref06_Critical.l0 k g (predsOf g) (crit true (predsOf g) g i) i) (crit true (predsOf g) g g.length)
  | 0, i, hi => by
    obtain rfl : i = g.length := by omega
    refine Evt.step (Evt.const rfl) fun k => ?_
    rw [swageref06_Critical.l0, if_neg (by rw [predsOf_len]; omega)]
  | d + 1, i, hi => by
    have hlt : i < g.length := by omega
    obtain ⟨_, _, hg⟩ := right_rows hr
    have ih := cref_l0 hn hr d (i + 1) (by omega)
    rw [crit_succ] at ih
    have h1 := right_8 hr _ (rowOf_mem hlt)
    have h2 := crit_len (b := true) (P := predsOf g) (right_8 hr) i (by omega)
    refine Evt.step (cref_l1 hn hr hlt (hg _ (rowOf_mem hlt)) (by omega) (rowOf g i).length 0 _ (by omega) (by omega) ih) fun k => ?_
    rw [swageref06_Critical.l0, if_pos (by rw [predsOf_len]; omega)]
    rfl
theorem cref_ev {g : List (List Int)} (hn : g.length ≤ 4096) : Evt (fun k => swageref06_Critical.f k g) (crit (rightB g) (predsOf g) g g.length) := by
  unfold swageref06_Critical.f
  refine Evt.bind (h := fun k t320 => swageref06_Critical.l0 k g t320 ([] : List S37) 0) (pref_ev hn) ?_
  cases hr : rightB g
  · rw [crit_false]
    refine Evt.step (Evt.const rfl) fun k => ?_
    rw [swageref06_Critical.l0, if_neg (by simp)]
  · exact cref_l0 hn hr g.length 0 (by omega)
end Go.Proofs.Ytkmbhknmjnbanaa.A


namespace Go.Proofs.Ytkmbhknmjnbanaa.A
open Go.RowKit Go.Proofs.YtkmbhknmjnbanaaW.PrintWords Go.Proofs.YtkmbhknmjnbanaaW.PrintLast Go.Proofs.YtkmbhknmjnbanaaW.PrintMore
attribute [local go_sem] max2_int min2_int max_two min_two max_three min_three max_four min_four   -- for this text's walks alone
set_option linter.unusedVariables false
set_option linter.unusedSimpArgs false

mutual
def swageref06_Reach.j0 : Nat → List (List Int) → Int → Bool → Option (List Bool)
  | 0, _, _, _ => none
  | k + 1, x0, x1, x23 => if x23 = true then (some ([] : List Bool)) else (if 0 ≤ (x0.length : Int) then (if ((x0.length : Int) : Int).toNat ≤ 281474976710656 then ((some (List.replicate ((x0.length : Int) : Int).toNat false : List Bool)).bind fun y308 => (if 0 ≤ x1 then (if x1 < (y308.length : Int) then (swageref06_Reach.l0 k x0 (y308.set (x1 : Int).toNat true) true) else (none)) else (none))) else (none)) else (none))
def swageref06_Reach.l0 : Nat → List (List Int) → List Bool → Bool → Option (List Bool)
  | 0, _, _, _ => none
  | k + 1, x0, x6, x7 => if x7 = true then (swageref06_Reach.l1 k x0 x6 false 0) else (some x6)
def swageref06_Reach.l1 : Nat → List (List Int) → List Bool → Bool → Int → Option (List Bool)
  | 0, _, _, _, _ => none
  | k + 1, x0, x6, x7, x8 => if x8 < (x0.length : Int) then (swageref06_Reach.l2 k x0 x6 x7 x8 0) else (swageref06_Reach.l0 k x0 x6 x7)
def swageref06_Reach.l2 : Nat → List (List Int) → List Bool → Bool → Int → Int → Option (List Bool)
  | 0, _, _, _, _, _ => none
  | k + 1, x0, x6, x7, x8, x9 => if 0 ≤ x8 then (if x8 < (x0.length : Int) then (if x9 < ((rd_L1 x0 x8).length : Int) then (if x8 < (x6.length : Int) then (swageref06_Reach.j4 k x0 x6 x7 x8 x9 (rdOf false x6 x8)) else (none)) else (swageref06_Reach.j4 k x0 x6 x7 x8 x9 false)) else (none)) else (none)
def swageref06_Reach.j4 : Nat → List (List Int) → List Bool → Bool → Int → Int → Bool → Option (List Bool)
  | 0, _, _, _, _, _, _ => none
  | k + 1, x0, x6, x7, x8, x9, x49 => if x49 = true then (if 0 ≤ x8 then (if x8 < (x0.length : Int) then (if 0 ≤ x9 then (if x9 < ((rd_L1 x0 x8).length : Int) then (if 0 ≤ (rd (rd_L1 x0 x8) x9) then (if (rd (rd_L1 x0 x8) x9) < (x6.length : Int) then (if (rdOf false x6 (rd (rd_L1 x0 x8) x9) = true) then (swageref06_Reach.l2 k x0 x6 x7 x8 (wrap64 (x9 + 1))) else (swageref06_Reach.l2 k x0 (x6.set ((rd (rd_L1 x0 x8) x9) : Int).toNat true) true x8 (wrap64 (x9 + 1)))) else (none)) else (none)) else (none)) else (none)) else (none)) else (none)) else (swageref06_Reach.l1 k x0 x6 x7 (wrap64 (x8 + 1)))
end
def swageref06_Reach.f (k : Nat) (l0 : List (List Int)) (a1 : Int) : Option (List Bool) := (swageref06_Right.f k l0).bind fun t307 => (if t307 = true then (if a1 < 0 then (swageref06_Reach.j0 k l0 a1 true) else (swageref06_Reach.j0 k l0 a1 (decide (a1 ≥ (l0.length : Int))))) else (swageref06_Reach.j0 k l0 a1 true))
set_option maxHeartbeats 8000000 in
set_option maxRecDepth 100000 in
theorem swageref06_Reach.calls (k : Nat) (A0 : Option Addr) (c0 : Nat) (l0 : List (List Int)) (a1 : Int) (r : List Bool) (w : World) (hr0 : Kd.C (Kd.slice 3 (Kd.int .i64)) w A0 l0.length l0) (hc0 : l0.length ≤ c0) (h : swageref06_Reach.f k l0 a1 = some r) :
    Calls Try.prog 23 #[.slice A0 l0.length c0, .int .i64 a1] w fun e w' => ∃ v0_ : Value, e = .returned (v0_) ∧ Kd.R Kd.bool 4 w' w.heap.size (fun _ => True) v0_ r ∧ Below w.heap.size w w' := by
  have HR0 := Aside0.mk hr0
  have HC0 := Aside0.mk hc0
  clear hr0 hc0
  have HB := Aside0.mk (Below.refl w.heap.size w)
  have H : ((swageref06_Right.f k l0).bind fun t307 => (if t307 = true then (if a1 < 0 then (swageref06_Reach.j0 k l0 a1 true) else (swageref06_Reach.j0 k l0 a1 (decide (a1 ≥ (l0.length : Int))))) else (swageref06_Reach.j0 k l0 a1 true))) = some r := h
  clear h
  replace H := Option.bind_eq_some_iff.mp H
  obtain ⟨t307, A30, H⟩ := H
  replace H : (if t307 = true then (if a1 < 0 then (swageref06_Reach.j0 k l0 a1 true) else (swageref06_Reach.j0 k l0 a1 (decide (a1 ≥ (l0.length : Int))))) else (swageref06_Reach.j0 k l0 a1 true)) = some r := H
  have A3 := Aside0.mk A30
  clear A30
  have HC4 := Aside0.mk H
  clear H
  go_enter Try.func23, Try.ntmps23
  go_upto_region 2 with (first | ((with_reducible refine gate_callee (f := 20) rfl ?_); refine goesL_ (some 11) rfl rfl Try.func20 (by kernel_rfl) rfl #[.slice A0 l0.length c0] rfl (by (try simp only [List.map_toArray, List.map_cons, List.map_nil]); first | done | rfl | (simp only [List.length_drop, List.length_take]; rfl)) ?_; (with_reducible refine (swageref06_Right.calls k _ _ l0 t307 _ ?side1 ?side2 A3.out).mono ?_); (case side1 => repeat (first | exact HR0.out | (with_reducible refine Kd.C_alloc ?_ _) | (with_reducible refine Kd.C_drewN ?_ _) | (with_reducible refine Kd.C_drew ?_))); (case side2 => exact HC0.out); rintro e w' ⟨rfl, ⟨nd, rfl⟩⟩; refine ⟨_, rfl, ?_⟩))
  (try simp only [Act.put, List.setIfInBounds_toArray, List.set_cons_zero, List.set_cons_succ])
  go_cut [23] (fun v23 wc => ∃ (kq : Nat) (x23_3 : Bool), v23 = .bool x23_3 ∧ Aside0 (swageref06_Reach.j0 kq l0 a1 x23_3 = some r) ∧ Aside0 (kq ≤ k) ∧ Aside0 (Below w.heap.size w wc))
  case first =>
    have H := HC4.out
    clear HC4
    by_cases c5 : t307 = true
    · subst c5
      have H1 : (if a1 < 0 then (swageref06_Reach.j0 k l0 a1 true) else (swageref06_Reach.j0 k l0 a1 (decide (a1 ≥ (l0.length : Int))))) = some r := by rw [if_pos rfl] at H; exact H
      clear H
      have H := H1
      clear H1
      by_cases c6 : a1 < 0
      · rw [if_pos c6] at H
        have c6b0 : decide (a1 < 0) = true := decide_eq_true c6
        clear c6
        (first | rw [c6b0] | (simp only [i64_w, i32_w]; rw [c6b0]) | skip)
        have H' := Aside0.mk H
        clear H
        go_wp2
        go_meet
        case rel => exact ⟨_, (true), (by first | rfl | (simp; done) | (simp [*]; done)), H', ⟨by first | omega | exact Nat.le_refl _⟩, ⟨by repeat (first | (with_reducible first | exact HB.out | apply below_alloc | apply pw_below_drewN | apply below_drew1) | exact HB.out)⟩⟩
      · rw [if_neg c6] at H
        have c6b0 : decide (a1 < 0) = false := decide_eq_false c6
        clear c6
        (first | rw [c6b0] | (simp only [i64_w, i32_w]; rw [c6b0]) | skip)
        have H' := Aside0.mk H
        clear H
        go_wp2
        go_meet
        case rel => exact ⟨_, (decide (a1 ≥ (l0.length : Int))), (by first | rfl | (simp; done) | (simp [*]; done)), H', ⟨by first | omega | exact Nat.le_refl _⟩, ⟨by repeat (first | (with_reducible first | exact HB.out | apply below_alloc | apply pw_below_drewN | apply below_drew1) | exact HB.out)⟩⟩
    · replace c5 := Bool.eq_false_iff.mpr c5
      subst c5
      have H1 : (swageref06_Reach.j0 k l0 a1 true) = some r := by rw [if_neg (show ¬ (false = true) by decide)] at H; exact H
      clear H
      have H := H1
      clear H1
      have H' := Aside0.mk H
      clear H
      go_wp2
      go_meet
      case rel => exact ⟨_, (true), (by first | rfl | (simp; done) | (simp [*]; done)), H', ⟨by first | omega | exact Nat.le_refl _⟩, ⟨by repeat (first | (with_reducible first | exact HB.out | apply below_alloc | apply pw_below_drewN | apply below_drew1) | exact HB.out)⟩⟩
  case rest =>
    clear HC4
    try clear c2
    try clear p2
    try clear c5
    try clear c6
    try clear c6b0
    obtain ⟨kq, x23_3, rfl, HA, HJ3, HB⟩ := hcut
    cases kq with
    | zero => exact absurd HA.out (by simp [swageref06_Reach.j0])
    | succ kj3 =>
      have H := HA.out
      clear HA
      simp only [swageref06_Reach.j0] at H
      by_cases c7 : x23_3 = true
      · subst c7
        have H1 : (some ([] : List Bool)) = some r := by rw [if_pos rfl] at H; exact H
        clear H
        have H := H1
        clear H1
        obtain rfl := Option.some.inj H
        go_wp2
        go_ret
        exact ⟨_, by first | rfl | (simp [errW_none, errW_some] <;> rfl) | (simp [*, errW_none, errW_some] <;> rfl), by first | exact Kd.R_nil _ _ _ _ _ | exact Kd.N_nil _ _ _ _ _ | exact Kd.V_nil _ _ _ _ _ | exact Kd.Q_nil _ _ _ _ _ | exact Kd.S_nil _ _ _ _ _, by repeat (first | (with_reducible first | exact HB.out | apply below_alloc | apply pw_below_drewN | apply below_drew1) | exact HB.out)⟩
      · replace c7 := Bool.eq_false_iff.mpr c7
        subst c7
        have H1 : (if 0 ≤ (l0.length : Int) then (if ((l0.length : Int) : Int).toNat ≤ 281474976710656 then ((some (List.replicate ((l0.length : Int) : Int).toNat false : List Bool)).bind fun y308 => (if 0 ≤ a1 then (if a1 < (y308.length : Int) then (swageref06_Reach.l0 kj3 l0 (y308.set (a1 : Int).toNat true) true) else (none)) else (none))) else (none)) else (none)) = some r := by rw [if_neg (show ¬ (false = true) by decide)] at H; exact H
        clear H
        have H := H1
        clear H1
        by_cases c8 : 0 ≤ (l0.length : Int)
        · rw [if_pos c8] at H
          have c8b0 := eq_true c8
          have c8b1 : decide (0 ≤ (l0.length : Int)) = true := decide_eq_true c8
          clear c8
          by_cases c9 : ((l0.length : Int) : Int).toNat ≤ 281474976710656
          · rw [if_pos c9] at H
            have c9b0 := eq_true c9
            have c9b1 : decide (((l0.length : Int) : Int).toNat ≤ 281474976710656) = true := decide_eq_true c9
            clear c9
            obtain ⟨y308, hy308⟩ : ∃ y_ : List Bool, y_ = (List.replicate ((l0.length : Int) : Int).toNat false) := ⟨_, rfl⟩
            replace H : (if 0 ≤ a1 then (if a1 < (y308.length : Int) then (swageref06_Reach.l0 kj3 l0 (y308.set (a1 : Int).toNat true) true) else (none)) else (none)) = some r := by first | (rw [hy308]; with_reducible exact H) | (have H2_ := (Option.bind_some _ _).symm.trans H; rw [hy308]; with_reducible exact H2_) | (have H2_ := (Option.bind_some _ _).symm.trans H; with_reducible exact H2_) | with_reducible exact H | (rw [hy308]; exact H) | exact H
            have Ny308 := Aside0.mk hy308
            clear hy308
            by_cases c10 : 0 ≤ a1
            · rw [if_pos c10] at H
              have c10b0 : decide (0 ≤ a1) = true := decide_eq_true c10
              clear c10
              by_cases c11 : a1 < (y308.length : Int)
              · rw [if_pos c11] at H
                have c11b0 : decide (a1 < (y308.length : Int)) = true := decide_eq_true c11
                clear c11
                obtain ⟨y311, hy311⟩ : ∃ y_ : List Bool, y_ = (y308.set (a1 : Int).toNat true) := ⟨_, rfl⟩
                replace H : (swageref06_Reach.l0 kj3 l0 y311 true) = some r := by first | (rw [hy311]; with_reducible exact H) | (have H2_ := (Option.bind_some _ _).symm.trans H; rw [hy311]; with_reducible exact H2_) | (have H2_ := (Option.bind_some _ _).symm.trans H; with_reducible exact H2_) | with_reducible exact H | (rw [hy311]; exact H) | exact H
                have Ny311 := Aside0.mk hy311
                clear hy311
                have H' := Aside0.mk H
                clear H
                go_wp2_with (first | ((with_reducible refine gate_dst (N := 26) rfl ?_); (try (refine gate_guard (by rfl) ?_; dsimp only)); refine Kd.R_make Kd.bool _ 4 rfl (N := 26) rfl 29 _ _ rfl (l0.length : Int) rfl rfl Try.underlying29 (.bool false) 1 info4 rfl (by decide) (by omega) false (ok := fun _ => True) (okp := fun _ => True) rfl (fun _ hk => hk) trivial (of_decide_eq_true (by first | (with_reducible assumption) | assumption)) (Nat.le_trans (Nat.mul_le_mul_right _ (of_decide_eq_true (by first | (with_reducible assumption) | assumption) : (l0.length : Int).toNat ≤ 281474976710656)) (by omega)) (Below.refl _ _) (Nat.le_refl _) ?_; intro v309 w13 ho14 hb hg_ hnew_; clear hg_ hnew_; (first | rw [← Ny308.out] at ho14 | (simp only [Int.reduceToNat] at ho14; rw [← Ny308.out] at ho14)); have n0_ := Aside0.mk (Kd.R_lower ho14 (below_size (by repeat (first | (with_reducible first | exact HB.out | apply below_alloc | apply pw_below_drewN | apply below_drew1) | exact HB.out)))); have n1_ := Aside0.mk (below_step (by repeat (first | (with_reducible first | exact HB.out | apply below_alloc | apply pw_below_drewN | apply below_drew1) | exact HB.out)) hb); clear HB; have HO310 := n0_; have HB := n1_; clear n0_ n1_; clear hb ho14; have p12 : 0 ≤ (a1 : Int) := of_decide_eq_true (by first | (with_reducible assumption) | assumption); have q12 : (a1 : Int) < ((y308.length : Int) : Int) := of_decide_eq_true (by first | (with_reducible assumption) | assumption); obtain ⟨go12, co12, eo12, gb12, gl12, cl12, HG12⟩ := Kd.R_form HO310.out (by omega); (first | cases eo12 | (injection eo12 with ea_ en_ ec_; (first | subst ea_ | (injection ea_ with ea_; subst ea_)); subst ec_; clear en_)); have GB12 := Aside0.mk gb12; have GG12 := Aside0.mk HG12; clear gb12 gl12 HG12; obtain ⟨hx12_0, hf12_0⟩ := Kd.R_celln false HO310.out (a1 : Int) p12 q12; replace p12 := eq_true p12; replace q12 := eq_true q12; obtain ⟨hy15_, hz15_⟩ := Kd.R_celln false HO310.out (a1 : Int) (of_decide_eq_true (by first | (with_reducible assumption) | assumption)) (of_decide_eq_true (by first | (with_reducible assumption) | assumption)); have HP15 := Kd.R_putg HO310.out (a1 : Int) true) | ((with_reducible refine gate_store (t := 4) (p := 29) rfl ?_); refine store_event (t := 4) (p := 29) (v := ?vo_w16) (w1 := (w13.setCell ⟨go12, (a1 : Int).toNat, none⟩ (.bool true))) ?hg ?ho ?hn ?hr ?_; (case ho => rfl); (case hg => rfl); (case hn => rfl); (case hr => first | (go_simp; done) | (go_simp; rfl)); intro w16 hw; have hg : w13.grownBy w16 (some go12) := (by rw [hw]; exact HP15.2); have hp_ : Kd.R Kd.bool 4 w16 w.heap.size (fun _ => True) (.slice (some ⟨go12, 0, none⟩) y308.length co12) y311 := (by rw [hw, Ny311.out]; exact HP15.1); clear HP15; have n0_ := Aside0.mk (hp_); have n1_ := Aside0.mk ((by rw [hw]; exact below_set (HB.out) GB12.out : Below w.heap.size w w16)); clear HO310; clear HB; have HO310 := n0_; have HB := n1_; clear n0_ n1_; clear hg hw hp_))
                go_loopg [7] kj3 (fun kq v7 w' => ∃ (x6_2 : List Bool) (x7_2 : Bool), v7 = .bool x7_2 ∧ Aside0 (swageref06_Reach.l0 kq l0 x6_2 x7_2 = some r) ∧ Aside0 (kq ≤ kj3) ∧ Aside0 (Kd.R Kd.bool 4 w' w.heap.size (fun _ => True) (.slice (some ⟨go12, 0, none⟩) y308.length co12) x6_2) ∧ Aside0 (Below w.heap.size w w'))
                case atStart => exact ⟨(y311), (true), (by first | rfl | (simp; done) | (simp [*]; done)), H', ⟨Nat.le_refl _⟩, ⟨by (with_reducible repeat (first | apply Kd.R_alloc | apply Kd.R_drewN | apply Kd.R_drew)); exact HO310.out⟩, ⟨by repeat (first | (with_reducible first | exact HB.out | apply below_alloc | apply pw_below_drewN | apply below_drew1) | exact HB.out)⟩⟩
                case round =>
                  clear H'
                  try clear c1
                  try clear p1
                  try clear q1
                  try clear hx1
                  try clear c2
                  try clear p2
                  try clear c5
                  try clear c6
                  try clear c6b0
                  try clear c7
                  try clear c8
                  try clear c8b0
                  try clear c8b1
                  try clear c9
                  try clear c9b0
                  try clear c9b1
                  try clear c10
                  try clear c10b0
                  try clear c11
                  try clear c11b0
                  try clear p12
                  try clear q12
                  try clear hx12
                  try clear hf12
                  try clear hx12_0
                  try clear p12
                  try clear p2
                  try clear q12
                  obtain ⟨x6_2, x7_2, rfl, HA, HK2, HO_6, HB⟩ := hrel
                  have hl6_2 := (Kd.R_reads' HO_6.out).1
                  rw [hl6_2] at HO_6
                  (try simp only [hl6_2])
                  cases gk with
                  | zero => exact absurd HA.out (by simp [swageref06_Reach.l0])
                  | succ k2 =>
                    have H := HA.out
                    clear HA
                    simp only [swageref06_Reach.l0] at H
                    by_cases c17 : x7_2 = true
                    · subst c17
                      have H1 : (swageref06_Reach.l1 k2 l0 x6_2 false 0) = some r := by rw [if_pos rfl] at H; exact H
                      clear H
                      have H := H1
                      clear H1
                      have H' := Aside0.mk H
                      clear H
                      go_wp2
                      go_loopg [7, 8] k2 (fun kq v7 v8 w' => ∃ (x6_3 : List Bool) (x7_3 : Bool) (x8_3 : Int), v7 = .bool x7_3 ∧ v8 = .int .i64 x8_3 ∧ Aside0 (swageref06_Reach.l1 kq l0 x6_3 x7_3 x8_3 = some r) ∧ Aside0 (kq ≤ k2) ∧ Aside0 (Kd.R Kd.bool 4 w' w.heap.size (fun _ => True) (.slice (some ⟨go12, 0, none⟩) x6_2.length co12) x6_3) ∧ Aside0 (Below w.heap.size w w'))
                      case atStart => exact ⟨(x6_2), (false), (0), (by first | rfl | (simp; done) | (simp [*]; done)), (by first | rfl | (simp; done) | (simp [*]; done)), H', ⟨Nat.le_refl _⟩, ⟨by (try simp only [hl6_2]); (with_reducible repeat (first | apply Kd.R_alloc | apply Kd.R_drewN | apply Kd.R_drew)); exact HO_6.out⟩, ⟨by repeat (first | (with_reducible first | exact HB.out | apply below_alloc | apply pw_below_drewN | apply below_drew1) | exact HB.out)⟩⟩
                      case round =>
                        clear H'
                        try clear c1
                        try clear p1
                        try clear q1
                        try clear hx1
                        try clear c2
                        try clear p2
                        try clear c5
                        try clear c6
                        try clear c6b0
                        try clear c7
                        try clear c8
                        try clear c8b0
                        try clear c8b1
                        try clear c9
                        try clear c9b0
                        try clear c9b1
                        try clear c10
                        try clear c10b0
                        try clear c11
                        try clear c11b0
                        try clear p12
                        try clear q12
                        try clear hx12
                        try clear hf12
                        try clear c17
                        try clear hx12_0
                        try clear p1
                        try clear p12
                        try clear p2
                        try clear q1
                        try clear q12
                        obtain ⟨x6_3, x7_3, x8_3, rfl, rfl, HA, HK3, HO_6, HB⟩ := hrel
                        have hl6_3 := (Kd.R_reads' HO_6.out).1
                        rw [hl6_3] at HO_6
                        (try simp only [hl6_3])
                        cases gk with
                        | zero => exact absurd HA.out (by simp [swageref06_Reach.l1])
                        | succ k3 =>
                          have H := HA.out
                          clear HA
                          simp only [swageref06_Reach.l1] at H
                          by_cases c18 : x8_3 < (l0.length : Int)
                          · rw [if_pos c18] at H
                            have c18b0 : decide (x8_3 < (l0.length : Int)) = true := decide_eq_true c18
                            clear c18
                            have H' := Aside0.mk H
                            clear H
                            go_wp2
                            go_loopg [7, 9] k3 (fun kq v7 v9 w' => ∃ (x6_4 : List Bool) (x7_4 : Bool) (x9_4 : Int), v7 = .bool x7_4 ∧ v9 = .int .i64 x9_4 ∧ Aside0 (swageref06_Reach.l2 kq l0 x6_4 x7_4 x8_3 x9_4 = some r) ∧ Aside0 (kq ≤ k3) ∧ Aside0 (Kd.R Kd.bool 4 w' w.heap.size (fun _ => True) (.slice (some ⟨go12, 0, none⟩) x6_3.length co12) x6_4) ∧ Aside0 (Below w.heap.size w w'))
                            case atStart => exact ⟨(x6_3), (x7_3), (0), (by first | rfl | (simp; done) | (simp [*]; done)), (by first | rfl | (simp; done) | (simp [*]; done)), H', ⟨Nat.le_refl _⟩, ⟨by (try simp only [hl6_2]); (try simp only [hl6_3]); (with_reducible repeat (first | apply Kd.R_alloc | apply Kd.R_drewN | apply Kd.R_drew)); exact HO_6.out⟩, ⟨by repeat (first | (with_reducible first | exact HB.out | apply below_alloc | apply pw_below_drewN | apply below_drew1) | exact HB.out)⟩⟩
                            case round =>
                              clear H'
                              try clear c1
                              try clear p1
                              try clear q1
                              try clear hx1
                              try clear c2
                              try clear p2
                              try clear c5
                              try clear c6
                              try clear c6b0
                              try clear c7
                              try clear c8
                              try clear c8b0
                              try clear c8b1
                              try clear c9
                              try clear c9b0
                              try clear c9b1
                              try clear c10
                              try clear c10b0
                              try clear c11
                              try clear c11b0
                              try clear p12
                              try clear q12
                              try clear hx12
                              try clear hf12
                              try clear c17
                              try clear c18
                              try clear c18b0
                              try clear hx12_0
                              try clear p1
                              try clear p12
                              try clear p2
                              try clear q1
                              try clear q12
                              obtain ⟨x6_4, x7_4, x9_4, rfl, rfl, HA, HK4, HO_6, HB⟩ := hrel
                              have hl6_4 := (Kd.R_reads' HO_6.out).1
                              rw [hl6_4] at HO_6
                              (try simp only [hl6_4])
                              cases gk with
                              | zero => exact absurd HA.out (by simp [swageref06_Reach.l2])
                              | succ k4 =>
                                have H := HA.out
                                clear HA
                                simp only [swageref06_Reach.l2] at H
                                have HC19 := Aside0.mk H
                                clear H
                                go_upto_region 13 with (fail)
                                go_cut [49] (fun v49 wc => ∃ (kq : Nat) (x49_18 : Bool), v49 = .bool x49_18 ∧ Aside0 (swageref06_Reach.j4 kq l0 x6_4 x7_4 x8_3 x9_4 x49_18 = some r) ∧ Aside0 (kq ≤ k4) ∧ Aside0 (Kd.R Kd.bool 4 wc w.heap.size (fun _ => True) (.slice (some ⟨go12, 0, none⟩) x6_4.length co12) x6_4) ∧ Aside0 (Below w.heap.size w wc))
                                case first =>
                                  have H := HC19.out
                                  clear HC19
                                  by_cases c20 : 0 ≤ x8_3
                                  · rw [if_pos c20] at H
                                    have c20b0 : decide (0 ≤ x8_3) = true := decide_eq_true c20
                                    clear c20
                                    (first | rw [c20b0] | (simp only [i64_w, i32_w]; rw [c20b0]) | skip)
                                    by_cases c21 : x8_3 < (l0.length : Int)
                                    · rw [if_pos c21] at H
                                      have c21b0 : decide (x8_3 < (l0.length : Int)) = true := decide_eq_true c21
                                      clear c21
                                      by_cases c22 : x9_4 < ((rd_L1 l0 x8_3).length : Int)
                                      · rw [if_pos c22] at H
                                        have c22b0 : decide (x9_4 < ((rd_L1 l0 x8_3).length : Int)) = true := decide_eq_true c22
                                        clear c22
                                        by_cases c23 : x8_3 < (x6_4.length : Int)
                                        · rw [if_pos c23] at H
                                          have c23b0 : decide (x8_3 < (x6_4.length : Int)) = true := decide_eq_true c23
                                          clear c23
                                          have H' := Aside0.mk H
                                          clear H
                                          have p312 : 0 ≤ (x8_3 : Int) := of_decide_eq_true (by first | (with_reducible assumption) | assumption)
                                          have q312 : x8_3 < (l0.length : Int) := of_decide_eq_true (by first | (with_reducible assumption) | assumption)
                                          obtain ⟨ad312, A312_0, c312_0, e312, hx312_0, hl312_0, hi312_0⟩ := at_L1 HR0.out x8_3 p312 q312
                                          cases e312
                                          replace hx312_0 := (HB.out.cell (World.block_lt_of_cell? w _ hx312_0)).trans hx312_0
                                          have HR312_0 := Aside0.mk hi312_0
                                          have HC312_0 := Aside0.mk hl312_0
                                          clear hi312_0 hl312_0
                                          replace p312 := eq_true p312
                                          replace q312 := eq_true q312
                                          have p313 : 0 ≤ (x8_3 : Int) := of_decide_eq_true (by first | (with_reducible assumption) | assumption)
                                          have q313 : x8_3 < (x6_4.length : Int) := of_decide_eq_true (by first | (with_reducible assumption) | assumption)
                                          obtain ⟨ad313, e313, hx313_0⟩ := Kd.at_bool (Kd.R_reads' HO_6.out).2.2 x8_3 p313 q313
                                          obtain rfl : (⟨go12, 0, none⟩ : Addr) = ad313 := (by injection e313)
                                          (first | simp only [add_plain] at hx313_0 | simp only [add_at] at hx313_0 | simp only [Addr.add, Nat.zero_add] at hx313_0 | skip)
                                          replace p313 := eq_true p313
                                          replace q313 := eq_true q313
                                          go_wp2
                                          go_meet
                                          case rel => exact ⟨_, (rdOf false x6_4 x8_3), (by first | rfl | (simp; done) | (simp [*]; done)), H', ⟨by have := HJ3.out; have := HK2.out; have := HK3.out; have := HK4.out; first | omega | exact Nat.le_refl _⟩, ⟨by (try simp only [hl6_2]); (try simp only [hl6_3]); (try simp only [hl6_4]); (with_reducible repeat (first | apply Kd.R_alloc | apply Kd.R_drewN | apply Kd.R_drew)); exact HO_6.out⟩, ⟨by repeat (first | (with_reducible first | exact HB.out | apply below_alloc | apply pw_below_drewN | apply below_drew1) | exact HB.out)⟩⟩
                                        · rw [if_neg c23] at H
                                          exact absurd H (by simp)
                                      · rw [if_neg c22] at H
                                        have c22b0 : decide (x9_4 < ((rd_L1 l0 x8_3).length : Int)) = false := decide_eq_false c22
                                        clear c22
                                        have H' := Aside0.mk H
                                        clear H
                                        have p312 : 0 ≤ (x8_3 : Int) := of_decide_eq_true (by first | (with_reducible assumption) | assumption)
                                        have q312 : x8_3 < (l0.length : Int) := of_decide_eq_true (by first | (with_reducible assumption) | assumption)
                                        obtain ⟨ad312, A312_0, c312_0, e312, hx312_0, hl312_0, hi312_0⟩ := at_L1 HR0.out x8_3 p312 q312
                                        cases e312
                                        replace hx312_0 := (HB.out.cell (World.block_lt_of_cell? w _ hx312_0)).trans hx312_0
                                        have HR312_0 := Aside0.mk hi312_0
                                        have HC312_0 := Aside0.mk hl312_0
                                        clear hi312_0 hl312_0
                                        replace p312 := eq_true p312
                                        replace q312 := eq_true q312
                                        go_wp2
                                        go_meet
                                        case rel => exact ⟨_, (false), (by first | rfl | (simp; done) | (simp [*]; done)), H', ⟨by have := HJ3.out; have := HK2.out; have := HK3.out; have := HK4.out; first | omega | exact Nat.le_refl _⟩, ⟨by (try simp only [hl6_2]); (try simp only [hl6_3]); (try simp only [hl6_4]); (with_reducible repeat (first | apply Kd.R_alloc | apply Kd.R_drewN | apply Kd.R_drew)); exact HO_6.out⟩, ⟨by repeat (first | (with_reducible first | exact HB.out | apply below_alloc | apply pw_below_drewN | apply below_drew1) | exact HB.out)⟩⟩
                                    · rw [if_neg c21] at H
                                      exact absurd H (by simp)
                                  · rw [if_neg c20] at H
                                    exact absurd H (by simp)
                                case rest =>
                                  clear HC19
                                  try clear c1
                                  try clear p1
                                  try clear q1
                                  try clear hx1
                                  try clear c2
                                  try clear p2
                                  try clear c3
                                  try clear p3
                                  try clear q3
                                  try clear hx3
                                  try clear c5
                                  try clear c6
                                  try clear c6b0
                                  try clear c7
                                  try clear c8
                                  try clear c8b0
                                  try clear c8b1
                                  try clear c9
                                  try clear c9b0
                                  try clear c9b1
                                  try clear c10
                                  try clear c10b0
                                  try clear c11
                                  try clear c11b0
                                  try clear p12
                                  try clear q12
                                  try clear hx12
                                  try clear hf12
                                  try clear c17
                                  try clear c18
                                  try clear c18b0
                                  try clear c20
                                  try clear c20b0
                                  try clear c21
                                  try clear c21b0
                                  try clear c22
                                  try clear c22b0
                                  try clear c23
                                  try clear c23b0
                                  try clear hx12_0
                                  try clear hx312_0
                                  try clear hx313_0
                                  try clear p1
                                  try clear p12
                                  try clear p2
                                  try clear p312
                                  try clear p313
                                  try clear q1
                                  try clear q12
                                  try clear q312
                                  try clear q313
                                  obtain ⟨kq, x49_18, rfl, HA, HJ18, HO_6, HB⟩ := hcut
                                  cases kq with
                                  | zero => exact absurd HA.out (by simp [swageref06_Reach.j4])
                                  | succ kj18 =>
                                    have H := HA.out
                                    clear HA
                                    simp only [swageref06_Reach.j4] at H
                                    by_cases c24 : x49_18 = true
                                    · subst c24
                                      have H1 : (if 0 ≤ x8_3 then (if x8_3 < (l0.length : Int) then (if 0 ≤ x9_4 then (if x9_4 < ((rd_L1 l0 x8_3).length : Int) then (if 0 ≤ (rd (rd_L1 l0 x8_3) x9_4) then (if (rd (rd_L1 l0 x8_3) x9_4) < (x6_4.length : Int) then (if (rdOf false x6_4 (rd (rd_L1 l0 x8_3) x9_4) = true) then (swageref06_Reach.l2 kj18 l0 x6_4 x7_4 x8_3 (wrap64 (x9_4 + 1))) else (swageref06_Reach.l2 kj18 l0 (x6_4.set ((rd (rd_L1 l0 x8_3) x9_4) : Int).toNat true) true x8_3 (wrap64 (x9_4 + 1)))) else (none)) else (none)) else (none)) else (none)) else (none)) else (none)) = some r := by rw [if_pos rfl] at H; exact H
                                      clear H
                                      have H := H1
                                      clear H1
                                      by_cases c25 : 0 ≤ x8_3
                                      · rw [if_pos c25] at H
                                        have c25b0 : decide (0 ≤ x8_3) = true := decide_eq_true c25
                                        clear c25
                                        by_cases c26 : x8_3 < (l0.length : Int)
                                        · rw [if_pos c26] at H
                                          have c26b0 : decide (x8_3 < (l0.length : Int)) = true := decide_eq_true c26
                                          clear c26
                                          by_cases c27 : 0 ≤ x9_4
                                          · rw [if_pos c27] at H
                                            have c27b0 : decide (0 ≤ x9_4) = true := decide_eq_true c27
                                            clear c27
                                            by_cases c28 : x9_4 < ((rd_L1 l0 x8_3).length : Int)
                                            · rw [if_pos c28] at H
                                              have c28b0 : decide (x9_4 < ((rd_L1 l0 x8_3).length : Int)) = true := decide_eq_true c28
                                              clear c28
                                              by_cases c29 : 0 ≤ (rd (rd_L1 l0 x8_3) x9_4)
                                              · rw [if_pos c29] at H
                                                have c29b0 : decide (0 ≤ (rd (rd_L1 l0 x8_3) x9_4)) = true := decide_eq_true c29
                                                clear c29
                                                by_cases c30 : (rd (rd_L1 l0 x8_3) x9_4) < (x6_4.length : Int)
                                                · rw [if_pos c30] at H
                                                  have c30b0 : decide ((rd (rd_L1 l0 x8_3) x9_4) < (x6_4.length : Int)) = true := decide_eq_true c30
                                                  clear c30
                                                  obtain ⟨bq31, hbq31⟩ : ∃ b_ : Bool, b_ = (rdOf false x6_4 (rd (rd_L1 l0 x8_3) x9_4)) := ⟨_, rfl⟩
                                                  replace H : (if (bq31 = true) then (swageref06_Reach.l2 kj18 l0 x6_4 x7_4 x8_3 (wrap64 (x9_4 + 1))) else (swageref06_Reach.l2 kj18 l0 (x6_4.set ((rd (rd_L1 l0 x8_3) x9_4) : Int).toNat true) true x8_3 (wrap64 (x9_4 + 1)))) = some r := by rw [← hbq31] at H; exact H
                                                  have Nbq31 := Aside0.mk hbq31
                                                  clear hbq31
                                                  by_cases c32 : (bq31 = true)
                                                  · subst c32
                                                    have H1 : (swageref06_Reach.l2 kj18 l0 x6_4 x7_4 x8_3 (wrap64 (x9_4 + 1))) = some r := by rw [if_pos rfl] at H; exact H
                                                    clear H
                                                    have H := H1
                                                    clear H1
                                                    have H' := Aside0.mk H
                                                    clear H
                                                    have p314 : 0 ≤ (x8_3 : Int) := of_decide_eq_true (by first | (with_reducible assumption) | assumption)
                                                    have q314 : x8_3 < (l0.length : Int) := of_decide_eq_true (by first | (with_reducible assumption) | assumption)
                                                    obtain ⟨ad314, A314_0, c314_0, e314, hx314_0, hl314_0, hi314_0⟩ := at_L1 HR0.out x8_3 p314 q314
                                                    cases e314
                                                    replace hx314_0 := (HB.out.cell (World.block_lt_of_cell? w _ hx314_0)).trans hx314_0
                                                    have HR314_0 := Aside0.mk hi314_0
                                                    have HC314_0 := Aside0.mk hl314_0
                                                    clear hi314_0 hl314_0
                                                    replace p314 := eq_true p314
                                                    replace q314 := eq_true q314
                                                    have p315 : 0 ≤ (x9_4 : Int) := of_decide_eq_true (by first | (with_reducible assumption) | assumption)
                                                    have q315 : x9_4 < ((rd_L1 l0 x8_3).length : Int) := of_decide_eq_true (by first | (with_reducible assumption) | assumption)
                                                    obtain ⟨ad315, e315, hx315_0⟩ := Kd.at_int HR314_0.out x9_4 p315 q315
                                                    cases e315
                                                    replace hx315_0 := (HB.out.cell (World.block_lt_of_cell? w _ hx315_0)).trans hx315_0
                                                    replace p315 := eq_true p315
                                                    replace q315 := eq_true q315
                                                    have p316 : 0 ≤ ((rd (rd_L1 l0 x8_3) x9_4) : Int) := of_decide_eq_true (by first | (with_reducible assumption) | assumption)
                                                    have q316 : (rd (rd_L1 l0 x8_3) x9_4) < (x6_4.length : Int) := of_decide_eq_true (by first | (with_reducible assumption) | assumption)
                                                    obtain ⟨ad316, e316, hx316_0⟩ := Kd.at_bool (Kd.R_reads' HO_6.out).2.2 (rd (rd_L1 l0 x8_3) x9_4) p316 q316
                                                    (try rw [← Nbq31.out] at hx316_0)
                                                    obtain rfl : (⟨go12, 0, none⟩ : Addr) = ad316 := (by injection e316)
                                                    (first | simp only [add_plain] at hx316_0 | simp only [add_at] at hx316_0 | simp only [Addr.add, Nat.zero_add] at hx316_0 | skip)
                                                    replace p316 := eq_true p316
                                                    replace q316 := eq_true q316
                                                    go_wp2
                                                    (try simp only [← hl6_4])
                                                    go_roundg kj18
                                                    case measure => have := HJ3.out; have := HK2.out; have := HK3.out; have := HK4.out; have := HJ18.out; omega
                                                    case rel => exact ⟨(x6_4), (x7_4), (wrap64 (x9_4 + 1)), (by first | rfl | (simp; done) | (simp [*]; done)), (by first | rfl | (simp; done) | (simp [*]; done)), H', ⟨by have := HJ3.out; have := HK2.out; have := HK3.out; have := HK4.out; have := HJ18.out; omega⟩, ⟨by (try simp only [hl6_2]); (try simp only [hl6_3]); (try simp only [hl6_4]); (with_reducible repeat (first | apply Kd.R_alloc | apply Kd.R_drewN | apply Kd.R_drew)); exact HO_6.out⟩, ⟨by repeat (first | (with_reducible first | exact HB.out | apply below_alloc | apply pw_below_drewN | apply below_drew1) | exact HB.out)⟩⟩
                                                  · replace c32 := Bool.eq_false_iff.mpr c32
                                                    subst c32
                                                    have H1 : (swageref06_Reach.l2 kj18 l0 (x6_4.set ((rd (rd_L1 l0 x8_3) x9_4) : Int).toNat true) true x8_3 (wrap64 (x9_4 + 1))) = some r := by rw [if_neg (show ¬ (false = true) by decide)] at H; exact H
                                                    clear H
                                                    have H := H1
                                                    clear H1
                                                    obtain ⟨y319, hy319⟩ : ∃ y_ : List Bool, y_ = (x6_4.set ((rd (rd_L1 l0 x8_3) x9_4) : Int).toNat true) := ⟨_, rfl⟩
                                                    replace H : (swageref06_Reach.l2 kj18 l0 y319 true x8_3 (wrap64 (x9_4 + 1))) = some r := by first | (rw [hy319]; with_reducible exact H) | (have H2_ := (Option.bind_some _ _).symm.trans H; rw [hy319]; with_reducible exact H2_) | (have H2_ := (Option.bind_some _ _).symm.trans H; with_reducible exact H2_) | with_reducible exact H | (rw [hy319]; exact H) | exact H
                                                    have Ny319 := Aside0.mk hy319
                                                    clear hy319
                                                    have H' := Aside0.mk H
                                                    clear H
                                                    have p314 : 0 ≤ (x8_3 : Int) := of_decide_eq_true (by first | (with_reducible assumption) | assumption)
                                                    have q314 : x8_3 < (l0.length : Int) := of_decide_eq_true (by first | (with_reducible assumption) | assumption)
                                                    obtain ⟨ad314, A314_0, c314_0, e314, hx314_0, hl314_0, hi314_0⟩ := at_L1 HR0.out x8_3 p314 q314
                                                    cases e314
                                                    replace hx314_0 := (HB.out.cell (World.block_lt_of_cell? w _ hx314_0)).trans hx314_0
                                                    have HR314_0 := Aside0.mk hi314_0
                                                    have HC314_0 := Aside0.mk hl314_0
                                                    clear hi314_0 hl314_0
                                                    replace p314 := eq_true p314
                                                    replace q314 := eq_true q314
                                                    have p315 : 0 ≤ (x9_4 : Int) := of_decide_eq_true (by first | (with_reducible assumption) | assumption)
                                                    have q315 : x9_4 < ((rd_L1 l0 x8_3).length : Int) := of_decide_eq_true (by first | (with_reducible assumption) | assumption)
                                                    obtain ⟨ad315, e315, hx315_0⟩ := Kd.at_int HR314_0.out x9_4 p315 q315
                                                    cases e315
                                                    replace hx315_0 := (HB.out.cell (World.block_lt_of_cell? w _ hx315_0)).trans hx315_0
                                                    replace p315 := eq_true p315
                                                    replace q315 := eq_true q315
                                                    have p316 : 0 ≤ ((rd (rd_L1 l0 x8_3) x9_4) : Int) := of_decide_eq_true (by first | (with_reducible assumption) | assumption)
                                                    have q316 : (rd (rd_L1 l0 x8_3) x9_4) < (x6_4.length : Int) := of_decide_eq_true (by first | (with_reducible assumption) | assumption)
                                                    obtain ⟨ad316, e316, hx316_0⟩ := Kd.at_bool (Kd.R_reads' HO_6.out).2.2 (rd (rd_L1 l0 x8_3) x9_4) p316 q316
                                                    (try rw [← Nbq31.out] at hx316_0)
                                                    obtain rfl : (⟨go12, 0, none⟩ : Addr) = ad316 := (by injection e316)
                                                    (first | simp only [add_plain] at hx316_0 | simp only [add_at] at hx316_0 | simp only [Addr.add, Nat.zero_add] at hx316_0 | skip)
                                                    replace p316 := eq_true p316
                                                    replace q316 := eq_true q316
                                                    have p317 : 0 ≤ (x8_3 : Int) := of_decide_eq_true (by first | (with_reducible assumption) | assumption)
                                                    have q317 : x8_3 < (l0.length : Int) := of_decide_eq_true (by first | (with_reducible assumption) | assumption)
                                                    obtain ⟨ad317, A317_0, c317_0, e317, hx317_0, hl317_0, hi317_0⟩ := at_L1 HR0.out x8_3 p317 q317
                                                    obtain rfl : ad314 = ad317 := (by injection e317)
                                                    replace hx317_0 := (HB.out.cell (World.block_lt_of_cell? w _ hx317_0)).trans hx317_0
                                                    have HR317_0 := Aside0.mk hi317_0
                                                    have HC317_0 := Aside0.mk hl317_0
                                                    clear hi317_0 hl317_0
                                                    replace p317 := eq_true p317
                                                    replace q317 := eq_true q317
                                                    have ea_ := Option.some.inj (hx314_0.symm.trans hx317_0)
                                                    injection ea_ with ea_ en_ ec_
                                                    subst ea_
                                                    subst ec_
                                                    clear en_
                                                    have p318 : 0 ≤ (x9_4 : Int) := of_decide_eq_true (by first | (with_reducible assumption) | assumption)
                                                    have q318 : x9_4 < ((rd_L1 l0 x8_3).length : Int) := of_decide_eq_true (by first | (with_reducible assumption) | assumption)
                                                    obtain ⟨ad318, e318, hx318_0⟩ := Kd.at_int HR317_0.out x9_4 p318 q318
                                                    cases e318
                                                    replace hx318_0 := (HB.out.cell (World.block_lt_of_cell? w _ hx318_0)).trans hx318_0
                                                    replace p318 := eq_true p318
                                                    replace q318 := eq_true q318
                                                    have p33 : 0 ≤ ((rd (rd_L1 l0 x8_3) x9_4) : Int) := of_decide_eq_true (by first | (with_reducible assumption) | assumption)
                                                    have q33 : ((rd (rd_L1 l0 x8_3) x9_4) : Int) < ((x6_4.length : Int) : Int) := of_decide_eq_true (by first | (with_reducible assumption) | assumption)
                                                    obtain ⟨hx33_0, hf33_0⟩ := Kd.R_celln false HO_6.out ((rd (rd_L1 l0 x8_3) x9_4) : Int) p33 q33
                                                    replace p33 := eq_true p33
                                                    replace q33 := eq_true q33
                                                    have HP34 := Kd.R_putg HO_6.out ((rd (rd_L1 l0 x8_3) x9_4) : Int) true
                                                    go_wp2_with (first | ((with_reducible refine gate_store (t := 4) (p := 71) rfl ?_); refine store_event (t := 4) (p := 71) (v := ?vo_w35) (w1 := (wc.setCell ⟨go12, ((rd (rd_L1 l0 x8_3) x9_4) : Int).toNat, none⟩ (.bool true))) ?hg ?ho ?hn ?hr ?_; (case ho => rfl); (case hg => rfl); (case hn => rfl); (case hr => first | (go_simp; done) | (go_simp; rfl)); intro w35 hw; have hg : wc.grownBy w35 (some go12) := (by rw [hw]; exact HP34.2); have hp_ : Kd.R Kd.bool 4 w35 w.heap.size (fun _ => True) (.slice (some ⟨go12, 0, none⟩) x6_4.length co12) y319 := (by rw [hw, Ny319.out]; exact HP34.1); clear HP34; have n0_ := Aside0.mk (hp_); have n1_ := Aside0.mk ((by rw [hw]; exact below_set (HB.out) GB12.out : Below w.heap.size w w35)); clear HO_6; clear HB; have HO_6 := n0_; have HB := n1_; clear n0_ n1_; clear hg hw hp_))
                                                    (try simp only [← hl6_4])
                                                    go_roundg kj18
                                                    case measure => have := HJ3.out; have := HK2.out; have := HK3.out; have := HK4.out; have := HJ18.out; omega
                                                    case rel => exact ⟨(y319), (true), (wrap64 (x9_4 + 1)), (by first | rfl | (simp; done) | (simp [*]; done)), (by first | rfl | (simp; done) | (simp [*]; done)), H', ⟨by have := HJ3.out; have := HK2.out; have := HK3.out; have := HK4.out; have := HJ18.out; omega⟩, ⟨by (try simp only [hl6_2]); (try simp only [hl6_3]); (try simp only [hl6_4]); (with_reducible repeat (first | apply Kd.R_alloc | apply Kd.R_drewN | apply Kd.R_drew)); exact HO_6.out⟩, ⟨by repeat (first | (with_reducible first | exact HB.out | apply below_alloc | apply pw_below_drewN | apply below_drew1) | exact HB.out)⟩⟩
                                                · rw [if_neg c30] at H
                                                  exact absurd H (by simp)
                                              · rw [if_neg c29] at H
                                                exact absurd H (by simp)
                                            · rw [if_neg c28] at H
                                              exact absurd H (by simp)
                                          · rw [if_neg c27] at H
                                            exact absurd H (by simp)
                                        · rw [if_neg c26] at H
                                          exact absurd H (by simp)
                                      · rw [if_neg c25] at H
                                        exact absurd H (by simp)
                                    · replace c24 := Bool.eq_false_iff.mpr c24
                                      subst c24
                                      have H1 : (swageref06_Reach.l1 kj18 l0 x6_4 x7_4 (wrap64 (x8_3 + 1))) = some r := by rw [if_neg (show ¬ (false = true) by decide)] at H; exact H
                                      clear H
                                      have H := H1
                                      clear H1
                                      have H' := Aside0.mk H
                                      clear H
                                      go_wp2
                                      (try simp only [← hl6_3, ← hl6_4])
                                      go_roundg kj18
                                      case measure => have := HJ3.out; have := HK2.out; have := HK3.out; have := HK4.out; have := HJ18.out; omega
                                      case rel => exact ⟨(x6_4), (x7_4), (wrap64 (x8_3 + 1)), (by first | rfl | (simp; done) | (simp [*]; done)), (by first | rfl | (simp; done) | (simp [*]; done)), H', ⟨by have := HJ3.out; have := HK2.out; have := HK3.out; have := HK4.out; have := HJ18.out; omega⟩, ⟨by (try simp only [hl6_2]); (try simp only [hl6_3]); (try simp only [hl6_4]); (with_reducible repeat (first | apply Kd.R_alloc | apply Kd.R_drewN | apply Kd.R_drew)); exact HO_6.out⟩, ⟨by repeat (first | (with_reducible first | exact HB.out | apply below_alloc | apply pw_below_drewN | apply below_drew1) | exact HB.out)⟩⟩
                          · rw [if_neg c18] at H
                            have c18b0 : decide (x8_3 < (l0.length : Int)) = false := decide_eq_false c18
                            clear c18
                            have H' := Aside0.mk H
                            clear H
                            go_wp2
                            (try simp only [← hl6_2, ← hl6_3])
                            go_roundg k3
                            case measure => have := HJ3.out; have := HK2.out; have := HK3.out; omega
                            case rel => exact ⟨(x6_3), (x7_3), (by first | rfl | (simp; done) | (simp [*]; done)), H', ⟨by have := HJ3.out; have := HK2.out; have := HK3.out; omega⟩, ⟨by (try simp only [hl6_2]); (try simp only [hl6_3]); (with_reducible repeat (first | apply Kd.R_alloc | apply Kd.R_drewN | apply Kd.R_drew)); exact HO_6.out⟩, ⟨by repeat (first | (with_reducible first | exact HB.out | apply below_alloc | apply pw_below_drewN | apply below_drew1) | exact HB.out)⟩⟩
                    · replace c17 := Bool.eq_false_iff.mpr c17
                      subst c17
                      have H1 : (some x6_2) = some r := by rw [if_neg (show ¬ (false = true) by decide)] at H; exact H
                      clear H
                      have H := H1
                      clear H1
                      obtain rfl := Option.some.inj H
                      go_wp2
                      go_ret
                      exact ⟨_, by first | rfl | (simp [errW_none, errW_some] <;> rfl) | (simp [*, errW_none, errW_some] <;> rfl), by (with_reducible repeat (first | apply Kd.R_alloc | apply Kd.R_drewN | apply Kd.R_drew)); exact HO_6.out, by repeat (first | (with_reducible first | exact HB.out | apply below_alloc | apply pw_below_drewN | apply below_drew1) | exact HB.out)⟩
              · rw [if_neg c11] at H
                exact absurd H (by simp)
            · rw [if_neg c10] at H
              exact absurd H (by simp)
          · rw [if_neg c9] at H
            exact absurd H (by simp)
        · rw [if_neg c8] at H
          exact absurd H (by simp)

end Go.Proofs.Ytkmbhknmjnbanaa.A


namespace Go.Proofs.Ytkmbhknmjnbanaa.A
open Go.RowKit Go.Proofs.YtkmbhknmjnbanaaW.PrintWords Go.Proofs.YtkmbhknmjnbanaaW.PrintLast Go.Shelf
set_option linter.unusedVariables false
set_option linter.unusedSimpArgs false

theorem mk_met0 (g : List (List Int)) (i : Nat) (hi : i < g.length) : ¬ Mk (met0 g) i := by
  unfold Mk met0
  rw [List.getD_eq_getElem?_getD, List.getElem?_replicate, if_pos hi]
  simp
theorem walk_dfs {g : List (List Int)} (hg : InG g) {a : Nat} (ha : a < g.length) : Dfs g (met0 g) a (visit g g.length (met0 g) a).1 (walkOf g a) :=
  visit_dfs hg _ _ _ (by simp [met0]) ha (mk_met0 g a ha) (by rw [unmet_met0]; exact Nat.le_refl _)
theorem walk_last {g : List (List Int)} {a : Nat} (ha : a < g.length) : ∃ o, walkOf g a = o ++ [(a : Int)] := by
  unfold walkOf
  obtain ⟨n, hn⟩ : ∃ n, g.length = n + 1 := ⟨g.length - 1, by omega⟩
  rw [hn, visit_succ]
  exact ⟨_, rfl⟩
theorem walk_mem {g : List (List Int)} (hg : InG g) {a : Nat} (ha : a < g.length) (i : Nat) : (i : Int) ∈ walkOf g a ↔ Way g a i := by
  have h := walk_dfs hg ha
  refine ⟨h.way i, fun hw => ?_⟩
  induction hw with
  | refl => obtain ⟨o, e⟩ := walk_last ha; rw [e]; simp
  | step hw e ih =>
    rcases (h.mark _).1 (h.clo _ _ ih e) with h1 | h1
    · exact absurd h1 (mk_met0 g _ (e.lt hg))
    · exact h1
theorem mk_lt {m : List Bool} {i : Nat} (hi : i < m.length) : Mk m i ↔ m[i] = true := by unfold Mk; rw [List.getD_eq_getElem?_getD, List.getElem?_eq_getElem hi]; rfl
theorem mk_rd {m : List Bool} {i : Nat} (hi : i < m.length) : rdOf false m (i : Int) = true ↔ Mk m i := by
  unfold rdOf Mk
  rw [Int.toNat_natCast, List.getD_eq_getElem?_getD, List.getD_eq_getElem?_getD, List.getElem?_eq_getElem hi]
  rfl
theorem marks_ext {a b : List Bool} (hl : a.length = b.length) (h : ∀ i, i < a.length → (Mk a i ↔ Mk b i)) : a = b := by
  refine List.ext_getElem hl fun i h1 h2 => ?_
  have := h i h1
  rw [mk_lt h1, mk_lt h2] at this
  cases h3 : a[i] <;> cases h4 : b[i] <;> simp_all
theorem mk_marks {n : Nat} {pre : List Int} {i : Nat} (hi : i < n) : Mk (marks n pre) i ↔ (i : Int) ∈ pre := by
  rw [mk_lt (by rw [marks_len]; exact hi)]
  simp [marks]

/-- a state of the reference's marks: sound, and with the first -/
structure RefR (g : List (List Int)) (a : Nat) (m : List Bool) : Prop where
  len : m.length = g.length
  sound : ∀ i, i < g.length → Mk m i → Way g a i
  base : Mk m a
theorem unmet_set_lt {m : List Bool} {a : Nat} (ha : a < m.length) (h : ¬ Mk m a) : unmet (m.set a true) < unmet m := by
  have := unmet_set (m := m) ha (by simpa [Mk] using h); omega
/-- the row of block i from place j on -/
theorem reach_l2 {g : List (List Int)} (hg : InG g) (hn : g.length ≤ 4096) (h8 : ∀ l ∈ g, l.length ≤ 8) {a i : Nat} (hi : i < g.length) : ∀ (d j : Nat) (m : List Bool) (b : Bool), j + d = (rowOf g i).length → RefR g a m →
    ∃ (m' : List Bool) (b' : Bool), RefR g a m' ∧ (∀ x, Mk m x → Mk m' x) ∧ (b' = false → b = false ∧ m' = m ∧ (Mk m i → ∀ (x : Nat) , (x : Int) ∈ (rowOf g i).drop j → Mk m x)) ∧ (b' = true → b = true ∨ unmet m' < unmet m) ∧ unmet m' ≤ unmet m ∧
      ∀ r, Evt (fun k => swageref06_Reach.l1 k g m' b' ((i + 1 : Nat) : Int)) r → Evt (fun k => swageref06_Reach.l2 k g m b i j) r
  | 0, j, m, b, hj, hR => by
    refine ⟨m, b, hR, fun x h => h, fun h => ⟨h, rfl, fun _ x hx => by rw [List.drop_eq_nil_of_le (by omega)] at hx; cases hx⟩, fun h => .inl h, Nat.le_refl _, fun r h => ?_⟩
    refine Evt.step (Evt.step h (f := fun k => swageref06_Reach.j4 k g m b i j false) fun k => ?_) fun k => ?_
    · rw [swageref06_Reach.j4, if_neg (by simp), wsucc (by omega)]
    · rw [swageref06_Reach.l2, if_pos (by omega), if_pos (by omega), rdL, if_neg (by omega)]
  | d + 1, j, m, b, hj, hR => by
    have hlt : j < (rowOf g i).length := by omega
    have hj8 := h8 _ (rowOf_mem hi)
    have hx := hg _ (rowOf_mem hi) _ (List.getElem_mem hlt)
    have hml := hR.len
    by_cases hm : Mk m i
    · obtain ⟨x, ex⟩ := Int.eq_ofNat_of_zero_le hx.1
      have he : Edge g i x := by unfold Edge; rw [← ex]; exact List.getElem_mem hlt
      by_cases hmx : Mk m x
      · obtain ⟨m', b', h1, h2, h3, h4, h5, h6⟩ := reach_l2 hg hn h8 hi d (j + 1) m b (by omega) hR
        refine ⟨m', b', h1, h2, fun e => ?_, h4, h5, fun r h => ?_⟩
        · obtain ⟨p, q, s⟩ := h3 e
          refine ⟨p, q, fun hmi y hy => ?_⟩
          rw [List.drop_eq_getElem_cons hlt, ex] at hy
          rcases List.mem_cons.1 hy with hy | hy
          · obtain rfl : y = x := by omega
            exact hmx
          · exact s hmi y hy
        · refine Evt.step (Evt.step (h6 r h) (f := fun k => swageref06_Reach.j4 k g m b i j true) fun k => ?_) fun k => ?_
          · rw [swageref06_Reach.j4, if_pos rfl, if_pos (by omega), if_pos (by omega), if_pos (by omega), rdL, if_pos (by omega), rdI hlt, ex, if_pos (by omega), if_pos (by omega), if_pos ((mk_rd (by omega)).2 hmx), wsucc (by omega)]
          · rw [swageref06_Reach.l2, if_pos (by omega), if_pos (by omega), rdL, if_pos (by omega), if_pos (by omega), (mk_rd (by omega)).2 hm]
      · have hR2 : RefR g a (m.set x true) := ⟨by rw [List.length_set, hml], fun y hy h => by
            rcases (mk_set (by omega)).1 h with h | rfl
            · exact hR.sound y hy h
            · exact (hR.sound i hi hm).step he, (mk_set (by omega)).2 (.inl hR.base)⟩
        obtain ⟨m', b', h1, h2, h3, h4, h5, h6⟩ := reach_l2 hg hn h8 hi d (j + 1) (m.set x true) true (by omega) hR2
        have hu := unmet_set_lt (m := m) (a := x) (by omega) hmx
        refine ⟨m', b', h1, fun y hy => h2 y ((mk_set (by omega)).2 (.inl hy)), fun e => ?_, fun _ => .inr (by omega), by omega, fun r h => ?_⟩
        · have := (h3 e).1; cases this
        · refine Evt.step (Evt.step (h6 r h) (f := fun k => swageref06_Reach.j4 k g m b i j true) fun k => ?_) fun k => ?_
          · rw [swageref06_Reach.j4, if_pos rfl, if_pos (by omega), if_pos (by omega), if_pos (by omega), rdL, if_pos (by omega), rdI hlt, ex, if_pos (by omega), if_pos (by omega), if_neg (fun h => hmx ((mk_rd (by omega)).1 h)), wsucc (by omega)]
            rfl
          · rw [swageref06_Reach.l2, if_pos (by omega), if_pos (by omega), rdL, if_pos (by omega), if_pos (by omega), (mk_rd (by omega)).2 hm]
    · refine ⟨m, b, hR, fun x h => h, fun h => ⟨h, rfl, fun h => absurd h hm⟩, fun h => .inl h, Nat.le_refl _, fun r h => ?_⟩
      refine Evt.step (Evt.step h (f := fun k => swageref06_Reach.j4 k g m b i j false) fun k => ?_) fun k => ?_
      · rw [swageref06_Reach.j4, if_neg (by simp), wsucc (by omega)]
      · have : rdOf false m (i : Int) = false := by rw [← Bool.not_eq_true]; exact fun h => hm ((mk_rd (by omega)).1 h)
        rw [swageref06_Reach.l2, if_pos (by omega), if_pos (by omega), rdL, if_pos (by omega), if_pos (by omega), this]
/-- one round over all blocks from i on -/
theorem reach_l1 {g : List (List Int)} (hg : InG g) (hn : g.length ≤ 4096) (h8 : ∀ l ∈ g, l.length ≤ 8) {a : Nat} : ∀ (d i : Nat) (m : List Bool) (b : Bool), i + d = g.length → RefR g a m →
    ∃ (m' : List Bool) (b' : Bool), RefR g a m' ∧ (b' = false → b = false ∧ m' = m ∧ ∀ y, i ≤ y → y < g.length → Mk m y → ∀ (x : Nat), Edge g y x → Mk m x) ∧ (b' = true → b = true ∨ unmet m' < unmet m) ∧ unmet m' ≤ unmet m ∧
      ∀ r, Evt (fun k => swageref06_Reach.l0 k g m' b') r → Evt (fun k => swageref06_Reach.l1 k g m b i) r
  | 0, i, m, b, hi, hR => ⟨m, b, hR, fun h => ⟨h, rfl, fun y h1 h2 => by omega⟩, fun h => .inl h, Nat.le_refl _, fun r h => Evt.step h fun k => by rw [swageref06_Reach.l1, if_neg (by omega)]⟩
  | d + 1, i, m, b, hi, hR => by
    have hlt : i < g.length := by omega
    obtain ⟨m1, b1, p1, p2, p3, p4, p5, p6⟩ := reach_l2 hg hn h8 hlt (rowOf g i).length 0 m b (by omega) hR
    obtain ⟨m2, b2, q1, q3, q4, q5, q6⟩ := reach_l1 hg hn h8 d (i + 1) m1 b1 (by omega) p1
    refine ⟨m2, b2, q1, fun e => ?_, fun e => ?_, by omega, fun r h => ?_⟩
    · obtain ⟨e1, e2, e3⟩ := q3 e
      obtain ⟨f1, f2, f3⟩ := p3 e1
      subst e2; subst f2
      refine ⟨f1, rfl, fun y h1 h2 hm x he => ?_⟩
      by_cases hy : y = i
      · subst hy
        exact f3 hm x (by rw [List.drop_zero]; exact he)
      · exact e3 y (by omega) h2 hm x he
    · rcases q4 e with e1 | e1
      · rcases p4 e1 with e2 | e2
        · exact .inl e2
        · exact .inr (by omega)
      · exact .inr (by omega)
    · refine Evt.step (p6 r (q6 r h)) fun k => ?_
      rw [swageref06_Reach.l1, if_pos (by omega)]
      rfl
theorem reach_l0 {g : List (List Int)} (hg : InG g) (hn : g.length ≤ 4096) (h8 : ∀ l ∈ g, l.length ≤ 8) {a : Nat} (ha : a < g.length) : ∀ (n : Nat) (m : List Bool), unmet m ≤ n → RefR g a m → ∃ m', Evt (fun k => swageref06_Reach.l0 k g m true) m' ∧ m'.length = g.length ∧ ∀ i, i < g.length → (Mk m' i ↔ Way g a i) := by
  intro n
  induction n with
  | zero =>
    intro m hm hR
    obtain ⟨m1, b1, p1, p3, p4, p5, p6⟩ := reach_l1 hg hn h8 g.length 0 m false (by omega) hR
    have hb : b1 = false := by
      cases b1
      · rfl
      · rcases p4 rfl with h | h
        · cases h
        · omega
    subst hb
    obtain ⟨_, rfl, h3⟩ := p3 rfl
    refine ⟨m1, ?_, p1.len, fun i hi => ⟨p1.sound i hi, fun hw => ?_⟩⟩
    · refine Evt.step (p6 m1 (Evt.step (Evt.const rfl) fun k => ?_)) fun k => ?_
      · rw [swageref06_Reach.l0, if_neg (by simp)]
      · rw [swageref06_Reach.l0, if_pos rfl]; rfl
    · clear hi
      induction hw with
      | refl => exact p1.base
      | step hw e ih => exact h3 _ (Nat.zero_le _) e.lt1 ih _ e
  | succ n ih =>
    intro m hm hR
    obtain ⟨m1, b1, p1, p3, p4, p5, p6⟩ := reach_l1 hg hn h8 g.length 0 m false (by omega) hR
    cases b1 with
    | false =>
      obtain ⟨_, rfl, h3⟩ := p3 rfl
      refine ⟨m1, ?_, p1.len, fun i hi => ⟨p1.sound i hi, fun hw => ?_⟩⟩
      · refine Evt.step (p6 m1 (Evt.step (Evt.const rfl) fun k => ?_)) fun k => ?_
        · rw [swageref06_Reach.l0, if_neg (by simp)]
        · rw [swageref06_Reach.l0, if_pos rfl]; rfl
      · clear hi
        induction hw with
        | refl => exact p1.base
        | step hw e ih => exact h3 _ (Nat.zero_le _) e.lt1 ih _ e
    | true =>
      have hu : unmet m1 < unmet m := by
        rcases p4 rfl with h | h
        · cases h
        · exact h
      obtain ⟨m', q1, q2, q3⟩ := ih m1 (by omega) p1
      refine ⟨m', Evt.step (p6 m' q1) fun k => ?_, q2, q3⟩
      rw [swageref06_Reach.l0, if_pos rfl]; rfl
theorem reachref_ev {g : List (List Int)} (hn : g.length ≤ 4096) (a : Int) : Evt (fun k => swageref06_Reach.f k g a) (reachRes g a) := by
  unfold swageref06_Reach.f
  refine Evt.bind (h := fun k t307 => (if t307 = true then (if a < 0 then (swageref06_Reach.j0 k g a true) else (swageref06_Reach.j0 k g a (decide (a ≥ (g.length : Int))))) else (swageref06_Reach.j0 k g a true))) (rref_ev hn) ?_
  have hno : Evt (fun k => swageref06_Reach.j0 k g a true) [] := Evt.step (Evt.const rfl) fun k => by rw [swageref06_Reach.j0, if_pos rfl]
  unfold reachRes
  cases hr : rightB g
  · rw [if_neg (by simp)]
    exact Evt.congr hno fun k => by rw [if_neg (by simp)]
  · by_cases h0 : a < 0
    · rw [if_neg (by omega)]
      exact Evt.congr hno fun k => by rw [if_pos rfl, if_pos h0]
    · by_cases h1 : a ≥ (g.length : Int)
      · rw [if_neg (by omega)]
        exact Evt.congr hno fun k => by rw [if_pos rfl, if_neg h0, decide_eq_true h1]
      · obtain ⟨n, rfl⟩ := Int.eq_ofNat_of_zero_le (show 0 ≤ a by omega)
        obtain ⟨e1, e2, hg⟩ := right_rows hr
        rw [if_pos ⟨rfl, by omega, by omega⟩, Int.toNat_natCast]
        have hna : n < g.length := by omega
        have hnl : n < (met0 g).length := by simp [met0]; exact hna
        have hR : RefR g n ((met0 g).set n true) := ⟨by simp [met0], fun i hi h => by
          rcases (mk_set hnl).1 h with h | rfl
          · exact absurd h (mk_met0 g i hi)
          · exact .refl _, (mk_set hnl).2 (.inr rfl)⟩
        obtain ⟨m', q1, q2, q3⟩ := reach_l0 hg hn (right_8 hr) hna _ _ (Nat.le_refl _) hR
        have em : m' = marks g.length (walkOf g n) := by
          refine marks_ext (by rw [q2, marks_len]) fun i hi => ?_
          rw [q3 i (by omega), mk_marks (by omega), walk_mem hg hna]
        rw [← em]
        refine Evt.congr (Evt.step q1 (f := fun k => swageref06_Reach.j0 k g (n : Int) false) fun k => ?_) fun k => by rw [if_pos rfl, if_neg h0, decide_eq_false h1]
        rw [swageref06_Reach.j0, if_neg (by simp), if_pos (by omega), if_pos (by omega)]
        simp only [Option.bind_some]
        rw [if_pos (by omega), if_pos (by simp; omega), Int.toNat_natCast, Int.toNat_natCast]
        rfl
end Go.Proofs.Ytkmbhknmjnbanaa.A


namespace Go.Proofs
open Go.Shelf
def Try.keys68_ren : Go.Shelf.Ren := ⟨fun | 7 => 68 | 10 => 82 | n => n, fun | 23 => 69 | 26 => 3 | 3 => 4 | 28 => 49 | 0 => 0 | 27 => 48 | 33 => 45 | 4 => 4 | n => n, fun | n => n⟩
theorem Try.keys68 : Go.Proofs.SlLaysZI.n7 Try.prog Try.keys68_ren := {
  mixed := by kernel_rfl
  f7 := ⟨Try.f68.name, by decide, Try.func68.trans (congrArg some (by kernel_rfl))⟩
  f10 := ⟨Try.f82.name, by decide, Try.func82.trans (congrArg some (by kernel_rfl))⟩
  t0 := Try.underlying0
  a0 := Try.isAgg0
  z0 := Try.sizeOf0
  v0 := Try.zeroValue0
  t4 := Try.underlying4
  a4 := Try.isAgg4
  z4 := Try.sizeOf4
  v4 := Try.zeroValue4
  t23 := Try.underlying69
  a23 := Try.isAgg69
  z23 := Try.sizeOf69
  v23 := Try.zeroValue69
  t26 := Try.underlying3
  a26 := Try.isAgg3
  z26 := Try.sizeOf3
  v26 := Try.zeroValue3
  t27 := Try.underlying48
  a27 := Try.isAgg48
  z27 := Try.sizeOf48
  v27 := Try.zeroValue48
  t28 := Try.underlying49
  a28 := Try.isAgg49
  z28 := Try.sizeOf49
  v28 := Try.zeroValue49
  t33 := Try.underlying45
  a33 := Try.isAgg45
  z33 := Try.sizeOf45
  v33 := Try.zeroValue45 }
def Try.keys58_ren : Go.Shelf.Ren := ⟨fun | 7 => 58 | 10 => 76 | n => n, fun | 23 => 56 | 26 => 3 | 3 => 27 | 28 => 49 | 0 => 0 | 27 => 48 | 33 => 45 | 4 => 4 | n => n, fun | n => n⟩
theorem Try.keys58 : Go.Proofs.SlLaysZI.n7 Try.prog Try.keys58_ren := {
  mixed := by kernel_rfl
  f7 := ⟨Try.f58.name, by decide, Try.func58.trans (congrArg some (by kernel_rfl))⟩
  f10 := ⟨Try.f76.name, by decide, Try.func76.trans (congrArg some (by kernel_rfl))⟩
  t0 := Try.underlying0
  a0 := Try.isAgg0
  z0 := Try.sizeOf0
  v0 := Try.zeroValue0
  t4 := Try.underlying4
  a4 := Try.isAgg4
  z4 := Try.sizeOf4
  v4 := Try.zeroValue4
  t23 := Try.underlying56
  a23 := Try.isAgg56
  z23 := Try.sizeOf56
  v23 := Try.zeroValue56
  t26 := Try.underlying3
  a26 := Try.isAgg3
  z26 := Try.sizeOf3
  v26 := Try.zeroValue3
  t27 := Try.underlying48
  a27 := Try.isAgg48
  z27 := Try.sizeOf48
  v27 := Try.zeroValue48
  t28 := Try.underlying49
  a28 := Try.isAgg49
  z28 := Try.sizeOf49
  v28 := Try.zeroValue49
  t33 := Try.underlying45
  a33 := Try.isAgg45
  z33 := Try.sizeOf45
  v33 := Try.zeroValue45 }
def Try.sorted57_ren : Go.Shelf.Ren := ⟨fun | 6 => 57 | 8 => 50 | 9 => 75 | 11 => 73 | 13 => 84 | 12 => 83 | 23 => 96 | 24 => 97 | 14 => 87 | 15 => 88 | 16 => 89 | 17 => 90 | 18 => 91 | 19 => 92 | 20 => 93 | 21 => 94 | 22 => 95 | 25 => 98 | 26 => 99 | 27 => 100 | 28 => 101 | 29 => 102 | 30 => 103 | 31 => 104 | n => n, fun | 26 => 3 | 28 => 49 | 24 => 27 | 0 => 0 | 3 => 3 | 37 => 75 | 48 => 81 | 50 => 84 | 4 => 4 | 40 => 89 | 39 => 88 | 45 => 92 | 5 => 5 | 9 => 9 | 51 => 96 | 55 => 100 | 57 => 102 | 58 => 103 | 33 => 45 | n => n, fun | n => n⟩
theorem Try.sorted57 : Go.Proofs.SlLaysZI.n6 Try.prog Try.sorted57_ren := {
  mixed := by kernel_rfl
  f6 := ⟨Try.f57.name, by decide, Try.func57.trans (congrArg some (by kernel_rfl))⟩
  f8 := ⟨Try.f50.name, by decide, Try.func50.trans (congrArg some (by kernel_rfl))⟩
  f11 := ⟨Try.f73.name, by decide, Try.func73.trans (congrArg some (by kernel_rfl))⟩
  t0 := Try.underlying0
  a0 := Try.isAgg0
  z0 := Try.sizeOf0
  v0 := Try.zeroValue0
  t24 := Try.underlying27
  a24 := Try.isAgg27
  z24 := Try.sizeOf27
  v24 := Try.zeroValue27
  t26 := Try.underlying3
  a26 := Try.isAgg3
  z26 := Try.sizeOf3
  v26 := Try.zeroValue3
  t28 := Try.underlying49
  a28 := Try.isAgg49
  z28 := Try.sizeOf49
  v28 := Try.zeroValue49
  i26 := by kernel_rfl }
def Try.sort75_ren : Go.Shelf.Ren := ⟨fun | 5 => 75 | 8 => 84 | 7 => 83 | 19 => 96 | 20 => 97 | 10 => 87 | 11 => 88 | 12 => 89 | 13 => 90 | 14 => 91 | 15 => 92 | 16 => 93 | 17 => 94 | 18 => 95 | 30 => 98 | 31 => 99 | 32 => 100 | 33 => 101 | 34 => 102 | 35 => 103 | 40 => 104 | n => n, fun | 23 => 27 | 25 => 3 | 3 => 3 | 32 => 75 | 22 => 27 | 0 => 0 | 44 => 81 | 46 => 84 | 4 => 4 | 36 => 89 | 35 => 88 | 41 => 92 | 5 => 5 | 9 => 9 | 53 => 96 | 57 => 100 | 63 => 102 | 64 => 103 | n => n, fun | n => n⟩
theorem Try.sort75 : Go.Proofs.SlLaysM.n5 Try.prog Try.sort75_ren := {
  mixed := by kernel_rfl
  f5 := ⟨Try.f75.name, by decide, Try.func75.trans (congrArg some (by kernel_rfl))⟩
  f7 := ⟨Try.f83.name, by decide, Try.func83.trans (congrArg some (by kernel_rfl))⟩
  f8 := Try.func84.trans (congrArg some (by kernel_rfl))
  f10 := ⟨Try.f87.name, by decide, Try.func87.trans (congrArg some (by kernel_rfl))⟩
  f11 := ⟨Try.f88.name, by decide, Try.func88.trans (congrArg some (by kernel_rfl))⟩
  f12 := ⟨Try.f89.name, by decide, Try.func89.trans (congrArg some (by kernel_rfl))⟩
  f13 := ⟨Try.f90.name, by decide, Try.func90.trans (congrArg some (by kernel_rfl))⟩
  f14 := ⟨Try.f91.name, by decide, Try.func91.trans (congrArg some (by kernel_rfl))⟩
  f15 := ⟨Try.f92.name, by decide, Try.func92.trans (congrArg some (by kernel_rfl))⟩
  f16 := ⟨Try.f93.name, by decide, Try.func93.trans (congrArg some (by kernel_rfl))⟩
  f17 := ⟨Try.f94.name, by decide, Try.func94.trans (congrArg some (by kernel_rfl))⟩
  f18 := ⟨Try.f95.name, by decide, Try.func95.trans (congrArg some (by kernel_rfl))⟩
  f19 := Try.func96.trans (congrArg some (by kernel_rfl))
  f20 := Try.func97.trans (congrArg some (by kernel_rfl))
  f30 := ⟨Try.f98.name, by decide, Try.func98.trans (congrArg some (by kernel_rfl))⟩
  f31 := Try.func99.trans (congrArg some (by kernel_rfl))
  f32 := Try.func100.trans (congrArg some (by kernel_rfl))
  f33 := ⟨Try.f101.name, by decide, Try.func101.trans (congrArg some (by kernel_rfl))⟩
  f34 := ⟨Try.f102.name, by decide, Try.func102.trans (congrArg some (by kernel_rfl))⟩
  f35 := ⟨Try.f103.name, by decide, Try.func103.trans (congrArg some (by kernel_rfl))⟩
  f40 := ⟨Try.f104.name, by decide, Try.func104.trans (congrArg some (by kernel_rfl))⟩
  t0 := Try.underlying0
  a0 := Try.isAgg0
  z0 := Try.sizeOf0
  v0 := Try.zeroValue0
  t3 := Try.underlying3
  a3 := Try.isAgg3
  z3 := Try.sizeOf3
  v3 := Try.zeroValue3
  t4 := Try.underlying4
  a4 := Try.isAgg4
  z4 := Try.sizeOf4
  v4 := Try.zeroValue4
  t5 := Try.underlying5
  a5 := Try.isAgg5
  z5 := Try.sizeOf5
  v5 := Try.zeroValue5
  t9 := Try.underlying9
  a9 := Try.isAgg9
  z9 := Try.sizeOf9
  v9 := Try.zeroValue9
  t22 := Try.underlying27
  a22 := Try.isAgg27
  z22 := Try.sizeOf27
  v22 := Try.zeroValue27
  t23 := Try.underlying27
  a23 := Try.isAgg27
  z23 := Try.sizeOf27
  v23 := Try.zeroValue27
  t25 := Try.underlying3
  a25 := Try.isAgg3
  z25 := Try.sizeOf3
  v25 := Try.zeroValue3
  t32 := Try.underlying75
  a32 := Try.isAgg75
  z32 := Try.sizeOf75
  v32 := Try.zeroValue75
  t35 := Try.underlying88
  a35 := Try.isAgg88
  z35 := Try.sizeOf88
  v35 := Try.zeroValue88
  t36 := Try.underlying89
  a36 := Try.isAgg89
  z36 := Try.sizeOf89
  v36 := Try.zeroValue89
  t41 := Try.underlying92
  a41 := Try.isAgg92
  z41 := Try.sizeOf92
  v41 := Try.zeroValue92
  t44 := Try.underlying81
  a44 := Try.isAgg81
  z44 := Try.sizeOf81
  v44 := Try.zeroValue81
  t46 := Try.underlying84
  a46 := Try.isAgg84
  z46 := Try.sizeOf84
  v46 := Try.zeroValue84
  t53 := Try.underlying96
  a53 := Try.isAgg96
  z53 := Try.sizeOf96
  v53 := Try.zeroValue96
  t57 := Try.underlying100
  a57 := Try.isAgg100
  z57 := Try.sizeOf100
  v57 := Try.zeroValue100
  t63 := Try.underlying102
  a63 := Try.isAgg102
  z63 := Try.sizeOf102
  v63 := Try.zeroValue102
  t64 := Try.underlying103
  a64 := Try.isAgg103
  z64 := Try.sizeOf103
  v64 := Try.zeroValue103 }
end Go.Proofs


namespace Go.Proofs.Ytkmbhknmjnbanaa.A
open Go.RowKit Go.Maps Go.Proofs.YtkmbhknmjnbanaaW.PrintWords Go.Proofs.YtkmbhknmjnbanaaW.PrintLast Go.Shelf
set_option linter.unusedVariables false
set_option linter.unusedSimpArgs false

theorem law3 : Keyed Try.prog 3 := int_keyed Try.underlying3
theorem zero4 (w : World) : (zeroValue 4).run Try.prog w = .ok (.bool false) w := by kernel_rfl
def Wf (n : Int) : Prop := (Lit.int .i64 n).wf = true
theorem wf_small {n : Int} (h0 : 0 ≤ n) (h1 : n ≤ 1000000) : Wf n := by
  unfold Wf; simp [Lit.wf, IntKind.min, IntKind.max, IntKind.signed, IntKind.bits]; omega
theorem key3 {n : Int} (h : Wf n) : keyOf Try.prog 3 (.int .i64 n) = some (.int .i64 n) := keyOf_int_mk Try.underlying3 h
abbrev DU := DataW Unit
theorem isKey (k : Int) : WideAt.IsKeyLit (.int .i64 k) := by simp [WideAt.IsKeyLit]
def ins (s : Int → Bool) (k : Int) : Int → Bool := fun j => decide (j = k) || s j
def rem (s : Int → Bool) (k : Int) : Int → Bool := fun j => !decide (j = k) && s j

theorem plainElem_bool_inv {P : Program} {e : TypeId} (he : P.underlying e = some .bool) {v : Value} {z : DataW Unit × List MemPlace} (h : plainElem P e v = some z) : ∃ x, v = .bool x ∧ z = (.lit (.bool x), []) := by
  unfold plainElem at h
  rw [he] at h
  cases v <;> simp at h
  exact ⟨_, rfl, h.symm⟩
structure ReadsB (D : DU) (s : Int → Bool) : Prop where
  tidy : Tidy D
  has : ∀ k, Maps.has D (.int .i64 k) = s k
  at_ : ∀ k, D.atKey (.int .i64 k) (.lit (.bool false)) = .lit (.bool (s k))
theorem ReadsB.empty : ReadsB (.map []) (fun _ => false) := ⟨tidy_empty, fun k => rfl, fun k => rfl⟩
theorem ReadsB.put {D : DU} {s : Int → Bool} (h : ReadsB D s) (k : Int) : ReadsB (D.put (.int .i64 k) (.lit (.bool true))) (ins s k) := by
  refine ⟨h.tidy.put (isKey k) _, fun j => ?_, fun j => ?_⟩
  · by_cases hj : j = k
    · subst hj
      rw [has_put_same h.tidy.isMap (isKey j)]
      simp [ins]
    · rw [has_put_other (by simpa using hj), h.has j]
      simp [ins, hj]
  · by_cases hj : j = k
    · subst hj
      rw [atKey_put_same h.tidy.isMap (isKey j)]
      simp [ins]
    · rw [atKey_put_other (by simpa using hj), h.at_ j]
      simp [ins, hj]
theorem ReadsB.del {D : DU} {s : Int → Bool} (h : ReadsB D s) (k : Int) : ReadsB (D.del (.int .i64 k)) (rem s k) := by
  refine ⟨h.tidy.del _, fun j => ?_, fun j => ?_⟩
  · by_cases hj : j = k
    · subst hj
      rw [has_del_same]
      simp [rem]
    · rw [has_del_other (by simpa using hj), h.has j]
      simp [rem, hj]
  · by_cases hj : j = k
    · subst hj
      rw [atKey_del_same]
      simp [rem]
    · rw [atKey_del_other (by simpa using hj), h.at_ j]
      simp [rem, hj]

/-- block b is a set of at most n numbers that reads as s -/
def SetAt (w : World) (b n : Nat) (s : Int → Bool) : Prop := ∃ D : DU, w.ownsMap Try.prog 3 (plainElem Try.prog 4) b n D ∧ ReadsB D s
theorem SetAt.lt {w : World} {b n : Nat} {s : Int → Bool} (h : SetAt w b n s) : b < w.heap.size := by
  obtain ⟨D, h1, _⟩ := h; exact h1.lt
theorem SetAt.below {w w1 : World} {b n : Nat} {s : Int → Bool} (h : SetAt w b n s) (hb : Below w.heap.size w w1) : SetAt w1 b n s := by
  have hl := h.lt
  obtain ⟨D, ⟨es, clock, h1, h2⟩, h3⟩ := h
  exact ⟨D, ⟨es, clock, (hb.block _ hl).trans h1, h2⟩, h3⟩
theorem SetAt.grown {w w1 : World} {b n : Nat} {s : Int → Bool} (h : SetAt w b n s) {row : Option Nat} (hg : w.grownBy w1 row) (hne : some b ≠ row) : SetAt w1 b n s := by
  obtain ⟨D, h1, h3⟩ := h
  exact ⟨D, h1.kept hg hne, h3⟩
theorem SetAt.made (w : World) : SetAt (w.alloc (.map #[] 0)) w.heap.size 0 (fun _ => false) := ⟨.map [], World.ownsMap_made _ _ _ _, ReadsB.empty⟩
theorem SetAt.look {w : World} {b n : Nat} {s : Int → Bool} (h : SetAt w b n s) {k : Int} (hk : Wf k) : (Instr.lookup 69 (.map (some b)) (.int .i64 k) false).run Try.prog w = .ok (.bool (s k)) w := by
  obtain ⟨D, h1, h3⟩ := h
  obtain ⟨v, ps, hrun, hv⟩ := h1.lookup law3 Try.underlying69 (zero4 w) (plainElem_bool Try.underlying4 false) (key3 hk)
  obtain ⟨x, rfl, hz⟩ := plainElem_bool_inv (P := Try.prog) (e := 4) Try.underlying4 hv
  have hx : D.atKey (.int .i64 k) (.lit (.bool false)) = .lit (.bool x) := congrArg Prod.fst hz
  rw [h3.at_ k] at hx
  simp only [DataW.lit.injEq, Lit.bool.injEq] at hx
  rw [hrun, hx]
theorem SetAt.store {w : World} {b n : Nat} {s : Int → Bool} (h : SetAt w b n s) (hn : n < maxLen) {k : Int} (hk : Wf k) :
    ∃ w1, (Instr.mapUpdate 69 (.map (some b)) (.int .i64 k) (.bool true)).run Try.prog w = .ok () w1 ∧ SetAt w1 b (n + 1) (ins s k) ∧ w.grownBy w1 (some b) := by
  obtain ⟨D, h1, h3⟩ := h
  obtain ⟨w1, r1, r2, r3⟩ := h1.update law3 Try.underlying69 hn (key3 hk) (plainElem_bool Try.underlying4 true)
  exact ⟨w1, r1, ⟨_, r2, h3.put k⟩, r3⟩
theorem SetAt.drop {w : World} {b n : Nat} {s : Int → Bool} (h : SetAt w b n s) {k : Int} (hk : Wf k) (ty : TypeId) :
    ∃ w1, (Builtin.delete_ #[69, 3] ty #[.map (some b), .int .i64 k]).run Try.prog w = .ok (.tuple #[]) w1 ∧ SetAt w1 b n (rem s k) ∧ w.grownBy w1 (some b) := by
  obtain ⟨D, h1, h3⟩ := h
  obtain ⟨w1, r1, r2, r3⟩ := h1.drop law3 Try.underlying69 (key3 hk) ty
  exact ⟨w1, r1, ⟨_, r2, h3.del k⟩, r3.grown⟩
end Go.Proofs.Ytkmbhknmjnbanaa.A


namespace Go.Proofs.Ytkmbhknmjnbanaa.A
open Go.RowKit Go.Maps Go.Proofs.YtkmbhknmjnbanaaW.PrintWords Go.Proofs.YtkmbhknmjnbanaaW.PrintLast Go.Shelf
set_option linter.unusedVariables false
set_option linter.unusedSimpArgs false

theorem perm_of_sub {α : Type} [DecidableEq α] : ∀ {l m : List α}, l.Nodup → l ⊆ m → m.length ≤ l.length → m.Perm l
  | [], m, _, _, h => by
    have : m = [] := List.eq_nil_of_length_eq_zero (by simpa using h)
    subst this; exact List.Perm.refl _
  | a :: l, m, hn, hs, h => by
    have ha : a ∈ m := hs (by simp)
    have hn' := List.nodup_cons.1 hn
    have h1 := List.perm_cons_erase ha
    have h2 : l ⊆ m.erase a := fun x hx => by
      have hxa : x ≠ a := fun e => hn'.1 (e ▸ hx)
      rw [List.mem_erase_of_ne hxa]; exact hs (by simp [hx])
    have h3 : (m.erase a).length ≤ l.length := by rw [List.length_erase_of_mem ha]; simp at h; omega
    exact h1.trans ((perm_of_sub hn'.2 h2 h3).cons a)

def Rising (ks : List Int) : Prop := ks.Pairwise (· < ·)
theorem rising_eq {a b : List Int} (ha : Rising a) (hb : Rising b) (h : ∀ k, k ∈ a ↔ k ∈ b) : a = b := by
  have hna : a.Nodup := ha.imp (fun h e => by omega)
  have hnb : b.Nodup := hb.imp (fun h e => by omega)
  have hp : a.Perm b := by
    refine perm_of_sub hnb (fun x hx => (h x).2 hx) ?_ |>.trans (List.Perm.refl _)
    exact List.Nodup.length_le_of_subset hna (fun x hx => (h x).1 hx)
  exact List.Perm.eq_of_pairwise (le := (· < ·)) (fun x y _ _ h1 h2 => by omega) ha hb hp
theorem merge_rising {ss : List Int} (h : ss.Nodup) : Rising (ss.mergeSort fun x y => decide (x ≤ y)) := by
  have h1 : (ss.mergeSort fun x y => decide (x ≤ y)).Pairwise (fun x y => decide (x ≤ y) = true) := List.pairwise_mergeSort (by intro a b c; simp; omega) (by intro a b; simp; omega) ss
  have h2 : (ss.mergeSort fun x y => decide (x ≤ y)).Nodup := (List.mergeSort_perm ss _).nodup_iff.2 h
  exact (h1.and h2).imp (fun {a b} ⟨h3, h4⟩ => by have := of_decide_eq_true h3; omega)
theorem intKeys_nodup {D : DU} {s : Int → Bool} (hR : ∀ k, Maps.has D (.int .i64 k) = s k) {R : Value → Option (DU × List MemPlace)} {w : World} {b n : Nat} (hown : w.ownsMap Try.prog 3 R b n D) : (intKeys D).Nodup ∧ ∀ k, k ∈ intKeys D ↔ s k = true := by
  obtain ⟨es, hD, hpw, _⟩ := hown.entries law3
  obtain ⟨es', hD', hko⟩ := hown.keysOf
  obtain rfl : es = es' := by rw [hD] at hD'; simpa using hD'
  subst hD
  have hk : ∀ p ∈ es, ∃ x, p.1 = Lit.int .i64 x := fun p hp => by
    obtain ⟨v, hv⟩ := hko p hp
    obtain ⟨x, _, hx, _⟩ := Maps.keyOf_i64 Try.underlying3 hv
    exact ⟨x, hx⟩
  refine ⟨?_, fun k => ?_⟩
  · show (es.map fun p => Go.intOf p.1).Nodup
    refine List.pairwise_map.2 (hpw.imp_of_mem fun {p q} hp' hq' hne e => hne ?_)
    obtain ⟨a, ha⟩ := hk p hp'
    obtain ⟨b, hb⟩ := hk q hq'
    rw [ha, hb] at e ⊢
    exact congrArg _ e
  · rw [← hR k, has_eq, List.any_eq_true]
    show k ∈ (es.map fun p => Go.intOf p.1) ↔ _
    rw [List.mem_map]
    constructor
    · rintro ⟨p, hp', rfl⟩
      obtain ⟨a, ha⟩ := hk p hp'
      exact ⟨p, hp', by rw [ha]; simp [Lit.sameKey, Go.intOf]⟩
    · rintro ⟨p, hp', hs⟩
      obtain ⟨a, ha⟩ := hk p hp'
      rw [ha] at hs
      exact ⟨p, hp', by rw [ha]; simpa [Lit.sameKey, Go.intOf] using hs⟩

theorem sorts57 (m : Nat) : AnyZI.SortsIn Try.prog Try.sorted57_ren Fence.wide m :=
  ⟨fun blk off cap ss W hH hblk hsz => callsIn_wide.2 (AnyM.slices_Sort_int Try.sort75 blk off cap ss W hH hblk hsz),
   fun p cap W => callsIn_wide.2 (AnyM.slices_Sort_int_none Try.sort75 p cap W)⟩

theorem keys68_calls (mb : Option Nat) (W : World) : Calls Try.prog 68 #[.map mb] W fun e w' => e = .returned (.func (.func 82) #[] #[.pointer (some ⟨W.heap.size, 0, none⟩)]) ∧ w' = W.alloc (.cells #[.map mb] 69) :=
  (callsIn_wide (n := 5)).1 (AnyZI.keys_in Try.keys68 Fence.wide 5 trivial rfl mb W)
theorem sorted68_calls (b n : Nat) (s : Int → Bool) (w : World) {R : Value → Option (DU × List MemPlace)} {D : DU} (hown : w.ownsMap Try.prog 3 R b n D) (hR : ∀ k, Maps.has D (.int .i64 k) = s k) (hn : n ≤ 1000000) :
    Calls Try.prog 57 #[.func (.func 82) #[] #[.pointer (some ⟨w.heap.size, 0, none⟩)]] (w.alloc (.cells #[.map (some b)] 69)) fun e w' => ∃ (v : Value) (ks : List Int), e = .returned v ∧ Rising ks ∧ (∀ k, k ∈ ks ↔ s k = true) ∧ ks.length ≤ n ∧
      Kd.R (Kd.int .i64) 3 w' w.heap.size (fun _ => True) v ks ∧ Below w.heap.size w w' := by
  have hbl := hown.lt
  have hsz := hown.size_le
  obtain ⟨hnd, hmem⟩ := intKeys_nodup hR hown
  have hseq : SeqGives Fence.wide 2 Try.prog 82 #[.pointer (some ⟨w.heap.size, 0, none⟩)] Go.encZ (fun ss => ss.Perm (intKeys D)) (Maps.size D) (w.alloc (.cells #[.map (some b)] 69)) :=
    AnyZI.keys_gives (ρ := Try.keys68_ren) { Try.keys68 with } Fence.wide _ trivial rfl (by omega) w.heap.size b n D _ (by simp) (by simp) (by
      obtain ⟨es, clock, hb, Ft, hs, hD⟩ := hown
      exact ⟨es, clock, (Below.heap_alloc _ _ b hbl).trans hb, Ft, hs, hD⟩)
  have cS := AnyZI.sorted_in Try.sorted57 Fence.wide 5 trivial trivial trivial trivial rfl (by omega) (sorts57 _) (enters_of Try.func75 (by kernel_rfl) rfl) 82 #[.pointer (some ⟨w.heap.size, 0, none⟩)] trivial (enters_of Try.func82 (by kernel_rfl) rfl) _ _ (by unfold maxLen; omega) (by omega) _ hseq
  refine ((callsIn_wide (n := 5)).1 cS).mono ?_
  rintro e w' ⟨v, ss, rfl, hS, hrow, hnil, hb⟩
  have hlen : ss.length = (ss.mergeSort fun x y => decide (x ≤ y)).length := by simp
  refine ⟨v, _, rfl, merge_rising (hS.nodup_iff.2 hnd), fun k => ?_, ?_, ?_, ((Below.refl _ w).alloc (Nat.le_refl _) _).trans (hb.mono (by simp))⟩
  · rw [List.mem_mergeSort, hS.mem_iff, hmem]
  · rw [← hlen, hS.length_eq]
    have : (intKeys D).length = size D := by
      obtain ⟨es, rfl, _⟩ := hown.keysOf
      simp [intKeys, size]
    omega
  · refine Kd.R_of_own ?_ (fun _ _ => trivial)
    rw [← hlen]
    exact ownsRow_base_a hrow (by simp)

theorem keys58_calls (mb : Option Nat) (W : World) : Calls Try.prog 58 #[.map mb] W fun e w' => e = .returned (.func (.func 76) #[] #[.pointer (some ⟨W.heap.size, 0, none⟩)]) ∧ w' = W.alloc (.cells #[.map mb] 56) :=
  (callsIn_wide (n := 5)).1 (AnyZI.keys_in Try.keys58 Fence.wide 5 trivial rfl mb W)
theorem sorted58_calls (b n : Nat) (s : Int → Bool) (w : World) {R : Value → Option (DU × List MemPlace)} {D : DU} (hown : w.ownsMap Try.prog 3 R b n D) (hR : ∀ k, Maps.has D (.int .i64 k) = s k) (hn : n ≤ 1000000) :
    Calls Try.prog 57 #[.func (.func 76) #[] #[.pointer (some ⟨w.heap.size, 0, none⟩)]] (w.alloc (.cells #[.map (some b)] 56)) fun e w' => ∃ (v : Value) (ks : List Int), e = .returned v ∧ Rising ks ∧ (∀ k, k ∈ ks ↔ s k = true) ∧ ks.length ≤ n ∧
      Kd.R (Kd.int .i64) 3 w' w.heap.size (fun _ => True) v ks ∧ Below w.heap.size w w' := by
  have hbl := hown.lt
  have hsz := hown.size_le
  obtain ⟨hnd, hmem⟩ := intKeys_nodup hR hown
  have hseq : SeqGives Fence.wide 2 Try.prog 76 #[.pointer (some ⟨w.heap.size, 0, none⟩)] Go.encZ (fun ss => ss.Perm (intKeys D)) (Maps.size D) (w.alloc (.cells #[.map (some b)] 56)) :=
    AnyZI.keys_gives (ρ := Try.keys58_ren) { Try.keys58 with } Fence.wide _ trivial rfl (by omega) w.heap.size b n D _ (by simp) (by simp) (by
      obtain ⟨es, clock, hb, Ft, hs, hD⟩ := hown
      exact ⟨es, clock, (Below.heap_alloc _ _ b hbl).trans hb, Ft, hs, hD⟩)
  have cS := AnyZI.sorted_in Try.sorted57 Fence.wide 5 trivial trivial trivial trivial rfl (by omega) (sorts57 _) (enters_of Try.func75 (by kernel_rfl) rfl) 76 #[.pointer (some ⟨w.heap.size, 0, none⟩)] trivial (enters_of Try.func76 (by kernel_rfl) rfl) _ _ (by unfold maxLen; omega) (by omega) _ hseq
  refine ((callsIn_wide (n := 5)).1 cS).mono ?_
  rintro e w' ⟨v, ss, rfl, hS, hrow, hnil, hb⟩
  have hlen : ss.length = (ss.mergeSort fun x y => decide (x ≤ y)).length := by simp
  refine ⟨v, _, rfl, merge_rising (hS.nodup_iff.2 hnd), fun k => ?_, ?_, ?_, ((Below.refl _ w).alloc (Nat.le_refl _) _).trans (hb.mono (by simp))⟩
  · rw [List.mem_mergeSort, hS.mem_iff, hmem]
  · rw [← hlen, hS.length_eq]
    have : (intKeys D).length = size D := by
      obtain ⟨es, rfl, _⟩ := hown.keysOf
      simp [intKeys, size]
    omega
  · refine Kd.R_of_own ?_ (fun _ _ => trivial)
    rw [← hlen]
    exact ownsRow_base_a hrow (by simp)
end Go.Proofs.Ytkmbhknmjnbanaa.A


namespace Go.Proofs.Ytkmbhknmjnbanaa.A
open Go.RowKit Go.Maps Go.Proofs.YtkmbhknmjnbanaaW.PrintWords Go.Proofs.YtkmbhknmjnbanaaW.PrintLast Go.Shelf
set_option linter.unusedVariables false
set_option linter.unusedSimpArgs false

/-- numbers that one can read there -/
def IntsAt (w : World) (A : Option Addr) (ws : List Int) : Prop := ∀ j (h : j < ws.length), ∃ ad, A = some ad ∧ w.cell? (ad.add j) = some (.int .i64 ws[j])
theorem IntsAt.of_C {w : World} {A : Option Addr} {ws : List Int} (h : Kd.C (Kd.int .i64) w A ws.length ws) : IntsAt w A ws := by
  intro j hj
  obtain ⟨ad, e, hc⟩ := Kd.at_int h (j : Int) (by omega) (by omega)
  rw [Int.toNat_natCast, rdI hj] at hc
  exact ⟨ad, e, hc⟩
theorem IntsAt.cells {w : World} {ad : Addr} {ws : List Int} (h : IntsAt w (some ad) ws) : ∀ j u, (ws.map (Value.int .i64))[j]? = some u → w.cell? (ad.add j) = some u := by
  intro j u hu
  obtain ⟨hj, rfl⟩ := List.getElem?_eq_some_iff.1 hu
  rw [List.length_map] at hj
  obtain ⟨ad', e, hc⟩ := h j hj
  cases e
  rw [hc, List.getElem_map]
theorem app_ex (W : World) (ad : Addr) (ws row : List Int) (A : Option Addr) (c : Nat) (hI : IntsAt W (some ad) ws) (hrow : IntsAt W A row) (hc : row.length ≤ c) (hb : ws.length + row.length ≤ 1000000) :
    ∃ v' W', (Builtin.append_ #[27, 27] 27 #[.slice (some ad) ws.length ws.length, .slice A row.length c]).run Try.prog W = .ok v' W' ∧ (∃ A' c', v' = .slice A' (ws ++ row).length c' ∧ (ws ++ row).length ≤ c' ∧ IntsAt W' A' (ws ++ row)) ∧ W.grownBy W' none := by
  obtain ⟨i0, hi, hz0, hz1, hz2⟩ := info_parts info3
  cases row with
  | nil =>
    refine ⟨_, W, run_append_nothing W 27 27 27 3 i0 Try.underlying27 hi (some ad) ws.length ws.length (Nat.le_refl _) _ ?_, ⟨some ad, ws.length, by simp, by simp, by simpa using hI⟩, ⟨rfl, rfl, rfl, Nat.le_refl _, fun _ _ _ => rfl⟩⟩
    cases A with
    | none => exact Src.ofNil W Try.underlying27 c
    | some a => exact Src.ofSlice W Try.underlying27 a 0 c [] (by simp) (by simp) (by simp)
  | cons x row =>
    obtain ⟨ar, rfl, _⟩ := hrow 0 (by simp)
    obtain ⟨v', W', h1, h2, h3⟩ := run_append_arg_grows (P := Try.prog) W 27 27 3 i0 _ 1 8 Try.underlying27 hi hz0 hz1 hz2 rfl (by decide) ad ws.length ws.length (ws.map (Value.int .i64)) (by simp) hI.cells ar (x :: row).length c ((x :: row).map (Value.int .i64)) (by simp) hrow.cells (by simp) (by unfold maxLen; omega) (by omega)
    refine ⟨v', W', h1, ?_, h3⟩
    rw [← List.map_append] at h2
    have hR : Kd.R (Kd.int .i64) 3 W' W.heap.size (fun _ => True) v' (ws ++ x :: row) := Kd.R_of_own (by rw [List.length_append]; exact h2) (fun _ _ => trivial)
    obtain ⟨A', c', rfl⟩ := Kd.R_slice hR
    have := Kd.R_reads' hR
    exact ⟨A', c', rfl, this.2.1, IntsAt.of_C this.2.2⟩
theorem step_append_run {P : Program} {ops : Array Oper} {o : Oper} {a : Act} {w : World} {K : Act → World → Prop} {Q : Exit → Act → World → Prop} {E : Prop}
    (hg : o.guard = none) (s x : Operand) (t : TypeId) (hop : o.op = Op.call { callee := Callee.builtin Builtin.append, args := #[s, x], argTypes := #[t, t] })
    (sv xv v' : Value) (w' : World) (hs : a.eval s = sv) (hx : a.eval x = xv) (hrun : (Builtin.append_ #[t, t] o.type #[sv, xv]).run P w = .ok v' w') (hK : K (a.put o.dst v') w') :
    if Region.wanted o (yielded ops a.tmps) = true then Oper.wp P o a w K Q else E := by
  have hw : Region.wanted o (yielded ops a.tmps) = true := by simp [Region.wanted, hg]
  rw [if_pos hw]
  unfold Oper.wp
  simp [execOp, hop, resolve, invoke, builtin, hs, hx, hrun, Result.andThen]
  exact hK
end Go.Proofs.Ytkmbhknmjnbanaa.A


namespace Go.Proofs.Ytkmbhknmjnbanaa.A
open Go.RowKit Go.Maps Go.Proofs.YtkmbhknmjnbanaaW.PrintWords Go.Proofs.YtkmbhknmjnbanaaW.PrintLast Go.Shelf
set_option linter.unusedVariables false
set_option linter.unusedSimpArgs false

/-- going back from what waits, as long as there is something -/
def bodyW (P : List (List Int)) (re : List Bool) : Nat → (Int → Bool) → List Int → (Int → Bool)
  | 0, S, _ => S
  | n + 1, S, [] => S
  | n + 1, S, a :: ws => if S a = true ∨ re.getD a.toNat false = false then bodyW P re n S ws else bodyW P re n (ins S a) (ws ++ rowOf P a.toNat)
/-- how many rounds that takes at most -/
def budget (P : List (List Int)) (S : Int → Bool) (ws : List Int) : Nat := ws.length + ((List.range P.length).map fun k : Nat => if S (k : Int) = true then 0 else (rowOf P k).length).sum

theorem IntsAt.below {w w' : World} {A : Option Addr} {ws : List Int} (h : IntsAt w A ws) (hb : Below w.heap.size w w') : IntsAt w' A ws := by
  intro j hj
  obtain ⟨ad, e, hc⟩ := h j hj
  exact ⟨ad, e, (hb.cell (World.block_lt_of_cell? _ _ hc)).trans hc⟩
theorem IntsAt.grown {w w' : World} {A : Option Addr} {ws : List Int} (h : IntsAt w A ws) {b : Nat} (hg : w.grownBy w' (some b)) (hm : ∀ c t f, w.heap[b]? ≠ some (.cells c t f)) : IntsAt w' A ws := by
  intro j hj
  obtain ⟨ad, e, hc⟩ := h j hj
  refine ⟨ad, e, ?_⟩
  have hl := World.block_lt_of_cell? _ _ hc
  have hne : (ad.add j).block ≠ b := by
    intro e
    unfold World.cell? at hc
    rw [e] at hc
    split at hc
    · rename_i h; exact hm _ _ _ h
    all_goals first | cases hc | skip
  have hb := hg.block _ hl (fun e => hne (by injection e))
  unfold World.cell? at hc ⊢
  rw [hb]; exact hc
theorem R_new_lit {α : Type} (d : Kd α) (W : World) (base e : Nat) {xs : List α} {inner : List Value} {ok okp : Nat → Prop}
    (hrep : Reps (d.M W base okp) d.sz xs inner) (hok : ∀ k, okp k → ok k) (hfresh : ok W.heap.size) (hbase : base ≤ W.heap.size) (hm : xs.length ≤ 9223372036854775807) :
    d.R e (W.alloc (.cells inner.toArray e)) base ok (.slice (some ⟨W.heap.size, 0, none⟩) xs.length xs.length) xs := by
  refine ⟨fun k hk => ?_, inner, ?_, ?_⟩
  · have : W.heap.size = k := by simpa [Value.ownBlock] using hk
    subst this
    exact hfresh
  · have h2 := World.ownsRow_lit (base := base) (e := e) (size := d.sz) W inner.toArray xs.length hbase (by simpa [maxLen] using hm) (by simpa using hrep.1)
    simpa using h2
  · refine hrep.imp_ (fun p c hp => d.M_mono (fun k hk => ⟨hok k hk.1, fun he => ?_⟩) (Kd.M_below (d.M_bound hp) (below_alloc (Below.refl _ _) _)))
    have : W.heap.size = k := by simpa [Value.ownBlock] using he.symm
    have := hk.2.2.1
    omega

theorem reps_one {W : World} {base : Nat} {ok : Nat → Prop} (x : Int) : Reps ((Kd.int .i64).M W base ok) (Kd.int .i64).sz [x] [.int .i64 x] := by
  refine ⟨rfl, fun j p hj => ?_⟩
  cases j with
  | zero => simp at hj; subst hj; rfl
  | succ j => simp at hj

theorem sum_ins (P : List (List Int)) (S : Int → Bool) (a : Nat) (hS : S (a : Int) = false) : ∀ m, (((List.range m).map fun k : Nat => if ins S (a : Int) (k : Int) = true then 0 else (rowOf P k).length).sum) + (if a < m then (rowOf P a).length else 0) = ((List.range m).map fun k : Nat => if S (k : Int) = true then 0 else (rowOf P k).length).sum
  | 0 => by simp
  | m + 1 => by
    have ih := sum_ins P S a hS m
    rw [List.range_succ, List.map_append, List.map_append, List.sum_append, List.sum_append]
    simp only [List.map_cons, List.map_nil, List.sum_cons, List.sum_nil, Nat.add_zero]
    by_cases e : m = a
    · subst e
      rw [if_neg (Nat.lt_irrefl _)] at ih
      rw [if_pos (Nat.lt_succ_self _), hS]
      have : ins S (m : Int) (m : Int) = true := by simp [ins]
      rw [this]
      simp only [if_true, Bool.false_eq_true, if_false]
      omega
    · have : ins S (a : Int) (m : Int) = S (m : Int) := by
        unfold ins
        have : ¬ (m : Int) = (a : Int) := by omega
        simp [this]
      rw [this]
      generalize (if S (m : Int) = true then 0 else (rowOf P m).length) = z
      by_cases h : a < m
      · rw [if_pos h] at ih
        rw [if_pos (by omega)]
        omega
      · rw [if_neg h] at ih
        rw [if_neg (by omega)]
        omega
theorem sum_le (P : List (List Int)) (S : Int → Bool) : ∀ m, m ≤ P.length → (((List.range m).map fun k : Nat => if S (k : Int) = true then 0 else (rowOf P k).length).sum) ≤ tot (P.take m)
  | 0, _ => by simp [tot]
  | m + 1, h => by
    have ih := sum_le P S m (by omega)
    rw [List.range_succ, List.map_append, List.sum_append, List.take_succ_eq_append_getElem (show m < P.length by omega), tot_append]
    have : (rowOf P m).length = P[m].length := by unfold rowOf; rw [List.getD_eq_getElem?_getD, List.getElem?_eq_getElem (show m < P.length by omega)]; rfl
    simp only [List.map_cons, List.map_nil, List.sum_cons, List.sum_nil, Nat.add_zero, tot] at *
    split <;> omega
theorem budget_le (P : List (List Int)) (S : Int → Bool) (ws : List Int) : budget P S ws ≤ ws.length + tot P := by
  have := sum_le P S P.length (Nat.le_refl _)
  rw [List.take_length] at this
  unfold budget; omega
theorem budget_ins {P : List (List Int)} {S : Int → Bool} {a : Nat} (ha : a < P.length) (hS : S (a : Int) = false) (ws : List Int) : budget P (ins S (a : Int)) (ws ++ rowOf P a) = budget P S ws := by
  have := sum_ins P S a hS P.length
  rw [if_pos ha] at this
  unfold budget
  rw [List.length_append]
  omega
theorem budget_cons (P : List (List Int)) (S : Int → Bool) (x : Int) (ws : List Int) : budget P S (x :: ws) = budget P S ws + 1 := by unfold budget; rw [List.length_cons]; omega
theorem bodyW_nil (P : List (List Int)) (re : List Bool) (n : Nat) (S : Int → Bool) : bodyW P re n S [] = S := by cases n <;> rfl
/-- a loop's row: its head, then the others, rising -/
def others (n : Nat) (R : Int → Bool) (head : Nat) : List Int := ((List.range n).filter fun k : Nat => R (k : Int) && !decide (k = head)).map fun k : Nat => (k : Int)
def bodyRes (P : List (List Int)) (re : List Bool) (head : Nat) (fr : List Int) : List Int :=
  (head : Int) :: others P.length (bodyW P re (budget P (ins (fun _ => false) head) fr) (ins (fun _ => false) head) fr) head

set_option maxRecDepth 100000 in
set_option maxHeartbeats 4000000 in
theorem body_calls (A0 A1 A3 : Option Addr) (c0 c1 c3 : Nat) (P : List (List Int)) (re : List Bool) (head : Nat) (fr : List Int) (w : World)
    (h0 : Kd.C (Kd.slice 3 (Kd.int .i64)) w A0 P.length P) (h1 : Kd.C Kd.bool w A1 P.length re) (h3 : Kd.C (Kd.int .i64) w A3 fr.length fr) (hc3 : fr.length ≤ c3)
    (hn : P.length ≤ 4096) (hP : ∀ l ∈ P, ∀ x ∈ l, 0 ≤ x ∧ x < (P.length : Int)) (hf : ∀ x ∈ fr, 0 ≤ x ∧ x < (P.length : Int)) (hh : head < P.length) (ht : tot P ≤ 100000) (hfl : fr.length ≤ 100000) :
    Calls Try.prog 59 #[.slice A0 P.length c0, .slice A1 P.length c1, .int .i64 head, .slice A3 fr.length c3] w fun e w' => ∃ v, e = .returned v ∧
      Kd.R (Kd.int .i64) 3 w' w.heap.size (fun _ => True) v (bodyRes P re head fr) ∧ Below w.heap.size w w' := by
  unfold bodyRes
  have hbud : budget P (ins (fun _ => false) head) fr ≤ 200000 := by have := budget_le P (ins (fun _ => false) head) fr; omega
  generalize hR : bodyW P re (budget P (ins (fun _ => false) head) fr) (ins (fun _ => false) head) fr = R
  have hR' := Aside0.mk hR
  clear hR
  have hmm := @run_makeMap Try.prog
  have hwf : ∀ x : Int, 0 ≤ x → x < (P.length : Int) → Wf x := fun x a b => wf_small a (by omega)
  obtain ⟨w1, i1, i2, i3⟩ := (SetAt.made w).store (by unfold maxLen; omega) (hwf head (by omega) (by omega))
  go_enter Try.func59, Try.ntmps59
  go_wp2_with fail
  go_loopg [10, 11] (budget P (ins (fun _ => false) head) fr) (fun gk s10 _ wr => ∃ (S : Int → Bool) (ws : List Int) (A : Option Addr) (c n : Nat), s10 = .slice A ws.length c ∧ ws.length ≤ c ∧ budget P S ws ≤ gk ∧ n + gk ≤ 300000 ∧ Aside0 (IntsAt wr A ws) ∧ Aside0 (SetAt wr w.heap.size n S) ∧ Aside0 (bodyW P re gk S ws = R) ∧ Aside0 (∀ x ∈ ws, 0 ≤ x ∧ x < (P.length : Int)) ∧ Aside0 (Below w.heap.size w wr) ∧ Aside0 (∀ k, S k = true → 0 ≤ k ∧ k < (P.length : Int)))
  case atStart =>
    have hB1 : Below w.heap.size w w1 := (below_alloc (Below.refl _ _) (.map #[] 0)).grown i3 (by simp) (fun j e => by cases e; exact Nat.le_refl _)
    exact ⟨_, fr, A3, c3, 1, rfl, hc3, Nat.le_refl _, by omega, ⟨IntsAt.of_C (Kd.C_below h3 hB1)⟩, ⟨i2⟩, hR', ⟨hf⟩, ⟨hB1⟩, ⟨fun k hk => by simp [ins] at hk; omega⟩⟩
  case round =>
    obtain ⟨S, ws, A, c, n, rfl, hwc, hbg, hng, hI, hS, hb, hx, hB, hin⟩ := hrel
    cases ws with
    | nil =>
      have hbe := hb.out
      rw [bodyW_nil] at hbe
      subst hbe
      obtain ⟨wd, d1, d2, d3⟩ := hS.out.drop (hwf head (by omega) (by omega)) 0
      have hBd : Below w.heap.size w wd := hB.out.grown d3 hB.out.size (fun j e => by cases e; exact Nat.le_refl _)
      obtain ⟨D, hown, hRb⟩ := d2
      have hwd : w.heap.size ≤ wd.heap.size := hBd.size
      have hown2 := hown.alloc (.cells #[.int .i64 (head : Int)] 3)
      have hHO : Kd.R (Kd.int .i64) 3 (wd.alloc (.cells #[.int .i64 (head : Int)] 3)) w.heap.size (fun _ => True) (.slice (some ⟨wd.heap.size, 0, none⟩) 1 1) [(head : Int)] :=
        R_new_lit (Kd.int .i64) wd w.heap.size 3 (xs := [(head : Int)]) (inner := [.int .i64 (head : Int)]) (ok := fun _ => True) (okp := fun _ => True) (reps_one (head : Int)) (fun _ h => h) trivial hwd (by simp)
      have hBd2 := below_alloc hBd (.cells #[.int .i64 (head : Int)] 3)
      have hsz : (wd.alloc (.cells #[.int .i64 (head : Int)] 3)).heap.size = wd.heap.size + 1 := by simp
      have hso := sorted68_calls w.heap.size n _ (wd.alloc (.cells #[.int .i64 (head : Int)] 3)) hown2 hRb.has (by omega)
      have hhas := Aside0.mk (show ∀ k, rem S (head : Int) k = (S k && !decide (k = (head : Int))) from fun k => Bool.and_comm _ _)
      clear hS hB hI hb hx hown hown2 hRb d3 hBd
      rw [hsz] at hso
      have hHO' := Aside0.mk hHO
      have hBd2' := Aside0.mk hBd2
      clear hHO hBd2
      go_wp2_with fail
      refine (keys68_calls _ _).mono ?_
      rintro e w' ⟨rfl, rfl⟩
      rw [hsz]
      go_wp2_with fail
      refine hso.mono ?_
      rintro e w5 ⟨v, ks, rfl, k1, k2, k3, k4, k5⟩
      obtain ⟨A5, c5, rfl⟩ := Kd.R_slice k4
      have HO := Aside0.mk (Kd.R_below hHO'.out (by rw [hsz]; exact k5))
      have HR := Aside0.mk (Kd.R_reads' k4).2.2
      have hBa := Aside0.mk (hBd2'.out.trans (k5.mono (by omega)))
      have k1' := Aside0.mk k1
      have k2' := Aside0.mk k2
      clear hso hHO' hBd2' k1 k2 k4 k5
      go_wp2_with (at_builtin; refine Kd.R_append_row (Value.int .i64) (0 : Int) (w0 := w) w.heap.size rfl (.tmp 50) (.tmp 53) 27 3 (.int .i64 0) 8 rfl Try.underlying27 info3 rfl (by decide) _ [(head : Int)] ks A5 ks.length c5 (fun _ => True) rfl rfl (fun _ _ => trivial) HO.out HR.out hBa.out hBa.out.size (by simp; omega) ?_; intro v1 w6 hown1 hb1 hg1 hat1)
      go_ret
      refine ⟨_, rfl, ?_, hb1⟩
      have : others P.length S head = ks := by
        refine rising_eq ?_ k1'.out fun k => ?_
        · unfold Rising others
          rw [List.pairwise_map]
          exact (List.pairwise_lt_range.filter _).imp (fun h => by omega)
        · rw [k2'.out, hhas.out]
          unfold others
          simp only [List.mem_map, List.mem_filter, List.mem_range, Bool.and_eq_true, Bool.not_eq_true', decide_eq_false_iff_not]
          constructor
          · rintro ⟨m, ⟨h1, h2, h3⟩, rfl⟩
            exact ⟨h2, by omega⟩
          · rintro ⟨h1, h2⟩
            have := hin.out k h1
            obtain ⟨m, rfl⟩ := Int.eq_ofNat_of_zero_le this.1
            exact ⟨m, ⟨by omega, h1, by omega⟩, rfl⟩
      rw [this]
      exact hown1
    | cons x ws =>
      obtain ⟨hx0, hx1⟩ := hx.out x (by simp)
      have hxt := Aside0.mk (fun y hy => hx.out y (List.mem_cons_of_mem _ hy))
      obtain ⟨a, rfl⟩ := Int.eq_ofNat_of_zero_le hx0
      obtain ⟨ad, rfl, q0⟩ := hI.out 0 (by simp)
      rw [Addr.add_zero', List.getElem_cons_zero] at q0
      rw [budget_cons] at hbg
      obtain ⟨gk, rfl⟩ : ∃ g', gk = g' + 1 := ⟨gk - 1, by omega⟩
      have hlk := hS.out.look (hwf (a : Int) hx0 hx1)
      rw [List.length_cons] at hwc ⊢
      have hl0 : ((ws.length + 1 : Nat) : Int) > 0 := by omega
      have hwl : ws.length ≤ 300000 := by unfold budget at hbg; omega
      obtain ⟨ar, eR, r0⟩ := Kd.at_bool (Kd.C_below h1 hB.out) (a : Int) hx0 hx1
      subst eR
      rw [Int.toNat_natCast] at r0
      have hb' := hb.out
      unfold bodyW at hb'
      rw [Int.toNat_natCast] at hb'
      have hrd : rdOf false re (a : Int) = re.getD a false := by unfold rdOf; rw [Int.toNat_natCast]
      rw [hrd] at r0
      have hI2 : IntsAt wr (some ⟨ad.block, ad.off + 1, none⟩) ws := by
        intro j hj
        obtain ⟨ad', e, hc⟩ := hI.out (j + 1) (by simp; omega)
        cases e
        refine ⟨_, rfl, ?_⟩
        rw [List.getElem_cons_succ, Addr.add_succ'] at hc
        rw [Addr.add_lit, ← hc]
        congr 2
        omega
      have hI0 : c = 1 → ∀ A, IntsAt wr A ws := fun e A j hj => absurd hj (by omega)
      have hI2' := Aside0.mk hI2
      have hI0' := Aside0.mk hI0
      clear hI hI2 hI0 hrd
      by_cases hskip : S (a : Int) = true ∨ re.getD a false = false
      · have hb2 := hb'
        rw [if_pos hskip] at hb2
        have hbn := Aside0.mk hb2
        clear hb hb' hb2
        cases hSa : S (a : Int) with
        | true =>
          rw [hSa] at hlk
          clear hskip
          by_cases hc1 : c = 1
          · subst hc1
            obtain rfl : ws = [] := List.eq_nil_of_length_eq_zero (by omega)
            go_wp2_with fail
            go_roundg gk
            case measure => omega
            case rel => exact ⟨S, [], some ad, 0, n, rfl, Nat.le_refl _, by omega, by omega, ⟨fun j hj => absurd hj (Nat.not_lt_zero _)⟩, hS, hbn, ⟨fun y hy => absurd hy (List.not_mem_nil)⟩, hB, hin⟩
          · have hc2 : ¬ (c : Int) = 1 := by omega
            go_wp2_with fail
            go_roundg gk
            case measure => omega
            case rel => exact ⟨S, ws, _, _, n, rfl, by omega, by omega, by omega, hI2', hS, hbn, hxt, hB, hin⟩
        | false =>
          rw [hSa] at hlk
          have hre0 : re.getD a false = false := by rcases hskip with h | h; rw [hSa] at h; cases h; exact h
          rw [hre0] at r0
          clear hskip
          by_cases hc1 : c = 1
          · subst hc1
            obtain rfl : ws = [] := List.eq_nil_of_length_eq_zero (by omega)
            go_wp2_with fail
            go_roundg gk
            case measure => omega
            case rel => exact ⟨S, [], some ad, 0, n, rfl, Nat.le_refl _, by omega, by omega, ⟨fun j hj => absurd hj (Nat.not_lt_zero _)⟩, hS, hbn, ⟨fun y hy => absurd hy (List.not_mem_nil)⟩, hB, hin⟩
          · have hc2 : ¬ (c : Int) = 1 := by omega
            go_wp2_with fail
            go_roundg gk
            case measure => omega
            case rel => exact ⟨S, ws, _, _, n, rfl, by omega, by omega, by omega, hI2', hS, hbn, hxt, hB, hin⟩
      · obtain ⟨hSa, hre1⟩ := not_or.1 hskip
        rw [Bool.not_eq_true] at hSa
        rw [Bool.not_eq_false] at hre1
        rw [if_neg hskip] at hb'
        have hbn := Aside0.mk hb'
        have hbi := budget_ins (P := P) (show a < P.length by omega) hSa ws
        rw [hSa] at hlk
        rw [hre1] at r0
        clear hb hb' hskip
        have hin2 : Aside0 (∀ k, ins S (a : Int) k = true → 0 ≤ k ∧ k < (P.length : Int)) := ⟨fun k hk => by
          simp only [ins, Bool.or_eq_true, decide_eq_true_eq] at hk
          rcases hk with rfl | hk
          · exact ⟨hx0, hx1⟩
          · exact hin.out k hk⟩
        obtain ⟨wu, u1, u2, u3⟩ := hS.out.store (by unfold maxLen; omega) (hwf (a : Int) hx0 hx1)
        have hBu : Below w.heap.size w wu := hB.out.grown u3 hB.out.size (fun j e => by cases e; exact Nat.le_refl _)
        obtain ⟨es, clock, hmb⟩ : ∃ es clock, wr.heap[w.heap.size]? = some (.map es clock) := by
          obtain ⟨D, ⟨es, clock, h, _⟩, _⟩ := hS.out
          exact ⟨es, clock, h⟩
        have hI3 : IntsAt wu (some ⟨ad.block, ad.off + 1, none⟩) ws := hI2'.out.grown u3 (fun _ _ _ h => by rw [hmb] at h; cases h)
        obtain ⟨ap, A4, c4, rfl, p0, p1, p2⟩ := at_L1 (Kd.C_below h0 hBu) (a : Int) hx0 hx1
        rw [Int.toNat_natCast] at p0
        rw [rdL] at p0 p1 p2
        have hrr := hP _ (rowOf_mem (show a < P.length by omega))
        have hrb : (rowOf P a).length ≤ 100000 := Nat.le_trans (row_le_tot P a) ht
        generalize rowOf P a = row at p0 p1 p2 hrr hrb hbn hbi
        have hxn := Aside0.mk (fun y (hy : y ∈ ws ++ row) => (List.mem_append.1 hy).elim (hxt.out y) (hrr y))
        have p3 : IntsAt wu.drew A4 row := IntsAt.of_C p2
        have hw3 : (0 : Int) ≤ (ws.length : Int) := by omega
        have q1 : wu.drew.cell? (ap.add a) = some (.slice A4 row.length c4) := p0
        by_cases hc1 : c = 1
        · subst hc1
          obtain rfl : ws = [] := List.eq_nil_of_length_eq_zero (by omega)
          obtain ⟨v', W', a1, ⟨A', c', rfl, a3, a4⟩, a5⟩ := app_ex wu.drew ad [] row A4 c4 (fun j hj => absurd hj (Nat.not_lt_zero _)) p3 p1 (by simp; omega)
          have a4' := Aside0.mk a4
          have a5' := Aside0.mk a5
          have u2' := Aside0.mk u2
          have hBu' := Aside0.mk hBu
          clear a4 a5 u2 hBu hS hB p2 p3 hmb u3 hI2' hI0' hI3
          go_wp2_with fail
          go_region_law (refine step_append_run rfl (.tmp 41) (.tmp 45) 27 rfl (.slice (some ad) 0 0) (.slice A4 row.length c4) _ W' (by simp [Act.eval, Act.put]) (by simp [Act.eval, Act.put]) a1 ?_)
          simp [Act.put]
          go_wp2_with fail
          go_roundg gk
          case measure => omega
          case rel => exact ⟨ins S (a : Int), row, A', c', n + 1, by simp, a3, by have := hbi; simp only [List.nil_append] at this; omega, by omega, a4', ⟨(show SetAt wu.drew _ _ _ from u2'.out).grown a5'.out (by simp)⟩, hbn, hxn, ⟨(hBu'.out.trans (show Below w.heap.size wu wu.drew from ⟨rfl, rfl, rfl, Nat.le_refl _, fun _ _ => rfl⟩)).grown a5'.out (show w.heap.size ≤ wu.drew.heap.size from hBu'.out.size) (fun j e => by cases e)⟩, hin2⟩
        · have hc2 : ¬ (c : Int) = 1 := by omega
          have hc3 : ws.length ≤ c - 1 := by omega
          have hc4 : (ws.length : Int) ≤ ((c - 1 : Nat) : Int) := by omega
          obtain ⟨v', W', a1, ⟨A', c', rfl, a3, a4⟩, a5⟩ := app_ex wu.drew ⟨ad.block, ad.off + 1, none⟩ ws row A4 c4 hI3 p3 p1 (by omega)
          have a4' := Aside0.mk a4
          have a5' := Aside0.mk a5
          have u2' := Aside0.mk u2
          have hBu' := Aside0.mk hBu
          clear a4 a5 u2 hBu hS hB p2 p3 hmb u3 hI2' hI0'
          go_wp2_with fail
          go_region_law (refine step_append_run rfl (.tmp 41) (.tmp 45) 27 rfl (.slice (some ⟨ad.block, ad.off + 1, none⟩) ws.length ws.length) (.slice A4 row.length c4) _ W' (by simp [Act.eval, Act.put]) (by simp [Act.eval, Act.put]) a1 ?_)
          simp [Act.put]
          go_wp2_with fail
          go_roundg gk
          case measure => omega
          case rel => exact ⟨ins S (a : Int), ws ++ row, A', c', n + 1, by simp, a3, by omega, by omega, a4', ⟨(show SetAt wu.drew _ _ _ from u2'.out).grown a5'.out (by simp)⟩, hbn, hxn, ⟨(hBu'.out.trans (show Below w.heap.size wu wu.drew from ⟨rfl, rfl, rfl, Nat.le_refl _, fun _ _ => rfl⟩)).grown a5'.out (show w.heap.size ≤ wu.drew.heap.size from hBu'.out.size) (fun j e => by cases e)⟩, hin2⟩
end Go.Proofs.Ytkmbhknmjnbanaa.A


namespace Go.Proofs.Ytkmbhknmjnbanaa.A
open Go.ChangeShapes Go.RowKit Go.Maps Go.Proofs.YtkmbhknmjnbanaaW.PrintWords Go.Proofs.YtkmbhknmjnbanaaW.PrintLast Go.Shelf
set_option linter.unusedVariables false
set_option linter.unusedSimpArgs false

def gupd (H : Int → List Int) (k x : Int) : Int → List Int := fun j => if j = k then H k ++ [x] else H j
structure ReadsG (D : DU) (H : Int → List Int) : Prop where
  tidy : Tidy D
  has : ∀ k, Maps.has D (.int .i64 k) = !(H k).isEmpty
  at_ : ∀ k, D.atKey (.int .i64 k) .nil = if H k = [] then .nil else .slice (lits .i64 (H k)) []
theorem ReadsG.empty : ReadsG (.map []) (fun _ => []) := ⟨tidy_empty, fun k => rfl, fun k => rfl⟩
theorem ReadsG.put {D : DU} {H : Int → List Int} (h : ReadsG D H) (k x : Int) : ReadsG (D.put (.int .i64 k) (.slice (lits .i64 (H k ++ [x])) [])) (gupd H k x) := by
  refine ⟨h.tidy.put (isKey k) _, fun j => ?_, fun j => ?_⟩
  · by_cases hj : j = k
    · subst hj
      rw [has_put_same h.tidy.isMap (isKey j)]
      simp [gupd]
    · rw [has_put_other (by simpa using hj), h.has j]
      simp [gupd, hj]
  · by_cases hj : j = k
    · subst hj
      rw [atKey_put_same h.tidy.isMap (isKey j)]
      simp [gupd]
    · rw [atKey_put_other (by simpa using hj), h.at_ j]
      simp [gupd, hj]
theorem lits_inj {a b : List Int} (h : (lits .i64 a : List (DataW Unit)) = lits .i64 b) : a = b := by
  unfold lits at h
  exact List.map_inj_right (f := fun z : Int => (DataW.lit (Lit.int .i64 z) : DataW Unit)) (fun x y e => by simpa using e) |>.1 h
theorem zeroL (w : World) : (zeroValue 27).run Try.prog w = .ok (.slice none 0 0) w := by kernel_rfl
/-- block b is such a map of at most n entries -/
def GrpAt (w : World) (b n : Nat) (H : Int → List Int) : Prop := ∃ D : DU, w.ownsGroups Try.prog 3 (b + 1) 3 .i64 b n D ∧ ReadsG D H
theorem GrpAt.made (w : World) : GrpAt (w.alloc (.map #[] 0)) w.heap.size 0 (fun _ => []) := ⟨.map [], World.ownsGroups_made _ _ _ _ _, ReadsG.empty⟩
/-- m[k]: a row that one may append to and store again -/
theorem GrpAt.look {w : World} {b n : Nat} {H : Int → List Int} (h : GrpAt w b n H) (hn : n < maxLen) {k : Int} (hk : Wf k) :
    ∃ v, (Instr.lookup 56 (.map (some b)) (.int .i64 k) false).run Try.prog w = .ok v w ∧ w.ownsInts (b + 1) 3 .i64 v (H k) ∧ (H k).length ≤ n ∧
      ∀ (w1 : World) (v' : Value) (x : Int), w.grownBy w1 v.ownBlock → w1.ownsInts (b + 1) 3 .i64 v' (H k ++ [x]) → (v'.ownBlock = v.ownBlock ∨ ∃ g, v'.ownBlock = some g ∧ w.heap.size ≤ g) →
        ∃ w2, (Instr.mapUpdate 56 (.map (some b)) (.int .i64 k) v').run Try.prog w1 = .ok () w2 ∧ GrpAt w2 b (n + 1) (gupd H k x) ∧ w1.grownBy w2 (some b) := by
  obtain ⟨D, hg, hR⟩ := h
  obtain ⟨v, zs, h1, h2, h3, h4, h5⟩ := hg.at law3 Try.underlying56 (zeroL w) hn (key3 hk)
  have hz : zs = H k := by
    rw [hR.at_ k] at h2
    rcases h3.datum (H := Unit) with ⟨e1, e2⟩ | e1
    · rw [e1] at h2
      by_cases e : H k = []
      · rw [e2, e]
      · rw [if_neg e] at h2; simp at h2
    · rw [e1] at h2
      by_cases e : H k = []
      · rw [if_pos e] at h2; simp at h2
      · rw [if_neg e] at h2
        simp only [DataW.slice.injEq, and_true] at h2
        exact (lits_inj h2).symm
  subst hz
  refine ⟨v, h1, h3, h4, fun w1 v' x hg1 ho hl => ?_⟩
  obtain ⟨w2, r1, r2, r3⟩ := h5 w1 v' (H k ++ [x]) hg1 ho (by simp; omega) hl
  rw [ho.datum_pos (by simp)] at r2
  exact ⟨w2, r1, ⟨_, r2, hR.put k x⟩, r3⟩
theorem GrpAt.keys {w : World} {b n : Nat} {H : Int → List Int} (h : GrpAt w b n H) : ∃ (D : DU) (R : Value → Option (DU × List MemPlace)), w.ownsMap Try.prog 3 R b n D ∧ ∀ k, Maps.has D (.int .i64 k) = !(H k).isEmpty := by
  obtain ⟨D, ⟨es, clock, hb, F, hs, hD, _⟩, hR⟩ := h
  exact ⟨D, _, ⟨es, clock, hb, F, hs, hD⟩, hR.has⟩
theorem GrpAt.lt {w : World} {b n : Nat} {H : Int → List Int} (h : GrpAt w b n H) : b < w.heap.size := by
  obtain ⟨D, R, h1, _⟩ := h.keys; exact h1.lt
theorem GrpAt.grown {w w1 : World} {b n : Nat} {H : Int → List Int} (h : GrpAt w b n H) (hg : w.grownBy w1 none) : GrpAt w1 b n H := by
  obtain ⟨D, h1, h3⟩ := h
  exact ⟨D, h1.kept hg (by simp) (fun es clock _ x _ => by cases x.val.ownBlock <;> simp), h3⟩
end Go.Proofs.Ytkmbhknmjnbanaa.A


namespace Go.Proofs.Ytkmbhknmjnbanaa.A
open Go.RowKit Go.Maps Go.Proofs.YtkmbhknmjnbanaaW.PrintWords Go.Proofs.YtkmbhknmjnbanaaW.PrintLast Go.Shelf
set_option linter.unusedVariables false
set_option linter.unusedSimpArgs false

theorem look_val {w : World} {b : Nat} {es : Array MapEntry} {clock : Nat} {R : Value → Option (DU × List MemPlace)} (hb : w.heap[b]? = some (.map es clock)) (F : Go.WideElems.Fit Try.prog 3 R es clock) {k : Int} (hk : Wf k) :
    ((Instr.lookup 56 (.map (some b)) (.int .i64 k) false).run Try.prog w = .ok (.slice none 0 0) w ∧ ∀ e ∈ es.toList, e.key ≠ .int .i64 k) ∨ ∃ (j : Nat) (e : MapEntry), (Instr.lookup 56 (.map (some b)) (.int .i64 k) false).run Try.prog w = .ok e.val w ∧ es.toList[j]? = some e ∧ e.key = .int .i64 k := by
  have hz := zeroL w
  rcases law3.find w (key3 hk) es.toList F.keys with ⟨h1, h2⟩ | ⟨j, e0, h1, h2, h3⟩
  · exact .inl ⟨by simp [Instr.lookup, run_underlying Try.underlying56, MapKept.run_getObj_map hb, law3.check w _ (key3 hk), h1, hz, Result.andThen], h2⟩
  · exact .inr ⟨j, e0, by simp [Instr.lookup, run_underlying Try.underlying56, MapKept.run_getObj_map hb, law3.check w _ (key3 hk), h1, Result.andThen], h2, h3⟩
theorem look_same {w w' : World} {b : Nat} {es : Array MapEntry} {clock : Nat} {R : Value → Option (DU × List MemPlace)} (hb : w.heap[b]? = some (.map es clock)) (hb' : w'.heap[b]? = some (.map es clock)) (F : Go.WideElems.Fit Try.prog 3 R es clock) {k : Int} (hk : Wf k) {v : Value}
    (h : (Instr.lookup 56 (.map (some b)) (.int .i64 k) false).run Try.prog w = .ok v w) : (Instr.lookup 56 (.map (some b)) (.int .i64 k) false).run Try.prog w' = .ok v w' := by
  rcases look_val hb F hk with ⟨h1, h2⟩ | ⟨j, e, h1, h2, h3⟩ <;> rcases look_val hb' F hk with ⟨g1, g2⟩ | ⟨i, f, g1, g2, g3⟩
  · rw [h1] at h; simp only [Result.ok.injEq, and_true] at h; subst h; exact g1
  · exact absurd g3 (h2 f (List.mem_of_getElem? g2))
  · exact absurd h3 (g2 e (List.mem_of_getElem? h2))
  · rw [h1] at h; simp only [Result.ok.injEq, and_true] at h; subst h
    have hn := F.stamped.2.2
    have e1 : (es.toList.map (·.key))[j]? = some (.int .i64 k) := by rw [List.getElem?_map, h2]; simp [h3]
    have e2 : (es.toList.map (·.key))[i]? = some (.int .i64 k) := by rw [List.getElem?_map, g2]; simp [g3]
    have hij : j = i := (List.getElem?_inj (by have := (List.getElem?_eq_some_iff.1 e1).1; exact this) hn).1 (e1.trans e2.symm)
    subst hij
    have : e = f := Option.some.inj (h2.symm.trans g2)
    subst this
    exact g1
theorem GrpAt.look2 {w w' : World} {b n : Nat} {H : Int → List Int} (h : GrpAt w b n H) (hg : w.grownBy w' none) {k : Int} (hk : Wf k) {v : Value}
    (hv : (Instr.lookup 56 (.map (some b)) (.int .i64 k) false).run Try.prog w' = .ok v w') : (Instr.lookup 56 (.map (some b)) (.int .i64 k) false).run Try.prog w = .ok v w := by
  have hl := h.lt
  obtain ⟨D, ⟨es, clock, hb, F, _⟩, _⟩ := h
  exact look_same ((hg.block b hl (by simp)).trans hb) hb F hk hv
end Go.Proofs.Ytkmbhknmjnbanaa.A


namespace Go.Proofs.Ytkmbhknmjnbanaa.A
open Go.RowKit Go.Maps Go.Proofs.YtkmbhknmjnbanaaW.PrintWords Go.Proofs.YtkmbhknmjnbanaaW.PrintLast Go.Shelf
set_option linter.unusedVariables false
set_option linter.unusedSimpArgs false

/-- where edges come back from, by head -/
def hfold (l : List S37) : Int → List Int := l.foldl (fun H e => gupd H e.f1 e.f0) (fun _ => [])
theorem hfold_snoc (l : List S37) (e : S37) : hfold (l ++ [e]) = gupd (hfold l) e.f1 e.f0 := by simp [hfold]
def headsOf (n : Nat) (H : Int → List Int) : List Int := ((List.range n).filter fun k : Nat => !(H (k : Int)).isEmpty).map fun k : Nat => (k : Int)
def loopsOf (g : List (List Int)) : List (List Int) :=
  (headsOf g.length (hfold (backOf g))).map fun h => bodyRes (predsOf g) (reachRes g 0) h.toNat (hfold (backOf g) h)
theorem brow_in {at_ : List Int} {g : List (List Int)} {i : Nat} (hi : i < g.length) : ∀ (l : List Int) (out : List S37), (∀ x ∈ l, 0 ≤ x ∧ x < (g.length : Int)) → (∀ e ∈ out, (0 ≤ e.f0 ∧ e.f0 < (g.length : Int)) ∧ 0 ≤ e.f1 ∧ e.f1 < (g.length : Int)) → ∀ e ∈ brow at_ i out l, (0 ≤ e.f0 ∧ e.f0 < (g.length : Int)) ∧ 0 ≤ e.f1 ∧ e.f1 < (g.length : Int)
  | [], out, _, h => h
  | x :: l, out, hl, h => by
    refine brow_in hi l (bstep at_ i out x) (fun y hy => hl y (by simp [hy])) ?_
    unfold bstep
    split
    · intro e he
      rcases List.mem_append.1 he with he | he
      · exact h e he
      · simp only [List.mem_singleton] at he
        subst he
        exact ⟨⟨by show (0 : Int) ≤ (i : Int); omega, by show (i : Int) < _; omega⟩, hl x (by simp)⟩
    · exact h
theorem back_in (g : List (List Int)) : ∀ e ∈ backOf g, (0 ≤ e.f0 ∧ e.f0 < (g.length : Int)) ∧ 0 ≤ e.f1 ∧ e.f1 < (g.length : Int) := by
  unfold backOf
  cases hr : rightB g
  · intro e he; simp at he
  · obtain ⟨h1, h2, h3⟩ := right_rows hr
    rw [if_pos rfl]
    suffices H : ∀ m, m ≤ g.length → ∀ e ∈ bfold (placesOf g) g m, (0 ≤ e.f0 ∧ e.f0 < (g.length : Int)) ∧ 0 ≤ e.f1 ∧ e.f1 < (g.length : Int) from H _ (Nat.le_refl _)
    intro m
    induction m with
    | zero => intro _ e he; simp [bfold] at he
    | succ m ih =>
      intro hm
      rw [bfold_succ]
      exact brow_in (by omega) _ _ (h3 _ (rowOf_mem (by omega))) (ih (by omega))
theorem back_len (g : List (List Int)) : (backOf g).length ≤ 40000 := by
  unfold backOf
  cases hr : rightB g
  · simp
  · obtain ⟨h1, h2, h3⟩ := right_rows hr
    rw [if_pos rfl]
    have := bfold_len (at_ := placesOf g) (right_8 hr) g.length (Nat.le_refl _)
    omega

theorem hfold_mem (l : List S37) (k y : Int) : y ∈ hfold l k ↔ ∃ e ∈ l, e.f1 = k ∧ e.f0 = y := by
  unfold hfold
  suffices H : ∀ F : Int → List Int, y ∈ l.foldl (fun H e => gupd H e.f1 e.f0) F k ↔ y ∈ F k ∨ ∃ e ∈ l, e.f1 = k ∧ e.f0 = y by
    have := H (fun _ => []); simpa using this
  induction l with
  | nil => intro F; simp
  | cons x l ih =>
    intro F
    rw [List.foldl_cons, ih]
    unfold gupd
    by_cases e : k = x.f1
    · subst e
      rw [if_pos rfl, List.mem_append, List.mem_singleton]
      constructor
      · rintro ((h | h) | ⟨e, h1, h2⟩)
        · exact .inl h
        · exact .inr ⟨x, by simp, rfl, h.symm⟩
        · exact .inr ⟨e, by simp [h1], h2⟩
      · rintro (h | ⟨e, h1, h2⟩)
        · exact .inl (.inl h)
        · rcases List.mem_cons.1 h1 with rfl | h1
          · exact .inl (.inr h2.2.symm)
          · exact .inr ⟨e, h1, h2⟩
    · rw [if_neg e]
      constructor
      · rintro (h | ⟨e', h1, h2⟩)
        · exact .inl h
        · exact .inr ⟨e', by simp [h1], h2⟩
      · rintro (h | ⟨e', h1, h2⟩)
        · exact .inl h
        · rcases List.mem_cons.1 h1 with rfl | h1
          · exact absurd h2.1.symm e
          · exact .inr ⟨e', h1, h2⟩

set_option maxRecDepth 100000 in
set_option maxHeartbeats 4000000 in
theorem loops_calls (A : Option Addr) (c : Nat) (g : List (List Int)) (w : World) (h : Kd.C (Kd.slice 3 (Kd.int .i64)) w A g.length g) (hc : g.length ≤ c) :
    Calls Try.prog 32 #[.slice A g.length c] w fun e w' => ∃ v, e = .returned v ∧ Kd.S (Kd.slice 3 (Kd.int .i64)) 27 w' w.heap.size (fun _ => True) v (loopsOf g) ∧ Below w.heap.size w w' := by
  have hmm := @run_makeMap Try.prog
  have hu37 := Try.underlying37
  obtain ⟨kb, hkb⟩ := (back_ev g).get
  have hbw : Below w.heap.size w (w.alloc (.map #[] 0)) := below_alloc (Below.refl _ _) _
  have hbk := graph_Back.calls kb A c g _ (w.alloc (.map #[] 0)) (Kd.C_below h hbw) hc hkb
  have hin := back_in g
  have hbl := back_len g
  have hGm := GrpAt.made w
  have hgl : 0 < (backOf g).length → g.length ≤ 4096 := by
    unfold backOf
    cases hr : rightB g
    · intro h; simp at h
    · intro _; exact (right_rows hr).1
  have hrt0 : 0 < (backOf g).length → rightB g = true := by
    unfold backOf
    cases hr : rightB g
    · intro h; simp at h
    · intro _; rfl
  unfold loopsOf
  generalize backOf g = bs at hbk hin hbl hgl hrt0 ⊢
  go_enter Try.func32, Try.ntmps32
  go_wp2_with fail
  refine hbk.mono ?_
  rintro e w1 ⟨v1, rfl, hv1, hb1⟩
  obtain ⟨A1, c1, rfl⟩ := Kd.R_slice hv1
  have hsz1 : (w.alloc (.map #[] 0)).heap.size = w.heap.size + 1 := by simp
  have hC1 := Aside0.mk (show Kd.R k37 37 w1 (w.heap.size + 1) (fun _ => True) (.slice A1 bs.length c1) bs by rw [← hsz1]; exact hv1)
  have hG1 : GrpAt w1 w.heap.size 0 (fun _ => []) := hGm.grown (grown_of_below hb1 none)
  have hB1 := Aside0.mk (hbw.trans (hb1.mono (by rw [hsz1]; omega)))
  clear hbk hv1 hb1 hGm
  go_wp2_with fail
  go_loopw [15] (fun s wr => ∃ m : Nat, m ≤ bs.length ∧ s = .int .i64 m ∧ Aside0 (GrpAt wr w.heap.size m (hfold (bs.take m))) ∧ Aside0 (Kd.R k37 37 wr (w.heap.size + 1) (fun _ => True) (.slice A1 bs.length c1) bs) ∧ Aside0 (Below w.heap.size w wr))
    (fun s _ => bs.length - (RowKit.intOf s).toNat)
  case atStart => exact ⟨0, Nat.zero_le _, rfl, ⟨hG1⟩, hC1, hB1⟩
  case round =>
    obtain ⟨m, hm, rfl, hG, hC, hB⟩ := hrel
    by_cases hlt : m < bs.length
    · have hmn : (m : Int) < (bs.length : Int) := by omega
      have hm0 : (0 : Int) ≤ (m : Int) := by omega
      obtain ⟨ad, rfl, q0, q1⟩ := at_T37 (Kd.R_reads' hC.out).2.2 (m : Int) hm0 hmn
      rw [Int.toNat_natCast] at q0 q1
      have htk : bs.take (m + 1) = bs.take m ++ [rd_T37 bs m] := by
        rw [List.take_succ_eq_append_getElem hlt]
        simp [rd_T37, hlt]
      have hme := hin (rd_T37 bs m) (by simp [rd_T37, hlt])
      have hsn := hfold_snoc (bs.take m) (rd_T37 bs m)
      rw [← htk] at hsn
      have hsn' := Aside0.mk hsn
      clear htk hsn
      generalize rd_T37 bs (m : Int) = e at q0 q1 hme hsn'
      obtain ⟨f0, f1⟩ := e
      dsimp only at q0 q1 hme hsn'
      have hgl' := hgl (by omega)
      have hw0 : Wf f0 := wf_small hme.1.1 (by omega)
      have hw1 : Wf f1 := wf_small hme.2.1 (by omega)
      obtain ⟨W3, hW3⟩ : ∃ W3, wr.alloc (.cells #[.int .i64 f0, .int .i64 f1] 37) = W3 := ⟨_, rfl⟩
      have hgr3 : wr.grownBy W3 none := by rw [← hW3]; exact World.grownBy_alloc _ _ _
      have hB3 : Below w.heap.size w W3 := by rw [← hW3]; exact below_alloc hB.out _
      have e0 : W3.cell? ⟨wr.heap.size, 0, none⟩ = some (.int .i64 f0) := by rw [← hW3]; simp [go_sem]
      have e1 : W3.cell? ⟨wr.heap.size, 1, none⟩ = some (.int .i64 f1) := by rw [← hW3]; simp [go_sem]
      have hG3 : GrpAt W3.drew w.heap.size m (hfold (bs.take m)) := hG.out.grown (show wr.grownBy W3.drew none from ⟨hgr3.os, hgr3.tape, hgr3.output, hgr3.size, hgr3.block⟩)
      obtain ⟨i0, hi, hz0, hz1, hz2⟩ := info_parts info3
      obtain ⟨W4, hW4⟩ : ∃ W4, W3.drew.alloc (.cells #[.int .i64 f0] 3) = W4 := ⟨_, rfl⟩
      have hgr4 : W3.drew.grownBy W4 none := by rw [← hW4]; exact World.grownBy_alloc _ _ _
      have hG4 := hG3.grown hgr4
      have e2 : W4.cell? ⟨wr.heap.size, 0, none⟩ = some (.int .i64 f0) := by rw [← hW4]; exact (World.cell?_alloc_lt _ _ _ (World.block_lt_of_cell? W3 _ e0)).trans e0
      have e3 : W4.cell? ⟨wr.heap.size, 1, none⟩ = some (.int .i64 f1) := by rw [← hW4]; exact (World.cell?_alloc_lt _ _ _ (World.block_lt_of_cell? W3 _ e1)).trans e1
      obtain ⟨v, l1, l2, l3, l4⟩ := hG4.look (by unfold maxLen; omega) hw1
      have l0 := hG3.look2 hgr4 hw1 l1
      have hown4 : W4.ownsRow (w.heap.size + 1) 3 1 v (hfold (bs.take m) f1).length ((hfold (bs.take m) f1).map (Value.int .i64)) := l2.1
      have hsz4 : W4.heap.size = W3.heap.size + 1 := by rw [← hW4]; simp
      obtain ⟨v', W5, a1, a2, a3, a4, a5⟩ := run_append_own_at (P := Try.prog) W4 (w.heap.size + 1) 27 27 3 i0 _ 1 8 Try.underlying27 hi hz0 hz1 hz2 rfl (by decide) v _ _ hown4 ⟨W3.heap.size, 0, none⟩ 1 1 [.int .i64 f0] rfl (by rw [← hW4]; exact cell_one_new W3.drew _ _) (by simp [Value.oneCell']) (by unfold maxLen; omega) (by omega) (by have := hB3.size; omega)
      have hB4 : Below w.heap.size w W4 := (hB3.trans (show Below w.heap.size W3 W3.drew from ⟨rfl, rfl, rfl, Nat.le_refl _, fun _ _ => rfl⟩)).grown hgr4 (show w.heap.size ≤ W3.drew.heap.size from hB3.size) (fun j ej => by cases ej)
      have hblk : W4.heap[wr.heap.size]? = some (.cells #[.int .i64 f0, .int .i64 f1] 37 (0, 0)) := by
        rw [← hW4, Below.heap_alloc _ _ _ (by show wr.heap.size < W3.heap.size; rw [← hW3]; simp)]
        show W3.heap[wr.heap.size]? = _
        rw [← hW3]; exact World.alloc_heap_new _ _
      have hne : some wr.heap.size ≠ v.ownBlock := by
        intro e
        rcases l2.1.2 with ⟨rfl, _⟩ | ⟨gg, cap, cur, rfl, _, hgb, _⟩
        · simp [Value.ownBlock] at e
        · obtain rfl : wr.heap.size = gg := by simpa [Value.ownBlock] using e
          rw [hblk] at hgb
          cases hgb
      have e4 : W5.cell? ⟨wr.heap.size, 1, none⟩ = some (.int .i64 f1) := by
        have hb5 := a3.block wr.heap.size (Array.getElem?_eq_some_iff.1 hblk).1 hne
        unfold World.cell? at e3 ⊢
        rw [show (⟨wr.heap.size, 1, none⟩ : Addr).block = wr.heap.size from rfl] at e3 ⊢
        rw [hb5]; exact e3
      obtain ⟨W6, u1, u2, u3⟩ := l4 W5 v' f0 a3 ⟨by rw [List.length_append, List.map_append]; exact a2, fun z hz => by
        rcases List.mem_append.1 hz with hz | hz
        · exact l2.2 z hz
        · simp only [List.mem_singleton] at hz; subst hz; exact hw0⟩ (a5.imp id fun h => ⟨_, h, Nat.le_refl _⟩)
      have u2' := Aside0.mk u2
      have hB6 : Aside0 (Below w.heap.size w W6) := ⟨(hB4.grown a3 hB4.size (fun j ej => by have := (own_base l2.1 j ej).1; omega)).grown u3 (Nat.le_trans hB4.size a3.size) (fun j ej => by cases ej; exact Nat.le_refl _)⟩
      have hC4 : Kd.R k37 37 W4 (w.heap.size + 1) (fun _ => True) (.slice (some ad) bs.length c1) bs := by
        refine Kd.R_grown (Kd.R_grown hC.out (show wr.grownBy W3.drew none from ⟨hgr3.os, hgr3.tape, hgr3.output, hgr3.size, hgr3.block⟩) (fun _ _ => by simp)) hgr4 (fun _ _ => by simp)
      have hRv : Kd.R (Kd.int .i64) 3 W4 (w.heap.size + 1) (fun _ => True) v (hfold (bs.take m) f1) := Kd.R_of_own l2.1 (fun _ _ => trivial)
      have hC5 := Kd.R_over hC4 hRv (by decide) a3
      have hC6 := Aside0.mk (Kd.R_mono (Kd.R_grown (Kd.R_bound hC5) u3 (fun k hk => by have := hk.2.1; intro e; injection e with e; omega)) (fun _ _ => trivial))
      clear l4 u2 u3 a2 a3 a4 a5 hown4 l2 hG3 hG4 hgr4
      go_wp2_with fail
      go_region_law (refine step_append_run rfl (.tmp 25) (.tmp 28) 27 rfl v (.slice (some ⟨W3.heap.size, 0, none⟩) 1 1) v' W5 (by simp [Act.eval, Act.put]) (by simp [Act.eval, Act.put]) a1 ?_)
      all_goals
        go_wp2_with fail
        go_roundw
        case rel => exact ⟨m + 1, by omega, by go_num, ⟨by rw [hsn'.out]; exact u2'.out⟩, hC6, hB6⟩
        case measure => simp [RowKit.intOf]; omega
    · obtain rfl : m = bs.length := by omega
      have hG2 := hG.out
      rw [List.take_length] at hG2
      generalize hH : hfold bs = H at hG2 ⊢
      obtain ⟨kp, hkp⟩ := (preds_ev g).get
      generalize hP00 : (if rightB g = true then predsOf g else []) = P0 at hkp
      have hP0 := Aside0.mk hP00
      clear hP00
      have hpr := graph_Preds.calls kp A c g _ wr (Kd.C_below h hB.out) hc hkp
      have hG2' := Aside0.mk hG2
      clear hG hG2 hC hC1 hG1
      go_wp2_with fail
      refine hpr.mono ?_
      rintro e w2 ⟨v2, rfl, hv2, hb2⟩
      have hB2 := hB.out.trans (hb2.mono hB.out.size)
      have hre := graph_Reach.calls A c g 0 _ w2 (Kd.C_below h hB2) hc rfl
      go_wp2_with fail
      refine hre.mono ?_
      rintro e w3 ⟨v3, rfl, hv3, hb3⟩
      have hG3 : GrpAt w3 w.heap.size bs.length H := (hG2'.out.grown (grown_of_below hb2 none)).grown (grown_of_below hb3 none)
      have hB3 := hB2.trans (hb3.mono hB2.size)
      obtain ⟨D, Rr, hown, hhas⟩ := hG3.keys
      have hso := sorted58_calls w.heap.size bs.length _ w3 hown hhas (by omega)
      have hv2' := Kd.S_below hv2 hb3
      obtain ⟨A2, c2, rfl⟩ := Kd.S_slice hv2'
      obtain ⟨A3, c3, rfl⟩ := Kd.R_slice hv3
      have hP2 := Aside0.mk (Kd.S_reads' hv2').2.2
      have hP3 := Aside0.mk (Kd.R_reads' hv3).2.2
      have hG3' := Aside0.mk hG3
      have hB3' := Aside0.mk hB3
      clear hpr hre hv2 hv3 hb2 hb3 hB2 hB3 hB hG2' hG3 hv2' hown hhas
      go_wp2_with fail
      refine (keys58_calls _ _).mono ?_
      rintro e w' ⟨rfl, rfl⟩
      go_wp2_with fail
      refine hso.mono ?_
      rintro e w5 ⟨v5, ks, rfl, k1, k2, k3, k4, k5⟩
      obtain ⟨A5, c5, rfl⟩ := Kd.R_slice k4
      have hG5 := Aside0.mk (hG3'.out.grown (grown_of_below k5 none))
      have hQ2 := Aside0.mk (Kd.C_below hP2.out k5)
      have hQ3 := Aside0.mk (Kd.C_below hP3.out k5)
      have hK5 := Aside0.mk (Kd.R_reads' k4).2.2
      have hB5 := Aside0.mk (hB3'.out.trans (k5.mono hB3'.out.size))
      have k1' := Aside0.mk k1
      have k2' := Aside0.mk k2
      clear hso hP2 hP3 hG3' hB3' k1 k2 k4 k5
      go_wp2_with fail
      go_loopw [8, 39] (fun s8 s39 wr => ∃ m : Nat, m ≤ ks.length ∧ s39 = .int .i64 m ∧ Aside0 (Kd.S (Kd.slice 3 (Kd.int .i64)) 27 wr w5.heap.size (fun _ => True) s8 ((ks.take m).map fun h => bodyRes (predsOf g) (reachRes g 0) h.toNat (H h))) ∧ Aside0 (Below w5.heap.size w5 wr))
        (fun _ s39 _ => ks.length - (RowKit.intOf s39).toNat)
      case atStart => exact ⟨0, Nat.zero_le _, rfl, ⟨Kd.S_nil _ _ _ _ _⟩, ⟨Below.refl _ _⟩⟩
      case round =>
        obtain ⟨m, hm, rfl, hv, hB⟩ := hrel
        by_cases hlt : m < ks.length
        · have hmn : (m : Int) < (ks.length : Int) := by omega
          have hm0 : (0 : Int) ≤ (m : Int) := by omega
          obtain ⟨ad, rfl, q0⟩ := Kd.at_int (Kd.C_below hK5.out hB.out) (m : Int) hm0 hmn
          rw [Int.toNat_natCast, rdI hlt] at q0
          have htk : ks.take (m + 1) = ks.take m ++ [ks[m]] := List.take_succ_eq_append_getElem hlt
          have hxm : ks[m] ∈ ks := List.getElem_mem hlt
          generalize ks[m] = x at q0 htk hxm
          have hHx := (k2'.out x).1 hxm
          have hHne : H x ≠ [] := by intro e; rw [e] at hHx; cases hHx
          obtain ⟨y0, hy0⟩ := List.exists_mem_of_ne_nil _ hHne
          have hmemH : ∀ y ∈ H x, 0 ≤ y ∧ y < (g.length : Int) := by
            intro y hy
            rw [← hH, hfold_mem] at hy
            obtain ⟨e, he, _, rfl⟩ := hy
            exact (hin e he).1
          rw [← hH, hfold_mem] at hy0
          obtain ⟨e0, he0, hx0, _⟩ := hy0
          have hxr := (hin e0 he0).2
          rw [hx0] at hxr
          have hbp : 0 < bs.length := List.length_pos_of_mem he0
          have hrt := hrt0 hbp
          obtain ⟨hgn, hg1, hgr⟩ := right_rows hrt
          obtain rfl : P0 = predsOf g := by rw [← hP0.out, if_pos hrt]
          obtain ⟨xn, rfl⟩ := Int.eq_ofNat_of_zero_le hxr.1
          have hwx : Wf (xn : Int) := wf_small hxr.1 (by omega)
          have hGq := hG5.out.grown (grown_of_below hB.out none)
          obtain ⟨vr, l1, l2, l3, _⟩ := hGq.look (by unfold maxLen; omega) hwx
          have hRr : Kd.R (Kd.int .i64) 3 wr (w.heap.size + 1) (fun _ => True) vr (H xn) := Kd.R_of_own l2.1 (fun _ _ => trivial)
          obtain ⟨Ar, cr, rfl⟩ := Kd.R_slice hRr
          have hrr := Kd.R_reads' hRr
          have hlp : (predsOf g).length = g.length := predsOf_len g
          have hlr : (reachRes g 0).length = (predsOf g).length := by
            rw [hlp]; unfold reachRes; rw [if_pos ⟨hrt, by omega, by omega⟩, marks_len]
          have hbo : Calls Try.prog 59 #[.slice A2 (predsOf g).length c2, .slice A3 (reachRes g 0).length c3, .int .i64 xn, .slice Ar (H xn).length cr] wr fun e w' => ∃ v, e = .returned v ∧
              Kd.R (Kd.int .i64) 3 w' wr.heap.size (fun _ => True) v (bodyRes (predsOf g) (reachRes g 0) xn (H xn)) ∧ Below wr.heap.size wr w' := by
            have hq3 := Kd.C_below hQ3.out hB.out
            rw [hlr] at hq3 ⊢
            refine body_calls A2 A3 Ar c2 c3 cr (predsOf g) (reachRes g 0) xn (H xn) wr (Kd.C_below hQ2.out hB.out) hq3 hrr.2.2 hrr.2.1 (by omega) ?_ ?_ (by omega) ?_ (by omega)
            · intro l hl y hy
              obtain ⟨j, hj, rfl⟩ := List.getElem_of_mem hl
              have : y ∈ rowOf (predsOf g) j := by unfold rowOf; rw [List.getD_eq_getElem?_getD, List.getElem?_eq_getElem hj]; exact hy
              rw [predsOf_mem hgr] at this
              obtain ⟨i, hi, rfl, _⟩ := this
              omega
            · intro y hy
              have := hmemH y hy; omega
            · have h1 := tot_pfold hgr g.length (Nat.le_refl _)
              rw [List.take_length] at h1
              have h2 := tot_le (right_8 hrt)
              unfold predsOf; omega
          have hml : ((ks.take m).map fun h => bodyRes (predsOf g) (reachRes g 0) h.toNat (H h)).length ≤ 1000000 := by
            rw [List.length_map, List.length_take]; have := k3; omega
          have htk' : ((ks.take (m + 1)).map fun h => bodyRes (predsOf g) (reachRes g 0) h.toNat (H h)) = ((ks.take m).map fun h => bodyRes (predsOf g) (reachRes g 0) h.toNat (H h)) ++ [bodyRes (predsOf g) (reachRes g 0) xn (H xn)] := by
            rw [htk, List.map_append]; simp
          generalize hL : ((ks.take m).map fun h => bodyRes (predsOf g) (reachRes g 0) h.toNat (H h)) = L at hv hml htk'
          generalize bodyRes (predsOf g) (reachRes g 0) xn (H xn) = row at hbo htk'
          have htk2 := Aside0.mk htk'
          clear hL htk htk' hmemH hHx hHne hRr hrr hGq l2 l3 hlp hlr
          go_wp2_with fail
          refine hbo.mono ?_
          rintro e w6 ⟨v6, rfl, hR6, hB6⟩
          obtain ⟨A6, c6, rfl⟩ := Kd.R_slice hR6
          have hv3 := Aside0.mk (Kd.S_mono (Kd.S_below (Kd.S_bound hv.out) hB6) (ok' := fun k => True ∧ ¬ wr.heap.size ≤ k) (fun k hk => ⟨trivial, by have := hk.2.2.1; omega⟩))
          have hcM := Aside0.mk (Kd.M_row (Kd.R_lower (Kd.R_mono (Kd.R_bound hR6) (ok' := fun k => wr.heap.size ≤ k) (fun k hk => hk.2.1)) hB.out.size))
          have hvl := Aside0.mk (Kd.S_lt hv.out)
          have hB3' := Aside0.mk (hB.out.trans (hB6.mono hB.out.size))
          clear hbo hR6 hB6 hv hB q0
          go_wp2_with (at_builtin; refine Kd.S_append (Kd.slice 3 (Kd.int .i64)) (w0 := w5) w5.heap.size rfl (.tmp 43) (.tmp 51) 22 27 (.slice none 0 0) 24 rfl Try.underlying22 info27 rfl (by decide) (by omega) _ L row [.slice A6 row.length c6] (fun _ => True) (fun k => wr.heap.size ≤ k) rfl rfl hcM.out (fun k hk => ⟨trivial, fun e => by have := hvl.out k e.symm; omega⟩) (fun _ _ => trivial) hv3.out hB3'.out hB3'.out.size (by omega) ?_; intro v7 w7 hown7 hb7 hg7 hat7; have hv7 := Aside0.mk hown7; have hb7' := Aside0.mk hb7; clear hown7 hb7 hg7 hat7)
          go_roundw
          case rel => exact ⟨m + 1, by omega, by go_num, ⟨by rw [htk2.out]; exact hv7.out⟩, hb7'⟩
          case measure => simp [RowKit.intOf]; omega
        · obtain rfl : m = ks.length := by omega
          have hv2 := hv.out
          rw [List.take_length] at hv2
          have hks : ks = headsOf g.length H := by
            refine rising_eq k1'.out ?_ fun k => ?_
            · unfold Rising headsOf
              rw [List.pairwise_map]
              exact (List.pairwise_lt_range.filter _).imp (fun h => by omega)
            · rw [k2'.out]
              unfold headsOf
              simp only [List.mem_map, List.mem_filter, List.mem_range]
              constructor
              · intro h1
                have h2 : H k ≠ [] := by intro e; rw [e] at h1; cases h1
                obtain ⟨y, hy⟩ := List.exists_mem_of_ne_nil _ h2
                rw [← hH, hfold_mem] at hy
                obtain ⟨e, he, rfl, _⟩ := hy
                have := (hin e he).2
                obtain ⟨a, ha⟩ := Int.eq_ofNat_of_zero_le this.1
                exact ⟨a, ⟨by omega, by rw [← ha]; exact h1⟩, ha.symm⟩
              · rintro ⟨a, ⟨_, h2⟩, rfl⟩
                exact h2
          have hv3 := Aside0.mk hv2
          clear hv hv2
          go_wp2_with fail
          go_ret
          refine ⟨_, rfl, ?_, hB5.out.trans (hB.out.mono hB5.out.size)⟩
          rw [hH, ← hks]
          exact Kd.S_lower hv3.out hB5.out.size
end Go.Proofs.Ytkmbhknmjnbanaa.A


namespace Go.Proofs.Ytkmbhknmjnbanaa.A
open Go.RowKit Go.Proofs.YtkmbhknmjnbanaaW.PrintWords Go.Proofs.YtkmbhknmjnbanaaW.PrintLast Go.Shelf
set_option linter.unusedVariables false
set_option linter.unusedSimpArgs false

def graph_Loops.f (l0 : List (List Int)) : Option (List (List Int)) := some (loopsOf l0)
theorem graph_Loops.calls (A0 : Option Addr) (c0 : Nat) (l0 : List (List Int)) (r : List (List Int)) (w : World) (hr0 : Kd.C (Kd.slice 3 (Kd.int .i64)) w A0 l0.length l0) (hc0 : l0.length ≤ c0) (h : graph_Loops.f l0 = some r) :
    Calls Try.prog 32 #[.slice A0 l0.length c0] w fun e w' => ∃ v0_ : Value, e = .returned (v0_) ∧ Kd.S (Kd.slice 3 (Kd.int .i64)) 27 w' w.heap.size (fun _ => True) v0_ r ∧ Below w.heap.size w w' := by
  obtain rfl := Option.some.inj h
  exact loops_calls A0 c0 l0 w hr0 hc0
def graph_Critical.f (l0 : List (List Int)) : Option (List S37) := some (crit (rightB l0) (predsOf l0) l0 l0.length)
theorem graph_Critical.calls (A0 : Option Addr) (c0 : Nat) (l0 : List (List Int)) (r : List S37) (w : World) (hr0 : Kd.C (Kd.slice 3 (Kd.int .i64)) w A0 l0.length l0) (hc0 : l0.length ≤ c0) (h : graph_Critical.f l0 = some r) :
    Calls Try.prog 25 #[.slice A0 l0.length c0] w fun e w' => ∃ v0_ : Value, e = .returned (v0_) ∧ Kd.R k37 37 w' w.heap.size (fun _ => True) v0_ r ∧ Below w.heap.size w w' := by
  obtain rfl := Option.some.inj h
  exact crit_calls A0 c0 l0 w hr0 hc0
end Go.Proofs.Ytkmbhknmjnbanaa.A


namespace Go.Proofs.Ytkmbhknmjnbanaa.A
open Go.RowKit Go.Maps Go.Proofs.YtkmbhknmjnbanaaW.PrintWords Go.Proofs.YtkmbhknmjnbanaaW.PrintLast Go.Shelf
set_option linter.unusedVariables false
set_option linter.unusedSimpArgs false

def g4 : List (List Int) := [[1, 2], [3], [3], [0]]
theorem s_right : graph_Right.f g4 = some true := by kernel_rfl
theorem s_order : graph_Order.f g4 = some [0, 2, 1, 3] := by kernel_rfl
theorem s_ints : swageref02_Ints.f 9 [0, 2, 1, 3] [0, 2, 1, 3] = some true := by kernel_rfl
theorem s_back : graph_Back.f 40 g4 = some [⟨3, 0⟩] := by kernel_rfl
theorem s_pairs : swageref05_Pairs.f 9 [⟨3, 0⟩] [⟨3, 0⟩] = some true := by kernel_rfl
theorem s_loops : graph_Loops.f g4 = some [[0, 1, 2, 3]] := by kernel_rfl
theorem s_rows : swageref06_Rows.f 40 [[0, 1, 2, 3]] [[0, 1, 2, 3]] = some true := by kernel_rfl
theorem s_preds : graph_Preds.f 40 g4 = some [[3], [0], [0], [1, 2]] := by kernel_rfl
theorem s_rows2 : swageref06_Rows.f 40 [[3], [0], [0], [1, 2]] [[3], [0], [0], [1, 2]] = some true := by kernel_rfl
theorem s_crit : graph_Critical.f g4 = some [] := by kernel_rfl
theorem s_reach : graph_Reach.f g4 1 = some [true, true, true, true] := by kernel_rfl

/-- a literal row of numbers -/
abbrev cellsI (l : List Int) : Obj := .cells (l.map (Value.int .i64)).toArray 3
theorem reps_ints {W : World} {base : Nat} {ok : Nat → Prop} (l : List Int) : Reps ((Kd.int .i64).M W base ok) (Kd.int .i64).sz l (l.map (Value.int .i64)) := by
  refine ⟨by rw [List.length_map]; show _ = l.length * 1; omega, fun j p hj => ?_⟩
  obtain ⟨h, rfl⟩ := List.getElem?_eq_some_iff.1 hj
  show ((l.map (Value.int .i64)).drop (j * 1)).take 1 = [Value.int .i64 l[j]]
  rw [Nat.mul_one, List.take_one, List.head?_drop, List.getElem?_map, hj]
  rfl
theorem lit_row (W : World) (l : List Int) (hl : l.length ≤ 1000) : Kd.R (Kd.int .i64) 3 (W.alloc (cellsI l)) W.heap.size (fun _ => True) (.slice (some ⟨W.heap.size, 0, none⟩) l.length l.length) l :=
  R_new_lit (Kd.int .i64) W W.heap.size 3 (ok := fun _ => True) (okp := fun _ => True) (reps_ints l) (fun _ h => h) trivial (Nat.le_refl _) (by omega)
inductive RowsR (W : World) (base : Nat) (ok : Nat → Prop) : List (List Int) → List Value → Prop
  | nil : RowsR W base ok [] []
  | cons {l : List Int} {v : Value} {ls : List (List Int)} {vs : List Value} : Kd.R (Kd.int .i64) 3 W base ok v l → RowsR W base ok ls vs → RowsR W base ok (l :: ls) (v :: vs)
theorem reps_rows {W : World} {base : Nat} {ok : Nat → Prop} : ∀ {ls : List (List Int)} {vs : List Value}, RowsR W base ok ls vs → Reps ((Kd.slice 3 (Kd.int .i64)).M W base ok) (Kd.slice 3 (Kd.int .i64)).sz ls vs := by
  intro ls vs h
  refine ⟨?_, ?_⟩
  · have : vs.length = ls.length := by induction h <;> simp_all
    rw [this]; show _ = ls.length * 1; omega
  · intro j p hj
    show (Kd.slice 3 (Kd.int .i64)).M W base ok p ((vs.drop (j * 1)).take 1)
    rw [Nat.mul_one]
    induction h generalizing j with
    | nil => simp at hj
    | cons h1 h2 ih =>
      cases j with
      | zero => simp at hj; subst hj; exact Kd.M_row h1
      | succ j => simp at hj; simpa using ih j hj
theorem lit_rows1 (W : World) (a : List Int) (ha : a.length ≤ 1000) : Kd.C (Kd.slice 3 (Kd.int .i64)) ((W.alloc (cellsI a)).alloc (.cells #[.slice (some ⟨W.heap.size, 0, none⟩) a.length a.length] 27)) (some ⟨W.heap.size + 1, 0, none⟩) 1 [a] := by
  have h1 := lit_row W a ha
  have h2 := R_new_lit (Kd.slice 3 (Kd.int .i64)) (W.alloc (cellsI a)) W.heap.size 27 (xs := [a]) (inner := [.slice (some ⟨W.heap.size, 0, none⟩) a.length a.length]) (ok := fun _ => True) (okp := fun _ => True) (reps_rows (.cons h1 .nil)) (fun _ h => h) trivial (by simp) (by simp)
  rw [World.size_alloc] at h2
  exact (Kd.R_reads' h2).2.2
theorem lit_rows4 (W : World) (a b c d : List Int) (ha : a.length ≤ 1000) (hb : b.length ≤ 1000) (hc : c.length ≤ 1000) (hd : d.length ≤ 1000) :
    Kd.C (Kd.slice 3 (Kd.int .i64)) (((((W.alloc (cellsI a)).alloc (cellsI b)).alloc (cellsI c)).alloc (cellsI d)).alloc (.cells #[.slice (some ⟨W.heap.size, 0, none⟩) a.length a.length, .slice (some ⟨W.heap.size + 1, 0, none⟩) b.length b.length, .slice (some ⟨W.heap.size + 2, 0, none⟩) c.length c.length, .slice (some ⟨W.heap.size + 3, 0, none⟩) d.length d.length] 27)) (some ⟨W.heap.size + 4, 0, none⟩) 4 [a, b, c, d] := by
  have al : ∀ (w : World) (o : Obj), Below w.heap.size w (w.alloc o) := fun w o => below_alloc (Below.refl _ _) _
  have h1 := Kd.R_below (Kd.R_below (Kd.R_below (lit_row W a ha) (al _ (cellsI b))) (al _ (cellsI c))) (al _ (cellsI d))
  have h2 := Kd.R_lower (Kd.R_below (Kd.R_below (lit_row (W.alloc (cellsI a)) b hb) (al _ (cellsI c))) (al _ (cellsI d))) (base' := W.heap.size) (by simp)
  have h3 := Kd.R_lower (Kd.R_below (lit_row ((W.alloc (cellsI a)).alloc (cellsI b)) c hc) (al _ (cellsI d))) (base' := W.heap.size) (by simp; omega)
  have h4 := Kd.R_lower (lit_row (((W.alloc (cellsI a)).alloc (cellsI b)).alloc (cellsI c)) d hd) (base' := W.heap.size) (by simp; omega)
  simp only [World.size_alloc, Nat.add_assoc, Nat.reduceAdd] at h2 h3 h4
  have h5 := R_new_lit (Kd.slice 3 (Kd.int .i64)) ((((W.alloc (cellsI a)).alloc (cellsI b)).alloc (cellsI c)).alloc (cellsI d)) W.heap.size 27 (xs := [a, b, c, d]) (ok := fun _ => True) (okp := fun _ => True) (reps_rows (.cons h1 (.cons h2 (.cons h3 (.cons h4 .nil))))) (fun _ h => h) trivial (by simp; omega) (by simp)
  simp only [World.size_alloc, Nat.add_assoc, Nat.reduceAdd] at h5
  exact (Kd.R_reads' h5).2.2
theorem lit_pair (W : World) (x y : Int) : Kd.C k37 (W.alloc (.cells #[.int .i64 x, .int .i64 y] 37)) (some ⟨W.heap.size, 0, none⟩) 1 [⟨x, y⟩] := by
  have h := R_new_lit k37 W W.heap.size 37 (xs := [(⟨x, y⟩ : S37)]) (inner := [.int .i64 x, .int .i64 y]) (ok := fun _ => True) (okp := fun _ => True) ⟨rfl, fun j p hj => by
    match j, hj with
    | 0, hj => simp at hj; subst hj; exact k37_mkM _ _ _ _
    | j + 1, hj => simp at hj⟩ (fun _ h => h) trivial (Nat.le_refl _) (by simp)
  exact (Kd.R_reads' h).2.2

set_option maxRecDepth 100000 in
set_option maxHeartbeats 2000000 in
theorem small_calls (w : World) : Calls Try.prog 13 #[] w fun e w' => e = .returned (.bool true) ∧ Below w.heap.size w w' := by
  have hu37 := Try.underlying37
  go_enter Try.func13, Try.ntmps13
  go_wp2_with fail
  have hC0 : Kd.C (Kd.slice 3 (Kd.int .i64)) (((((w.alloc (.cells #[.int .i64 1, .int .i64 2] 3)).alloc (.cells #[.int .i64 3] 3)).alloc (.cells #[.int .i64 3] 3)).alloc (.cells #[.int .i64 0] 3)).alloc (.cells #[.slice (some ⟨w.heap.size, 0, none⟩) 2 2, .slice (some ⟨w.heap.size + 1, 0, none⟩) 1 1, .slice (some ⟨w.heap.size + 1 + 1, 0, none⟩) 1 1, .slice (some ⟨w.heap.size + 1 + 1 + 1, 0, none⟩) 1 1] 27)) (some ⟨w.heap.size + 1 + 1 + 1 + 1, 0, none⟩) 4 g4 := lit_rows4 w [1, 2] [3] [3] [0] (by decide) (by decide) (by decide) (by decide)
  have hB0 : Below w.heap.size w (((((w.alloc (.cells #[.int .i64 1, .int .i64 2] 3)).alloc (.cells #[.int .i64 3] 3)).alloc (.cells #[.int .i64 3] 3)).alloc (.cells #[.int .i64 0] 3)).alloc (.cells #[.slice (some ⟨w.heap.size, 0, none⟩) 2 2, .slice (some ⟨w.heap.size + 1, 0, none⟩) 1 1, .slice (some ⟨w.heap.size + 1 + 1, 0, none⟩) 1 1, .slice (some ⟨w.heap.size + 1 + 1 + 1, 0, none⟩) 1 1] 27)) := below_alloc (below_alloc (below_alloc (below_alloc (below_alloc (Below.refl _ _) _) _) _) _) _
  generalize (((((w.alloc (.cells #[.int .i64 1, .int .i64 2] 3)).alloc (.cells #[.int .i64 3] 3)).alloc (.cells #[.int .i64 3] 3)).alloc (.cells #[.int .i64 0] 3)).alloc (.cells #[.slice (some ⟨w.heap.size, 0, none⟩) 2 2, .slice (some ⟨w.heap.size + 1, 0, none⟩) 1 1, .slice (some ⟨w.heap.size + 1 + 1, 0, none⟩) 1 1, .slice (some ⟨w.heap.size + 1 + 1 + 1, 0, none⟩) 1 1] 27)) = W0 at hC0 hB0 ⊢
  generalize w.heap.size + 1 + 1 + 1 + 1 = b0 at hC0 ⊢
  have hc1 : Calls Try.prog 19 #[.slice (some ⟨b0, 0, none⟩) 4 4] W0 fun e w' => e = .returned (.bool true) ∧ Below W0.heap.size W0 w' := graph_Right.calls (some ⟨b0, 0, none⟩) 4 g4 true W0 hC0 (by decide) s_right
  refine hc1.mono ?_
  rintro e w1 ⟨rfl, hb1⟩
  have hC1 := Aside0.mk (Kd.C_below hC0 hb1)
  have hB1 := Aside0.mk (below_step hB0 hb1)
  clear hc1 hC0 hB0 hb1
  go_wp2_with fail
  have ho : Calls Try.prog 28 #[.slice (some ⟨b0, 0, none⟩) 4 4] w1 fun e w' => ∃ A c, e = .returned (.slice A 4 c) ∧ 4 ≤ c ∧ Kd.C (Kd.int .i64) w' A 4 [0, 2, 1, 3] ∧ Below w1.heap.size w1 w' :=
    (graph_Order.calls (some ⟨b0, 0, none⟩) 4 g4 [0, 2, 1, 3] w1 hC1.out (by decide) s_order).mono fun e w' ⟨v, he, hR, hB⟩ => by
      obtain ⟨A, c, rfl, h1, h2⟩ := Kd.R_reads hR
      exact ⟨A, c, he, h1, h2, hB⟩
  refine ho.mono ?_
  rintro e w2 ⟨A2, c2, rfl, h2, hC2, hb2⟩
  have hC2' := Aside0.mk (Kd.C_below hC1.out hb2)
  have hB2 := Aside0.mk (below_step hB1.out hb2)
  have hi2 : Calls Try.prog 27 #[.slice A2 4 c2, .slice (some ⟨w2.heap.size, 0, none⟩) 4 4] (w2.alloc (.cells #[.int .i64 0, .int .i64 2, .int .i64 1, .int .i64 3] 3)) fun e w' => e = .returned (.bool true) ∧ Drawn0 (w2.alloc (.cells #[.int .i64 0, .int .i64 2, .int .i64 1, .int .i64 3] 3)) w' := swageref02_Ints.calls 9 A2 c2 [0, 2, 1, 3] (some ⟨w2.heap.size, 0, none⟩) 4 [0, 2, 1, 3] true _ (Kd.C_alloc hC2 (cellsI [0, 2, 1, 3])) h2 (Kd.R_reads' (lit_row w2 [0, 2, 1, 3] (by decide))).2.2 (by decide) s_ints
  have hC3 := Aside0.mk (Kd.C_alloc hC2'.out (cellsI [0, 2, 1, 3]))
  have hB3 := Aside0.mk (below_alloc hB2.out (cellsI [0, 2, 1, 3]))
  clear ho h2 hC2 hb2 hC1 hB1 hC2' hB2
  go_wp2_with fail
  refine hi2.mono ?_
  rintro e w3 ⟨rfl, hd3⟩
  have hC4 := Aside0.mk (Kd.C_below hC3.out hd3.below)
  have hB4 := Aside0.mk (below_step hB3.out hd3.below)
  clear hi2 hd3 hC3 hB3
  go_wp2_with fail
  -- Back
  have hbk : Calls Try.prog 30 #[.slice (some ⟨b0, 0, none⟩) 4 4] w3 fun e w' => ∃ A c, e = .returned (.slice A 1 c) ∧ 1 ≤ c ∧ Kd.C k37 w' A 1 [⟨3, 0⟩] ∧ Below w3.heap.size w3 w' :=
    (graph_Back.calls 40 (some ⟨b0, 0, none⟩) 4 g4 [⟨3, 0⟩] w3 hC4.out (by decide) s_back).mono fun e w' ⟨v, he, hR, hB⟩ => by
      obtain ⟨A, c, rfl, h1, h2⟩ := Kd.R_reads hR
      exact ⟨A, c, he, h1, h2, hB⟩
  refine hbk.mono ?_
  rintro e w4 ⟨A4, c4, rfl, h4, hC5, hb4⟩
  have hC6 := Aside0.mk (Kd.C_below hC4.out hb4)
  have hB6 := Aside0.mk (below_step hB4.out hb4)
  have hp : Calls Try.prog 24 #[.slice A4 1 c4, .slice (some ⟨w4.heap.size, 0, none⟩) 1 1] (w4.alloc (.cells #[.int .i64 3, .int .i64 0] 37)) fun e w' => e = .returned (.bool true) ∧ Drawn0 (w4.alloc (.cells #[.int .i64 3, .int .i64 0] 37)) w' := swageref05_Pairs.calls 9 A4 c4 [⟨3, 0⟩] (some ⟨w4.heap.size, 0, none⟩) 1 [⟨3, 0⟩] true _ (Kd.C_alloc hC5 _) h4 (lit_pair w4 3 0) (by decide) s_pairs
  have hC7 := Aside0.mk (Kd.C_alloc hC6.out (.cells #[.int .i64 3, .int .i64 0] 37))
  have hB7 := Aside0.mk (below_alloc hB6.out (.cells #[.int .i64 3, .int .i64 0] 37))
  clear hbk h4 hC5 hb4 hC4 hB4 hC6 hB6
  go_wp2_with fail
  refine hp.mono ?_
  rintro e w5 ⟨rfl, hd5⟩
  have hC8 := Aside0.mk (Kd.C_below hC7.out hd5.below)
  have hB8 := Aside0.mk (below_step hB7.out hd5.below)
  clear hp hd5 hC7 hB7
  go_wp2_with fail
  -- Loops
  have hlo : Calls Try.prog 32 #[.slice (some ⟨b0, 0, none⟩) 4 4] w5 fun e w' => ∃ A c, e = .returned (.slice A 1 c) ∧ 1 ≤ c ∧ Kd.C (Kd.slice 3 (Kd.int .i64)) w' A 1 [[0, 1, 2, 3]] ∧ Below w5.heap.size w5 w' :=
    (graph_Loops.calls (some ⟨b0, 0, none⟩) 4 g4 [[0, 1, 2, 3]] w5 hC8.out (by decide) s_loops).mono fun e w' ⟨v, he, hR, hB⟩ => by
      obtain ⟨A, c, rfl, h1, h2⟩ := Kd.S_reads hR
      exact ⟨A, c, he, h1, h2, hB⟩
  refine hlo.mono ?_
  rintro e w6 ⟨A6, c6, rfl, h6, hC9, hb6⟩
  have hC10 := Aside0.mk (Kd.C_below hC8.out hb6)
  have hB10 := Aside0.mk (below_step hB8.out hb6)
  have hr6 : Calls Try.prog 17 #[.slice A6 1 c6, .slice (some ⟨w6.heap.size + 1, 0, none⟩) 1 1] ((w6.alloc (.cells #[.int .i64 0, .int .i64 1, .int .i64 2, .int .i64 3] 3)).alloc (.cells #[.slice (some ⟨w6.heap.size, 0, none⟩) 4 4] 27)) fun e w' => e = .returned (.bool true) ∧ Drawn0 ((w6.alloc (.cells #[.int .i64 0, .int .i64 1, .int .i64 2, .int .i64 3] 3)).alloc (.cells #[.slice (some ⟨w6.heap.size, 0, none⟩) 4 4] 27)) w' :=
    swageref06_Rows.calls 40 A6 c6 [[0, 1, 2, 3]] (some ⟨w6.heap.size + 1, 0, none⟩) 1 [[0, 1, 2, 3]] true _ (Kd.C_alloc (Kd.C_alloc hC9 _) _) h6 (lit_rows1 w6 [0, 1, 2, 3] (by decide)) (by decide) s_rows
  have hC11 := Aside0.mk (Kd.C_alloc (Kd.C_alloc hC10.out (cellsI [0, 1, 2, 3])) (.cells #[.slice (some ⟨w6.heap.size, 0, none⟩) 4 4] 27))
  have hB11 := Aside0.mk (below_alloc (below_alloc hB10.out (cellsI [0, 1, 2, 3])) (.cells #[.slice (some ⟨w6.heap.size, 0, none⟩) 4 4] 27))
  clear hlo h6 hC9 hb6 hC8 hB8 hC10 hB10
  go_wp2_with fail
  refine hr6.mono ?_
  rintro e w7 ⟨rfl, hd7⟩
  have hC12 := Aside0.mk (Kd.C_below hC11.out hd7.below)
  have hB12 := Aside0.mk (below_step hB11.out hd7.below)
  clear hr6 hd7 hC11 hB11
  go_wp2_with fail
  -- Preds
  have hpr : Calls Try.prog 16 #[.slice (some ⟨b0, 0, none⟩) 4 4] w7 fun e w' => ∃ A c, e = .returned (.slice A 4 c) ∧ 4 ≤ c ∧ Kd.C (Kd.slice 3 (Kd.int .i64)) w' A 4 [[3], [0], [0], [1, 2]] ∧ Below w7.heap.size w7 w' :=
    (graph_Preds.calls 40 (some ⟨b0, 0, none⟩) 4 g4 [[3], [0], [0], [1, 2]] w7 hC12.out (by decide) s_preds).mono fun e w' ⟨v, he, hR, hB⟩ => by
      obtain ⟨A, c, rfl, h1, h2⟩ := Kd.S_reads hR
      exact ⟨A, c, he, h1, h2, hB⟩
  refine hpr.mono ?_
  rintro e w8 ⟨A8, c8, rfl, h8, hC13, hb8⟩
  have hC14 := Aside0.mk (Kd.C_below hC12.out hb8)
  have hB14 := Aside0.mk (below_step hB12.out hb8)
  have hr8 : Calls Try.prog 17 #[.slice A8 4 c8, .slice (some ⟨w8.heap.size + 1 + 1 + 1 + 1, 0, none⟩) 4 4] (((((w8.alloc (.cells #[.int .i64 3] 3)).alloc (.cells #[.int .i64 0] 3)).alloc (.cells #[.int .i64 0] 3)).alloc (.cells #[.int .i64 1, .int .i64 2] 3)).alloc (.cells #[.slice (some ⟨w8.heap.size, 0, none⟩) 1 1, .slice (some ⟨w8.heap.size + 1, 0, none⟩) 1 1, .slice (some ⟨w8.heap.size + 1 + 1, 0, none⟩) 1 1, .slice (some ⟨w8.heap.size + 1 + 1 + 1, 0, none⟩) 2 2] 27)) fun e w' => e = .returned (.bool true) ∧ Drawn0 (((((w8.alloc (.cells #[.int .i64 3] 3)).alloc (.cells #[.int .i64 0] 3)).alloc (.cells #[.int .i64 0] 3)).alloc (.cells #[.int .i64 1, .int .i64 2] 3)).alloc (.cells #[.slice (some ⟨w8.heap.size, 0, none⟩) 1 1, .slice (some ⟨w8.heap.size + 1, 0, none⟩) 1 1, .slice (some ⟨w8.heap.size + 1 + 1, 0, none⟩) 1 1, .slice (some ⟨w8.heap.size + 1 + 1 + 1, 0, none⟩) 2 2] 27)) w' :=
    swageref06_Rows.calls 40 A8 c8 [[3], [0], [0], [1, 2]] (some ⟨w8.heap.size + 1 + 1 + 1 + 1, 0, none⟩) 4 [[3], [0], [0], [1, 2]] true _ (Kd.C_alloc (Kd.C_alloc (Kd.C_alloc (Kd.C_alloc (Kd.C_alloc hC13 _) _) _) _) _) h8 (lit_rows4 w8 [3] [0] [0] [1, 2] (by decide) (by decide) (by decide) (by decide)) (by decide) s_rows2
  have hC15 : Aside0 (Kd.C (Kd.slice 3 (Kd.int .i64)) (((((w8.alloc (.cells #[.int .i64 3] 3)).alloc (.cells #[.int .i64 0] 3)).alloc (.cells #[.int .i64 0] 3)).alloc (.cells #[.int .i64 1, .int .i64 2] 3)).alloc (.cells #[.slice (some ⟨w8.heap.size, 0, none⟩) 1 1, .slice (some ⟨w8.heap.size + 1, 0, none⟩) 1 1, .slice (some ⟨w8.heap.size + 1 + 1, 0, none⟩) 1 1, .slice (some ⟨w8.heap.size + 1 + 1 + 1, 0, none⟩) 2 2] 27)) (some ⟨b0, 0, none⟩) 4 g4) := ⟨Kd.C_alloc (Kd.C_alloc (Kd.C_alloc (Kd.C_alloc (Kd.C_alloc hC14.out _) _) _) _) _⟩
  have hB15 : Aside0 (Below w.heap.size w (((((w8.alloc (.cells #[.int .i64 3] 3)).alloc (.cells #[.int .i64 0] 3)).alloc (.cells #[.int .i64 0] 3)).alloc (.cells #[.int .i64 1, .int .i64 2] 3)).alloc (.cells #[.slice (some ⟨w8.heap.size, 0, none⟩) 1 1, .slice (some ⟨w8.heap.size + 1, 0, none⟩) 1 1, .slice (some ⟨w8.heap.size + 1 + 1, 0, none⟩) 1 1, .slice (some ⟨w8.heap.size + 1 + 1 + 1, 0, none⟩) 2 2] 27))) := ⟨below_alloc (below_alloc (below_alloc (below_alloc (below_alloc hB14.out _) _) _) _) _⟩
  clear hpr h8 hC13 hb8 hC12 hB12 hC14 hB14
  go_wp2_with fail
  refine hr8.mono ?_
  rintro e w9 ⟨rfl, hd9⟩
  have hC16 := Aside0.mk (Kd.C_below hC15.out hd9.below)
  have hB16 := Aside0.mk (below_step hB15.out hd9.below)
  clear hr8 hd9 hC15 hB15
  go_wp2_with fail
  -- Critical
  have hcr : Calls Try.prog 25 #[.slice (some ⟨b0, 0, none⟩) 4 4] w9 fun e w' => ∃ A c, e = .returned (.slice A 0 c) ∧ Below w9.heap.size w9 w' :=
    (graph_Critical.calls (some ⟨b0, 0, none⟩) 4 g4 [] w9 hC16.out (by decide) s_crit).mono fun e w' ⟨v, he, hR, hB⟩ => by
      obtain ⟨A, c, rfl, h1, h2⟩ := Kd.R_reads hR
      exact ⟨A, c, he, hB⟩
  refine hcr.mono ?_
  rintro e w10 ⟨A10, c10, rfl, hb10⟩
  have hC17 := Aside0.mk (Kd.C_below hC16.out hb10)
  have hB17 := Aside0.mk (below_step hB16.out hb10)
  clear hcr hb10 hC16 hB16
  go_wp2_with fail
  -- Reach
  have hre : Calls Try.prog 22 #[.slice (some ⟨b0, 0, none⟩) 4 4, .int .i64 1] w10 fun e w' => ∃ A c, e = .returned (.slice A 4 c) ∧ Below w10.heap.size w10 w' :=
    (graph_Reach.calls (some ⟨b0, 0, none⟩) 4 g4 1 [true, true, true, true] w10 hC17.out (by decide) s_reach).mono fun e w' ⟨v, he, hR, hB⟩ => by
      obtain ⟨A, c, rfl, h1, h2⟩ := Kd.R_reads hR
      exact ⟨A, c, he, hB⟩
  refine hre.mono ?_
  rintro e w11 ⟨A11, c11, rfl, hb11⟩
  have hB18 := Aside0.mk (below_step hB17.out hb11)
  clear hre hb11 hC17 hB17
  go_wp2_with fail
  go_ret
  exact ⟨rfl, hB18.out⟩
end Go.Proofs.Ytkmbhknmjnbanaa.A

