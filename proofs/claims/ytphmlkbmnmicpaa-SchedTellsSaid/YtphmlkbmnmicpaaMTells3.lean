/- Parts of the proof, in the order in which they rest on one another. -/
import Derived.Test.YtphmlkbmnmicpaaMTells2
import Derived.Below
import Derived.Deep.Draws
import Derived.Deep.AppendLies
import Derived.Maps.AppendAt
import Derived.OwnWalk
import Derived.Laws.BytesArg
import Derived.Laws.MakeOwn
import Derived.Laws.OwnMore
import Derived.Deep.OwnRows
import Derived.Tactics
import Derived.Lib.ConvBytes
import Derived.Laws.Slices
import Derived.WalkKit
import Derived.KernelRfl
import Derived.RowKit3
import Derived.Deep.LoopGhost
import Derived.Deep.QuietTactic
import Derived.BigQuiet
import Derived.WideLaws
import Derived.Deep.DeepCutAuto
import Derived.Deep.CutBlock
import Derived.Deep.RegionHeld3
import Derived.Laws.Rows
import Derived.Lib.AppendStr
import Derived.ArgAppend
import Derived.Laws.IdiomCopy
import Derived.RowKit
import Derived.OrdersHeld
import Derived.Laws.BitsLemmas
import Derived.Laws.StructEq
import Derived.Test.YtphmlkbmnmicpaaProg
import Derived.Shelf.Abstract
import Derived.Lib.Walk
import Derived.RangeFuncBox
import Derived.RangeFuncLeaves
import Derived.RangeFuncNested
import Derived.RangeFuncBound
import Derived.OwnWalkIn
import Derived.TacticsInMore
import Derived.LoopNIn
import Derived.LoopIn
import Derived.Outline
import Derived.Lib.QuietBelowIn
import Derived.OrdersIn
import Derived.StillTail
import Derived.Lib.SliceRun
import Derived.Deep.Slices
set_option linter.unusedVariables false
set_option linter.unusedSimpArgs false
namespace Go.Proofs.Ytphmlkbmnmicpaa.A
open Go.RowKit Go.Proofs.YtphmlkbmnmicpaaW.PrintWords Go.Proofs.YtphmlkbmnmicpaaW.PrintLast Go.Proofs.YtphmlkbmnmicpaaW.PrintMore
attribute [local go_sem] max2_int zBH max_two zBL zBB zBA zBI zBG   -- for this text's walks alone
mutual
def sched_Deps.l0 : Nat → List (S37) → List (List Int) → List (S37) → Int → Int → Option ((List (List Int)))
 | 0, _, _, _, _, _ => none
 | k + 1, x0, x3, x14, x15, x16 => if x16 < x15 then (if 0 ≤ x16 then (if x16 < (x14.length : Int) then (if x16 ≤ (x0.length : Int) then ((some (x0.take (x16 : Int).toNat : List (S37))).bind fun y153 => (sched_Deps.l1 k x0 x3 x16 x14 x15 x16 y153 (y153.length : Int) 0 ((zAF x14 x16).f0) ((zAF x14 x16).f1) ((zAF x14 x16).f2) ((zAF x14 x16).f3) ((zAF x14 x16).f4) ((zAF x14 x16).f5))) else (none)) else (none)) else (none)) else (some x3)
def sched_Deps.l1 : Nat → List (S37) → List (List Int) → Int → List (S37) → Int → Int → List (S37) → Int → Int → Int → Int → Int → Int → Int → List Int → Option ((List (List Int)))
 | 0, _, _, _, _, _, _, _, _, _, _, _, _, _, _, _ => none
 | k + 1, x0, x3, x4, x14, x15, x16, x23, x24, x25, x153000, x153001, x153002, x153003, x153004, x153005 => if x25 < x24 then (if 0 ≤ x25 then (if x25 < (x23.length : Int) then ((sched_after.f k x153000 x153001 x153002 x153003 x153004 x153005 ((zAF x23 x25).f0) ((zAF x23 x25).f1) ((zAF x23 x25).f2) ((zAF x23 x25).f3) ((zAF x23 x25).f4) ((zAF x23 x25).f5)).bind fun t159 => (if t159 = true then (if 0 ≤ x4 then (if x4 < (x3.length : Int) then (if (rd_L1 x3 x4).length < 17592186044416 then (sched_Deps.l1 k x0 (x3.set (x4 : Int).toNat ((rd_L1 x3 x4) ++ [x25])) x4 x14 x15 x16 x23 x24 (wrap64 (x25 + 1)) x153000 x153001 x153002 x153003 x153004 x153005) else (none)) else (none)) else (none)) else (sched_Deps.l1 k x0 x3 x4 x14 x15 x16 x23 x24 (wrap64 (x25 + 1)) x153000 x153001 x153002 x153003 x153004 x153005))) else (none)) else (none)) else (sched_Deps.l0 k x0 x3 x14 x15 (wrap64 (x16 + 1)))
end
def sched_Deps.f (k : Nat) (l0 : List (S37)) : Option ((List (List Int))) := if (l0.length : Int) > 4096 then (some ([] : List (List Int))) else (if 0 ≤ (l0.length : Int) then (if ((l0.length : Int) : Int).toNat ≤ 11728124029610 then (sched_Deps.l0 k l0 (List.replicate ((l0.length : Int) : Int).toNat []) l0 (l0.length : Int) 0) else (none)) else (none))
set_option maxHeartbeats 8000000 in
set_option maxRecDepth 100000 in
theorem sched_Deps.calls (k : Nat) (A0 : Option Addr) (c0 : Nat) (l0 : List (S37)) (r : List (List Int)) (w : World) (hr0 : Kd.C k37 w A0 l0.length l0) (hc0 : l0.length ≤ c0) (h : sched_Deps.f k l0 = some r) :
  Calls Try.prog 17 #[.slice A0 l0.length c0] w fun e w' => ∃ v0_ : Value, e = .returned (v0_) ∧ Kd.S (Kd.slice 3 (Kd.int .i64)) 23 w' w.heap.size (fun _ => True) v0_ r ∧ Below w.heap.size w w' := by
 have hu37 := Try.underlying37
 have HR0 := Aside0.mk hr0
 have HC0 := Aside0.mk hc0
 clear hr0 hc0
 have HB := Aside0.mk (Below.refl w.heap.size w)
 have H : (if (l0.length : Int) > 4096 then (some ([] : List (List Int))) else (if 0 ≤ (l0.length : Int) then (if ((l0.length : Int) : Int).toNat ≤ 11728124029610 then (sched_Deps.l0 k l0 (List.replicate ((l0.length : Int) : Int).toNat []) l0 (l0.length : Int) 0) else (none)) else (none))) = some r := h
 clear h
 by_cases c2 : (l0.length : Int) > 4096
 ·rw [if_pos c2] at H
  have c2b0 : decide (4096 < (l0.length : Int)) = true := decide_eq_true c2
  have c2b1 : decide (4096 < l0.length) = true := decide_eq_true (by omega)
  clear c2
  obtain rfl := Option.some.inj H
  go_enter Try.func17, Try.ntmps17
  go_wp2
  go_ret
  exact ⟨_, by first | rfl | (simp [zAO, zAN] <;> rfl) | (simp [*, zAO, zAN] <;> rfl), by first | exact Kd.S_nil _ _ _ _ _ | exact Kd.N_nil _ _ _ _ _ | exact Kd.V_nil _ _ _ _ _ | exact Kd.Q_nil _ _ _ _ _ | exact Kd.R_nil _ _ _ _ _, by repeat (first | (with_reducible first | exact HB.out | apply zAC | apply zAA | apply zAD) | exact HB.out)⟩
 ·rw [if_neg c2] at H
  have c2b0 : decide (4096 < (l0.length : Int)) = false := decide_eq_false c2
  have c2b1 : decide (4096 < l0.length) = false := decide_eq_false (by omega)
  clear c2
  by_cases c3 : 0 ≤ (l0.length : Int)
  ·rw [if_pos c3] at H
   have c3b0 := eq_true c3
   have c3b1 : decide (0 ≤ (l0.length : Int)) = true := decide_eq_true c3
   clear c3
   by_cases c4 : ((l0.length : Int) : Int).toNat ≤ 11728124029610
   ·rw [if_pos c4] at H
    have c4b0 := eq_true c4
    have c4b1 : decide (((l0.length : Int) : Int).toNat ≤ 11728124029610) = true := decide_eq_true c4
    clear c4
    obtain ⟨y148, hy148⟩ : ∃ y_ : List (List Int), y_ = (List.replicate ((l0.length : Int) : Int).toNat []) := ⟨_, rfl⟩
    replace H : (sched_Deps.l0 k l0 y148 l0 (l0.length : Int) 0) = some r := by first | (rw [hy148]; with_reducible exact H) | (have H2_ := (Option.bind_some _ _).symm.trans H; rw [hy148]; with_reducible exact H2_) | (have H2_ := (Option.bind_some _ _).symm.trans H; with_reducible exact H2_) | with_reducible exact H | (rw [hy148]; exact H) | exact H
    have Ny148 := Aside0.mk hy148
    clear hy148
    have H' := Aside0.mk H
    clear H
    go_enter Try.func17, Try.ntmps17
    go_wp2_with (first | ((with_reducible refine zAU (N := 13) rfl ?_); refine Kd.S_make (Kd.slice 3 (Kd.int .i64)) _ 23 rfl (N := 13) rfl 40 _ _ rfl (l0.length : Int) rfl rfl Try.underlying40 (.slice none 0 0) 24 info23 rfl (by decide) (by omega) [] (ok := fun _ => True) (okp := fun _ => True) ⟨_, rfl, Kd.R_nil _ _ _ _ _⟩ (fun _ hk => hk) trivial (of_decide_eq_true (by first | (with_reducible assumption) | assumption)) (Nat.le_trans (Nat.mul_le_mul_right _ (of_decide_eq_true (by first | (with_reducible assumption) | assumption) : (l0.length : Int).toNat ≤ 11728124029610)) (by omega)) (Below.refl _ _) (Nat.le_refl _) ?_; intro v149 w5 ho6 hb hg_ hnew_; clear hg_ hnew_; (first | rw [← Ny148.out] at ho6 | (simp only [Int.reduceToNat] at ho6; rw [← Ny148.out] at ho6)); have n0_ := Aside0.mk (Kd.S_lower ho6 (zAM (by repeat (first | (with_reducible first | exact HB.out | apply zAC | apply zAA | apply zAD) | exact HB.out)))); have n1_ := Aside0.mk (zAL (by repeat (first | (with_reducible first | exact HB.out | apply zAC | apply zAA | apply zAD) | exact HB.out)) hb); clear HB; have HO150 := n0_; have HB := n1_; clear n0_ n1_; clear hb ho6))
    go_loopg [16] k (fun kq v16 w' => ∃ (x3_1 : List (List Int)) (x16_1 : Int), v16 = .int .i64 x16_1 ∧ Aside0 (sched_Deps.l0 kq l0 x3_1 l0 (l0.length : Int) x16_1 = some r) ∧ Aside0 (kq ≤ k) ∧ Aside0 (Kd.S (Kd.slice 3 (Kd.int .i64)) 23 w' w.heap.size (fun _ => True) v149 x3_1) ∧ Aside0 (Below w.heap.size w w'))
    case atStart => exact ⟨(y148), (0), (by first | rfl | (simp; done) | (simp [*]; done)), H', ⟨Nat.le_refl _⟩, ⟨by (with_reducible repeat (first | apply Kd.S_alloc | apply Kd.S_drewN | apply Kd.S_drew)); exact HO150.out⟩, ⟨by repeat (first | (with_reducible first | exact HB.out | apply zAC | apply zAA | apply zAD) | exact HB.out)⟩⟩
    case round =>
     clear H'
     (try clear c1); (try clear c2); (try clear c2b0); (try clear c2b1); (try clear p2); (try clear c3); (try clear c3b0); (try clear c3b1); (try clear c4); (try clear c4b0); (try clear c4b1)
     obtain ⟨x3_1, x16_1, rfl, HA, HK1, HO_3, HB⟩ := hrel
     cases gk with
     | zero => exact absurd HA.out (by simp [sched_Deps.l0])
     | succ k1 =>
      have H := HA.out
      clear HA
      simp only [sched_Deps.l0] at H
      by_cases c7 : x16_1 < (l0.length : Int)
      ·rw [if_pos c7] at H
       have c7b0 : decide (x16_1 < (l0.length : Int)) = true := decide_eq_true c7
       clear c7
       by_cases c8 : 0 ≤ x16_1
       ·rw [if_pos c8] at H
        have c8b0 : decide (0 ≤ x16_1) = true := decide_eq_true c8
        clear c8
        by_cases c9 : x16_1 < (l0.length : Int)
        ·rw [if_pos c9] at H
         have c9b0 : decide (x16_1 < (l0.length : Int)) = true := decide_eq_true c9
         clear c9
         have c10b0 := eq_true (of_decide_eq_true (by first | (with_reducible assumption) | assumption) : 0 ≤ x16_1)
         by_cases c11 : x16_1 ≤ (l0.length : Int)
         ·rw [if_pos c11] at H
          have c11b0 := eq_true c11
          have c11b1 : decide (x16_1 ≤ (l0.length : Int)) = true := decide_eq_true c11
          clear c11
          obtain ⟨y153, hy153⟩ : ∃ y_ : List (S37), y_ = (l0.take (x16_1 : Int).toNat) := ⟨_, rfl⟩
          replace H : (sched_Deps.l1 k1 l0 x3_1 x16_1 l0 (l0.length : Int) x16_1 y153 (y153.length : Int) 0 ((zAF l0 x16_1).f0) ((zAF l0 x16_1).f1) ((zAF l0 x16_1).f2) ((zAF l0 x16_1).f3) ((zAF l0 x16_1).f4) ((zAF l0 x16_1).f5)) = some r := by first | (rw [hy153]; with_reducible exact H) | (have H2_ := (Option.bind_some _ _).symm.trans H; rw [hy153]; with_reducible exact H2_) | (have H2_ := (Option.bind_some _ _).symm.trans H; with_reducible exact H2_) | with_reducible exact H | (rw [hy153]; exact H) | exact H
          have Ny153 := Aside0.mk hy153
          clear hy153
          have H' := Aside0.mk H
          clear H
          have p151 : 0 ≤ (x16_1 : Int) := of_decide_eq_true (by first | (with_reducible assumption) | assumption)
          have q151 : x16_1 < (l0.length : Int) := of_decide_eq_true (by first | (with_reducible assumption) | assumption)
          obtain ⟨ad151, A151_5, c151_5, e151, hx151_0, hx151_1, hx151_2, hx151_3, hx151_4, hx151_5, hl151_5, hi151_5⟩ := zBT HR0.out x16_1 p151 q151
          cases e151
          replace hx151_0 := (HB.out.cell (World.block_lt_of_cell? w _ hx151_0)).trans hx151_0
          replace hx151_1 := (HB.out.cell (World.block_lt_of_cell? w _ hx151_1)).trans hx151_1
          replace hx151_2 := (HB.out.cell (World.block_lt_of_cell? w _ hx151_2)).trans hx151_2
          replace hx151_3 := (HB.out.cell (World.block_lt_of_cell? w _ hx151_3)).trans hx151_3
          replace hx151_4 := (HB.out.cell (World.block_lt_of_cell? w _ hx151_4)).trans hx151_4
          replace hx151_5 := (HB.out.cell (World.block_lt_of_cell? w _ hx151_5)).trans hx151_5
          have HR151_5 := Aside0.mk hi151_5
          have HC151_5 := Aside0.mk hl151_5
          clear hi151_5 hl151_5
          replace p151 := eq_true p151
          replace q151 := eq_true q151
          go_wp2_with (first | ((with_reducible refine zAU (N := 5) rfl ?_); refine zAT ?hg (N := 5) ?hd (cs := #[.int .i64 0, .int .i64 0, .int .i64 0, .int .i64 0, .int .i64 0, .slice none 0 0]) (t := 37) ?hr ?_; (case hd => rfl); (case hg => rfl); (case hr => first | (go_simp; done) | (go_simp; rfl)); intro gb152 hg w12 hbox hb; have n0_ := Aside0.mk (Kd.S_below (by (with_reducible repeat (first | apply Kd.S_alloc | apply Kd.S_drewN | apply Kd.S_drew)); exact HO_3.out) hb); have n1_ := Aside0.mk (zAL (by repeat (first | (with_reducible first | exact HB.out | apply zAC | apply zAA | apply zAD) | exact HB.out)) hb); have n2_ := Aside0.mk (hbox); have n3_ := Aside0.mk ((by rw [hg]; exact (zAM (by repeat (first | (with_reducible first | exact HB.out | apply zAC | apply zAA | apply zAD) | exact HB.out))) : w.heap.size ≤ gb152)); have n4_ := Aside0.mk ((by rw [hg]; exact (zAM (by repeat (first | (with_reducible first | exact HB.out | apply zAC | apply zAA | apply zAD) | exact HB.out))) : w.heap.size ≤ gb152)); clear HO_3; clear HB; have HO_3 := n0_; have HB := n1_; have BK152 := n2_; have GW152 := n3_; have GE152 := n4_; clear n0_ n1_ n2_ n3_ n4_; clear hb hbox hg; have hcz13_0 : w12.cell? ⟨gb152, 0, none⟩ = some (.int .i64 0) := (zAE BK152.out 0).trans rfl; have hcz13_1 : w12.cell? ⟨gb152, 1, none⟩ = some (.int .i64 0) := (zAE BK152.out 1).trans rfl; have hcz13_2 : w12.cell? ⟨gb152, 2, none⟩ = some (.int .i64 0) := (zAE BK152.out 2).trans rfl; have hcz13_3 : w12.cell? ⟨gb152, 3, none⟩ = some (.int .i64 0) := (zAE BK152.out 3).trans rfl; have hcz13_4 : w12.cell? ⟨gb152, 4, none⟩ = some (.int .i64 0) := (zAE BK152.out 4).trans rfl; have hcz13_5 : w12.cell? ⟨gb152, 5, none⟩ = some (.slice none 0 0) := (zAE BK152.out 5).trans rfl; have hfz13_0 := zAB BK152.out 0; have hfz13_1 := zAB BK152.out 1; have hfz13_2 := zAB BK152.out 2; have hfz13_3 := zAB BK152.out 3; have hfz13_4 := zAB BK152.out 4; have hfz13_5 := zAB BK152.out 5) | ((with_reducible refine gate_store (t := 37) (p := 5) rfl ?_); refine store_event (t := 37) (p := 5) (v := ?vo_w14) (w1 := ((((((w12.setCell ⟨gb152, 0, none⟩ (.int .i64 ((zAF l0 x16_1).f0))).setCell ⟨gb152, 1, none⟩ (.int .i64 ((zAF l0 x16_1).f1))).setCell ⟨gb152, 2, none⟩ (.int .i64 ((zAF l0 x16_1).f2))).setCell ⟨gb152, 3, none⟩ (.int .i64 ((zAF l0 x16_1).f3))).setCell ⟨gb152, 4, none⟩ (.int .i64 ((zAF l0 x16_1).f4))).setCell ⟨gb152, 5, none⟩ (.slice A151_5 ((zAF l0 x16_1).f5).length c151_5))) ?hg ?ho ?hn ?hr ?_; (case ho => rfl); (case hg => rfl); (case hn => rfl); (case hr => first | (go_simp; done) | (go_simp; rfl)); intro w14 hw; have n0_ : Aside0 (Kd.S (Kd.slice 3 (Kd.int .i64)) 23 w14 w.heap.size (fun _ => True) v149 x3_1) := ⟨(by rw [hw]; exact (by (with_reducible repeat (first | apply Kd.S_alloc | apply Kd.S_drewN | apply Kd.S_drew)); exact Kd.S_mono (Kd.S_far (p := ⟨gb152, 5, none⟩) (Kd.S_far (p := ⟨gb152, 4, none⟩) (Kd.S_far (p := ⟨gb152, 3, none⟩) (Kd.S_far (p := ⟨gb152, 2, none⟩) (Kd.S_far (p := ⟨gb152, 1, none⟩) (Kd.S_far (p := ⟨gb152, 0, none⟩) (Kd.S_types HO_3.out BK152.out (by decide)) (fun _ hk => hk.2) (.int .i64 ((zAF l0 x16_1).f0))) (fun _ hk => hk.2) (.int .i64 ((zAF l0 x16_1).f1))) (fun _ hk => hk.2) (.int .i64 ((zAF l0 x16_1).f2))) (fun _ hk => hk.2) (.int .i64 ((zAF l0 x16_1).f3))) (fun _ hk => hk.2) (.int .i64 ((zAF l0 x16_1).f4))) (fun _ hk => hk.2) (.slice A151_5 ((zAF l0 x16_1).f5).length c151_5)) (fun _ hk => trivial)))⟩; have n1_ : Aside0 (w14.heap[gb152]? = some (.cells #[.int .i64 ((zAF l0 x16_1).f0), .int .i64 ((zAF l0 x16_1).f1), .int .i64 ((zAF l0 x16_1).f2), .int .i64 ((zAF l0 x16_1).f3), .int .i64 ((zAF l0 x16_1).f4), .slice A151_5 ((zAF l0 x16_1).f5).length c151_5] 37 (0, 0))) := ⟨(by rw [hw]; exact (by (with_reducible repeat (first | refine zAI ?_ _ | refine zAJ ?_ | refine zAG ?_ _)); refine zAR (cs := #[.int .i64 ((zAF l0 x16_1).f0), .int .i64 ((zAF l0 x16_1).f1), .int .i64 ((zAF l0 x16_1).f2), .int .i64 ((zAF l0 x16_1).f3), .int .i64 ((zAF l0 x16_1).f4), .slice none 0 0]) ?_ 5 _ rfl; (with_reducible repeat (first | refine zAI ?_ _ | refine zAJ ?_ | refine zAG ?_ _)); refine zAR (cs := #[.int .i64 ((zAF l0 x16_1).f0), .int .i64 ((zAF l0 x16_1).f1), .int .i64 ((zAF l0 x16_1).f2), .int .i64 ((zAF l0 x16_1).f3), .int .i64 0, .slice none 0 0]) ?_ 4 _ rfl; (with_reducible repeat (first | refine zAI ?_ _ | refine zAJ ?_ | refine zAG ?_ _)); refine zAR (cs := #[.int .i64 ((zAF l0 x16_1).f0), .int .i64 ((zAF l0 x16_1).f1), .int .i64 ((zAF l0 x16_1).f2), .int .i64 0, .int .i64 0, .slice none 0 0]) ?_ 3 _ rfl; (with_reducible repeat (first | refine zAI ?_ _ | refine zAJ ?_ | refine zAG ?_ _)); refine zAR (cs := #[.int .i64 ((zAF l0 x16_1).f0), .int .i64 ((zAF l0 x16_1).f1), .int .i64 0, .int .i64 0, .int .i64 0, .slice none 0 0]) ?_ 2 _ rfl; (with_reducible repeat (first | refine zAI ?_ _ | refine zAJ ?_ | refine zAG ?_ _)); refine zAR (cs := #[.int .i64 ((zAF l0 x16_1).f0), .int .i64 0, .int .i64 0, .int .i64 0, .int .i64 0, .slice none 0 0]) ?_ 1 _ rfl; (with_reducible repeat (first | refine zAI ?_ _ | refine zAJ ?_ | refine zAG ?_ _)); refine zAR (cs := #[.int .i64 0, .int .i64 0, .int .i64 0, .int .i64 0, .int .i64 0, .slice none 0 0]) ?_ 0 _ rfl; (with_reducible repeat (first | refine zAI ?_ _ | refine zAJ ?_ | refine zAG ?_ _)); exact BK152.out))⟩; have n2_ : Aside0 (Below w.heap.size w w14) := ⟨(by rw [hw]; exact (by repeat (first | (with_reducible first | exact HB.out | apply zAC | apply zAA | apply zAD | refine zAH ?_ GE152.out) | exact HB.out)))⟩; clear hw; clear HO_3; clear BK152; clear HB; have HO_3 := n0_; have BK152 := n1_; have HB := n2_; clear n0_ n1_ n2_; have q15 : (x16_1 : Int) ≤ ((l0.length : Int) : Int) := of_decide_eq_true (by first | (with_reducible assumption) | assumption); obtain ⟨i015, hi015, _, hsz15, _⟩ := info_parts info37; have hroom15 : l0.length ≤ c0 := HC0.out; have hC15 : Kd.C k37 _ (some ad151) l0.length l0 := HR0.out; have hcut15 := cut_to (P := Try.prog) 22 37 .i64 Try.underlying22 hi015 (some ad151) l0.length c0 x16_1 (of_decide_eq_true (by first | (with_reducible assumption) | assumption)) q15 hroom15; have hr15 := Kd.C_take (m := (x16_1 : Int).toNat) hC15 (by omega); have hy15 : y153.length = (x16_1 : Int).toNat := (by rw [Ny153.out, List.length_take]; omega); rw [← Ny153.out] at hr15; rw [← hy15] at hcut15; have HR156 := Aside0.mk hr15; have HC156 := Aside0.mk (show y153.length ≤ c0 from by omega); clear hr15 hC15 hroom15 hi015 hsz15; have KY15 := Aside0.mk hy15; clear hy15; replace q15 := eq_true q15))
          go_loopg [25] k1 (fun kq v25 w' => ∃ (x3_2 : List (List Int)) (x25_2 : Int), v25 = .int .i64 x25_2 ∧ Aside0 (sched_Deps.l1 kq l0 x3_2 x16_1 l0 (l0.length : Int) x16_1 y153 (y153.length : Int) x25_2 ((zAF l0 x16_1).f0) ((zAF l0 x16_1).f1) ((zAF l0 x16_1).f2) ((zAF l0 x16_1).f3) ((zAF l0 x16_1).f4) ((zAF l0 x16_1).f5) = some r) ∧ Aside0 (kq ≤ k1) ∧ Aside0 (Kd.S (Kd.slice 3 (Kd.int .i64)) 23 w' w.heap.size (fun _ => True) v149 x3_2) ∧ Aside0 (w'.heap[gb152]? = some (.cells #[.int .i64 ((zAF l0 x16_1).f0), .int .i64 ((zAF l0 x16_1).f1), .int .i64 ((zAF l0 x16_1).f2), .int .i64 ((zAF l0 x16_1).f3), .int .i64 ((zAF l0 x16_1).f4), (.slice A151_5 ((zAF l0 x16_1).f5).length c151_5)] 37 (0, 0))) ∧ Aside0 (Below w.heap.size w w'))
          case atStart => exact ⟨(x3_1), (0), (by first | rfl | (simp; done) | (simp [*]; done)), H', ⟨Nat.le_refl _⟩, ⟨by (with_reducible repeat (first | apply Kd.S_alloc | apply Kd.S_drewN | apply Kd.S_drew)); exact HO_3.out⟩, ⟨by (with_reducible repeat (first | refine zAI ?_ _ | refine zAJ ?_ | refine zAG ?_ _)); exact BK152.out⟩, ⟨by repeat (first | (with_reducible first | exact HB.out | apply zAC | apply zAA | apply zAD | refine zAH ?_ GE152.out) | exact HB.out)⟩⟩
          case round =>
           clear H'
           (try clear c1); (try clear p1); (try clear q1); (try clear hx1); (try clear c2); (try clear c2b0); (try clear c2b1); (try clear p2); (try clear c3); (try clear c3b0); (try clear c3b1); (try clear c4); (try clear c4b0); (try clear c4b1); (try clear c7); (try clear c7b0); (try clear c8); (try clear c8b0); (try clear c9); (try clear c9b0); (try clear c10); (try clear c10b0); (try clear c11); (try clear c11b0); (try clear c11b1); (try clear c15); (try clear p15); (try clear q15); (try clear hx15); (try clear hcz13_0); (try clear hcz13_1); (try clear hcz13_2); (try clear hcz13_3); (try clear hcz13_4); (try clear hcz13_5); (try clear hfz13_0); (try clear hfz13_1); (try clear hfz13_2); (try clear hfz13_3); (try clear hfz13_4); (try clear hfz13_5); (try clear hx151_0); (try clear hx151_1); (try clear hx151_2); (try clear hx151_3); (try clear hx151_4); (try clear hx151_5); (try clear p151); (try clear p2); (try clear q15); (try clear q151)
           obtain ⟨x3_2, x25_2, rfl, HA, HK2, HO_3, BK152, HB⟩ := hrel
           cases gk with
           | zero => exact absurd HA.out (by simp [sched_Deps.l1])
           | succ k2 =>
            have H := HA.out
            clear HA
            simp only [sched_Deps.l1] at H
            by_cases c16 : x25_2 < (y153.length : Int)
            ·rw [if_pos c16] at H
             have c16b0 : decide (x25_2 < (y153.length : Int)) = true := decide_eq_true c16
             clear c16
             by_cases c17 : 0 ≤ x25_2
             ·rw [if_pos c17] at H
              have c17b0 : decide (0 ≤ x25_2) = true := decide_eq_true c17
              clear c17
              by_cases c18 : x25_2 < (y153.length : Int)
              ·rw [if_pos c18] at H
               have c18b0 : decide (x25_2 < (y153.length : Int)) = true := decide_eq_true c18
               clear c18
               replace H := Option.bind_eq_some_iff.mp H
               obtain ⟨t159, A190, H⟩ := H
               replace H : (if t159 = true then (if 0 ≤ x16_1 then (if x16_1 < (x3_2.length : Int) then (if (rd_L1 x3_2 x16_1).length < 17592186044416 then (sched_Deps.l1 k2 l0 (x3_2.set (x16_1 : Int).toNat ((rd_L1 x3_2 x16_1) ++ [x25_2])) x16_1 l0 (l0.length : Int) x16_1 y153 (y153.length : Int) (wrap64 (x25_2 + 1)) ((zAF l0 x16_1).f0) ((zAF l0 x16_1).f1) ((zAF l0 x16_1).f2) ((zAF l0 x16_1).f3) ((zAF l0 x16_1).f4) ((zAF l0 x16_1).f5)) else (none)) else (none)) else (none)) else (sched_Deps.l1 k2 l0 x3_2 x16_1 l0 (l0.length : Int) x16_1 y153 (y153.length : Int) (wrap64 (x25_2 + 1)) ((zAF l0 x16_1).f0) ((zAF l0 x16_1).f1) ((zAF l0 x16_1).f2) ((zAF l0 x16_1).f3) ((zAF l0 x16_1).f4) ((zAF l0 x16_1).f5))) = some r := H
               have A19 := Aside0.mk A190
               clear A190
               by_cases c20 : t159 = true
               ·subst c20
                have H1 : (if 0 ≤ x16_1 then (if x16_1 < (x3_2.length : Int) then (if (rd_L1 x3_2 x16_1).length < 17592186044416 then (sched_Deps.l1 k2 l0 (x3_2.set (x16_1 : Int).toNat ((rd_L1 x3_2 x16_1) ++ [x25_2])) x16_1 l0 (l0.length : Int) x16_1 y153 (y153.length : Int) (wrap64 (x25_2 + 1)) ((zAF l0 x16_1).f0) ((zAF l0 x16_1).f1) ((zAF l0 x16_1).f2) ((zAF l0 x16_1).f3) ((zAF l0 x16_1).f4) ((zAF l0 x16_1).f5)) else (none)) else (none)) else (none)) = some r := by rw [if_pos rfl] at H; exact H
                clear H
                have H := H1
                clear H1
                by_cases c21 : 0 ≤ x16_1
                ·rw [if_pos c21] at H
                 have c21b0 : decide (0 ≤ x16_1) = true := decide_eq_true c21
                 clear c21
                 by_cases c22 : x16_1 < (x3_2.length : Int)
                 ·rw [if_pos c22] at H
                  have c22b0 : decide (x16_1 < (x3_2.length : Int)) = true := decide_eq_true c22
                  clear c22
                  by_cases c23 : (rd_L1 x3_2 x16_1).length < 17592186044416
                  ·rw [if_pos c23] at H
                   have LMc23 := Aside0.mk c23
                   clear c23
                   obtain ⟨y161, hy161⟩ : ∃ y_ : List Int, y_ = ((rd_L1 x3_2 x16_1) ++ [x25_2]) := ⟨_, rfl⟩
                   replace H : (sched_Deps.l1 k2 l0 (x3_2.set (x16_1 : Int).toNat y161) x16_1 l0 (l0.length : Int) x16_1 y153 (y153.length : Int) (wrap64 (x25_2 + 1)) ((zAF l0 x16_1).f0) ((zAF l0 x16_1).f1) ((zAF l0 x16_1).f2) ((zAF l0 x16_1).f3) ((zAF l0 x16_1).f4) ((zAF l0 x16_1).f5)) = some r := by first | (rw [hy161]; with_reducible exact H) | (have H2_ := (Option.bind_some _ _).symm.trans H; rw [hy161]; with_reducible exact H2_) | (have H2_ := (Option.bind_some _ _).symm.trans H; with_reducible exact H2_) | with_reducible exact H | (rw [hy161]; exact H) | exact H
                   have Ny161 := Aside0.mk hy161
                   clear hy161
                   obtain ⟨y164, hy164⟩ : ∃ y_ : List (List Int), y_ = (x3_2.set (x16_1 : Int).toNat y161) := ⟨_, rfl⟩
                   replace H : (sched_Deps.l1 k2 l0 y164 x16_1 l0 (l0.length : Int) x16_1 y153 (y153.length : Int) (wrap64 (x25_2 + 1)) ((zAF l0 x16_1).f0) ((zAF l0 x16_1).f1) ((zAF l0 x16_1).f2) ((zAF l0 x16_1).f3) ((zAF l0 x16_1).f4) ((zAF l0 x16_1).f5)) = some r := by first | (rw [hy164]; with_reducible exact H) | (have H2_ := (Option.bind_some _ _).symm.trans H; rw [hy164]; with_reducible exact H2_) | (have H2_ := (Option.bind_some _ _).symm.trans H; with_reducible exact H2_) | with_reducible exact H | (rw [hy164]; exact H) | exact H
                   have Ny164 := Aside0.mk hy164
                   clear hy164
                   have H' := Aside0.mk H
                   clear H
                   have p157 : 0 ≤ (x25_2 : Int) := of_decide_eq_true (by first | (with_reducible assumption) | assumption)
                   have q157 : x25_2 < (y153.length : Int) := of_decide_eq_true (by first | (with_reducible assumption) | assumption)
                   obtain ⟨ad157, A157_5, c157_5, e157, hx157_0, hx157_1, hx157_2, hx157_3, hx157_4, hx157_5, hl157_5, hi157_5⟩ := zBT HR156.out x25_2 p157 q157
                   obtain rfl : ad151 = ad157 := (by injection e157)
                   replace hx157_0 := (HB.out.cell (World.block_lt_of_cell? w _ hx157_0)).trans hx157_0
                   replace hx157_1 := (HB.out.cell (World.block_lt_of_cell? w _ hx157_1)).trans hx157_1
                   replace hx157_2 := (HB.out.cell (World.block_lt_of_cell? w _ hx157_2)).trans hx157_2
                   replace hx157_3 := (HB.out.cell (World.block_lt_of_cell? w _ hx157_3)).trans hx157_3
                   replace hx157_4 := (HB.out.cell (World.block_lt_of_cell? w _ hx157_4)).trans hx157_4
                   replace hx157_5 := (HB.out.cell (World.block_lt_of_cell? w _ hx157_5)).trans hx157_5
                   have HR157_5 := Aside0.mk hi157_5
                   have HC157_5 := Aside0.mk hl157_5
                   clear hi157_5 hl157_5
                   replace p157 := eq_true p157
                   replace q157 := eq_true q157
                   go_wp2_with (first | ((with_reducible refine zAU (N := 7) rfl ?_); refine zAT ?hg (N := 7) ?hd (cs := #[.int .i64 0, .int .i64 0, .int .i64 0, .int .i64 0, .int .i64 0, .slice none 0 0]) (t := 37) ?hr ?_; (case hd => rfl); (case hg => rfl); (case hr => first | (go_simp; done) | (go_simp; rfl)); intro gb158 hg w25 hbox hb; have n0_ := Aside0.mk (Kd.S_below (by (with_reducible repeat (first | apply Kd.S_alloc | apply Kd.S_drewN | apply Kd.S_drew)); exact HO_3.out) hb); have n1_ := Aside0.mk (zAP (g := gb152) (o := .cells #[.int .i64 ((zAF l0 x16_1).f0), .int .i64 ((zAF l0 x16_1).f1), .int .i64 ((zAF l0 x16_1).f2), .int .i64 ((zAF l0 x16_1).f3), .int .i64 ((zAF l0 x16_1).f4), .slice A151_5 ((zAF l0 x16_1).f5).length c151_5] 37 (0, 0)) (by (with_reducible repeat (first | refine zAI ?_ _ | refine zAJ ?_ | refine zAG ?_ _)); exact BK152.out) hb); have n2_ := Aside0.mk (zAL (by repeat (first | (with_reducible first | exact HB.out | apply zAC | apply zAA | apply zAD | refine zAH ?_ GE152.out) | exact HB.out)) hb); have n3_ := Aside0.mk (hbox); have n4_ := Aside0.mk ((by rw [hg]; exact (zAM (by repeat (first | (with_reducible first | exact HB.out | apply zAC | apply zAA | apply zAD | refine zAH ?_ GE152.out) | exact HB.out))) : w.heap.size ≤ gb158)); have n5_ := Aside0.mk ((by rw [hg]; exact (zAM (by repeat (first | (with_reducible first | exact HB.out | apply zAC | apply zAA | apply zAD | refine zAH ?_ GE152.out) | exact HB.out))) : w.heap.size ≤ gb158)); have n6_ := Aside0.mk ((by rw [hg]; exact Nat.ne_of_lt (zBE (g := gb152) (o := .cells #[.int .i64 ((zAF l0 x16_1).f0), .int .i64 ((zAF l0 x16_1).f1), .int .i64 ((zAF l0 x16_1).f2), .int .i64 ((zAF l0 x16_1).f3), .int .i64 ((zAF l0 x16_1).f4), .slice A151_5 ((zAF l0 x16_1).f5).length c151_5] 37 (0, 0)) (by (with_reducible repeat (first | refine zAI ?_ _ | refine zAJ ?_ | refine zAG ?_ _)); exact BK152.out)) : gb152 ≠ gb158)); have n7_ := Aside0.mk ((by rw [hg]; exact Nat.ne_of_gt (zBE (g := gb152) (o := .cells #[.int .i64 ((zAF l0 x16_1).f0), .int .i64 ((zAF l0 x16_1).f1), .int .i64 ((zAF l0 x16_1).f2), .int .i64 ((zAF l0 x16_1).f3), .int .i64 ((zAF l0 x16_1).f4), .slice A151_5 ((zAF l0 x16_1).f5).length c151_5] 37 (0, 0)) (by (with_reducible repeat (first | refine zAI ?_ _ | refine zAJ ?_ | refine zAG ?_ _)); exact BK152.out)) : gb158 ≠ gb152)); clear HO_3; clear BK152; clear HB; have HO_3 := n0_; have BK152 := n1_; have HB := n2_; have BK158 := n3_; have GW158 := n4_; have GE158 := n5_; have NB152_158 := n6_; have NB158_152 := n7_; clear n0_ n1_ n2_ n3_ n4_ n5_ n6_ n7_; clear hb hbox hg; have hnb26 := NB158_152.out; have hnc26 := NB152_158.out; have hcz27_0 : w25.cell? ⟨gb158, 0, none⟩ = some (.int .i64 0) := (zAE BK158.out 0).trans rfl; have hcz27_1 : w25.cell? ⟨gb158, 1, none⟩ = some (.int .i64 0) := (zAE BK158.out 1).trans rfl; have hcz27_2 : w25.cell? ⟨gb158, 2, none⟩ = some (.int .i64 0) := (zAE BK158.out 2).trans rfl; have hcz27_3 : w25.cell? ⟨gb158, 3, none⟩ = some (.int .i64 0) := (zAE BK158.out 3).trans rfl; have hcz27_4 : w25.cell? ⟨gb158, 4, none⟩ = some (.int .i64 0) := (zAE BK158.out 4).trans rfl; have hcz27_5 : w25.cell? ⟨gb158, 5, none⟩ = some (.slice none 0 0) := (zAE BK158.out 5).trans rfl; have hfz27_0 := zAB BK158.out 0; have hfz27_1 := zAB BK158.out 1; have hfz27_2 := zAB BK158.out 2; have hfz27_3 := zAB BK158.out 3; have hfz27_4 := zAB BK158.out 4; have hfz27_5 := zAB BK158.out 5; have hcz28_0 : w25.cell? ⟨gb152, 0, none⟩ = some (.int .i64 ((zAF l0 x16_1).f0)) := (zAE BK152.out 0).trans rfl; have hcz28_1 : w25.cell? ⟨gb152, 1, none⟩ = some (.int .i64 ((zAF l0 x16_1).f1)) := (zAE BK152.out 1).trans rfl; have hcz28_2 : w25.cell? ⟨gb152, 2, none⟩ = some (.int .i64 ((zAF l0 x16_1).f2)) := (zAE BK152.out 2).trans rfl; have hcz28_3 : w25.cell? ⟨gb152, 3, none⟩ = some (.int .i64 ((zAF l0 x16_1).f3)) := (zAE BK152.out 3).trans rfl; have hcz28_4 : w25.cell? ⟨gb152, 4, none⟩ = some (.int .i64 ((zAF l0 x16_1).f4)) := (zAE BK152.out 4).trans rfl; have hcz28_5 : w25.cell? ⟨gb152, 5, none⟩ = some (.slice A151_5 ((zAF l0 x16_1).f5).length c151_5) := (zAE BK152.out 5).trans rfl; have hfz28_0 := zAB BK152.out 0; have hfz28_1 := zAB BK152.out 1; have hfz28_2 := zAB BK152.out 2; have hfz28_3 := zAB BK152.out 3; have hfz28_4 := zAB BK152.out 4; have hfz28_5 := zAB BK152.out 5) | ((with_reducible refine zAV (f := 32) rfl ?_); refine zBO (some 32) rfl rfl Try.func32 (by kernel_rfl) rfl #[.agg #[.int .i64 ((zAF l0 x16_1).f0), .int .i64 ((zAF l0 x16_1).f1), .int .i64 ((zAF l0 x16_1).f2), .int .i64 ((zAF l0 x16_1).f3), .int .i64 ((zAF l0 x16_1).f4), .slice A151_5 ((zAF l0 x16_1).f5).length c151_5], .agg #[.int .i64 ((zAF y153 x25_2).f0), .int .i64 ((zAF y153 x25_2).f1), .int .i64 ((zAF y153 x25_2).f2), .int .i64 ((zAF y153 x25_2).f3), .int .i64 ((zAF y153 x25_2).f4), .slice A157_5 ((zAF y153 x25_2).f5).length c157_5]] rfl (by (try simp only [List.map_toArray, List.map_cons, List.map_nil]); first | done | rfl | (simp only [List.length_drop, List.length_take]; rfl)) ?_; (with_reducible refine (sched_after.calls k2 ((zAF l0 x16_1).f0) ((zAF l0 x16_1).f1) ((zAF l0 x16_1).f2) ((zAF l0 x16_1).f3) ((zAF l0 x16_1).f4) _ _ ((zAF l0 x16_1).f5) ((zAF y153 x25_2).f0) ((zAF y153 x25_2).f1) ((zAF y153 x25_2).f2) ((zAF y153 x25_2).f3) ((zAF y153 x25_2).f4) _ _ ((zAF y153 x25_2).f5) true _ ?side1 ?side2 ?side3 ?side4 A19.out).mono ?_); (case side1 => exact Kd.C_below HR151_5.out (by repeat (first | (with_reducible first | exact HB.out | apply zAC | apply zAA | apply zAD | refine zAH ?_ GE152.out | refine zAH ?_ GE158.out) | exact HB.out))); (case side2 => exact HC151_5.out); (case side3 => exact Kd.C_below HR157_5.out (by repeat (first | (with_reducible first | exact HB.out | apply zAC | apply zAA | apply zAD | refine zAH ?_ GE152.out | refine zAH ?_ GE158.out) | exact HB.out))); (case side4 => exact HC157_5.out); rintro e w29 ⟨rfl, hb⟩; refine ⟨_, rfl, ?_⟩; have n0_ := Aside0.mk (Kd.S_below (by (with_reducible repeat (first | apply Kd.S_alloc | apply Kd.S_drewN | apply Kd.S_drew)); exact (Kd.S_mono (Kd.S_far (p := ⟨gb158, 5, none⟩) (Kd.S_far (p := ⟨gb158, 4, none⟩) (Kd.S_far (p := ⟨gb158, 3, none⟩) (Kd.S_far (p := ⟨gb158, 2, none⟩) (Kd.S_far (p := ⟨gb158, 1, none⟩) (Kd.S_far (p := ⟨gb158, 0, none⟩) (Kd.S_types HO_3.out BK158.out (by decide)) (fun _ hk => hk.2) (.int .i64 ((zAF y153 x25_2).f0))) (fun _ hk => hk.2) (.int .i64 ((zAF y153 x25_2).f1))) (fun _ hk => hk.2) (.int .i64 ((zAF y153 x25_2).f2))) (fun _ hk => hk.2) (.int .i64 ((zAF y153 x25_2).f3))) (fun _ hk => hk.2) (.int .i64 ((zAF y153 x25_2).f4))) (fun _ hk => hk.2) (.slice A157_5 ((zAF y153 x25_2).f5).length c157_5)) (fun _ h_ => h_.1))) hb); have n1_ := Aside0.mk (zAP (g := gb152) (o := .cells #[.int .i64 ((zAF l0 x16_1).f0), .int .i64 ((zAF l0 x16_1).f1), .int .i64 ((zAF l0 x16_1).f2), .int .i64 ((zAF l0 x16_1).f3), .int .i64 ((zAF l0 x16_1).f4), .slice A151_5 ((zAF l0 x16_1).f5).length c151_5] 37 (0, 0)) (by (with_reducible repeat (first | refine zAI ?_ _ | refine zAJ ?_ | refine zAG ?_ _)); refine zAS ?_ NB152_158.out _; (with_reducible repeat (first | refine zAI ?_ _ | refine zAJ ?_ | refine zAG ?_ _)); refine zAS ?_ NB152_158.out _; (with_reducible repeat (first | refine zAI ?_ _ | refine zAJ ?_ | refine zAG ?_ _)); refine zAS ?_ NB152_158.out _; (with_reducible repeat (first | refine zAI ?_ _ | refine zAJ ?_ | refine zAG ?_ _)); refine zAS ?_ NB152_158.out _; (with_reducible repeat (first | refine zAI ?_ _ | refine zAJ ?_ | refine zAG ?_ _)); refine zAS ?_ NB152_158.out _; (with_reducible repeat (first | refine zAI ?_ _ | refine zAJ ?_ | refine zAG ?_ _)); refine zAS ?_ NB152_158.out _; (with_reducible repeat (first | refine zAI ?_ _ | refine zAJ ?_ | refine zAG ?_ _)); exact BK152.out) hb); have n2_ := Aside0.mk (zAP (g := gb158) (o := .cells #[.int .i64 ((zAF y153 x25_2).f0), .int .i64 ((zAF y153 x25_2).f1), .int .i64 ((zAF y153 x25_2).f2), .int .i64 ((zAF y153 x25_2).f3), .int .i64 ((zAF y153 x25_2).f4), .slice A157_5 ((zAF y153 x25_2).f5).length c157_5] 37 (0, 0)) (by (with_reducible repeat (first | refine zAI ?_ _ | refine zAJ ?_ | refine zAG ?_ _)); refine zAR (cs := #[.int .i64 ((zAF y153 x25_2).f0), .int .i64 ((zAF y153 x25_2).f1), .int .i64 ((zAF y153 x25_2).f2), .int .i64 ((zAF y153 x25_2).f3), .int .i64 ((zAF y153 x25_2).f4), .slice none 0 0]) ?_ 5 _ rfl; (with_reducible repeat (first | refine zAI ?_ _ | refine zAJ ?_ | refine zAG ?_ _)); refine zAR (cs := #[.int .i64 ((zAF y153 x25_2).f0), .int .i64 ((zAF y153 x25_2).f1), .int .i64 ((zAF y153 x25_2).f2), .int .i64 ((zAF y153 x25_2).f3), .int .i64 0, .slice none 0 0]) ?_ 4 _ rfl; (with_reducible repeat (first | refine zAI ?_ _ | refine zAJ ?_ | refine zAG ?_ _)); refine zAR (cs := #[.int .i64 ((zAF y153 x25_2).f0), .int .i64 ((zAF y153 x25_2).f1), .int .i64 ((zAF y153 x25_2).f2), .int .i64 0, .int .i64 0, .slice none 0 0]) ?_ 3 _ rfl; (with_reducible repeat (first | refine zAI ?_ _ | refine zAJ ?_ | refine zAG ?_ _)); refine zAR (cs := #[.int .i64 ((zAF y153 x25_2).f0), .int .i64 ((zAF y153 x25_2).f1), .int .i64 0, .int .i64 0, .int .i64 0, .slice none 0 0]) ?_ 2 _ rfl; (with_reducible repeat (first | refine zAI ?_ _ | refine zAJ ?_ | refine zAG ?_ _)); refine zAR (cs := #[.int .i64 ((zAF y153 x25_2).f0), .int .i64 0, .int .i64 0, .int .i64 0, .int .i64 0, .slice none 0 0]) ?_ 1 _ rfl; (with_reducible repeat (first | refine zAI ?_ _ | refine zAJ ?_ | refine zAG ?_ _)); refine zAR (cs := #[.int .i64 0, .int .i64 0, .int .i64 0, .int .i64 0, .int .i64 0, .slice none 0 0]) ?_ 0 _ rfl; (with_reducible repeat (first | refine zAI ?_ _ | refine zAJ ?_ | refine zAG ?_ _)); exact BK158.out) hb); have n3_ := Aside0.mk (zAL (by repeat (first | (with_reducible first | exact HB.out | apply zAC | apply zAA | apply zAD | refine zAH ?_ GE152.out | refine zAH ?_ GE158.out) | exact HB.out)) hb); clear HO_3; clear BK152; clear BK158; clear HB; have HO_3 := n0_; have BK152 := n1_; have BK158 := n2_; have HB := n3_; clear n0_ n1_ n2_ n3_; (try clear hb); (try clear hb2); (try clear hk); (try clear hi); obtain ⟨Ao30, co30, eo30⟩ := Kd.S_slice HO_3.out; subst eo30; have p160 : 0 ≤ (x16_1 : Int) := of_decide_eq_true (by first | (with_reducible assumption) | assumption); have q160 : x16_1 < (x3_2.length : Int) := of_decide_eq_true (by first | (with_reducible assumption) | assumption); obtain ⟨ad160, A160_0, c160_0, e160, hx160_0, hl160_0, hi160_0⟩ := at_L1 (Kd.S_reads' HO_3.out).2.2 x16_1 p160 q160; cases e160; obtain ⟨ce160, hce160, hMe160, hcc160⟩ := Kd.S_get HO_3.out [] x16_1 p160 (by first | exact q160 | exact of_decide_eq_true (by first | (with_reducible assumption) | assumption) | (have e_ := (Kd.S_reads' HO_3.out).1; omega)); obtain ⟨ve160_0, rfl, ge160_0⟩ := hMe160; have hv160_0 := hcc160 0 _ rfl; rw [Nat.add_zero, show ((Kd.slice 3 (Kd.int .i64))).sz = 1 from rfl, Nat.mul_one] at hv160_0; replace hv160_0 := Option.some.inj (hv160_0.symm.trans hx160_0); rw [hv160_0] at ge160_0; have HL160_0 := Aside0.mk (show Kd.R (Kd.int .i64) 3 _ _ _ _ (rd_L1 x3_2 x16_1) from ge160_0); clear hv160_0 ge160_0; have HX160_0 := Aside0.mk hx160_0; clear hcc160 hce160; have HR160_0 := Aside0.mk hi160_0; have HC160_0 := Aside0.mk hl160_0; clear hi160_0 hl160_0; replace p160 := eq_true p160; replace q160 := eq_true q160; obtain ⟨go31, co31, eo31, gb31, gl31, cl31, HG31⟩ := Kd.S_form HO_3.out (by have h_ : (x16_1 : Int) < ((x3_2.length : Int) : Int) := of_decide_eq_true (by first | (with_reducible assumption) | assumption); have h2_ : 0 ≤ (x16_1 : Int) := (of_decide_eq_true (by first | (with_reducible assumption) | assumption)); omega); (first | cases eo31 | (injection eo31 with ea_ en_ ec_; (first | subst ea_ | (injection ea_ with ea_; subst ea_)); subst ec_; clear en_)); have GB31 := Aside0.mk gb31; have GG31 := Aside0.mk HG31; clear gb31 gl31 HG31; (first | simp only [zBX] at hx160_0 | skip); obtain ⟨oki31, ce31, hcl31, hM31, hcc31, _, _, hH31⟩ := Kd.S_elem HO_3.out [] (x16_1 : Int) (of_decide_eq_true (by first | (with_reducible assumption) | assumption)) (by have h_ : (x16_1 : Int) < ((x3_2.length : Int) : Int) := of_decide_eq_true (by first | (with_reducible assumption) | assumption); first | exact h_ | (have e_ := (Kd.S_reads' HO_3.out).1; omega) | simpa using h_); obtain ⟨ve31_0, rfl, ge31_0⟩ := hM31; have hv31 := hcc31 0 _ rfl; have hX31 := HX160_0.out; (try simp only [zBX] at hX31); (try simp only [Nat.add_zero] at hv31); (try rw [show ((Kd.slice 3 (Kd.int .i64))).sz = 1 from rfl, Nat.mul_one] at hv31); replace hv31 := Option.some.inj (hv31.symm.trans hX31); subst hv31; clear hX31 hcc31 hcl31; have UU31 := Aside0.mk (show Kd.R (Kd.int .i64) 3 _ w.heap.size oki31 (.slice A160_0 (rd_L1 x3_2 x16_1).length c160_0) (rd_L1 x3_2 x16_1) from ge31_0); have HH31 := Aside0.mk hH31; have HN31 := Aside0.mk (Kd.S_reads' HO_3.out).1; clear hH31 ge31_0) | ((with_reducible refine zBK (b := .append) (xs := #[.tmp 38, .tmp 40]) rfl ?_); at_builtin; refine Kd.R_append (Kd.int .i64) (w0 := w) w.heap.size rfl (.tmp 38) (.tmp 40) 23 3 (.int .i64 0) 8 rfl Try.underlying23 info3 rfl (by decide) (by omega) (.slice A160_0 (rd_L1 x3_2 x16_1).length c160_0) (rd_L1 x3_2 x16_1) x25_2 [.int .i64 x25_2] (fun k_ => oki31 k_ ∨ ((fun _ => True)) k_ ∧ w29.heap.size ≤ k_) (fun _ => False) rfl rfl ?aP (fun _ hk => hk.elim) ?aF ?aO ?aB ?aS ?aL ?_; (case aP => exact rfl); (case aB => exact (by repeat (first | (with_reducible first | exact HB.out | apply zAC | apply zAA | apply zAD | refine zAH ?_ GE152.out | refine zAH ?_ GE158.out) | exact HB.out))); (case aF => exact (fun k_ hk => .inr ⟨trivial, hk⟩)); (case aO => exact (by (with_reducible repeat (first | apply Kd.R_alloc | apply Kd.R_drewN | apply Kd.R_drew)); exact Kd.R_mono UU31.out (fun _ hk => .inl hk))); (case aS => exact (zAM (by repeat (first | (with_reducible first | exact HB.out | apply zAC | apply zAA | apply zAD | refine zAH ?_ GE152.out | refine zAH ?_ GE158.out) | exact HB.out)))); (case aL => have := LMc23.out; omega); intro v162 w32 ho hb hg hat; rw [← Ny161.out] at ho; have n0_ := Aside0.mk (zAW (g := gb152) (o := .cells #[.int .i64 ((zAF l0 x16_1).f0), .int .i64 ((zAF l0 x16_1).f1), .int .i64 ((zAF l0 x16_1).f2), .int .i64 ((zAF l0 x16_1).f3), .int .i64 ((zAF l0 x16_1).f4), .slice A151_5 ((zAF l0 x16_1).f5).length c151_5] 37 (0, 0)) (by (with_reducible repeat (first | refine zAI ?_ _ | refine zAJ ?_ | refine zAG ?_ _)); exact BK152.out) hg (Kd.R_ne HL160_0.out BK152.out (by decide))); have n1_ := Aside0.mk (zAW (g := gb158) (o := .cells #[.int .i64 ((zAF y153 x25_2).f0), .int .i64 ((zAF y153 x25_2).f1), .int .i64 ((zAF y153 x25_2).f2), .int .i64 ((zAF y153 x25_2).f3), .int .i64 ((zAF y153 x25_2).f4), .slice A157_5 ((zAF y153 x25_2).f5).length c157_5] 37 (0, 0)) (by (with_reducible repeat (first | refine zAI ?_ _ | refine zAJ ?_ | refine zAG ?_ _)); exact BK158.out) hg (Kd.R_ne HL160_0.out BK158.out (by decide))); have n2_ := Aside0.mk (hb); have n3_ := Aside0.mk (Kd.H_grown (Kd.H_widen (by repeat (first | exact HH31.out | refine Kd.H_alloc ?_ _ | refine Kd.H_drewN ?_ _ | refine Kd.H_drew ?_))) hg (fun k_ e_ => .inl (UU31.out.1 k_ e_))); have n4_ := Aside0.mk (ho); clear BK152; clear BK158; clear HB; clear HH31; clear HO_3; clear UU31; clear HL160_0; have BK152 := n0_; have BK158 := n1_; have HB := n2_; have HH31 := n3_; have HO163 := n4_; clear n0_ n1_ n2_ n3_ n4_; clear ho hb hg hat; have p24 : 0 ≤ (x16_1 : Int) := of_decide_eq_true (by first | (with_reducible assumption) | assumption); have q24 : (x16_1 : Int) < ((x3_2.length : Int) : Int) := of_decide_eq_true (by first | (with_reducible assumption) | assumption); replace p24 := eq_true p24; replace q24 := eq_true q24; obtain ⟨Ao35, co35, eo35⟩ := Kd.R_slice HO163.out; subst eo35; obtain ⟨_, _, hraw33, _, _, hcc33, _⟩ := Kd.H_raw HH31.out (of_decide_eq_true (by first | (with_reducible assumption) | assumption)) (by have h_ : (x16_1 : Int) < ((x3_2.length : Int) : Int) := of_decide_eq_true (by first | (with_reducible assumption) | assumption); first | exact h_ | (have e_ := (HN31.out); omega) | simpa using h_); obtain ⟨_, hfr33⟩ := Kd.H_at HH31.out (of_decide_eq_true (by first | (with_reducible assumption) | assumption)) (by have h_ : (x16_1 : Int) < ((x3_2.length : Int) : Int) := of_decide_eq_true (by first | (with_reducible assumption) | assumption); first | exact h_ | (have e_ := (HN31.out); omega) | simpa using h_); have hx33_0 := hcc33 0 _ rfl; have hf33_0 := hfr33 0; (try simp only [Nat.add_zero] at hx33_0 hf33_0); (try rw [show ((Kd.slice 3 (Kd.int .i64))).sz = 1 from rfl, Nat.mul_one] at hx33_0); (try rw [show ((Kd.slice 3 (Kd.int .i64))).sz = 1 from rfl, Nat.mul_one] at hf33_0); have HP33 := Kd.S_seg0 HH31.out (of_decide_eq_true (by first | (with_reducible assumption) | assumption)) (by have h_ : (x16_1 : Int) < ((x3_2.length : Int) : Int) := of_decide_eq_true (by first | (with_reducible assumption) | assumption); first | exact h_ | (have e_ := (HN31.out); omega) | simpa using h_) (seg := [.slice Ao35 y161.length co35]) (j := 0) (show 1 ≤ 1 from by decide) (x' := y161) (Kd.M_row HO163.out) (fun _ hk => hk); (try simp only [show ((Kd.slice 3 (Kd.int .i64))).sz = 1 from rfl, Nat.mul_one, Nat.add_zero] at HP33); clear hcc33 hfr33) | ((with_reducible refine gate_store (t := 23) (p := 42) rfl ?_); refine store_event (t := 23) (p := 42) (v := ?vo_w34) (w1 := (w32.setCell ⟨go31, (x16_1 : Int).toNat, none⟩ (.slice Ao35 y161.length co35))) ?hg ?ho ?hn ?hr ?_; (case ho => rfl); (case hg => rfl); (case hn => rfl); (case hr => first | (go_simp; done) | (go_simp; rfl)); intro w34 hw; have hg : w32.grownBy w34 (some go31) := (by rw [hw]; exact HP33.2); have hp_ : Kd.S (Kd.slice 3 (Kd.int .i64)) 23 w34 w.heap.size (fun _ => True) (.slice (some ⟨go31, 0, none⟩) x3_2.length co30) y164 := (by rw [hw, Ny164.out]; exact HP33.1); clear HP33; have n0_ := Aside0.mk (zAW (g := gb152) (o := .cells #[.int .i64 ((zAF l0 x16_1).f0), .int .i64 ((zAF l0 x16_1).f1), .int .i64 ((zAF l0 x16_1).f2), .int .i64 ((zAF l0 x16_1).f3), .int .i64 ((zAF l0 x16_1).f4), .slice A151_5 ((zAF l0 x16_1).f5).length c151_5] 37 (0, 0)) (by (with_reducible repeat (first | refine zAI ?_ _ | refine zAJ ?_ | refine zAG ?_ _)); exact BK152.out) hg (Kd.R_ne hraw33 BK152.out (by decide))); have n1_ := Aside0.mk (zAW (g := gb158) (o := .cells #[.int .i64 ((zAF y153 x25_2).f0), .int .i64 ((zAF y153 x25_2).f1), .int .i64 ((zAF y153 x25_2).f2), .int .i64 ((zAF y153 x25_2).f3), .int .i64 ((zAF y153 x25_2).f4), .slice A157_5 ((zAF y153 x25_2).f5).length c157_5] 37 (0, 0)) (by (with_reducible repeat (first | refine zAI ?_ _ | refine zAJ ?_ | refine zAG ?_ _)); exact BK158.out) hg (Kd.R_ne hraw33 BK158.out (by decide))); have n2_ := Aside0.mk ((by rw [hw]; exact zAH HB.out GB31.out : Below w.heap.size w w34)); have n3_ := Aside0.mk (hp_); clear BK152; clear BK158; clear HB; clear HO163; clear HH31; have BK152 := n0_; have BK158 := n1_; have HB := n2_; have HO_3 := n3_; clear n0_ n1_ n2_ n3_; clear hg hw hp_ hraw33))
                   go_roundg k2
                   case measure => have := HK1.out; have := HK2.out; omega
                   case rel => exact ⟨(y164), (wrap64 (x25_2 + 1)), (by first | rfl | (simp; done) | (simp [*]; done)), H', ⟨by have := HK1.out; have := HK2.out; omega⟩, ⟨by (with_reducible repeat (first | apply Kd.S_alloc | apply Kd.S_drewN | apply Kd.S_drew)); exact HO_3.out⟩, ⟨by (with_reducible repeat (first | refine zAI ?_ _ | refine zAJ ?_ | refine zAG ?_ _)); exact BK152.out⟩, ⟨by repeat (first | (with_reducible first | exact HB.out | apply zAC | apply zAA | apply zAD | refine zAH ?_ GE152.out | refine zAH ?_ GE158.out) | exact HB.out)⟩⟩
                  ·rw [if_neg c23] at H
                   exact absurd H (by simp)
                 ·rw [if_neg c22] at H
                  exact absurd H (by simp)
                ·rw [if_neg c21] at H
                 exact absurd H (by simp)
               ·replace c20 := Bool.eq_false_iff.mpr c20
                subst c20
                have H1 : (sched_Deps.l1 k2 l0 x3_2 x16_1 l0 (l0.length : Int) x16_1 y153 (y153.length : Int) (wrap64 (x25_2 + 1)) ((zAF l0 x16_1).f0) ((zAF l0 x16_1).f1) ((zAF l0 x16_1).f2) ((zAF l0 x16_1).f3) ((zAF l0 x16_1).f4) ((zAF l0 x16_1).f5)) = some r := by rw [if_neg (show ¬ (false = true) by decide)] at H; exact H
                clear H
                have H := H1
                clear H1
                have H' := Aside0.mk H
                clear H
                have p157 : 0 ≤ (x25_2 : Int) := of_decide_eq_true (by first | (with_reducible assumption) | assumption)
                have q157 : x25_2 < (y153.length : Int) := of_decide_eq_true (by first | (with_reducible assumption) | assumption)
                obtain ⟨ad157, A157_5, c157_5, e157, hx157_0, hx157_1, hx157_2, hx157_3, hx157_4, hx157_5, hl157_5, hi157_5⟩ := zBT HR156.out x25_2 p157 q157
                obtain rfl : ad151 = ad157 := (by injection e157)
                replace hx157_0 := (HB.out.cell (World.block_lt_of_cell? w _ hx157_0)).trans hx157_0
                replace hx157_1 := (HB.out.cell (World.block_lt_of_cell? w _ hx157_1)).trans hx157_1
                replace hx157_2 := (HB.out.cell (World.block_lt_of_cell? w _ hx157_2)).trans hx157_2
                replace hx157_3 := (HB.out.cell (World.block_lt_of_cell? w _ hx157_3)).trans hx157_3
                replace hx157_4 := (HB.out.cell (World.block_lt_of_cell? w _ hx157_4)).trans hx157_4
                replace hx157_5 := (HB.out.cell (World.block_lt_of_cell? w _ hx157_5)).trans hx157_5
                have HR157_5 := Aside0.mk hi157_5
                have HC157_5 := Aside0.mk hl157_5
                clear hi157_5 hl157_5
                replace p157 := eq_true p157
                replace q157 := eq_true q157
                go_wp2_with (first | ((with_reducible refine zAU (N := 7) rfl ?_); refine zAT ?hg (N := 7) ?hd (cs := #[.int .i64 0, .int .i64 0, .int .i64 0, .int .i64 0, .int .i64 0, .slice none 0 0]) (t := 37) ?hr ?_; (case hd => rfl); (case hg => rfl); (case hr => first | (go_simp; done) | (go_simp; rfl)); intro gb158 hg w36 hbox hb; have n0_ := Aside0.mk (Kd.S_below (by (with_reducible repeat (first | apply Kd.S_alloc | apply Kd.S_drewN | apply Kd.S_drew)); exact HO_3.out) hb); have n1_ := Aside0.mk (zAP (g := gb152) (o := .cells #[.int .i64 ((zAF l0 x16_1).f0), .int .i64 ((zAF l0 x16_1).f1), .int .i64 ((zAF l0 x16_1).f2), .int .i64 ((zAF l0 x16_1).f3), .int .i64 ((zAF l0 x16_1).f4), .slice A151_5 ((zAF l0 x16_1).f5).length c151_5] 37 (0, 0)) (by (with_reducible repeat (first | refine zAI ?_ _ | refine zAJ ?_ | refine zAG ?_ _)); exact BK152.out) hb); have n2_ := Aside0.mk (zAL (by repeat (first | (with_reducible first | exact HB.out | apply zAC | apply zAA | apply zAD | refine zAH ?_ GE152.out) | exact HB.out)) hb); have n3_ := Aside0.mk (hbox); have n4_ := Aside0.mk ((by rw [hg]; exact (zAM (by repeat (first | (with_reducible first | exact HB.out | apply zAC | apply zAA | apply zAD | refine zAH ?_ GE152.out) | exact HB.out))) : w.heap.size ≤ gb158)); have n5_ := Aside0.mk ((by rw [hg]; exact (zAM (by repeat (first | (with_reducible first | exact HB.out | apply zAC | apply zAA | apply zAD | refine zAH ?_ GE152.out) | exact HB.out))) : w.heap.size ≤ gb158)); have n6_ := Aside0.mk ((by rw [hg]; exact Nat.ne_of_lt (zBE (g := gb152) (o := .cells #[.int .i64 ((zAF l0 x16_1).f0), .int .i64 ((zAF l0 x16_1).f1), .int .i64 ((zAF l0 x16_1).f2), .int .i64 ((zAF l0 x16_1).f3), .int .i64 ((zAF l0 x16_1).f4), .slice A151_5 ((zAF l0 x16_1).f5).length c151_5] 37 (0, 0)) (by (with_reducible repeat (first | refine zAI ?_ _ | refine zAJ ?_ | refine zAG ?_ _)); exact BK152.out)) : gb152 ≠ gb158)); have n7_ := Aside0.mk ((by rw [hg]; exact Nat.ne_of_gt (zBE (g := gb152) (o := .cells #[.int .i64 ((zAF l0 x16_1).f0), .int .i64 ((zAF l0 x16_1).f1), .int .i64 ((zAF l0 x16_1).f2), .int .i64 ((zAF l0 x16_1).f3), .int .i64 ((zAF l0 x16_1).f4), .slice A151_5 ((zAF l0 x16_1).f5).length c151_5] 37 (0, 0)) (by (with_reducible repeat (first | refine zAI ?_ _ | refine zAJ ?_ | refine zAG ?_ _)); exact BK152.out)) : gb158 ≠ gb152)); clear HO_3; clear BK152; clear HB; have HO_3 := n0_; have BK152 := n1_; have HB := n2_; have BK158 := n3_; have GW158 := n4_; have GE158 := n5_; have NB152_158 := n6_; have NB158_152 := n7_; clear n0_ n1_ n2_ n3_ n4_ n5_ n6_ n7_; clear hb hbox hg; have hnb37 := NB158_152.out; have hnc37 := NB152_158.out; have hcz38_0 : w36.cell? ⟨gb158, 0, none⟩ = some (.int .i64 0) := (zAE BK158.out 0).trans rfl; have hcz38_1 : w36.cell? ⟨gb158, 1, none⟩ = some (.int .i64 0) := (zAE BK158.out 1).trans rfl; have hcz38_2 : w36.cell? ⟨gb158, 2, none⟩ = some (.int .i64 0) := (zAE BK158.out 2).trans rfl; have hcz38_3 : w36.cell? ⟨gb158, 3, none⟩ = some (.int .i64 0) := (zAE BK158.out 3).trans rfl; have hcz38_4 : w36.cell? ⟨gb158, 4, none⟩ = some (.int .i64 0) := (zAE BK158.out 4).trans rfl; have hcz38_5 : w36.cell? ⟨gb158, 5, none⟩ = some (.slice none 0 0) := (zAE BK158.out 5).trans rfl; have hfz38_0 := zAB BK158.out 0; have hfz38_1 := zAB BK158.out 1; have hfz38_2 := zAB BK158.out 2; have hfz38_3 := zAB BK158.out 3; have hfz38_4 := zAB BK158.out 4; have hfz38_5 := zAB BK158.out 5; have hcz39_0 : w36.cell? ⟨gb152, 0, none⟩ = some (.int .i64 ((zAF l0 x16_1).f0)) := (zAE BK152.out 0).trans rfl; have hcz39_1 : w36.cell? ⟨gb152, 1, none⟩ = some (.int .i64 ((zAF l0 x16_1).f1)) := (zAE BK152.out 1).trans rfl; have hcz39_2 : w36.cell? ⟨gb152, 2, none⟩ = some (.int .i64 ((zAF l0 x16_1).f2)) := (zAE BK152.out 2).trans rfl; have hcz39_3 : w36.cell? ⟨gb152, 3, none⟩ = some (.int .i64 ((zAF l0 x16_1).f3)) := (zAE BK152.out 3).trans rfl; have hcz39_4 : w36.cell? ⟨gb152, 4, none⟩ = some (.int .i64 ((zAF l0 x16_1).f4)) := (zAE BK152.out 4).trans rfl; have hcz39_5 : w36.cell? ⟨gb152, 5, none⟩ = some (.slice A151_5 ((zAF l0 x16_1).f5).length c151_5) := (zAE BK152.out 5).trans rfl; have hfz39_0 := zAB BK152.out 0; have hfz39_1 := zAB BK152.out 1; have hfz39_2 := zAB BK152.out 2; have hfz39_3 := zAB BK152.out 3; have hfz39_4 := zAB BK152.out 4; have hfz39_5 := zAB BK152.out 5) | ((with_reducible refine zAV (f := 32) rfl ?_); refine zBO (some 32) rfl rfl Try.func32 (by kernel_rfl) rfl #[.agg #[.int .i64 ((zAF l0 x16_1).f0), .int .i64 ((zAF l0 x16_1).f1), .int .i64 ((zAF l0 x16_1).f2), .int .i64 ((zAF l0 x16_1).f3), .int .i64 ((zAF l0 x16_1).f4), .slice A151_5 ((zAF l0 x16_1).f5).length c151_5], .agg #[.int .i64 ((zAF y153 x25_2).f0), .int .i64 ((zAF y153 x25_2).f1), .int .i64 ((zAF y153 x25_2).f2), .int .i64 ((zAF y153 x25_2).f3), .int .i64 ((zAF y153 x25_2).f4), .slice A157_5 ((zAF y153 x25_2).f5).length c157_5]] rfl (by (try simp only [List.map_toArray, List.map_cons, List.map_nil]); first | done | rfl | (simp only [List.length_drop, List.length_take]; rfl)) ?_; (with_reducible refine (sched_after.calls k2 ((zAF l0 x16_1).f0) ((zAF l0 x16_1).f1) ((zAF l0 x16_1).f2) ((zAF l0 x16_1).f3) ((zAF l0 x16_1).f4) _ _ ((zAF l0 x16_1).f5) ((zAF y153 x25_2).f0) ((zAF y153 x25_2).f1) ((zAF y153 x25_2).f2) ((zAF y153 x25_2).f3) ((zAF y153 x25_2).f4) _ _ ((zAF y153 x25_2).f5) false _ ?side1 ?side2 ?side3 ?side4 A19.out).mono ?_); (case side1 => exact Kd.C_below HR151_5.out (by repeat (first | (with_reducible first | exact HB.out | apply zAC | apply zAA | apply zAD | refine zAH ?_ GE152.out | refine zAH ?_ GE158.out) | exact HB.out))); (case side2 => exact HC151_5.out); (case side3 => exact Kd.C_below HR157_5.out (by repeat (first | (with_reducible first | exact HB.out | apply zAC | apply zAA | apply zAD | refine zAH ?_ GE152.out | refine zAH ?_ GE158.out) | exact HB.out))); (case side4 => exact HC157_5.out); rintro e w40 ⟨rfl, hb⟩; refine ⟨_, rfl, ?_⟩; have n0_ := Aside0.mk (Kd.S_below (by (with_reducible repeat (first | apply Kd.S_alloc | apply Kd.S_drewN | apply Kd.S_drew)); exact (Kd.S_mono (Kd.S_far (p := ⟨gb158, 5, none⟩) (Kd.S_far (p := ⟨gb158, 4, none⟩) (Kd.S_far (p := ⟨gb158, 3, none⟩) (Kd.S_far (p := ⟨gb158, 2, none⟩) (Kd.S_far (p := ⟨gb158, 1, none⟩) (Kd.S_far (p := ⟨gb158, 0, none⟩) (Kd.S_types HO_3.out BK158.out (by decide)) (fun _ hk => hk.2) (.int .i64 ((zAF y153 x25_2).f0))) (fun _ hk => hk.2) (.int .i64 ((zAF y153 x25_2).f1))) (fun _ hk => hk.2) (.int .i64 ((zAF y153 x25_2).f2))) (fun _ hk => hk.2) (.int .i64 ((zAF y153 x25_2).f3))) (fun _ hk => hk.2) (.int .i64 ((zAF y153 x25_2).f4))) (fun _ hk => hk.2) (.slice A157_5 ((zAF y153 x25_2).f5).length c157_5)) (fun _ h_ => h_.1))) hb); have n1_ := Aside0.mk (zAP (g := gb152) (o := .cells #[.int .i64 ((zAF l0 x16_1).f0), .int .i64 ((zAF l0 x16_1).f1), .int .i64 ((zAF l0 x16_1).f2), .int .i64 ((zAF l0 x16_1).f3), .int .i64 ((zAF l0 x16_1).f4), .slice A151_5 ((zAF l0 x16_1).f5).length c151_5] 37 (0, 0)) (by (with_reducible repeat (first | refine zAI ?_ _ | refine zAJ ?_ | refine zAG ?_ _)); refine zAS ?_ NB152_158.out _; (with_reducible repeat (first | refine zAI ?_ _ | refine zAJ ?_ | refine zAG ?_ _)); refine zAS ?_ NB152_158.out _; (with_reducible repeat (first | refine zAI ?_ _ | refine zAJ ?_ | refine zAG ?_ _)); refine zAS ?_ NB152_158.out _; (with_reducible repeat (first | refine zAI ?_ _ | refine zAJ ?_ | refine zAG ?_ _)); refine zAS ?_ NB152_158.out _; (with_reducible repeat (first | refine zAI ?_ _ | refine zAJ ?_ | refine zAG ?_ _)); refine zAS ?_ NB152_158.out _; (with_reducible repeat (first | refine zAI ?_ _ | refine zAJ ?_ | refine zAG ?_ _)); refine zAS ?_ NB152_158.out _; (with_reducible repeat (first | refine zAI ?_ _ | refine zAJ ?_ | refine zAG ?_ _)); exact BK152.out) hb); have n2_ := Aside0.mk (zAP (g := gb158) (o := .cells #[.int .i64 ((zAF y153 x25_2).f0), .int .i64 ((zAF y153 x25_2).f1), .int .i64 ((zAF y153 x25_2).f2), .int .i64 ((zAF y153 x25_2).f3), .int .i64 ((zAF y153 x25_2).f4), .slice A157_5 ((zAF y153 x25_2).f5).length c157_5] 37 (0, 0)) (by (with_reducible repeat (first | refine zAI ?_ _ | refine zAJ ?_ | refine zAG ?_ _)); refine zAR (cs := #[.int .i64 ((zAF y153 x25_2).f0), .int .i64 ((zAF y153 x25_2).f1), .int .i64 ((zAF y153 x25_2).f2), .int .i64 ((zAF y153 x25_2).f3), .int .i64 ((zAF y153 x25_2).f4), .slice none 0 0]) ?_ 5 _ rfl; (with_reducible repeat (first | refine zAI ?_ _ | refine zAJ ?_ | refine zAG ?_ _)); refine zAR (cs := #[.int .i64 ((zAF y153 x25_2).f0), .int .i64 ((zAF y153 x25_2).f1), .int .i64 ((zAF y153 x25_2).f2), .int .i64 ((zAF y153 x25_2).f3), .int .i64 0, .slice none 0 0]) ?_ 4 _ rfl; (with_reducible repeat (first | refine zAI ?_ _ | refine zAJ ?_ | refine zAG ?_ _)); refine zAR (cs := #[.int .i64 ((zAF y153 x25_2).f0), .int .i64 ((zAF y153 x25_2).f1), .int .i64 ((zAF y153 x25_2).f2), .int .i64 0, .int .i64 0, .slice none 0 0]) ?_ 3 _ rfl; (with_reducible repeat (first | refine zAI ?_ _ | refine zAJ ?_ | refine zAG ?_ _)); refine zAR (cs := #[.int .i64 ((zAF y153 x25_2).f0), .int .i64 ((zAF y153 x25_2).f1), .int .i64 0, .int .i64 0, .int .i64 0, .slice none 0 0]) ?_ 2 _ rfl; (with_reducible repeat (first | refine zAI ?_ _ | refine zAJ ?_ | refine zAG ?_ _)); refine zAR (cs := #[.int .i64 ((zAF y153 x25_2).f0), .int .i64 0, .int .i64 0, .int .i64 0, .int .i64 0, .slice none 0 0]) ?_ 1 _ rfl; (with_reducible repeat (first | refine zAI ?_ _ | refine zAJ ?_ | refine zAG ?_ _)); refine zAR (cs := #[.int .i64 0, .int .i64 0, .int .i64 0, .int .i64 0, .int .i64 0, .slice none 0 0]) ?_ 0 _ rfl; (with_reducible repeat (first | refine zAI ?_ _ | refine zAJ ?_ | refine zAG ?_ _)); exact BK158.out) hb); have n3_ := Aside0.mk (zAL (by repeat (first | (with_reducible first | exact HB.out | apply zAC | apply zAA | apply zAD | refine zAH ?_ GE152.out | refine zAH ?_ GE158.out) | exact HB.out)) hb); clear HO_3; clear BK152; clear BK158; clear HB; have HO_3 := n0_; have BK152 := n1_; have BK158 := n2_; have HB := n3_; clear n0_ n1_ n2_ n3_; (try clear hb); (try clear hb2); (try clear hk); (try clear hi)))
                go_roundg k2
                case measure => have := HK1.out; have := HK2.out; omega
                case rel => exact ⟨(x3_2), (wrap64 (x25_2 + 1)), (by first | rfl | (simp; done) | (simp [*]; done)), H', ⟨by have := HK1.out; have := HK2.out; omega⟩, ⟨by (with_reducible repeat (first | apply Kd.S_alloc | apply Kd.S_drewN | apply Kd.S_drew)); exact HO_3.out⟩, ⟨by (with_reducible repeat (first | refine zAI ?_ _ | refine zAJ ?_ | refine zAG ?_ _)); exact BK152.out⟩, ⟨by repeat (first | (with_reducible first | exact HB.out | apply zAC | apply zAA | apply zAD | refine zAH ?_ GE152.out | refine zAH ?_ GE158.out) | exact HB.out)⟩⟩
              ·rw [if_neg c18] at H
               exact absurd H (by simp)
             ·rw [if_neg c17] at H
              exact absurd H (by simp)
            ·rw [if_neg c16] at H
             have c16b0 : decide (x25_2 < (y153.length : Int)) = false := decide_eq_false c16
             clear c16
             have H' := Aside0.mk H
             clear H
             go_wp2
             go_roundg k2
             case measure => have := HK1.out; have := HK2.out; omega
             case rel => exact ⟨(x3_2), (wrap64 (x16_1 + 1)), (by first | rfl | (simp; done) | (simp [*]; done)), H', ⟨by have := HK1.out; have := HK2.out; omega⟩, ⟨by (with_reducible repeat (first | apply Kd.S_alloc | apply Kd.S_drewN | apply Kd.S_drew)); exact HO_3.out⟩, ⟨by repeat (first | (with_reducible first | exact HB.out | apply zAC | apply zAA | apply zAD | refine zAH ?_ GE152.out) | exact HB.out)⟩⟩
         ·rw [if_neg c11] at H
          exact absurd H (by simp)
        ·rw [if_neg c9] at H
         exact absurd H (by simp)
       ·rw [if_neg c8] at H
        exact absurd H (by simp)
      ·rw [if_neg c7] at H
       have c7b0 : decide (x16_1 < (l0.length : Int)) = false := decide_eq_false c7
       clear c7
       obtain rfl := Option.some.inj H
       go_wp2
       go_ret
       exact ⟨_, by first | rfl | (simp [zAO, zAN] <;> rfl) | (simp [*, zAO, zAN] <;> rfl), by (with_reducible repeat (first | apply Kd.S_alloc | apply Kd.S_drewN | apply Kd.S_drew)); exact HO_3.out, by repeat (first | (with_reducible first | exact HB.out | apply zAC | apply zAA | apply zAD) | exact HB.out)⟩
   ·rw [if_neg c4] at H
    exact absurd H (by simp)
  ·rw [if_neg c3] at H
   exact absurd H (by simp)
end Go.Proofs.Ytphmlkbmnmicpaa.A
namespace Go.Proofs.Ytphmlkbmnmicpaa.A
open Go.RowKit Go.Proofs.YtphmlkbmnmicpaaW.PrintWords Go.Proofs.YtphmlkbmnmicpaaW.PrintLast
theorem index_ev (xs : List Int) (x : Int) (hb : xs.length ≤ 9223372036854775806) : ∀ (d k i : Nat), i ≤ xs.length → xs.length - i = d → d < k → (∀ j, j < i → xs.getD j 0 ≠ x) →
  ∃ r, slices_Index_int_int.l0 k xs x (xs.length : Int) (i : Int) = some r ∧ decide (r ≥ 0) = decide (x ∈ xs) := by
 intro d
 induction d with
 | zero =>
  intro k i hi hd hk hj
  obtain ⟨k, rfl⟩ : ∃ m, k = m + 1 := ⟨k - 1, by omega⟩
  refine ⟨-1, by simp only [slices_Index_int_int.l0]; rw [if_neg (by omega)], ?_⟩
  have : x ∉ xs := by
   intro hm
   obtain ⟨j, hj2, e⟩ := List.getElem_of_mem hm
   exact hj j (by omega) (by simp [List.getD_eq_getElem?_getD, hj2, e])
  simp [this]
 | succ d ih =>
  intro k i hi hd hk hj
  obtain ⟨k, rfl⟩ : ∃ m, k = m + 1 := ⟨k - 1, by omega⟩
  have hlt : i < xs.length := by omega
  by_cases e : x = rd xs (i : Int)
  ·refine ⟨(i : Int), ?_, ?_⟩
   ·simp only [slices_Index_int_int.l0]
    rw [if_pos (by omega), if_pos (by omega), if_pos (by omega), if_pos e]
   ·have hm : x ∈ xs := by
     rw [e]; unfold rd
     simp only [Int.toNat_natCast, List.getD_eq_getElem?_getD, List.getElem?_eq_getElem hlt, Option.getD_some]
     exact List.getElem_mem hlt
    simp [hm]
  ·obtain ⟨r, h1, h2⟩ := ih k (i + 1) (by omega) (by omega) (by omega) (fun j hj2 => by
    by_cases hji : j = i
    ·subst hji; intro h; apply e; rw [← h]; simp [rd]
    ·exact hj j (by omega))
   refine ⟨r, ?_, h2⟩
   simp only [slices_Index_int_int.l0]
   rw [if_pos (by omega), if_pos (by omega), if_pos (by omega), if_neg e, show wrap64 ((i : Int) + 1) = ((i + 1 : Nat) : Int) from by unfold wrap64; omega]
   exact h1
theorem contains_ev (xs : List Int) (x : Int) (hb : xs.length ≤ 9223372036854775806) (k : Nat) (hk : xs.length < k) : slices_Contains_int_int.f k xs x = some (decide (x ∈ xs)) := by
 obtain ⟨r, h1, h2⟩ := index_ev xs x hb xs.length k 0 (Nat.zero_le _) rfl hk (fun j hj => absurd hj (Nat.not_lt_zero _))
 unfold slices_Contains_int_int.f slices_Index_int_int.f
 rw [show ((0 : Nat) : Int) = 0 from rfl] at h1
 rw [h1]
 simp only [Option.bind_some, h2]
def zBS (kind : Int) : Bool × Bool × Bool × Bool × Bool :=
 if kind = 1 ∨ kind = 6 ∨ kind = 7 then (true, false, false, true, true) else if kind = 2 then (true, true, true, true, true) else if kind = 3 then (true, true, false, false, true) else
 if kind = 4 then (true, true, false, true, true) else if kind = 5 then (false, true, true, true, true) else if kind = 8 then (true, false, false, false, true) else
 if kind = 9 then (false, true, false, false, true) else (false, false, false, false, false)
def zBM (x : S37) : Int := if (zBS x.f0).1 then x.f1 else 0
def pureOf (x : S37) : Bool := decide (x.f0 = 1) || decide (x.f0 = 3) || (decide (x.f0 = 2) && !(decide (x.f4 ∈ [4, 5, 9, 10])))
def usesOf (x : S37) : List Int :=
 (if (zBS x.f0).2.1 then [x.f2] else []) ++ (if (zBS x.f0).2.2.1 then [x.f3] else []) ++ (if x.f0 = 7 then x.f5 else [])
def zCF (x : S37) (r : Int) : Bool := decide (r ≠ 0) && decide (r ∈ usesOf x)
def afterOf (b a : S37) : Bool := (!(pureOf a) && !(pureOf b)) || (decide (zBM a ≠ 0) && decide (zBM a = zBM b)) || zCF b (zBM a) || zCF a (zBM b)
theorem shapeOf_ev (kind : Int) (k : Nat) (hk : 1 ≤ k) : code_shapeOf.f k kind = some (zBS kind) := by
 obtain ⟨k, rfl⟩ : ∃ m, k = m + 1 := ⟨k - 1, by omega⟩
 unfold code_shapeOf.f zBS
 by_cases h1 : kind = 1
 ·subst h1; rfl
 by_cases h6 : kind = 6
 ·subst h6; rfl
 by_cases h7 : kind = 7
 ·subst h7; rfl
 have hb : (kind == 7) = false := by simpa using h7
 rw [if_neg h1, if_neg h6, hb]
 simp only [code_shapeOf.j0]
 by_cases h2 : kind = 2
 ·subst h2; rfl
 by_cases h3 : kind = 3
 ·subst h3; rfl
 by_cases h4 : kind = 4
 ·subst h4; rfl
 by_cases h5 : kind = 5
 ·subst h5; rfl
 by_cases h8 : kind = 8
 ·subst h8; rfl
 by_cases h9 : kind = 9
 ·subst h9; rfl
 simp [h1, h2, h3, h4, h5, h6, h7, h8, h9]
theorem sets_ev (x : S37) (k : Nat) (hk : 1 ≤ k) : code_Sets.f k x.f0 x.f1 x.f2 x.f3 x.f4 x.f5 = some (zBM x) := by
 unfold code_Sets.f zBM
 rw [shapeOf_ev _ _ hk]
 simp only [Option.bind_some]
 split <;> rfl
theorem pure_ev (x : S37) (k : Nat) (hk : 6 ≤ k) : code_Pure.f k x.f0 x.f1 x.f2 x.f3 x.f4 x.f5 = some (pureOf x) := by
 obtain ⟨k, rfl⟩ : ∃ m, k = m + 1 := ⟨k - 1, by omega⟩
 unfold code_Pure.f pureOf
 by_cases h1 : x.f0 = 1
 ·rw [if_pos h1]
  simp only [code_Pure.j0]
  rw [if_pos (by simp [h1])]
  simp [h1]
 ·rw [if_neg h1]
  simp only [code_Pure.j0]
  by_cases h3 : x.f0 = 3
  ·rw [if_pos (by simp [h3])]
   simp [h3]
  ·rw [if_neg (by simp [h3])]
   by_cases h2 : x.f0 = 2
   ·rw [if_pos h2, contains_ev _ _ (by simp) _ (by simp; omega)]
    simp [h2]
   ·rw [if_neg h2]
    simp [h1, h2, h3]
theorem uses_ev (x : S37) (hx : x.f5.length ≤ 1000) (k : Nat) (hk : 4 ≤ k) : code_Uses.f k x.f0 x.f1 x.f2 x.f3 x.f4 x.f5 = some (usesOf x) := by
 obtain ⟨k, rfl⟩ : ∃ m, k = m + 3 := ⟨k - 3, by omega⟩
 unfold code_Uses.f usesOf
 rw [shapeOf_ev _ _ (by omega)]
 simp only [Option.bind_some]
 have hs : zBS x.f0 = ((zBS x.f0).1, (zBS x.f0).2.1, (zBS x.f0).2.2.1, (zBS x.f0).2.2.2.1, (zBS x.f0).2.2.2.2) := rfl
 have hi : (zBS x.f0).2.2.2.2 = false → (zBS x.f0).2.1 = false ∧ (zBS x.f0).2.2.1 = false := by
  unfold zBS
  repeat' (split <;> try simp)
 generalize (zBS x.f0).2.2.2.2 = b4 at *
 generalize (zBS x.f0).2.2.2.1 = b3 at *
 generalize (zBS x.f0).2.2.1 = b2 at *
 generalize (zBS x.f0).2.1 = b1 at *
 clear hs
 cases b4
 ·obtain ⟨rfl, rfl⟩ := hi rfl
  simp only [code_Uses.j0, code_Uses.j1, code_Uses.j2, Bool.false_eq_true, if_false]
  by_cases h7 : x.f0 = 7
  ·rw [if_pos h7, if_pos (by simp; omega), if_pos h7]; simp
  ·rw [if_neg h7, if_neg h7]; simp
 ·cases b1 <;> cases b2 <;> simp only [code_Uses.j0, code_Uses.j1, code_Uses.j2, Bool.false_eq_true, if_false, if_true, Option.bind_some] <;> by_cases h7 : x.f0 = 7 <;> simp [h7] <;> omega
theorem usesOf_length (x : S37) : (usesOf x).length ≤ x.f5.length + 2 := by
 unfold usesOf
 simp only [List.length_append]
 repeat' split
 all_goals simp <;> omega
theorem reads_ev (x : S37) (hx : x.f5.length ≤ 1000) (r : Int) (k : Nat) (hk : 1010 ≤ k) : sched_reads.f k x.f0 x.f1 x.f2 x.f3 x.f4 x.f5 r = some (zCF x r) := by
 have hu := usesOf_length x
 unfold sched_reads.f zCF
 by_cases h0 : r = 0
 ·rw [if_pos h0]; simp [h0]
 ·rw [if_neg h0, uses_ev x hx k (by omega)]
  simp only [Option.bind_some]
  rw [contains_ev _ _ (by omega) k (by omega)]
  simp [h0]
theorem after_ev (b a : S37) (hb : b.f5.length ≤ 1000) (ha : a.f5.length ≤ 1000) (k : Nat) (hk : 1012 ≤ k) : sched_after.f k b.f0 b.f1 b.f2 b.f3 b.f4 b.f5 a.f0 a.f1 a.f2 a.f3 a.f4 a.f5 = some (afterOf b a) := by
 unfold sched_after.f afterOf
 rw [sets_ev a k (by omega), sets_ev b k (by omega), pure_ev a k (by omega), pure_ev b k (by omega)]
 simp only [Option.bind_some]
 obtain ⟨k, rfl⟩ : ∃ m, k = m + 2 := ⟨k - 2, by omega⟩
 generalize pureOf a = pa
 generalize pureOf b = pb
 have tail : ∀ (x20 : Bool), sched_after.j1 (k + 1) (zBM a) (zBM b) x20 b.f0 b.f1 b.f2 b.f3 b.f4 b.f5 a.f0 a.f1 a.f2 a.f3 a.f4 a.f5 = some (x20 || zCF b (zBM a) || zCF a (zBM b)) := by
  intro x20
  simp only [sched_after.j1]
  cases x20
  ·rw [if_neg (by simp), reads_ev b hb _ k (by omega)]
   simp only [Option.bind_some]
   cases zCF b (zBM a)
   ·rw [if_neg (by simp), reads_ev a ha _ k (by omega)]; simp
   ·rw [if_pos rfl]; simp
  ·rw [if_pos rfl]; simp
 have mid : ∀ (x11 : Bool), sched_after.j0 (k + 2) (zBM a) (zBM b) x11 b.f0 b.f1 b.f2 b.f3 b.f4 b.f5 a.f0 a.f1 a.f2 a.f3 a.f4 a.f5 = some (x11 || (decide (zBM a ≠ 0) && decide (zBM a = zBM b)) || zCF b (zBM a) || zCF a (zBM b)) := by
  intro x11
  simp only [sched_after.j0]
  cases x11
  ·rw [if_neg (by simp)]
   by_cases h0 : zBM a = 0
   ·rw [if_pos h0, tail]; simp [h0]
   ·rw [if_neg h0, tail, show (zBM a == zBM b) = decide (zBM a = zBM b) from rfl]; simp [h0]
  ·rw [if_pos rfl]; simp
 cases pa
 ·rw [if_neg (by simp), mid]; simp
 ·rw [if_pos rfl, mid]; simp
def mkL {α : Type} (n : Nat) (f : Nat → α) : List α := (List.range n).map f
theorem mkL_length {α : Type} (n : Nat) (f : Nat → α) : (mkL n f).length = n := by simp [mkL]
theorem mkL_set {α : Type} (n : Nat) (f : Nat → α) (i : Nat) (v : α) : (mkL n f).set i v = mkL n (fun m => if m = i then v else f m) := by
 apply List.ext_getElem
 ·simp [mkL]
 ·intro m h1 h2
  simp only [mkL, List.getElem_set, List.getElem_map, List.getElem_range]
  by_cases h : m = i
  ·subst h; simp
  ·simp [h, Ne.symm h]
theorem mkL_get {α : Type} (n : Nat) (f : Nat → α) (i : Nat) (hi : i < n) (z : α) : (mkL n f).getD i z = f i := by simp [mkL, hi, List.getD_eq_getElem?_getD]
theorem mkL_congr {α : Type} (n : Nat) (f g : Nat → α) (h : ∀ i, i < n → f i = g i) : mkL n f = mkL n g := by
 unfold mkL
 exact List.map_congr_left (fun i hi => h i (List.mem_range.1 hi))
def zBR (l : List S37) (i j : Nat) : List Int := ((List.range j).filter fun k => afterOf (l.getD i z37) (l.getD k z37)).map fun k : Nat => (k : Int)
def zAX (l : List S37) : List (List Int) := mkL l.length fun i => zBR l i i
theorem partOf_succ (l : List S37) (i j : Nat) : zBR l i (j + 1) = if afterOf (l.getD i z37) (l.getD j z37) then zBR l i j ++ [(j : Int)] else zBR l i j := by
 unfold zBR
 rw [List.range_succ, List.filter_append, List.map_append]
 by_cases h : afterOf (l.getD i z37) (l.getD j z37) = true
 ·rw [if_pos h, List.filter_cons, if_pos h]; rfl
 ·rw [if_neg h, List.filter_cons, if_neg h]; simp
theorem zBQ (l : List S37) (i j : Nat) : (zBR l i j).length ≤ j := by
 unfold zBR
 rw [List.length_map]
 exact Nat.le_trans (List.length_filter_le _ _) (by simp)
theorem deps_inner (l : List S37) (hl : l.length ≤ 4096) (hs : ∀ x ∈ l, x.f5.length ≤ 1000) (i : Nat) (hi : i < l.length) (base : Nat → List Int) (r : List (List Int))
  (hE : Ev (fun k => sched_Deps.l0 k l (mkL l.length fun m => if m = i then zBR l i i else base m) l (l.length : Int) ((i + 1 : Nat) : Int)) r) :
  ∀ (d j : Nat), j ≤ i → i - j = d → Ev (fun k => sched_Deps.l1 k l (mkL l.length fun m => if m = i then zBR l i j else base m) (i : Int) l (l.length : Int) (i : Int) (l.take i) (i : Int) (j : Int)
   (l.getD i z37).f0 (l.getD i z37).f1 (l.getD i z37).f2 (l.getD i z37).f3 (l.getD i z37).f4 (l.getD i z37).f5) r := by
 intro d
 induction d with
 | zero =>
  intro j hj hd
  obtain rfl : j = i := by omega
  obtain ⟨K, hK⟩ := hE
  refine ⟨K + 1, fun k hk => ?_⟩
  obtain ⟨k, rfl⟩ : ∃ m, k = m + 1 := ⟨k - 1, by omega⟩
  simp only [sched_Deps.l1]
  rw [if_neg (by omega), show wrap64 ((j : Int) + 1) = ((j + 1 : Nat) : Int) from by unfold wrap64; omega]
  exact hK k (by omega)
 | succ d ih =>
  intro j hj hd
  obtain ⟨K, hK⟩ := ih (j + 1) (by omega) (by omega)
  refine ⟨max K 1012 + 1, fun k hk => ?_⟩
  obtain ⟨k, rfl⟩ : ∃ m, k = m + 1 := ⟨k - 1, by omega⟩
  have hm : ∀ m, m < l.length → (l.getD m z37).f5.length ≤ 1000 := fun m hm => hs _ (by rw [List.getD_eq_getElem?_getD, List.getElem?_eq_getElem hm]; exact List.getElem_mem hm)
  have hrd : zAF (l.take i) (j : Int) = l.getD j z37 := by
   unfold zAF
   simp only [Int.toNat_natCast, List.getD_eq_getElem?_getD, List.getElem?_take]
   rw [if_pos (by omega)]
  have hK' := hK k (by omega)
  rw [partOf_succ] at hK'
  simp only [sched_Deps.l1]
  rw [if_pos (by omega), if_pos (by omega), if_pos (by rw [List.length_take]; omega), hrd, after_ev _ _ (hm i hi) (hm j (by omega)) k (by omega)]
  simp only [Option.bind_some]
  cases ha : afterOf (l.getD i z37) (l.getD j z37) with
  | false =>
   rw [if_neg (by simp), show wrap64 ((j : Int) + 1) = ((j + 1 : Nat) : Int) from by unfold wrap64; omega]
   rw [ha] at hK'
   simpa using hK'
  | true =>
   rw [ha] at hK'
   have hg : rd_L1 (mkL l.length fun m => if m = i then zBR l i j else base m) (i : Int) = zBR l i j := by
    unfold rd_L1
    rw [Int.toNat_natCast, mkL_get _ _ _ hi]
    simp
   have hpl := zBQ l i j
   rw [if_pos rfl, if_pos (by omega), if_pos (by rw [mkL_length]; omega), hg, if_pos (by omega), show wrap64 ((j : Int) + 1) = ((j + 1 : Nat) : Int) from by unfold wrap64; omega, Int.toNat_natCast, mkL_set]
   rw [show (fun m => if m = i then zBR l i j ++ [(j : Int)] else if m = i then zBR l i j else base m) = (fun m => if m = i then (if true then zBR l i j ++ [(j : Int)] else zBR l i j) else base m) from by
    funext m; by_cases h : m = i <;> simp [h]]
   exact hK'
theorem deps_outer (l : List S37) (hl : l.length ≤ 4096) (hs : ∀ x ∈ l, x.f5.length ≤ 1000) :
  ∀ (d i : Nat), i ≤ l.length → l.length - i = d → Ev (fun k => sched_Deps.l0 k l (mkL l.length fun m => if m < i then zBR l m m else []) l (l.length : Int) (i : Int)) (zAX l) := by
 intro d
 induction d with
 | zero =>
  intro i hi hd
  obtain rfl : i = l.length := by omega
  refine ⟨1, fun k hk => ?_⟩
  obtain ⟨k, rfl⟩ : ∃ m, k = m + 1 := ⟨k - 1, by omega⟩
  simp only [sched_Deps.l0]
  rw [if_neg (by omega)]
  congr 1
  exact mkL_congr _ _ _ (fun i hi => by rw [if_pos hi])
 | succ d ih =>
  intro i hi hd
  have hlt : i < l.length := by omega
  have h1 := ih (i + 1) (by omega) (by omega)
  have h2 := deps_inner l hl hs i hlt (fun m => if m < i then zBR l m m else []) (zAX l) (by
   refine Ev.congr (fun k => ?_) h1
   congr 1
   refine mkL_congr _ _ _ (fun m hm => ?_)
   by_cases h : m = i
   ·subst h; simp
   ·by_cases h' : m < i
    ·rw [if_neg h, if_pos h', if_pos (by omega)]
    ·rw [if_neg h, if_neg h', if_neg (by omega)]) i 0 (Nat.zero_le _) rfl
  obtain ⟨K, hK⟩ := h2
  refine ⟨K + 1, fun k hk => ?_⟩
  obtain ⟨k, rfl⟩ : ∃ m, k = m + 1 := ⟨k - 1, by omega⟩
  have hK' := hK k (by omega)
  simp only [sched_Deps.l0]
  rw [if_pos (by omega), if_pos (by omega), if_pos (by omega), if_pos (by omega)]
  simp only [Option.bind_some, Int.toNat_natCast]
  rw [show (((l.take i).length : Nat) : Int) = (i : Int) from by rw [List.length_take]; omega]
  have hrd : zAF l (i : Int) = l.getD i z37 := by unfold zAF; simp
  rw [hrd]
  rw [show (mkL l.length fun m => if m < i then zBR l m m else []) = (mkL l.length fun m => if m = i then zBR l i 0 else if m < i then zBR l m m else []) from mkL_congr _ _ _ (fun m hm => by
   by_cases h : m = i
   ·subst h; simp [zBR]
   ·simp [h])]
  exact hK'
theorem deps_ev (l : List S37) (hl : l.length ≤ 4096) (hs : ∀ x ∈ l, x.f5.length ≤ 1000) : Ev (fun k => sched_Deps.f k l) (zAX l) := by
 obtain ⟨K, hK⟩ := deps_outer l hl hs l.length 0 (Nat.zero_le _) rfl
 refine ⟨K, fun k hk => ?_⟩
 have hK' := hK k hk
 show sched_Deps.f k l = _
 unfold sched_Deps.f
 rw [if_neg (by omega), if_pos (by omega), if_pos (by simp; omega)]
 rw [show (List.replicate ((l.length : Int) : Int).toNat ([] : List Int)) = (mkL l.length fun m => if m < 0 then zBR l m m else []) from by
  apply List.ext_getElem
  ·simp [mkL]
  ·intro i h1 h2; simp [mkL]]
 exact hK'
theorem deps_calls (l : List S37) (hl : l.length ≤ 4096) (hs : ∀ x ∈ l, x.f5.length ≤ 1000) (A : Option Addr) (c : Nat) (w : World) (hr : Kd.C k37 w A l.length l) (hc : l.length ≤ c) :
  Calls Try.prog 17 #[.slice A l.length c] w fun e w' => ∃ v : Value, e = .returned v ∧ Kd.S (Kd.slice 3 (Kd.int .i64)) 23 w' w.heap.size (fun _ => True) v (zAX l) ∧ Below w.heap.size w w' := by
 obtain ⟨k, hk⟩ := (deps_ev l hl hs).rounds
 exact sched_Deps.calls k A c l _ w hr hc hk
theorem zBF (l : List S37) : (zAX l).length = l.length := mkL_length _ _
theorem zBZ (l : List S37) (i : Nat) (hi : i < l.length) : rd_L1 (zAX l) (i : Int) = zBR l i i := by
 unfold rd_L1 zAX
 rw [Int.toNat_natCast, mkL_get _ _ _ hi]
theorem partOf_mem (l : List S37) (i j : Nat) (k : Int) : k ∈ zBR l i j ↔ ∃ m : Nat, k = m ∧ m < j ∧ afterOf (l.getD i z37) (l.getD m z37) = true := by
 unfold zBR
 simp only [List.mem_map, List.mem_filter, List.mem_range]
 constructor
 ·rintro ⟨m, ⟨h1, h2⟩, rfl⟩; exact ⟨m, rfl, h1, h2⟩
 ·rintro ⟨m, rfl, h1, h2⟩; exact ⟨m, ⟨h1, h2⟩, rfl⟩
end Go.Proofs.Ytphmlkbmnmicpaa.A
namespace Go.Proofs.Ytphmlkbmnmicpaa.A
open Go.RowKit Go.Proofs.YtphmlkbmnmicpaaW.PrintWords Go.Proofs.YtphmlkbmnmicpaaW.PrintLast Go.Shelf
theorem info4 : (Try.prog.info? 4).map (fun i => (i.zero, i.size, i.bytes)) = some (some (.bool false), 1, 1) := by kernel_rfl
def ordStep (h : List Int) (d : List (List Int)) (s : List Bool × List Int) : List Bool × List Int :=
 (s.1.set (zBD h (readyB s.1 d) d.length).toNat true, s.2 ++ [zBD h (readyB s.1 d) d.length])
def ordN (h : List Int) (d : List (List Int)) : Nat → List Bool × List Int
 | 0 => (List.replicate d.length false, [])
 | m + 1 => ordStep h d (ordN h d m)
theorem ordN_len (h : List Int) (d : List (List Int)) (m : Nat) : (ordN h d m).1.length = d.length ∧ (ordN h d m).2.length = m := by
 induction m with
 | zero => simp [ordN]
 | succ m ih => simp [ordN, ordStep, ih]
theorem made_bools (n : Nat) : madeCells #[Value.bool false] n = (bools (List.replicate n false)).toArray := by
 apply Array.ext
 ·simp [madeCells, bools]
 ·intro i h1 h2
  simp [madeCells, bools, Nat.mod_one]
theorem bools_set (ps : List Bool) (i : Nat) (v : Bool) : (bools ps).toArray.setIfInBounds i (.bool v) = (bools (ps.set i v)).toArray := by
 simp [bools, List.map_set]
structure LI (w : World) (B0 Bp g Bd : Nat) (A1 Ah : Option Addr) (c1 ch n : Nat) (h : List Int) (d : List (List Int)) (s : List Bool × List Int) (vo : Value) (W : World) : Prop where
 bp : Boxed W Bp 53 (.slice (some ⟨g, 0, none⟩) n n)
 row : W.heap[g]? = some (.cells (bools s.1).toArray 4 (0, 0))
 bd : Boxed W Bd 40 (.slice A1 n c1)
 hD : Kd.R (Kd.slice 3 (Kd.int .i64)) 23 W w.heap.size (fun k => k < B0 ∧ k ≠ g) (.slice A1 n c1) d
 hH : Kd.R (Kd.int .i64) 3 W w.heap.size (fun k => k < B0 ∧ k ≠ g) (.slice Ah n ch) h
 hO : W.ownsRow B0 3 1 vo s.2.length (nums .i64 s.2)
 hB : Below w.heap.size w W
 size : B0 ≤ W.heap.size
 lt : g < B0 ∧ Bp < B0 ∧ Bd < B0 ∧ w.heap.size ≤ g ∧ g ≠ Bp ∧ g ≠ Bd
theorem LI.drewN {w : World} {B0 Bp g Bd : Nat} {A1 Ah : Option Addr} {c1 ch n : Nat} {h : List Int} {d : List (List Int)} {s : List Bool × List Int} {vo : Value} {W : World}
  (L : LI w B0 Bp g Bd A1 Ah c1 ch n h d s vo W) (q : Nat) : LI w B0 Bp g Bd A1 Ah c1 ch n h d s vo (W.drewN q) :=
 ⟨L.bp, L.row, L.bd, Kd.R_drewN L.hD q, Kd.R_drewN L.hH q, pw_own_below L.hO (zAA (Below.refl _ _) q), zAA L.hB q, L.size, L.lt⟩
theorem LI.oi {w : World} {B0 Bp g Bd : Nat} {A1 Ah : Option Addr} {c1 ch n : Nat} {h : List Int} {d : List (List Int)} {s : List Bool × List Int} {vo : Value} {W : World}
  (L : LI w B0 Bp g Bd A1 Ah c1 ch n h d s vo W) (hs : s.1.length = n) : OI Bp g Bd A1 c1 n s.1 d W := by
 obtain ⟨e, _, hc⟩ := Kd.R_reads' L.hD
 exact ⟨hs, e.symm, L.bp, L.row, L.bd, by rw [e]; exact hc⟩
theorem LI.set {w : World} {B0 Bp g Bd : Nat} {A1 Ah : Option Addr} {c1 ch n : Nat} {h : List Int} {d : List (List Int)} {s : List Bool × List Int} {vo : Value} {W : World}
  (L : LI w B0 Bp g Bd A1 Ah c1 ch n h d s vo W) (i : Nat) : LI w B0 Bp g Bd A1 Ah c1 ch n h d (s.1.set i true, s.2) vo (W.setCell ⟨g, i, none⟩ (.bool true)) := by
 obtain ⟨l1, l2, l3, l4, l5, l6⟩ := L.lt
 have hne : some g ≠ vo.ownBlock := own_ne L.hO L.row (by decide)
 refine ⟨zAS L.bp (p := ⟨g, i, none⟩) (Ne.symm l5) _, ?_, zAS L.bd (p := ⟨g, i, none⟩) (Ne.symm l6) _, Kd.R_far L.hD (p := ⟨g, i, none⟩) (fun k hk => hk.2) _, Kd.R_far L.hH (p := ⟨g, i, none⟩) (fun k hk => hk.2) _,
  own_setCell L.hO (p := ⟨g, i, none⟩) hne _, L.hB.setCell (p := ⟨g, i, none⟩) l4 _, by simpa using L.size, L.lt⟩
 have := blk_set L.row i (.bool true)
 rwa [bools_set] at this
theorem LI.grow {w : World} {B0 Bp g Bd : Nat} {A1 Ah : Option Addr} {c1 ch n : Nat} {h : List Int} {d : List (List Int)} {s : List Bool × List Int} {vo : Value} {W : World}
  (L : LI w B0 Bp g Bd A1 Ah c1 ch n h d s vo W) {v1 : Value} {w1 : World} {out : List Int} (hO : w1.ownsRow B0 3 1 v1 out.length (nums .i64 out)) (hg : W.grownBy w1 vo.ownBlock) :
  LI w B0 Bp g Bd A1 Ah c1 ch n h d (s.1, out) v1 w1 := by
 obtain ⟨l1, l2, l3, l4, l5, l6⟩ := L.lt
 have hb := own_base L.hO
 have hne : ∀ k, k < B0 → some k ≠ vo.ownBlock := fun k hk e => by have := hb k e.symm; omega
 exact ⟨zAW L.bp hg (hne _ l2), zAW L.row hg (hne _ l1), zAW L.bd hg (hne _ l3), Kd.R_grown L.hD hg (fun k hk => hne k hk.1), Kd.R_grown L.hH hg (fun k hk => hne k hk.1), hO,
  L.hB.grown hg L.hB.size (fun k e => by have := hb k e; have := L.lt; omega), Nat.le_trans L.size hg.size, L.lt⟩
set_option maxRecDepth 100000 in
set_option maxHeartbeats 2000000 in
theorem order_loop (l : List S37) (hlen : l.length ≤ 4096) (hs : ∀ x ∈ l, x.f5.length ≤ 1000) (A : Option Addr) (c : Nat) (w : World) (hr : Kd.C k37 w A l.length l) (hc : l.length ≤ c)
  (hgood : ∀ m, m < l.length → 0 ≤ zBD (hAll l (zAX l) (down l.length 0)) (readyB (ordN (hAll l (zAX l) (down l.length 0)) (zAX l) m).1 (zAX l)) l.length) :
  Calls Try.prog 22 #[.slice A l.length c] w fun e w' => ∃ v, e = .returned v ∧ Kd.R (Kd.int .i64) 3 w' w.heap.size (fun _ => True) v (ordN (hAll l (zAX l) (down l.length 0)) (zAX l) l.length).2 ∧ Below w.heap.size w w' := by
 have hdl := zBF l
 have hrow : ∀ i, i < l.length → ∀ k ∈ rd_L1 (zAX l) i, 0 ≤ k ∧ k < l.length := by
  intro i hi k hk
  rw [zBZ l i hi, partOf_mem] at hk
  obtain ⟨m, rfl, h1, _⟩ := hk
  omega
 have hha : ∀ (W : World) (A1 : Option Addr) (c1 : Nat), Below w.heap.size w W → Kd.C (Kd.slice 3 (Kd.int .i64)) W A1 l.length (zAX l) → l.length ≤ c1 →
   Calls Try.prog 34 #[.slice A l.length c, .slice A1 l.length c1] W fun e w' => ∃ Ah ch, e = .returned (.slice Ah l.length ch) ∧ Kd.R (Kd.int .i64) 3 w' W.heap.size (fun _ => True) (.slice Ah l.length ch) (hAll l (zAX l) (down l.length 0)) ∧ Below W.heap.size W w' := by
  intro W A1 c1 hb hd hc1
  have := heights_calls l (zAX l) A A1 c c1 W (Kd.C_below hr hb) hc (by rw [hdl]; exact hd) (by rw [hdl]; exact hc1) (by omega) (by omega) (by rw [hdl]; exact hrow)
  rw [hdl] at this
  refine this.mono fun e w' ⟨v, he, hR, hB⟩ => ?_
  obtain ⟨Ah, ch, rfl, _, _⟩ := Kd.R_reads hR
  rw [hAll_length, hdl] at he hR
  exact ⟨Ah, ch, he, hR, hB⟩
 have hdc : Calls Try.prog 17 #[.slice A l.length c] w fun e w' => ∃ A1 c1, e = .returned (.slice A1 l.length c1) ∧ Kd.R (Kd.slice 3 (Kd.int .i64)) 23 w' w.heap.size (fun _ => True) (.slice A1 l.length c1) (zAX l) ∧ Below w.heap.size w w' :=
  (deps_calls l hlen hs A c w hr hc).mono fun e w' ⟨v, he, hS, hB⟩ => by
   obtain ⟨A1, c1, rfl, _, _⟩ := Kd.S_reads hS
   rw [hdl] at he hS
   exact ⟨A1, c1, he, Kd.S_R hS, hB⟩
 have hal := hAll_length l (zAX l) (down l.length 0)
 rw [hdl] at hal
 have hln := ordN_len (hAll l (zAX l) (down l.length 0)) (zAX l)
 have hss : ∀ m, ordN (hAll l (zAX l) (down l.length 0)) (zAX l) (m + 1) = ordStep (hAll l (zAX l) (down l.length 0)) (zAX l) (ordN (hAll l (zAX l) (down l.length 0)) (zAX l) m) := fun m => rfl
 have h00 : ordN (hAll l (zAX l) (down l.length 0)) (zAX l) 0 = (List.replicate l.length false, []) := by simp [ordN, hdl]
 unfold ordStep at hss
 rw [hdl] at hss hln
 generalize ordN (hAll l (zAX l) (down l.length 0)) (zAX l) = S at *
 generalize hAll l (zAX l) (down l.length 0) = h at *
 generalize zAX l = d at *
 have Hss := Aside0.mk hss
 have Hln := Aside0.mk hln
 have H00 := Aside0.mk h00
 have Hgood := Aside0.mk hgood
 have Hrow := Aside0.mk hrow
 have Hdl := Aside0.mk hdl
 have Hal := Aside0.mk hal
 have Hha := Aside0.mk hha
 clear hss hln h00 hgood hrow hdl hal hha
 have hmk := print_make_of (P := Try.prog) 53 4 (.bool false) 1 Try.underlying53 info4 rfl (by decide) l.length (by omega)
 go_enter Try.func22, Try.ntmps22
 go_wp2_with fail
 refine hdc.mono ?_
 rintro e w1 ⟨A1, c1, rfl, hS, hB1⟩
 have hc1 := (Kd.R_reads' hS).2.1
 go_wp2_with fail
 have hbd1 := Boxed.new w1 40 (.slice A1 l.length c1)
 have hS1 := Kd.R_alloc hS (.cells #[.slice A1 l.length c1] 40)
 have hB2 := zAC hB1 (.cells #[.slice A1 l.length c1] 40)
 have hbw := hB1.size
 generalize w1.heap.size = Bd at hbd1 hbw ⊢
 generalize w1.alloc (.cells #[.slice A1 l.length c1] 40) = W2 at hbd1 hS1 hB2 ⊢
 clear hS hB1
 have hC1 := (Kd.R_reads' hS1).2.2
 rw [Hdl.out] at hC1
 refine (Hha.out W2 A1 c1 hB2 hC1 hc1).mono ?_
 rintro e w3 ⟨Ah, ch, rfl, hH, hB3⟩
 have hB4 := zBW hB2 hB2.size hB3
 have hbd3 : Boxed w3 Bd 40 (.slice A1 l.length c1) := (hB3.block _ hbd1.lt).trans hbd1
 have hS3 := Kd.R_below hS1 hB3
 have hbl := hbd3.lt
 have hH3 := Kd.R_lower hH hB2.size
 clear hbd1 hS1 hC1 hH
 have hbc := hbd3.cell
 go_wp2_with fail
 have hL0 : LI w (w3.heap.size + 2) (w3.heap.size + 1) w3.heap.size Bd A1 Ah c1 ch l.length h d (S 0) (.slice none 0 0) ((w3.alloc (.cells (madeCells #[Value.bool false] l.length) 4)).alloc (.cells #[.slice (some ⟨w3.heap.size, 0, none⟩) l.length l.length] 53)) := by
  rw [H00.out]
  have b1 := World.alloc_heap_new w3 (.cells (madeCells #[Value.bool false] l.length) 4)
  have b2 := Boxed.new (w3.alloc (.cells (madeCells #[Value.bool false] l.length) 4)) 53 (.slice (some ⟨w3.heap.size, 0, none⟩) l.length l.length)
  rw [World.size_alloc] at b2
  have hsz := hB4.size
  refine ⟨b2, ?_, (hbd3.alloc _).alloc _, ?_, ?_, own_nil _ _ _ _, zAC (zAC hB4 _) _, by simp, by omega⟩
  ·rw [← made_bools]
   exact zAG b1 _
  ·exact Kd.R_alloc (Kd.R_alloc (Kd.R_mono (Kd.R_bound hS3) (fun k hk => ⟨by omega, by omega⟩)) _) _
  ·exact Kd.R_alloc (Kd.R_alloc (Kd.R_mono (Kd.R_bound hH3) (fun k hk => ⟨by omega, by omega⟩)) _) _
 clear hmk hS3 hH3 hbd3 hbc hB3 hdc hr
 have hL0' := Aside0.mk hL0
 clear hL0
 go_loopw [7, 20] (fun v s wr => ∃ m : Nat, m ≤ l.length ∧ s = .int .i64 m ∧ Aside0 (LI w (w3.heap.size + 2) (w3.heap.size + 1) w3.heap.size Bd A1 Ah c1 ch l.length h d (S m) v wr))
  (fun _ s _ => l.length - (intOf s).toNat)
 case atStart => exact ⟨0, Nat.zero_le _, rfl, hL0'⟩
 case round =>
  clear hL0'
  obtain ⟨m, hm, rfl, hL⟩ := hrel
  by_cases hlt : m < l.length
  ·have hmn : (m : Int) < (l.length : Int) := by omega
   have hbest := best_calls (w3.heap.size + 1) w3.heap.size Bd A1 c1 l.length (S m).1 d wr (hL.out.oi (Hln.out m).1) Hrow.out h Ah ch (by
    have := (Kd.R_reads' hL.out.hH).2.2
    rw [Hal.out] at this
    exact this)
   have hb0 := Hgood.out m hlt
   have hb1 : zBD h (readyB (S m).1 d) l.length < (l.length : Int) := by
    have := (bestUpto_range h (readyB (S m).1 d) l.length).2
    split at this <;> omega
   have hS1 := Aside0.mk (Hss.out m)
   generalize zBD h (readyB (S m).1 d) l.length = b at hbest hb0 hb1 hS1
   have hSl := Aside0.mk (Hln.out m)
   generalize S m = sm at hL hS1 hSl
   go_wp2_with fail
   refine hbest.mono ?_
   rintro e w' ⟨rfl, q, rfl⟩
   have hL1 := hL.out.drewN q
   clear hbest hL
   generalize wr.drewN q = W1 at hL1 ⊢
   have k0 := hL1.bp.cell
   have k1 : W1.cell? ⟨w3.heap.size, b.toNat, none⟩ = some (.bool (sm.1.getD b.toNat false)) := (hL1.oi hSl.out.1).cell b.toNat (by omega)
   have k2 := zAB hL1.row b.toNat
   have hL2 := Aside0.mk (hL1.set b.toNat)
   clear hL1
   have hsz2 := hL2.out.size
   have hln2 := hSl.out.2
   go_wp2_with (at_builtin; refine print_append_num (w0 := W1.setCell ⟨w3.heap.size, b.toNat, none⟩ (.bool true)) (W := W1.setCell ⟨w3.heap.size, b.toNat, none⟩ (.bool true)) (w3.heap.size + 2) rfl (.tmp 28) (.tmp 30) 23 3 .i64 8 rfl Try.underlying23 info3 (by decide) _ sm.2 b rfl (by simp [go_sem]) hL2.out.hO (Below.refl _ _) hsz2 (by omega) ?_; intro v1 w4 hO4 _ hg4 _)
   have hL3 := Aside0.mk (hL2.out.grow hO4 hg4)
   clear hL2 hO4 hg4 k0 k1 k2
   go_roundw
   case rel => exact ⟨m + 1, by omega, by go_num, by rw [hS1.out]; exact hL3⟩
   case measure => simp [intOf]; omega
  ·obtain rfl : m = l.length := by omega
   have hO := hL.out.hO
   have hB := hL.out.hB
   go_wp2_with fail
   go_ret
   exact ⟨_, rfl, Kd.R_of_own (own_weaken hO (by have := hL.out.lt; have := hL.out.hB.size; omega)) (fun _ _ => trivial), hB⟩
end Go.Proofs.Ytphmlkbmnmicpaa.A
namespace Go.Proofs.Ytphmlkbmnmicpaa.A
open Go.RowKit Go.Proofs.YtphmlkbmnmicpaaW.PrintWords Go.Proofs.YtphmlkbmnmicpaaW.PrintLast Go.Shelf
theorem bestUpto_spec (h : List Int) (rdy : Nat → Bool) (n : Nat) :
  (zBD h rdy n = -1 ∧ ∀ i, i < n → rdy i = false) ∨
  ∃ b : Nat, b < n ∧ zBD h rdy n = b ∧ rdy b = true ∧ (∀ i : Nat, i < n → rdy i = true → rd h i ≤ rd h b ∧ (i < b → rd h i < rd h b)) := by
 induction n with
 | zero => exact .inl ⟨by simp [zBD], fun i hi => by omega⟩
 | succ n ih =>
  rw [bestUpto_succ]
  unfold bestStep
  rcases ih with ⟨e, hn⟩ | ⟨b, hb, e, hr, hm⟩
  ·rw [e]
   cases hrn : rdy n
   ·refine .inl ⟨by simp, fun i hi => ?_⟩
    rcases Nat.lt_succ_iff_lt_or_eq.1 hi with h1 | rfl
    ·exact hn i h1
    ·exact hrn
   ·refine .inr ⟨n, by omega, by simp, hrn, fun i hi hi2 => ?_⟩
    rcases Nat.lt_succ_iff_lt_or_eq.1 hi with h1 | rfl
    ·rw [hn i h1] at hi2; cases hi2
    ·exact ⟨Int.le_refl _, fun h => by omega⟩
  ·rw [e]
   by_cases hc : (rdy n && (decide ((b : Int) < 0) || decide (rd h (b : Int) < rd h (n : Int)))) = true
   ·rw [if_pos hc]
    simp only [Bool.and_eq_true, Bool.or_eq_true, decide_eq_true_eq] at hc
    obtain ⟨h1, h2⟩ := hc
    have h3 : rd h (b : Int) < rd h (n : Int) := by
     rcases h2 with h2 | h2
     ·omega
     ·exact h2
    refine .inr ⟨n, by omega, rfl, h1, fun i hi hi2 => ?_⟩
    rcases Nat.lt_succ_iff_lt_or_eq.1 hi with h4 | rfl
    ·have := (hm i h4 hi2).1
     exact ⟨by omega, fun _ => by omega⟩
    ·exact ⟨Int.le_refl _, fun h => by omega⟩
   ·rw [if_neg hc]
    refine .inr ⟨b, by omega, rfl, hr, fun i hi hi2 => ?_⟩
    rcases Nat.lt_succ_iff_lt_or_eq.1 hi with h4 | rfl
    ·exact hm i h4 hi2
    ·simp only [Bool.and_eq_true, Bool.or_eq_true, decide_eq_true_eq, hi2, true_and, not_or] at hc
     exact ⟨by omega, fun h => by omega⟩
theorem least_false (ps : List Bool) (hc : ps.count true < ps.length) : ∃ i, i < ps.length ∧ ps.getD i false = false ∧ ∀ j, j < i → ps.getD j false = true := by
 induction ps with
 | nil => simp at hc
 | cons b ps ih =>
  cases b
  ·exact ⟨0, by simp, by simp, fun j hj => by omega⟩
  ·obtain ⟨i, h1, h2, h3⟩ := ih (by simpa using hc)
   refine ⟨i + 1, by simpa using h1, by simpa using h2, fun j hj => ?_⟩
   rcases j with _ | j
   ·simp
   ·simpa using h3 j (by omega)
theorem count_set_true (ps : List Bool) (i : Nat) (hi : i < ps.length) (h : ps.getD i false = false) : (ps.set i true).count true = ps.count true + 1 := by
 induction ps generalizing i with
 | nil => simp at hi
 | cons b ps ih =>
  rcases i with _ | i
  ·simp only [List.getD_cons_zero] at h
   subst h
   simp
  ·simp only [List.getD_cons_succ] at h
   have := ih i (by simpa using hi) h
   simp only [List.set_cons_succ, List.count_cons, this]
   omega
def Back (d : List (List Int)) : Prop := ∀ i : Nat, i < d.length → ∀ k ∈ rd_L1 d i, ∃ m : Nat, k = (m : Int) ∧ m < i
theorem readyB_iff (ps : List Bool) (d : List (List Int)) (i : Nat) : readyB ps d i = true ↔ ps.getD i false = false ∧ ∀ k ∈ rd_L1 d i, ps.getD k.toNat false = true := by
 unfold readyB
 simp only [Bool.and_eq_true, Bool.not_eq_true', List.any_eq_false, Bool.not_eq_eq_eq_not, Bool.not_true, Bool.not_eq_false]
structure OS (d : List (List Int)) (m : Nat) (s : List Bool × List Int) : Prop where
 l1 : s.1.length = d.length
 l2 : s.2.length = m
 cnt : s.1.count true = m
 mem : ∀ i : Nat, i < d.length → (s.1.getD i false = true ↔ (i : Int) ∈ s.2)
 rng : ∀ k ∈ s.2, ∃ i : Nat, k = (i : Int) ∧ i < d.length
theorem OS.zero (h : List Int) (d : List (List Int)) : OS d 0 (ordN h d 0) := by
 refine ⟨by simp [ordN], by simp [ordN], by simp [ordN, List.count_replicate], fun i hi => ?_, fun k hk => by simp [ordN] at hk⟩
 simp [ordN, List.getD_eq_getElem?_getD, hi]
theorem OS.good {d : List (List Int)} {m : Nat} {s : List Bool × List Int} (hs : OS d m s) (hd : Back d) (hm : m < d.length) : ∃ i : Nat, i < d.length ∧ readyB s.1 d i = true := by
 obtain ⟨i, h1, h2, h3⟩ := least_false s.1 (by rw [hs.cnt, hs.l1]; exact hm)
 rw [hs.l1] at h1
 refine ⟨i, h1, (readyB_iff _ _ _).2 ⟨h2, fun k hk => ?_⟩⟩
 obtain ⟨m, rfl, hmi⟩ := hd i h1 k hk
 exact h3 m hmi
structure Pick (h : List Int) (d : List (List Int)) (o : List Int) (b : Nat) : Prop where
 lt : b < d.length
 new : (b : Int) ∉ o
 row : ∀ k ∈ rd_L1 d b, k ∈ o
 top : ∀ i : Nat, i < d.length → (i : Int) ∉ o → (∀ k ∈ rd_L1 d i, k ∈ o) → rd h i ≤ rd h b ∧ (i < b → rd h i < rd h b)
theorem OS.ready_iff {d : List (List Int)} {m : Nat} {s : List Bool × List Int} (hs : OS d m s) (hd : Back d) (i : Nat) (hi : i < d.length) :
  readyB s.1 d i = true ↔ (i : Int) ∉ s.2 ∧ ∀ k ∈ rd_L1 d i, k ∈ s.2 := by
 rw [readyB_iff]
 have h1 : s.1.getD i false = false ↔ (i : Int) ∉ s.2 := by
  rw [← hs.mem i hi]; simp
 rw [h1]
 constructor
 ·rintro ⟨h2, h3⟩
  refine ⟨h2, fun k hk => ?_⟩
  obtain ⟨m, rfl, hmi⟩ := hd i hi k hk
  exact (hs.mem m (by omega)).1 (h3 _ hk)
 ·rintro ⟨h2, h3⟩
  refine ⟨h2, fun k hk => ?_⟩
  obtain ⟨m, rfl, hmi⟩ := hd i hi k hk
  exact (hs.mem m (by omega)).2 (h3 _ hk)
theorem OS.pick {h : List Int} {d : List (List Int)} {m : Nat} {s : List Bool × List Int} (hs : OS d m s) (hd : Back d) (hm : m < d.length) :
  ∃ b : Nat, zBD h (readyB s.1 d) d.length = b ∧ Pick h d s.2 b := by
 obtain ⟨i, h1, h2⟩ := hs.good hd hm
 rcases bestUpto_spec h (readyB s.1 d) d.length with ⟨_, hn⟩ | ⟨b, hb, e, hr, hmx⟩
 ·rw [hn i h1] at h2; cases h2
 ·obtain ⟨h3, h4⟩ := (hs.ready_iff hd b hb).1 hr
  exact ⟨b, e, hb, h3, h4, fun i hi h5 h6 => hmx i hi ((hs.ready_iff hd i hi).2 ⟨h5, h6⟩)⟩
theorem OS.step {h : List Int} {d : List (List Int)} {m : Nat} {s : List Bool × List Int} (hs : OS d m s) (hd : Back d) (hm : m < d.length) : OS d (m + 1) (ordStep h d s) := by
 obtain ⟨b, e, hp⟩ := hs.pick (h := h) hd hm
 have hb := hp.lt
 have hf : s.1.getD b false = false := by
  have := hp.new
  rw [← hs.mem b hb] at this
  simpa using this
 unfold ordStep
 rw [e]
 refine ⟨by simp [hs.l1], by simp [hs.l2], ?_, fun i hi => ?_, fun k hk => ?_⟩
 ·show (s.1.set b true).count true = m + 1
  rw [count_set_true s.1 b (by rw [hs.l1]; exact hb) hf, hs.cnt]
 ·show (s.1.set b true).getD i false = true ↔ (i : Int) ∈ s.2 ++ [(b : Int)]
  rw [List.mem_append, ← hs.mem i hi, List.mem_singleton]
  have hbl : b < s.1.length := by rw [hs.l1]; exact hb
  by_cases hib : i = b
  ·subst hib
   simp [List.getD_eq_getElem?_getD, hbl]
  ·have : (i : Int) ≠ b := by omega
   simp only [this, or_false, List.getD_eq_getElem?_getD]
   rw [List.getElem?_set_ne (by omega)]
 ·rw [List.mem_append, List.mem_singleton] at hk
  rcases hk with hk | rfl
  ·exact hs.rng k hk
  ·exact ⟨b, rfl, hb⟩
theorem ordN_OS (h : List Int) (d : List (List Int)) (hd : Back d) (m : Nat) (hm : m ≤ d.length) : OS d m (ordN h d m) := by
 induction m with
 | zero => exact OS.zero h d
 | succ m ih => exact (ih (by omega)).step hd (by omega)
theorem ordN_good (h : List Int) (d : List (List Int)) (hd : Back d) (m : Nat) (hm : m < d.length) : 0 ≤ zBD h (readyB (ordN h d m).1 d) d.length := by
 obtain ⟨b, e, _⟩ := (ordN_OS h d hd m (by omega)).pick (h := h) hd hm
 rw [e]; omega
def orderBy (h : List Int) (d : List (List Int)) : List Int := (ordN h d d.length).2
theorem orderBy_length (h : List Int) (d : List (List Int)) (hd : Back d) : (orderBy h d).length = d.length := (ordN_OS h d hd _ (Nat.le_refl _)).l2
theorem orderBy_rng (h : List Int) (d : List (List Int)) (hd : Back d) : ∀ k ∈ orderBy h d, ∃ i : Nat, k = (i : Int) ∧ i < d.length := (ordN_OS h d hd d.length (Nat.le_refl _)).rng
theorem zBU (l : List S37) : Back (zAX l) := by
 intro i hi k hk
 rw [zBF] at hi
 rw [zBZ l i hi, partOf_mem] at hk
 obtain ⟨m, rfl, h1, _⟩ := hk
 exact ⟨m, rfl, h1⟩
def zBJ (l : List S37) : List Int := hAll l (zAX l) (down l.length 0)
def zCG (l : List S37) : List Int := orderBy (zBJ l) (zAX l)
theorem zCB (l : List S37) : (zCG l).length = l.length := (orderBy_length _ _ (zBU l)).trans (zBF l)
theorem order_calls (l : List S37) (hlen : l.length ≤ 4096) (hs : ∀ x ∈ l, x.f5.length ≤ 1000) (A : Option Addr) (c : Nat) (w : World) (hr : Kd.C k37 w A l.length l) (hc : l.length ≤ c) :
  Calls Try.prog 22 #[.slice A l.length c] w fun e w' => ∃ v, e = .returned v ∧ Kd.R (Kd.int .i64) 3 w' w.heap.size (fun _ => True) v (zCG l) ∧ Below w.heap.size w w' := by
 have hl := zBF l
 have := order_loop l hlen hs A c w hr hc (fun m hm => by
  have := ordN_good (zBJ l) (zAX l) (zBU l) m (by omega)
  rw [hl] at this
  exact this)
 unfold zCG orderBy zBJ
 rw [hl]
 exact this
end Go.Proofs.Ytphmlkbmnmicpaa.A
namespace Go.Proofs.Ytphmlkbmnmicpaa.A
open Go.RowKit Go.Proofs.YtphmlkbmnmicpaaW.PrintWords Go.Proofs.YtphmlkbmnmicpaaW.PrintLast Go.Shelf
theorem rd_nat (xs : List Int) (i : Nat) : rd xs (i : Int) = xs.getD i 0 := rfl
theorem rd_set (xs : List Int) (i p : Nat) (v : Int) : rd (xs.set i v) (p : Int) = if p = i ∧ i < xs.length then v else rd xs (p : Int) := by
 rw [rd_nat, rd_nat]
 by_cases h : p = i
 ·subst h
  by_cases hl : p < xs.length
  ·simp [List.getD_eq_getElem?_getD, hl]
  ·simp [List.getD_eq_getElem?_getD, hl]
 ·rw [if_neg (by omega), List.getD_eq_getElem?_getD, List.getD_eq_getElem?_getD, List.getElem?_set_ne (by omega)]
theorem mx2_self (a b : Int) : mx2 (mx2 a b) b = mx2 a b := by
 unfold mx2
 by_cases h : a < b
 ·simp [h]
 ·simp [h]
theorem hRow_get (i : Nat) : ∀ (row : List Int) (out : List Int), (∀ k ∈ row, ∃ m : Nat, k = (m : Int) ∧ m < out.length ∧ m ≠ i) →
  ∀ p : Nat, rd (hRow i out row) (p : Int) = if (p : Int) ∈ row then mx2 (rd out p) (rd out i) else rd out p := by
 intro row
 induction row with
 | nil => intro out h p; simp [hRow]
 | cons k row ih =>
  intro out h p
  obtain ⟨m, rfl, hm, hi⟩ := h _ List.mem_cons_self
  show rd (hRow i (setMax i out m) row) (p : Int) = _
  rw [ih (setMax i out m) (fun k hk => by rw [setMax_length]; exact h k (List.mem_cons_of_mem _ hk)) p]
  have e : ∀ q : Nat, rd (setMax i out (m : Int)) (q : Int) = if q = m then mx2 (rd out m) (rd out i) else rd out q := by
   intro q
   unfold setMax
   rw [Int.toNat_natCast, rd_set]
   by_cases hq : q = m
   ·rw [if_pos ⟨hq, hm⟩, if_pos hq]
   ·rw [if_neg (fun h => hq h.1), if_neg hq]
  rw [e p, e i, if_neg (show ¬ i = m from fun h' => hi h'.symm)]
  by_cases hpm : p = m
  ·subst hpm
   simp only [if_true, List.mem_cons, true_or]
   split
   ·exact mx2_self _ _
   ·rfl
  ·have : (p : Int) ≠ (m : Int) := by omega
   simp only [if_neg hpm, List.mem_cons, this, false_or]
def lt_ (l : List S37) (i : Nat) : Int := latOf (zAF l i)
theorem latOf_range (x : S37) : 1 ≤ latOf x ∧ latOf x ≤ 20 := by
 unfold latOf
 repeat' split
 all_goals omega
structure HJ (l : List S37) (d : List (List Int)) (n j : Nat) (out : List Int) : Prop where
 len : out.length = n
 up : ∀ i : Nat, i < n → 0 ≤ rd out i ∧ rd out i ≤ 20 * ((n : Int) - j)
 lo : ∀ i : Nat, j ≤ i → i < n → lt_ l i ≤ rd out i
 row : ∀ i : Nat, j ≤ i → i < n → ∀ a : Nat, (a : Int) ∈ rd_L1 d i → (if j ≤ a then rd out i + lt_ l a ≤ rd out a else rd out i ≤ rd out a)
 why : ∀ i : Nat, j ≤ i → i < n → rd out i = lt_ l i ∨ ∃ k : Nat, i < k ∧ k < n ∧ (i : Int) ∈ rd_L1 d k ∧ rd out i = rd out k + lt_ l i
 yet : ∀ a : Nat, a < j → rd out a = 0 ∨ ∃ k : Nat, j ≤ k ∧ k < n ∧ (a : Int) ∈ rd_L1 d k ∧ rd out a = rd out k
theorem HJ.step {l : List S37} {d : List (List Int)} {n j : Nat} {out : List Int} (h : HJ l d n (j + 1) out) (hd : Back d) (hdn : d.length = n) (hj : j < n) (hn : n ≤ 4096) : HJ l d n j (hStep l d out j) := by
 have hlat := latOf_range (zAF l j)
 have hu := h.up j hj
 obtain ⟨v, hv⟩ : ∃ v, v = rd out j + lt_ l j := ⟨_, rfl⟩
 have hw : wrap64 (rd out j + latOf (zAF l j)) = v := by
  rw [hv]
  unfold wrap64 lt_; omega
 have hrow : ∀ k ∈ rd_L1 d (j : Int), ∃ m : Nat, k = (m : Int) ∧ m < j := hd j (by omega)
 have e0 : ∀ p : Nat, rd (out.set j v) (p : Int) = if p = j then v else rd out p := by
  intro p
  rw [rd_set]
  by_cases hp : p = j
  ·rw [if_pos ⟨hp, by rw [h.len]; exact hj⟩, if_pos hp]
  ·rw [if_neg (fun h => hp h.1), if_neg hp]
 have e : ∀ p : Nat, rd (hStep l d out j) (p : Int) = if p = j then v else if (p : Int) ∈ rd_L1 d j then mx2 (rd out p) v else rd out p := by
  intro p
  unfold hStep
  rw [hw, hRow_get j _ _ (fun k hk => by
   obtain ⟨m, rfl, hm⟩ := hrow k hk
   exact ⟨m, rfl, by rw [List.length_set, h.len]; omega, by omega⟩) p, e0 p, e0 j, if_pos rfl]
  by_cases hp : p = j
  ·subst hp
   have : ¬ (p : Int) ∈ rd_L1 d (p : Int) := fun hk => by
    obtain ⟨m, h1, h2⟩ := hrow _ hk
    omega
   rw [if_neg this, if_pos rfl, if_pos rfl]
  ·simp only [if_neg hp]
 have ej : rd (hStep l d out j) (j : Int) = v := by rw [e, if_pos rfl]
 have eg : ∀ p : Nat, j < p → rd (hStep l d out j) (p : Int) = rd out p := by
  intro p hp
  have : ¬ (p : Int) ∈ rd_L1 d (j : Int) := fun hk => by
   obtain ⟨m, h1, h2⟩ := hrow _ hk
   omega
  rw [e, if_neg (by omega), if_neg this]
 have em : ∀ p : Nat, (p : Int) ∈ rd_L1 d (j : Int) → rd (hStep l d out j) (p : Int) = mx2 (rd out p) v := by
  intro p hp
  have : p ≠ j := fun hk => by
   obtain ⟨m, h1, h2⟩ := hrow _ hp
   omega
  rw [e, if_neg this, if_pos hp]
 have en : ∀ p : Nat, p < j → ¬ (p : Int) ∈ rd_L1 d (j : Int) → rd (hStep l d out j) (p : Int) = rd out p := by
  intro p hp hq
  rw [e, if_neg (by omega), if_neg hq]
 have ege : ∀ p : Nat, p < j → rd out p ≤ rd (hStep l d out j) (p : Int) := by
  intro p hp
  by_cases hq : (p : Int) ∈ rd_L1 d (j : Int)
  ·rw [em p hq]; unfold mx2; split <;> omega
  ·rw [en p hp hq]; exact Int.le_refl _
 clear e e0
 have hlen : (hStep l d out j).length = n := (hStep_length l d out j).trans h.len
 generalize hStep l d out j = out' at *
 have hlj : lt_ l j = latOf (zAF l j) := rfl
 have hpush : (((j + 1 : Nat) : Int)) = (j : Int) + 1 := by omega
 refine ⟨?_, ?_, ?_, ?_, ?_, ?_⟩
 ·exact hlen
 ·intro i hi
  have := h.up i hi
  rw [hpush] at this hu
  rcases Nat.lt_trichotomy i j with h1 | rfl | h1
  ·by_cases hq : (i : Int) ∈ rd_L1 d (j : Int)
   ·rw [em i hq]; unfold mx2; split <;> omega
   ·rw [en i h1 hq]; omega
  ·rw [ej]; omega
  ·rw [eg i h1]; omega
 ·intro i h1 h2
  rcases Nat.lt_or_eq_of_le h1 with h3 | rfl
  ·rw [eg i h3]; exact h.lo i h3 h2
  ·rw [ej]; omega
 ·intro i h1 h2 a ha
  rcases Nat.lt_or_eq_of_le h1 with h3 | rfl
  ·have := h.row i h3 h2 a ha
   rw [eg i h3]
   by_cases h4 : j + 1 ≤ a
   ·rw [if_pos h4] at this
    rw [if_pos (by omega), eg a h4]; exact this
   ·rw [if_neg h4] at this
    by_cases h5 : j ≤ a
    ·obtain rfl : a = j := by omega
     rw [if_pos h5, ej]; omega
    ·rw [if_neg h5]
     have := ege a (by omega)
     omega
  ·obtain ⟨m, h4, h5⟩ := hrow _ ha
   rw [if_neg (by omega), ej, em a ha]
   unfold mx2; split <;> omega
 ·intro i h1 h2
  rcases Nat.lt_or_eq_of_le h1 with h3 | rfl
  ·rw [eg i h3]
   rcases h.why i h3 h2 with h4 | ⟨k, h4, h5, h6, h7⟩
   ·exact .inl h4
   ·exact .inr ⟨k, h4, h5, h6, by rw [eg k (by omega)]; exact h7⟩
  ·rw [ej]
   rcases h.yet j (by omega) with h4 | ⟨k, h4, h5, h6, h7⟩
   ·exact .inl (by omega)
   ·exact .inr ⟨k, by omega, h5, h6, by rw [eg k (by omega)]; omega⟩
 ·intro a ha
  by_cases hq : (a : Int) ∈ rd_L1 d (j : Int)
  ·rw [em a hq]
   by_cases h1 : rd out a < v
   ·exact .inr ⟨j, Nat.le_refl _, hj, hq, by rw [ej]; unfold mx2; rw [if_pos h1]⟩
   ·have e1 : mx2 (rd out a) v = rd out a := by unfold mx2; rw [if_neg h1]
    rw [e1]
    rcases h.yet a (by omega) with h4 | ⟨k, h4, h5, h6, h7⟩
    ·exact .inl h4
    ·exact .inr ⟨k, by omega, h5, h6, by rw [eg k (by omega)]; exact h7⟩
  ·rw [en a ha hq]
   rcases h.yet a (by omega) with h4 | ⟨k, h4, h5, h6, h7⟩
   ·exact .inl h4
   ·exact .inr ⟨k, by omega, h5, h6, by rw [eg k (by omega)]; exact h7⟩
theorem HJ.all (l : List S37) (d : List (List Int)) (n : Nat) (hd : Back d) (hdn : d.length = n) (hn : n ≤ 4096) : ∀ j, j ≤ n → HJ l d n (n - j) (hAll l d (down n (n - j))) := by
 intro j
 induction j with
 | zero =>
  intro _
  rw [Nat.sub_zero, down_self]
  have e : ∀ i : Nat, rd (hAll l d []) (i : Int) = 0 := by
   intro i
   rw [rd_nat]
   simp only [hAll, List.foldl_nil, List.getD_eq_getElem?_getD, List.getElem?_replicate]
   split <;> rfl
  refine ⟨by simp [hAll, hdn], fun i hi => by rw [e]; omega, fun i h1 h2 => by omega, fun i h1 h2 => by omega, fun i h1 h2 => by omega, fun a ha => .inl (e a)⟩
 | succ j ih =>
  intro hj
  have h1 := ih (by omega)
  have h2 : n - j = (n - (j + 1)) + 1 := by omega
  rw [h2] at h1
  have h3 := h1.step hd hdn (by omega) hn
  rwa [← hAll_snoc, ← down_succ _ _ (by omega)] at h3
structure High (l : List S37) (d : List (List Int)) (h : List Int) : Prop where
 len : h.length = l.length
 up : ∀ i : Nat, i < l.length → rd h i ≤ 20 * (l.length : Int)
 lo : ∀ i : Nat, i < l.length → lt_ l i ≤ rd h i
 row : ∀ i : Nat, i < l.length → ∀ a : Nat, (a : Int) ∈ rd_L1 d i → rd h i + lt_ l a ≤ rd h a
 why : ∀ i : Nat, i < l.length → rd h i = lt_ l i ∨ ∃ k : Nat, i < k ∧ k < l.length ∧ (i : Int) ∈ rd_L1 d k ∧ rd h i = rd h k + lt_ l i
theorem zCC (l : List S37) (hn : l.length ≤ 4096) : High l (zAX l) (zBJ l) := by
 have h := HJ.all l (zAX l) l.length (zBU l) (zBF l) hn l.length (Nat.le_refl _)
 rw [Nat.sub_self] at h
 refine ⟨h.len, fun i hi => by have := (h.up i hi).2; unfold zBJ; omega, fun i hi => h.lo i (Nat.zero_le _) hi, fun i hi a ha => ?_, fun i hi => h.why i (Nat.zero_le _) hi⟩
 have := h.row i (Nat.zero_le _) hi a ha
 rwa [if_pos (Nat.zero_le _)] at this
end Go.Proofs.Ytphmlkbmnmicpaa.A
namespace Go.Proofs.Ytphmlkbmnmicpaa.A
open Go.RowKit Go.Proofs.YtphmlkbmnmicpaaW.PrintWords Go.Proofs.YtphmlkbmnmicpaaW.PrintLast Go.Proofs.YtphmlkbmnmicpaaW.PrintMore
attribute [local go_sem] max2_int zBH max_two zBL zBB zBA zBI zBG   -- for this text's walks alone
mutual
def sched_Cost.l0 : Nat → List (S37) → List Int → Int → Int → List (List Int) → Int → Int → Option (Int)
 | 0, _, _, _, _, _, _, _ => none
 | k + 1, x0, x4, x5, x6, x16, x17, x18 => if x18 < x17 then (if 0 ≤ x18 then (if x18 < (x16.length : Int) then (sched_Cost.l1 k x0 x4 x5 x6 x18 x16 x17 x18 (rd_L1 x16 x18) ((rd_L1 x16 x18).length : Int) 0) else (none)) else (none)) else (some x6)
def sched_Cost.l1 : Nat → List (S37) → List Int → Int → Int → Int → List (List Int) → Int → Int → List Int → Int → Int → Option (Int)
 | 0, _, _, _, _, _, _, _, _, _, _, _ => none
 | k + 1, x0, x4, x5, x6, x7, x16, x17, x18, x23, x24, x25 => if x25 < x24 then (if 0 ≤ x25 then (if x25 < (x23.length : Int) then (if 0 ≤ x7 then (if x7 < (x0.length : Int) then (if 0 ≤ (rd x23 x25) then (if (rd x23 x25) < (x0.length : Int) then ((code_Sets.f k ((zAF x0 (rd x23 x25)).f0) ((zAF x0 (rd x23 x25)).f1) ((zAF x0 (rd x23 x25)).f2) ((zAF x0 (rd x23 x25)).f3) ((zAF x0 (rd x23 x25)).f4) ((zAF x0 (rd x23 x25)).f5)).bind fun t196 => ((sched_reads.f k ((zAF x0 x7).f0) ((zAF x0 x7).f1) ((zAF x0 x7).f2) ((zAF x0 x7).f3) ((zAF x0 x7).f4) ((zAF x0 x7).f5) t196).bind fun t197 => (if t197 = true then (if (rd x23 x25) < (x4.length : Int) then (sched_Cost.l1 k x0 x4 (mx x5 (rd x4 (rd x23 x25))) x6 x7 x16 x17 x18 x23 x24 (wrap64 (x25 + 1))) else (none)) else (sched_Cost.l1 k x0 x4 x5 x6 x7 x16 x17 x18 x23 x24 (wrap64 (x25 + 1)))))) else (none)) else (none)) else (none)) else (none)) else (none)) else (none)) else (if 0 ≤ x7 then (if x7 < (x0.length : Int) then ((sched_Latency.f ((zAF x0 x7).f0) ((zAF x0 x7).f1) ((zAF x0 x7).f2) ((zAF x0 x7).f3) ((zAF x0 x7).f4) ((zAF x0 x7).f5)).bind fun t190 => (if x7 < (x4.length : Int) then ((some (x4.set (x7 : Int).toNat (wrap64 (x5 + t190)) : List Int)).bind fun y191 => (sched_Cost.l0 k x0 y191 (wrap64 (x5 + 1)) (mx x6 (rd y191 x7)) x16 x17 (wrap64 (x18 + 1)))) else (none))) else (none)) else (none))
end
def sched_Cost.f (k : Nat) (l0 : List (S37)) : Option (Int) := (sched_Deps.f k l0).bind fun t182 => (if 0 ≤ (t182.length : Int) then (if ((t182.length : Int) : Int).toNat ≤ 35184372088832 then (sched_Cost.l0 k l0 (List.replicate ((t182.length : Int) : Int).toNat 0) 0 0 t182 (t182.length : Int) 0) else (none)) else (none))
def sched_Cost.T10 : Bool × List (List Nat × List Nat) := (true, [([], []), ([], []), ([0, 1], [0, 1]), ([2], [2]), ([], []), ([], []), ([4, 5], [4, 5]), ([6], [6]), ([7], [7]), ([3, 8, 8], [3, 8])])
def sched_Cost.B10 : List Nat := [0, 0, 3, 7, 0, 0, 48, 112, 240, 511]
theorem sched_Cost.tab10 : rtab .any (opsOf Try.f26 10) = sched_Cost.T10 := by kernel_rfl
theorem sched_Cost.bits10 : waitsOk sched_Cost.T10.2 sched_Cost.B10 = true := by kernel_rfl
set_option maxHeartbeats 8000000 in
set_option maxRecDepth 100000 in
theorem sched_Cost.calls (k : Nat) (A0 : Option Addr) (c0 : Nat) (l0 : List (S37)) (r : Int) (w : World) (hr0 : Kd.C k37 w A0 l0.length l0) (hc0 : l0.length ≤ c0) (h : sched_Cost.f k l0 = some r) :
  Calls Try.prog 26 #[.slice A0 l0.length c0] w fun e w' => e = .returned (.int .i64 r) ∧ Below w.heap.size w w' := by
 have hu37 := Try.underlying37
 have HR0 := Aside0.mk hr0
 have HC0 := Aside0.mk hc0
 clear hr0 hc0
 have HB := Aside0.mk (Below.refl w.heap.size w)
 have H : ((sched_Deps.f k l0).bind fun t182 => (if 0 ≤ (t182.length : Int) then (if ((t182.length : Int) : Int).toNat ≤ 35184372088832 then (sched_Cost.l0 k l0 (List.replicate ((t182.length : Int) : Int).toNat 0) 0 0 t182 (t182.length : Int) 0) else (none)) else (none))) = some r := h
 clear h
 replace H := Option.bind_eq_some_iff.mp H
 obtain ⟨t182, A20, H⟩ := H
 replace H : (if 0 ≤ (t182.length : Int) then (if ((t182.length : Int) : Int).toNat ≤ 35184372088832 then (sched_Cost.l0 k l0 (List.replicate ((t182.length : Int) : Int).toNat 0) 0 0 t182 (t182.length : Int) 0) else (none)) else (none)) = some r := H
 have A2 := Aside0.mk A20
 clear A20
 by_cases c3 : 0 ≤ (t182.length : Int)
 ·rw [if_pos c3] at H
  have c3b0 := eq_true c3
  have c3b1 : decide (0 ≤ (t182.length : Int)) = true := decide_eq_true c3
  clear c3
  by_cases c4 : ((t182.length : Int) : Int).toNat ≤ 35184372088832
  ·rw [if_pos c4] at H
   have c4b0 := eq_true c4
   have c4b1 : decide (((t182.length : Int) : Int).toNat ≤ 35184372088832) = true := decide_eq_true c4
   clear c4
   obtain ⟨y185, hy185⟩ : ∃ y_ : List Int, y_ = (List.replicate ((t182.length : Int) : Int).toNat 0) := ⟨_, rfl⟩
   replace H : (sched_Cost.l0 k l0 y185 0 0 t182 (t182.length : Int) 0) = some r := by first | (rw [hy185]; with_reducible exact H) | (have H2_ := (Option.bind_some _ _).symm.trans H; rw [hy185]; with_reducible exact H2_) | (have H2_ := (Option.bind_some _ _).symm.trans H; with_reducible exact H2_) | with_reducible exact H | (rw [hy185]; exact H) | exact H
   have Ny185 := Aside0.mk hy185
   clear hy185
   have H' := Aside0.mk H
   clear H
   go_enter Try.func26, Try.ntmps26
   go_wp2_with (first | ((with_reducible refine zAV (f := 17) rfl ?_); refine zBO (some 12) rfl rfl Try.func17 (by kernel_rfl) rfl #[.slice A0 l0.length c0] rfl (by (try simp only [List.map_toArray, List.map_cons, List.map_nil]); first | done | rfl | (simp only [List.length_drop, List.length_take]; rfl)) ?_; (with_reducible refine (sched_Deps.calls k _ _ l0 t182 _ ?side1 ?side2 A2.out).mono ?_); (case side1 => repeat (first | exact HR0.out | (with_reducible refine Kd.C_alloc ?_ _) | (with_reducible refine Kd.C_drewN ?_ _) | (with_reducible refine Kd.C_drew ?_))); (case side2 => exact HC0.out); rintro e w5 ⟨v183, rfl, ho0, hb⟩; refine ⟨_, rfl, ?_⟩; have n0_ := Aside0.mk (Kd.S_lower ho0 (zAM (by repeat (first | (with_reducible first | exact HB.out | apply zAC | apply zAA | apply zAD) | exact HB.out)))); have n1_ := Aside0.mk (zAL (by repeat (first | (with_reducible first | exact HB.out | apply zAC | apply zAA | apply zAD) | exact HB.out)) hb); clear HB; have HO184 := n0_; have HB := n1_; clear n0_ n1_; (try clear hb); (try clear hb2); (try clear hk); (try clear hi); (try clear ho0); obtain ⟨Ao6, co6, eo6⟩ := Kd.S_slice HO184.out; subst eo6) | ((with_reducible refine zAU (N := 15) rfl ?_); refine Kd.R_make (Kd.int .i64) _ 3 rfl (N := 15) rfl 23 _ _ rfl (t182.length : Int) rfl rfl Try.underlying23 (.int .i64 0) 8 info3 rfl (by decide) (by omega) 0 (ok := fun _ => True) (okp := fun _ => True) rfl (fun _ hk => hk) trivial (of_decide_eq_true (by first | (with_reducible assumption) | assumption)) (Nat.le_trans (Nat.mul_le_mul_right _ (of_decide_eq_true (by first | (with_reducible assumption) | assumption) : (t182.length : Int).toNat ≤ 35184372088832)) (by omega)) (Below.refl _ _) (Nat.le_refl _) ?_; intro v186 w7 ho8 hb hg_ hnew_; clear hg_ hnew_; (first | rw [← Ny185.out] at ho8 | (simp only [Int.reduceToNat] at ho8; rw [← Ny185.out] at ho8)); have n0_ := Aside0.mk (Kd.S_elder' (by (with_reducible repeat (first | apply Kd.S_alloc | apply Kd.S_drewN | apply Kd.S_drew)); exact HO184.out) (Kd.R_base ho8) hb); have n1_ := Aside0.mk (Kd.R_lower ho8 (zAM (by repeat (first | (with_reducible first | exact HB.out | apply zAC | apply zAA | apply zAD) | exact HB.out)))); have n2_ := Aside0.mk (zAL (by repeat (first | (with_reducible first | exact HB.out | apply zAC | apply zAA | apply zAD) | exact HB.out)) hb); clear HO184; clear HB; have HO184 := n0_; have HO187 := n1_; have HB := n2_; clear n0_ n1_ n2_; clear hb ho8))
   go_loopg [5, 6, 18] k (fun kq v5 v6 v18 w' => ∃ (x4_1 : List Int) (x5_1 : Int) (x6_1 : Int) (x18_1 : Int), v5 = .int .i64 x5_1 ∧ v6 = .int .i64 x6_1 ∧ v18 = .int .i64 x18_1 ∧ Aside0 (sched_Cost.l0 kq l0 x4_1 x5_1 x6_1 t182 (t182.length : Int) x18_1 = some r) ∧ Aside0 (kq ≤ k) ∧ Aside0 (Kd.R (Kd.int .i64) 3 w' w.heap.size (fun _ => True) v186 x4_1) ∧ Aside0 (Kd.S (Kd.slice 3 (Kd.int .i64)) 23 w' w.heap.size (fun k_ => some k_ ≠ (v186 : Value).ownBlock) (.slice Ao6 t182.length co6) t182) ∧ Aside0 (Below w.heap.size w w'))
   case atStart => exact ⟨(y185), (0), (0), (0), (by first | rfl | (simp; done) | (simp [*]; done)), (by first | rfl | (simp; done) | (simp [*]; done)), (by first | rfl | (simp; done) | (simp [*]; done)), H', ⟨Nat.le_refl _⟩, ⟨by (with_reducible repeat (first | apply Kd.R_alloc | apply Kd.R_drewN | apply Kd.R_drew)); exact HO187.out⟩, ⟨by (with_reducible repeat (first | apply Kd.S_alloc | apply Kd.S_drewN | apply Kd.S_drew)); exact Kd.S_mono HO184.out (fun _ hk => hk.2)⟩, ⟨by repeat (first | (with_reducible first | exact HB.out | apply zAC | apply zAA | apply zAD) | exact HB.out)⟩⟩
   case round =>
    clear H'
    (try clear c1); (try clear c2); (try clear p2); (try clear c3); (try clear c3b0); (try clear c3b1); (try clear c4); (try clear c4b0); (try clear c4b1)
    obtain ⟨x4_1, x5_1, x6_1, x18_1, rfl, rfl, rfl, HA, HK1, HO_4, HO_16, HB⟩ := hrel
    cases gk with
    | zero => exact absurd HA.out (by simp [sched_Cost.l0])
    | succ k1 =>
     have H := HA.out
     clear HA
     simp only [sched_Cost.l0] at H
     by_cases c9 : x18_1 < (t182.length : Int)
     ·rw [if_pos c9] at H
      have c9b0 : decide (x18_1 < (t182.length : Int)) = true := decide_eq_true c9
      clear c9
      by_cases c10 : 0 ≤ x18_1
      ·rw [if_pos c10] at H
       have c10b0 : decide (0 ≤ x18_1) = true := decide_eq_true c10
       clear c10
       by_cases c11 : x18_1 < (t182.length : Int)
       ·rw [if_pos c11] at H
        have c11b0 : decide (x18_1 < (t182.length : Int)) = true := decide_eq_true c11
        clear c11
        have H' := Aside0.mk H
        clear H
        have p188 : 0 ≤ (x18_1 : Int) := of_decide_eq_true (by first | (with_reducible assumption) | assumption)
        have q188 : x18_1 < (t182.length : Int) := of_decide_eq_true (by first | (with_reducible assumption) | assumption)
        obtain ⟨ad188, A188_0, c188_0, e188, hx188_0, hl188_0, hi188_0⟩ := at_L1 (Kd.S_reads' HO_16.out).2.2 x18_1 p188 q188
        cases e188
        obtain ⟨ce188, hce188, hMe188, hcc188⟩ := Kd.S_get HO_16.out [] x18_1 p188 (by first | exact q188 | exact of_decide_eq_true (by first | (with_reducible assumption) | assumption) | (have e_ := (Kd.S_reads' HO_16.out).1; omega))
        obtain ⟨ve188_0, rfl, ge188_0⟩ := hMe188
        have hv188_0 := hcc188 0 _ rfl
        rw [Nat.add_zero, show ((Kd.slice 3 (Kd.int .i64))).sz = 1 from rfl, Nat.mul_one] at hv188_0
        replace hv188_0 := Option.some.inj (hv188_0.symm.trans hx188_0)
        rw [hv188_0] at ge188_0
        have HL188_0 := Aside0.mk (show Kd.R (Kd.int .i64) 3 _ _ _ _ (rd_L1 t182 x18_1) from ge188_0)
        clear hv188_0 ge188_0
        clear hcc188 hce188
        have HR188_0 := Aside0.mk hi188_0
        have HC188_0 := Aside0.mk hl188_0
        clear hi188_0 hl188_0
        replace p188 := eq_true p188
        replace q188 := eq_true q188
        go_wp2
        go_loopg [5, 25] k1 (fun kq v5 v25 w' => ∃ (x5_2 : Int) (x25_2 : Int), v5 = .int .i64 x5_2 ∧ v25 = .int .i64 x25_2 ∧ Aside0 (sched_Cost.l1 kq l0 x4_1 x5_2 x6_1 x18_1 t182 (t182.length : Int) x18_1 (rd_L1 t182 x18_1) ((rd_L1 t182 x18_1).length : Int) x25_2 = some r) ∧ Aside0 (kq ≤ k1) ∧ Aside0 (Kd.R (Kd.int .i64) 3 w' w.heap.size (fun _ => True) v186 x4_1) ∧ Aside0 (Kd.S (Kd.slice 3 (Kd.int .i64)) 23 w' w.heap.size (fun k_ => some k_ ≠ (v186 : Value).ownBlock) (.slice (some ad188) t182.length co6) t182) ∧ Aside0 (Kd.C (Kd.int .i64) w' A188_0 (rd_L1 t182 x18_1).length (rd_L1 t182 x18_1)) ∧ Aside0 (Below w.heap.size w w'))
        case atStart => exact ⟨(x5_1), (0), (by first | rfl | (simp; done) | (simp [*]; done)), (by first | rfl | (simp; done) | (simp [*]; done)), H', ⟨Nat.le_refl _⟩, ⟨by (with_reducible repeat (first | apply Kd.R_alloc | apply Kd.R_drewN | apply Kd.R_drew)); exact HO_4.out⟩, ⟨by (with_reducible repeat (first | apply Kd.S_alloc | apply Kd.S_drewN | apply Kd.S_drew)); exact HO_16.out⟩, ⟨by repeat (first | (with_reducible exact HR188_0.out) | (with_reducible refine Kd.C_alloc ?_ _) | (with_reducible refine Kd.C_drewN ?_ _) | (with_reducible refine Kd.C_drew ?_) | exact HR188_0.out)⟩, ⟨by repeat (first | (with_reducible first | exact HB.out | apply zAC | apply zAA | apply zAD) | exact HB.out)⟩⟩
        case round =>
         clear H'
         (try clear c1); (try clear p1); (try clear q1); (try clear hx1); (try clear c2); (try clear p2); (try clear c3); (try clear c3b0); (try clear c3b1); (try clear c4); (try clear c4b0); (try clear c4b1); (try clear c9); (try clear c9b0); (try clear c10); (try clear c10b0); (try clear c11); (try clear c11b0); (try clear hx188_0); (try clear p188); (try clear p2); (try clear q188)
         obtain ⟨x5_2, x25_2, rfl, rfl, HA, HK2, HO_4, HO_16, HR188_0, HB⟩ := hrel
         cases gk with
         | zero => exact absurd HA.out (by simp [sched_Cost.l1])
         | succ k2 =>
          have H := HA.out
          clear HA
          simp only [sched_Cost.l1] at H
          by_cases c12 : x25_2 < ((rd_L1 t182 x18_1).length : Int)
          ·rw [if_pos c12] at H
           have c12b0 : decide (x25_2 < ((rd_L1 t182 x18_1).length : Int)) = true := decide_eq_true c12
           clear c12
           by_cases c13 : 0 ≤ x25_2
           ·rw [if_pos c13] at H
            have c13b0 : decide (0 ≤ x25_2) = true := decide_eq_true c13
            clear c13
            by_cases c14 : x25_2 < ((rd_L1 t182 x18_1).length : Int)
            ·rw [if_pos c14] at H
             have c14b0 : decide (x25_2 < ((rd_L1 t182 x18_1).length : Int)) = true := decide_eq_true c14
             clear c14
             by_cases c15 : 0 ≤ x18_1
             ·rw [if_pos c15] at H
              have c15b0 : decide (0 ≤ x18_1) = true := decide_eq_true c15
              clear c15
              by_cases c16 : x18_1 < (l0.length : Int)
              ·rw [if_pos c16] at H
               have c16b0 : decide (x18_1 < (l0.length : Int)) = true := decide_eq_true c16
               clear c16
               by_cases c17 : 0 ≤ (rd (rd_L1 t182 x18_1) x25_2)
               ·rw [if_pos c17] at H
                have c17b0 : decide (0 ≤ (rd (rd_L1 t182 x18_1) x25_2)) = true := decide_eq_true c17
                clear c17
                by_cases c18 : (rd (rd_L1 t182 x18_1) x25_2) < (l0.length : Int)
                ·rw [if_pos c18] at H
                 have c18b0 : decide ((rd (rd_L1 t182 x18_1) x25_2) < (l0.length : Int)) = true := decide_eq_true c18
                 clear c18
                 replace H := Option.bind_eq_some_iff.mp H
                 obtain ⟨t196, A190, H⟩ := H
                 replace H : ((sched_reads.f k2 ((zAF l0 x18_1).f0) ((zAF l0 x18_1).f1) ((zAF l0 x18_1).f2) ((zAF l0 x18_1).f3) ((zAF l0 x18_1).f4) ((zAF l0 x18_1).f5) t196).bind fun t197 => (if t197 = true then (if (rd (rd_L1 t182 x18_1) x25_2) < (x4_1.length : Int) then (sched_Cost.l1 k2 l0 x4_1 (mx x5_2 (rd x4_1 (rd (rd_L1 t182 x18_1) x25_2))) x6_1 x18_1 t182 (t182.length : Int) x18_1 (rd_L1 t182 x18_1) ((rd_L1 t182 x18_1).length : Int) (wrap64 (x25_2 + 1))) else (none)) else (sched_Cost.l1 k2 l0 x4_1 x5_2 x6_1 x18_1 t182 (t182.length : Int) x18_1 (rd_L1 t182 x18_1) ((rd_L1 t182 x18_1).length : Int) (wrap64 (x25_2 + 1))))) = some r := H
                 have A19 := Aside0.mk A190
                 clear A190
                 replace H := Option.bind_eq_some_iff.mp H
                 obtain ⟨t197, A200, H⟩ := H
                 replace H : (if t197 = true then (if (rd (rd_L1 t182 x18_1) x25_2) < (x4_1.length : Int) then (sched_Cost.l1 k2 l0 x4_1 (mx x5_2 (rd x4_1 (rd (rd_L1 t182 x18_1) x25_2))) x6_1 x18_1 t182 (t182.length : Int) x18_1 (rd_L1 t182 x18_1) ((rd_L1 t182 x18_1).length : Int) (wrap64 (x25_2 + 1))) else (none)) else (sched_Cost.l1 k2 l0 x4_1 x5_2 x6_1 x18_1 t182 (t182.length : Int) x18_1 (rd_L1 t182 x18_1) ((rd_L1 t182 x18_1).length : Int) (wrap64 (x25_2 + 1)))) = some r := H
                 have A20 := Aside0.mk A200
                 clear A200
                 by_cases c21 : t197 = true
                 ·subst c21
                  have H1 : (if (rd (rd_L1 t182 x18_1) x25_2) < (x4_1.length : Int) then (sched_Cost.l1 k2 l0 x4_1 (mx x5_2 (rd x4_1 (rd (rd_L1 t182 x18_1) x25_2))) x6_1 x18_1 t182 (t182.length : Int) x18_1 (rd_L1 t182 x18_1) ((rd_L1 t182 x18_1).length : Int) (wrap64 (x25_2 + 1))) else (none)) = some r := by rw [if_pos rfl] at H; exact H
                  clear H
                  have H := H1
                  clear H1
                  by_cases c22 : (rd (rd_L1 t182 x18_1) x25_2) < (x4_1.length : Int)
                  ·rw [if_pos c22] at H
                   have c22b0 : decide ((rd (rd_L1 t182 x18_1) x25_2) < (x4_1.length : Int)) = true := decide_eq_true c22
                   clear c22
                   obtain ⟨ji23, hji23⟩ : ∃ j_ : Int, (mx x5_2 (rd x4_1 (rd (rd_L1 t182 x18_1) x25_2))) = j_ := ⟨_, rfl⟩
                   replace H : (sched_Cost.l1 k2 l0 x4_1 ji23 x6_1 x18_1 t182 (t182.length : Int) x18_1 (rd_L1 t182 x18_1) ((rd_L1 t182 x18_1).length : Int) (wrap64 (x25_2 + 1))) = some r := by first | (rw [hji23] at H; exact H) | (simp only [hji23] at H ⊢; exact H)
                   (try rw [hji23] at A19)
                   (try rw [hji23] at A20)
                   have hji23_ : (if x5_2 < (rd x4_1 (rd (rd_L1 t182 x18_1) x25_2)) then (rd x4_1 (rd (rd_L1 t182 x18_1) x25_2)) else x5_2) = ji23 := hji23
                   have H' := Aside0.mk H
                   clear H
                   have p193 : 0 ≤ (x25_2 : Int) := of_decide_eq_true (by first | (with_reducible assumption) | assumption)
                   have q193 : x25_2 < ((rd_L1 t182 x18_1).length : Int) := of_decide_eq_true (by first | (with_reducible assumption) | assumption)
                   obtain ⟨ad193, e193, hx193_0⟩ := Kd.at_int HR188_0.out x25_2 p193 q193
                   cases e193
                   replace p193 := eq_true p193
                   replace q193 := eq_true q193
                   try go_wp2
                   have n0_ := Aside0.mk (Kd.R_drew HO_4.out)
                   have n1_ := Aside0.mk (Kd.S_drew HO_16.out)
                   have n2_ := Aside0.mk (Kd.C_drew HR188_0.out)
                   have n3_ := Aside0.mk (zAD HB.out)
                   clear HO_4
                   clear HO_16
                   clear HR188_0
                   clear HB
                   have HO_4 := n0_
                   have HO_16 := n1_
                   have HR188_0 := n2_
                   have HB := n3_
                   clear n0_ n1_ n2_ n3_
                   have p194 : 0 ≤ (x18_1 : Int) := of_decide_eq_true (by first | (with_reducible assumption) | assumption)
                   have q194 : x18_1 < (l0.length : Int) := of_decide_eq_true (by first | (with_reducible assumption) | assumption)
                   obtain ⟨ad194, A194_5, c194_5, e194, hx194_0, hx194_1, hx194_2, hx194_3, hx194_4, hx194_5, hl194_5, hi194_5⟩ := zBT HR0.out x18_1 p194 q194
                   have hw194_5 := hx194_5
                   have hw194_4 := hx194_4
                   have hw194_3 := hx194_3
                   have hw194_2 := hx194_2
                   have hw194_1 := hx194_1
                   have hw194_0 := hx194_0
                   cases e194
                   replace hx194_0 := (HB.out.cell (World.block_lt_of_cell? w _ hx194_0)).trans hx194_0
                   replace hx194_1 := (HB.out.cell (World.block_lt_of_cell? w _ hx194_1)).trans hx194_1
                   replace hx194_2 := (HB.out.cell (World.block_lt_of_cell? w _ hx194_2)).trans hx194_2
                   replace hx194_3 := (HB.out.cell (World.block_lt_of_cell? w _ hx194_3)).trans hx194_3
                   replace hx194_4 := (HB.out.cell (World.block_lt_of_cell? w _ hx194_4)).trans hx194_4
                   replace hx194_5 := (HB.out.cell (World.block_lt_of_cell? w _ hx194_5)).trans hx194_5
                   have HR194_5 := Aside0.mk hi194_5
                   have HC194_5 := Aside0.mk hl194_5
                   clear hi194_5 hl194_5
                   replace p194 := eq_true p194
                   replace q194 := eq_true q194
                   have p195 : 0 ≤ ((rd (rd_L1 t182 x18_1) x25_2) : Int) := of_decide_eq_true (by first | (with_reducible assumption) | assumption)
                   have q195 : (rd (rd_L1 t182 x18_1) x25_2) < (l0.length : Int) := of_decide_eq_true (by first | (with_reducible assumption) | assumption)
                   obtain ⟨ad195, A195_5, c195_5, e195, hx195_0, hx195_1, hx195_2, hx195_3, hx195_4, hx195_5, hl195_5, hi195_5⟩ := zBT HR0.out (rd (rd_L1 t182 x18_1) x25_2) p195 q195
                   have hw195_5 := hx195_5
                   have hw195_4 := hx195_4
                   have hw195_3 := hx195_3
                   have hw195_2 := hx195_2
                   have hw195_1 := hx195_1
                   have hw195_0 := hx195_0
                   obtain rfl : ad194 = ad195 := (by injection e195)
                   replace hx195_0 := (HB.out.cell (World.block_lt_of_cell? w _ hx195_0)).trans hx195_0
                   replace hx195_1 := (HB.out.cell (World.block_lt_of_cell? w _ hx195_1)).trans hx195_1
                   replace hx195_2 := (HB.out.cell (World.block_lt_of_cell? w _ hx195_2)).trans hx195_2
                   replace hx195_3 := (HB.out.cell (World.block_lt_of_cell? w _ hx195_3)).trans hx195_3
                   replace hx195_4 := (HB.out.cell (World.block_lt_of_cell? w _ hx195_4)).trans hx195_4
                   replace hx195_5 := (HB.out.cell (World.block_lt_of_cell? w _ hx195_5)).trans hx195_5
                   have HR195_5 := Aside0.mk hi195_5
                   have HC195_5 := Aside0.mk hl195_5
                   clear hi195_5 hl195_5
                   replace p195 := eq_true p195
                   replace q195 := eq_true q195
                   refine zCA (n := 10) (S := fun w' => w'.cell? (ad194.add ((x18_1).toNat * 6)) = some (.int .i64 ((zAF l0 x18_1).f0)) ∧ w'.cell? ⟨(ad194.add ((x18_1).toNat * 6)).block, (ad194.add ((x18_1).toNat * 6)).off + 1, none⟩ = some (.int .i64 ((zAF l0 x18_1).f1)) ∧ w'.cell? ⟨(ad194.add ((x18_1).toNat * 6)).block, (ad194.add ((x18_1).toNat * 6)).off + 2, none⟩ = some (.int .i64 ((zAF l0 x18_1).f2)) ∧ w'.cell? ⟨(ad194.add ((x18_1).toNat * 6)).block, (ad194.add ((x18_1).toNat * 6)).off + 3, none⟩ = some (.int .i64 ((zAF l0 x18_1).f3)) ∧ w'.cell? ⟨(ad194.add ((x18_1).toNat * 6)).block, (ad194.add ((x18_1).toNat * 6)).off + 4, none⟩ = some (.int .i64 ((zAF l0 x18_1).f4)) ∧ w'.cell? ⟨(ad194.add ((x18_1).toNat * 6)).block, (ad194.add ((x18_1).toNat * 6)).off + 5, none⟩ = some (.slice A194_5 ((zAF l0 x18_1).f5).length c194_5) ∧ w'.cell? (ad194.add (((rd (rd_L1 t182 x18_1) x25_2)).toNat * 6)) = some (.int .i64 ((zAF l0 (rd (rd_L1 t182 x18_1) x25_2)).f0)) ∧ w'.cell? ⟨(ad194.add (((rd (rd_L1 t182 x18_1) x25_2)).toNat * 6)).block, (ad194.add (((rd (rd_L1 t182 x18_1) x25_2)).toNat * 6)).off + 1, none⟩ = some (.int .i64 ((zAF l0 (rd (rd_L1 t182 x18_1) x25_2)).f1)) ∧ w'.cell? ⟨(ad194.add (((rd (rd_L1 t182 x18_1) x25_2)).toNat * 6)).block, (ad194.add (((rd (rd_L1 t182 x18_1) x25_2)).toNat * 6)).off + 2, none⟩ = some (.int .i64 ((zAF l0 (rd (rd_L1 t182 x18_1) x25_2)).f2)) ∧ w'.cell? ⟨(ad194.add (((rd (rd_L1 t182 x18_1) x25_2)).toNat * 6)).block, (ad194.add (((rd (rd_L1 t182 x18_1) x25_2)).toNat * 6)).off + 3, none⟩ = some (.int .i64 ((zAF l0 (rd (rd_L1 t182 x18_1) x25_2)).f3)) ∧ w'.cell? ⟨(ad194.add (((rd (rd_L1 t182 x18_1) x25_2)).toNat * 6)).block, (ad194.add (((rd (rd_L1 t182 x18_1) x25_2)).toNat * 6)).off + 4, none⟩ = some (.int .i64 ((zAF l0 (rd (rd_L1 t182 x18_1) x25_2)).f4)) ∧ w'.cell? ⟨(ad194.add (((rd (rd_L1 t182 x18_1) x25_2)).toNat * 6)).block, (ad194.add (((rd (rd_L1 t182 x18_1) x25_2)).toNat * 6)).off + 5, none⟩ = some (.slice A195_5 ((zAF l0 (rd (rd_L1 t182 x18_1) x25_2)).f5).length c195_5)) (ds := []) #[fF,fF,fF,fF,fF,fF,fF,fF,fF,fF] (by kernel_rfl) rfl rfl ⟨((HB.out.cell (World.block_lt_of_cell? w _ hw194_0)).trans hw194_0), ((HB.out.cell (World.block_lt_of_cell? w _ hw194_1)).trans hw194_1), ((HB.out.cell (World.block_lt_of_cell? w _ hw194_2)).trans hw194_2), ((HB.out.cell (World.block_lt_of_cell? w _ hw194_3)).trans hw194_3), ((HB.out.cell (World.block_lt_of_cell? w _ hw194_4)).trans hw194_4), ((HB.out.cell (World.block_lt_of_cell? w _ hw194_5)).trans hw194_5), ((HB.out.cell (World.block_lt_of_cell? w _ hw195_0)).trans hw195_0), ((HB.out.cell (World.block_lt_of_cell? w _ hw195_1)).trans hw195_1), ((HB.out.cell (World.block_lt_of_cell? w _ hw195_2)).trans hw195_2), ((HB.out.cell (World.block_lt_of_cell? w _ hw195_3)).trans hw195_3), ((HB.out.cell (World.block_lt_of_cell? w _ hw195_4)).trans hw195_4), ((HB.out.cell (World.block_lt_of_cell? w _ hw195_5)).trans hw195_5)⟩ (fun hHeld => ?_); refine with_tabW sched_Cost.tab10 sched_Cost.bits10 (fun HT_ HW_ => ?_)
                   generalize wr.drew = w24 at HO_4 HO_16 HR188_0 HB HR194_5 HR195_5 hx194_0 hx194_1 hx194_2 hx194_3 hx194_4 hx194_5 hx195_0 hx195_1 hx195_2 hx195_3 hx195_4 hx195_5 hHeld ⊢
                   refine pure_ (i := 0) (N := some 29) (v := ?_) (a' := ?_) #[tT,fF,fF,fF,fF,fF,fF,fF,fF,fF] rfl rfl (zAZ HT_.out (by kernel_rfl)) (fun _ _ _ h => h) (Or.inl ⟨by rfl, ?_⟩) ?_ ?_
                   rotate_left
                   ·intro w'
                    go_simp
                    with_reducible rfl
                   rotate_left
                   ·simp only [Act.put, List.setIfInBounds_toArray, List.set_cons_zero, List.set_cons_succ, i64_w, i32_w]
                    rfl
                   refine pure_ (i := 1) (N := some 30) (v := ?_) (a' := ?_) #[tT,tT,fF,fF,fF,fF,fF,fF,fF,fF] rfl rfl (zAZ HT_.out (by kernel_rfl)) (fun _ _ _ h => h) (Or.inl ⟨by rfl, ?_⟩) ?_ ?_
                   rotate_left
                   ·intro w'
                    go_simp
                    with_reducible rfl
                   rotate_left
                   ·simp only [Act.put, List.setIfInBounds_toArray, List.set_cons_zero, List.set_cons_succ, i64_w, i32_w]
                    rfl
                   refine pure_ (i := 2) (N := some 31) (v := ?_) (a' := ?_) #[tT,tT,tT,fF,fF,fF,fF,fF,fF,fF] rfl rfl (zAZ HT_.out (by kernel_rfl)) (fun _ _ _ h => h) (Or.inl ⟨by rfl, ?_⟩) ?_ ?_
                   rotate_left
                   ·intro w'
                    go_simp
                    with_reducible rfl
                   rotate_left
                   ·simp only [Act.put, List.setIfInBounds_toArray, List.set_cons_zero, List.set_cons_succ, i64_w, i32_w]
                    rfl
                   refine pure_ (i := 4) (N := some 33) (v := ?_) (a' := ?_) #[tT,tT,tT,fF,tT,fF,fF,fF,fF,fF] rfl rfl (zAZ HT_.out (by kernel_rfl)) (fun _ _ _ h => h) (Or.inl ⟨by rfl, ?_⟩) ?_ ?_
                   rotate_left
                   ·intro w'
                    go_simp
                    with_reducible rfl
                   rotate_left
                   ·simp only [Act.put, List.setIfInBounds_toArray, List.set_cons_zero, List.set_cons_succ, i64_w, i32_w]
                    rfl
                   refine pure_ (i := 5) (N := some 34) (v := ?_) (a' := ?_) #[tT,tT,tT,fF,tT,tT,fF,fF,fF,fF] rfl rfl (zAZ HT_.out (by kernel_rfl)) (fun _ _ _ h => h) (Or.inl ⟨by rfl, ?_⟩) ?_ ?_
                   rotate_left
                   ·intro w'
                    go_simp
                    with_reducible rfl
                   rotate_left
                   ·simp only [Act.put, List.setIfInBounds_toArray, List.set_cons_zero, List.set_cons_succ, i64_w, i32_w]
                    rfl
                   refine pure_ (i := 6) (N := some 35) (v := ?_) (a' := ?_) #[tT,tT,tT,fF,tT,tT,tT,fF,fF,fF] rfl rfl (zAZ HT_.out (by kernel_rfl)) (fun _ _ _ h => h) (Or.inl ⟨by rfl, ?_⟩) ?_ ?_
                   rotate_left
                   ·intro w'
                    go_simp
                    with_reducible rfl
                   rotate_left
                   ·simp only [Act.put, List.setIfInBounds_toArray, List.set_cons_zero, List.set_cons_succ, i64_w, i32_w]
                    rfl
                   refine take_ (i := 3) (N := some 32) (v := ?_) (a' := ?_) #[tT,tT,tT,tT,tT,tT,tT,fF,fF,fF] rfl rfl (zBN HT_.out HW_.out (by kernel_rfl)) (fun _ _ _ h => h) (Or.inl ⟨by rfl, ?_⟩) hHeld ?_ ?_
                   rotate_left
                   ·rintro w' ⟨s0, s1, s2, s3, s4, s5, s6, s7, s8, s9, s10, s11⟩
                    go_simp
                    with_reducible rfl
                   rotate_left
                   ·simp only [Act.put, List.setIfInBounds_toArray, List.set_cons_zero, List.set_cons_succ, i64_w, i32_w]
                    rfl
                   refine take_ (i := 7) (N := some 36) (v := ?_) (a' := ?_) #[tT,tT,tT,tT,tT,tT,tT,tT,fF,fF] rfl rfl (zBN HT_.out HW_.out (by kernel_rfl)) (fun _ _ _ h => h) (Or.inl ⟨by rfl, ?_⟩) hHeld ?_ ?_
                   rotate_left
                   ·rintro w' ⟨s0, s1, s2, s3, s4, s5, s6, s7, s8, s9, s10, s11⟩
                    go_simp
                    with_reducible rfl
                   rotate_left
                   ·simp only [Act.put, List.setIfInBounds_toArray, List.set_cons_zero, List.set_cons_succ, i64_w, i32_w]
                    rfl
                   refine one_ (i := 8) (N := some 37) #[tT,tT,tT,tT,tT,tT,tT,tT,tT,fF] rfl rfl (one_of HT_.out (by kernel_rfl)) (by decide) (fun K hK => ?_)
                   refine goes_ Try.func43 (by kernel_rfl) rfl #[.agg #[.int .i64 ((zAF l0 (rd (rd_L1 t182 x18_1) x25_2)).f0), .int .i64 ((zAF l0 (rd (rd_L1 t182 x18_1) x25_2)).f1), .int .i64 ((zAF l0 (rd (rd_L1 t182 x18_1) x25_2)).f2), .int .i64 ((zAF l0 (rd (rd_L1 t182 x18_1) x25_2)).f3), .int .i64 ((zAF l0 (rd (rd_L1 t182 x18_1) x25_2)).f4), .slice A195_5 ((zAF l0 (rd (rd_L1 t182 x18_1) x25_2)).f5).length c195_5]] (by rfl) rfl rfl (by (try simp only [List.map_toArray, List.map_cons, List.map_nil]); first | done | rfl | (simp only [List.length_drop, List.length_take]; rfl)) ?_
                   with_reducible refine (code_Sets.calls k2 ((zAF l0 (rd (rd_L1 t182 x18_1) x25_2)).f0) ((zAF l0 (rd (rd_L1 t182 x18_1) x25_2)).f1) ((zAF l0 (rd (rd_L1 t182 x18_1) x25_2)).f2) ((zAF l0 (rd (rd_L1 t182 x18_1) x25_2)).f3) ((zAF l0 (rd (rd_L1 t182 x18_1) x25_2)).f4) _ _ ((zAF l0 (rd (rd_L1 t182 x18_1) x25_2)).f5) t196 _ ?side1 ?side2 A19.out).mono ?_
                   (case side1 => repeat (first | exact (Kd.C_below HR195_5.out HB.out) | (with_reducible refine Kd.C_alloc ?_ _) | (with_reducible refine Kd.C_drewN ?_ _) | (with_reducible refine Kd.C_drew ?_)))
                   (case side2 => exact HC195_5.out)
                   rintro e w25 ⟨rfl, hb⟩
                   refine ⟨_, rfl, ?_⟩
                   have n0_ := Aside0.mk (Kd.R_below (by (with_reducible repeat (first | apply Kd.R_alloc | apply Kd.R_drewN | apply Kd.R_drew)); exact HO_4.out) hb)
                   have n1_ := Aside0.mk (Kd.S_below (by (with_reducible repeat (first | apply Kd.S_alloc | apply Kd.S_drewN | apply Kd.S_drew)); exact HO_16.out) hb)
                   have n2_ := Aside0.mk (Kd.C_below (by repeat (first | (with_reducible exact HR188_0.out) | (with_reducible refine Kd.C_alloc ?_ _) | (with_reducible refine Kd.C_drewN ?_ _) | (with_reducible refine Kd.C_drew ?_) | exact HR188_0.out)) hb)
                   have n3_ := Aside0.mk (zAL (by repeat (first | (with_reducible first | exact HB.out | apply zAC | apply zAA | apply zAD) | exact HB.out)) hb)
                   clear HO_4
                   clear HO_16
                   clear HR188_0
                   clear HB
                   have HO_4 := n0_
                   have HO_16 := n1_
                   have HR188_0 := n2_
                   have HB := n3_
                   clear n0_ n1_ n2_ n3_
                   (try clear hb)
                   (try clear hb2)
                   (try clear hk)
                   (try clear hi)
                   refine hK.out _ _ ⟨((HB.out.cell (World.block_lt_of_cell? w _ hw194_0)).trans hw194_0), ((HB.out.cell (World.block_lt_of_cell? w _ hw194_1)).trans hw194_1), ((HB.out.cell (World.block_lt_of_cell? w _ hw194_2)).trans hw194_2), ((HB.out.cell (World.block_lt_of_cell? w _ hw194_3)).trans hw194_3), ((HB.out.cell (World.block_lt_of_cell? w _ hw194_4)).trans hw194_4), ((HB.out.cell (World.block_lt_of_cell? w _ hw194_5)).trans hw194_5), ((HB.out.cell (World.block_lt_of_cell? w _ hw195_0)).trans hw195_0), ((HB.out.cell (World.block_lt_of_cell? w _ hw195_1)).trans hw195_1), ((HB.out.cell (World.block_lt_of_cell? w _ hw195_2)).trans hw195_2), ((HB.out.cell (World.block_lt_of_cell? w _ hw195_3)).trans hw195_3), ((HB.out.cell (World.block_lt_of_cell? w _ hw195_4)).trans hw195_4), ((HB.out.cell (World.block_lt_of_cell? w _ hw195_5)).trans hw195_5)⟩ (fun hHeld => ?_)
                   clear hK K
                   refine norm_ (a' := ?_) ?_ ?_
                   rotate_left
                   ·show Act.put _ (some 37) _ = _
                    simp only [Act.put, List.setIfInBounds_toArray, List.set_cons_zero, List.set_cons_succ, i64_w, i32_w]
                    rfl
                   refine one_ (i := 9) (N := some 38) #[tT,tT,tT,tT,tT,tT,tT,tT,tT,tT] rfl rfl (one_of HT_.out (by kernel_rfl)) (by decide) (fun K hK => ?_)
                   refine goes_ Try.func42 (by kernel_rfl) rfl #[.agg #[.int .i64 ((zAF l0 x18_1).f0), .int .i64 ((zAF l0 x18_1).f1), .int .i64 ((zAF l0 x18_1).f2), .int .i64 ((zAF l0 x18_1).f3), .int .i64 ((zAF l0 x18_1).f4), .slice A194_5 ((zAF l0 x18_1).f5).length c194_5], .int .i64 t196] (by rfl) rfl rfl (by (try simp only [List.map_toArray, List.map_cons, List.map_nil]); first | done | rfl | (simp only [List.length_drop, List.length_take]; rfl)) ?_
                   with_reducible refine (sched_reads.calls k2 ((zAF l0 x18_1).f0) ((zAF l0 x18_1).f1) ((zAF l0 x18_1).f2) ((zAF l0 x18_1).f3) ((zAF l0 x18_1).f4) _ _ ((zAF l0 x18_1).f5) t196 true _ ?side1 ?side2 A20.out).mono ?_
                   (case side1 => repeat (first | exact (Kd.C_below HR194_5.out HB.out) | (with_reducible refine Kd.C_alloc ?_ _) | (with_reducible refine Kd.C_drewN ?_ _) | (with_reducible refine Kd.C_drew ?_)))
                   (case side2 => exact HC194_5.out)
                   rintro e w26 ⟨rfl, hb⟩
                   refine ⟨_, rfl, ?_⟩
                   have n0_ := Aside0.mk (Kd.R_below (by (with_reducible repeat (first | apply Kd.R_alloc | apply Kd.R_drewN | apply Kd.R_drew)); exact HO_4.out) hb)
                   have n1_ := Aside0.mk (Kd.S_below (by (with_reducible repeat (first | apply Kd.S_alloc | apply Kd.S_drewN | apply Kd.S_drew)); exact HO_16.out) hb)
                   have n2_ := Aside0.mk (Kd.C_below (by repeat (first | (with_reducible exact HR188_0.out) | (with_reducible refine Kd.C_alloc ?_ _) | (with_reducible refine Kd.C_drewN ?_ _) | (with_reducible refine Kd.C_drew ?_) | exact HR188_0.out)) hb)
                   have n3_ := Aside0.mk (zAL (by repeat (first | (with_reducible first | exact HB.out | apply zAC | apply zAA | apply zAD) | exact HB.out)) hb)
                   clear HO_4
                   clear HO_16
                   clear HR188_0
                   clear HB
                   have HO_4 := n0_
                   have HO_16 := n1_
                   have HR188_0 := n2_
                   have HB := n3_
                   clear n0_ n1_ n2_ n3_
                   (try clear hb)
                   (try clear hb2)
                   (try clear hk)
                   (try clear hi)
                   refine hK.out _ _ ⟨((HB.out.cell (World.block_lt_of_cell? w _ hw194_0)).trans hw194_0), ((HB.out.cell (World.block_lt_of_cell? w _ hw194_1)).trans hw194_1), ((HB.out.cell (World.block_lt_of_cell? w _ hw194_2)).trans hw194_2), ((HB.out.cell (World.block_lt_of_cell? w _ hw194_3)).trans hw194_3), ((HB.out.cell (World.block_lt_of_cell? w _ hw194_4)).trans hw194_4), ((HB.out.cell (World.block_lt_of_cell? w _ hw194_5)).trans hw194_5), ((HB.out.cell (World.block_lt_of_cell? w _ hw195_0)).trans hw195_0), ((HB.out.cell (World.block_lt_of_cell? w _ hw195_1)).trans hw195_1), ((HB.out.cell (World.block_lt_of_cell? w _ hw195_2)).trans hw195_2), ((HB.out.cell (World.block_lt_of_cell? w _ hw195_3)).trans hw195_3), ((HB.out.cell (World.block_lt_of_cell? w _ hw195_4)).trans hw195_4), ((HB.out.cell (World.block_lt_of_cell? w _ hw195_5)).trans hw195_5)⟩ (fun hHeld => ?_)
                   clear hK K
                   refine norm_ (a' := ?_) ?_ ?_
                   rotate_left
                   ·show Act.put _ (some 38) _ = _
                    simp only [Act.put, List.setIfInBounds_toArray, List.set_cons_zero, List.set_cons_succ, i64_w, i32_w]
                    rfl
                   refine done_ (done_of HT_.out (by kernel_rfl)) ?_
                   obtain ⟨Ao27, co27, eo27⟩ := Kd.R_slice HO_4.out
                   subst eo27
                   have p198 : 0 ≤ ((rd (rd_L1 t182 x18_1) x25_2) : Int) := of_decide_eq_true (by first | (with_reducible assumption) | assumption)
                   have q198 : (rd (rd_L1 t182 x18_1) x25_2) < (x4_1.length : Int) := of_decide_eq_true (by first | (with_reducible assumption) | assumption)
                   obtain ⟨ad198, e198, hx198_0⟩ := Kd.at_int (Kd.R_reads' HO_4.out).2.2 (rd (rd_L1 t182 x18_1) x25_2) p198 q198
                   cases e198
                   replace p198 := eq_true p198
                   replace q198 := eq_true q198
                   try go_wp2
                   go_roundg k2
                   case measure => have := HK1.out; have := HK2.out; omega
                   case rel => exact ⟨(ji23), (wrap64 (x25_2 + 1)), (by first | rfl | (simp; done) | (simp only [← hji23] <;> (first | rfl | simp)) | (simp [*]; done)), (by first | rfl | (simp; done) | (simp [*]; done)), H', ⟨by have := HK1.out; have := HK2.out; omega⟩, ⟨by (with_reducible repeat (first | apply Kd.R_alloc | apply Kd.R_drewN | apply Kd.R_drew)); exact HO_4.out⟩, ⟨by (with_reducible repeat (first | apply Kd.S_alloc | apply Kd.S_drewN | apply Kd.S_drew)); exact HO_16.out⟩, ⟨by repeat (first | (with_reducible exact HR188_0.out) | (with_reducible refine Kd.C_alloc ?_ _) | (with_reducible refine Kd.C_drewN ?_ _) | (with_reducible refine Kd.C_drew ?_) | exact HR188_0.out)⟩, ⟨by repeat (first | (with_reducible first | exact HB.out | apply zAC | apply zAA | apply zAD) | exact HB.out)⟩⟩
                  ·rw [if_neg c22] at H
                   exact absurd H (by simp)
                 ·replace c21 := Bool.eq_false_iff.mpr c21
                  subst c21
                  have H1 : (sched_Cost.l1 k2 l0 x4_1 x5_2 x6_1 x18_1 t182 (t182.length : Int) x18_1 (rd_L1 t182 x18_1) ((rd_L1 t182 x18_1).length : Int) (wrap64 (x25_2 + 1))) = some r := by rw [if_neg (show ¬ (false = true) by decide)] at H; exact H
                  clear H
                  have H := H1
                  clear H1
                  have H' := Aside0.mk H
                  clear H
                  have p193 : 0 ≤ (x25_2 : Int) := of_decide_eq_true (by first | (with_reducible assumption) | assumption)
                  have q193 : x25_2 < ((rd_L1 t182 x18_1).length : Int) := of_decide_eq_true (by first | (with_reducible assumption) | assumption)
                  obtain ⟨ad193, e193, hx193_0⟩ := Kd.at_int HR188_0.out x25_2 p193 q193
                  cases e193
                  replace p193 := eq_true p193
                  replace q193 := eq_true q193
                  try go_wp2
                  have n0_ := Aside0.mk (Kd.R_drew HO_4.out)
                  have n1_ := Aside0.mk (Kd.S_drew HO_16.out)
                  have n2_ := Aside0.mk (Kd.C_drew HR188_0.out)
                  have n3_ := Aside0.mk (zAD HB.out)
                  clear HO_4
                  clear HO_16
                  clear HR188_0
                  clear HB
                  have HO_4 := n0_
                  have HO_16 := n1_
                  have HR188_0 := n2_
                  have HB := n3_
                  clear n0_ n1_ n2_ n3_
                  have p194 : 0 ≤ (x18_1 : Int) := of_decide_eq_true (by first | (with_reducible assumption) | assumption)
                  have q194 : x18_1 < (l0.length : Int) := of_decide_eq_true (by first | (with_reducible assumption) | assumption)
                  obtain ⟨ad194, A194_5, c194_5, e194, hx194_0, hx194_1, hx194_2, hx194_3, hx194_4, hx194_5, hl194_5, hi194_5⟩ := zBT HR0.out x18_1 p194 q194
                  have hw194_5 := hx194_5
                  have hw194_4 := hx194_4
                  have hw194_3 := hx194_3
                  have hw194_2 := hx194_2
                  have hw194_1 := hx194_1
                  have hw194_0 := hx194_0
                  cases e194
                  replace hx194_0 := (HB.out.cell (World.block_lt_of_cell? w _ hx194_0)).trans hx194_0
                  replace hx194_1 := (HB.out.cell (World.block_lt_of_cell? w _ hx194_1)).trans hx194_1
                  replace hx194_2 := (HB.out.cell (World.block_lt_of_cell? w _ hx194_2)).trans hx194_2
                  replace hx194_3 := (HB.out.cell (World.block_lt_of_cell? w _ hx194_3)).trans hx194_3
                  replace hx194_4 := (HB.out.cell (World.block_lt_of_cell? w _ hx194_4)).trans hx194_4
                  replace hx194_5 := (HB.out.cell (World.block_lt_of_cell? w _ hx194_5)).trans hx194_5
                  have HR194_5 := Aside0.mk hi194_5
                  have HC194_5 := Aside0.mk hl194_5
                  clear hi194_5 hl194_5
                  replace p194 := eq_true p194
                  replace q194 := eq_true q194
                  have p195 : 0 ≤ ((rd (rd_L1 t182 x18_1) x25_2) : Int) := of_decide_eq_true (by first | (with_reducible assumption) | assumption)
                  have q195 : (rd (rd_L1 t182 x18_1) x25_2) < (l0.length : Int) := of_decide_eq_true (by first | (with_reducible assumption) | assumption)
                  obtain ⟨ad195, A195_5, c195_5, e195, hx195_0, hx195_1, hx195_2, hx195_3, hx195_4, hx195_5, hl195_5, hi195_5⟩ := zBT HR0.out (rd (rd_L1 t182 x18_1) x25_2) p195 q195
                  have hw195_5 := hx195_5
                  have hw195_4 := hx195_4
                  have hw195_3 := hx195_3
                  have hw195_2 := hx195_2
                  have hw195_1 := hx195_1
                  have hw195_0 := hx195_0
                  obtain rfl : ad194 = ad195 := (by injection e195)
                  replace hx195_0 := (HB.out.cell (World.block_lt_of_cell? w _ hx195_0)).trans hx195_0
                  replace hx195_1 := (HB.out.cell (World.block_lt_of_cell? w _ hx195_1)).trans hx195_1
                  replace hx195_2 := (HB.out.cell (World.block_lt_of_cell? w _ hx195_2)).trans hx195_2
                  replace hx195_3 := (HB.out.cell (World.block_lt_of_cell? w _ hx195_3)).trans hx195_3
                  replace hx195_4 := (HB.out.cell (World.block_lt_of_cell? w _ hx195_4)).trans hx195_4
                  replace hx195_5 := (HB.out.cell (World.block_lt_of_cell? w _ hx195_5)).trans hx195_5
                  have HR195_5 := Aside0.mk hi195_5
                  have HC195_5 := Aside0.mk hl195_5
                  clear hi195_5 hl195_5
                  replace p195 := eq_true p195
                  replace q195 := eq_true q195
                  refine zCA (n := 10) (S := fun w' => w'.cell? (ad194.add ((x18_1).toNat * 6)) = some (.int .i64 ((zAF l0 x18_1).f0)) ∧ w'.cell? ⟨(ad194.add ((x18_1).toNat * 6)).block, (ad194.add ((x18_1).toNat * 6)).off + 1, none⟩ = some (.int .i64 ((zAF l0 x18_1).f1)) ∧ w'.cell? ⟨(ad194.add ((x18_1).toNat * 6)).block, (ad194.add ((x18_1).toNat * 6)).off + 2, none⟩ = some (.int .i64 ((zAF l0 x18_1).f2)) ∧ w'.cell? ⟨(ad194.add ((x18_1).toNat * 6)).block, (ad194.add ((x18_1).toNat * 6)).off + 3, none⟩ = some (.int .i64 ((zAF l0 x18_1).f3)) ∧ w'.cell? ⟨(ad194.add ((x18_1).toNat * 6)).block, (ad194.add ((x18_1).toNat * 6)).off + 4, none⟩ = some (.int .i64 ((zAF l0 x18_1).f4)) ∧ w'.cell? ⟨(ad194.add ((x18_1).toNat * 6)).block, (ad194.add ((x18_1).toNat * 6)).off + 5, none⟩ = some (.slice A194_5 ((zAF l0 x18_1).f5).length c194_5) ∧ w'.cell? (ad194.add (((rd (rd_L1 t182 x18_1) x25_2)).toNat * 6)) = some (.int .i64 ((zAF l0 (rd (rd_L1 t182 x18_1) x25_2)).f0)) ∧ w'.cell? ⟨(ad194.add (((rd (rd_L1 t182 x18_1) x25_2)).toNat * 6)).block, (ad194.add (((rd (rd_L1 t182 x18_1) x25_2)).toNat * 6)).off + 1, none⟩ = some (.int .i64 ((zAF l0 (rd (rd_L1 t182 x18_1) x25_2)).f1)) ∧ w'.cell? ⟨(ad194.add (((rd (rd_L1 t182 x18_1) x25_2)).toNat * 6)).block, (ad194.add (((rd (rd_L1 t182 x18_1) x25_2)).toNat * 6)).off + 2, none⟩ = some (.int .i64 ((zAF l0 (rd (rd_L1 t182 x18_1) x25_2)).f2)) ∧ w'.cell? ⟨(ad194.add (((rd (rd_L1 t182 x18_1) x25_2)).toNat * 6)).block, (ad194.add (((rd (rd_L1 t182 x18_1) x25_2)).toNat * 6)).off + 3, none⟩ = some (.int .i64 ((zAF l0 (rd (rd_L1 t182 x18_1) x25_2)).f3)) ∧ w'.cell? ⟨(ad194.add (((rd (rd_L1 t182 x18_1) x25_2)).toNat * 6)).block, (ad194.add (((rd (rd_L1 t182 x18_1) x25_2)).toNat * 6)).off + 4, none⟩ = some (.int .i64 ((zAF l0 (rd (rd_L1 t182 x18_1) x25_2)).f4)) ∧ w'.cell? ⟨(ad194.add (((rd (rd_L1 t182 x18_1) x25_2)).toNat * 6)).block, (ad194.add (((rd (rd_L1 t182 x18_1) x25_2)).toNat * 6)).off + 5, none⟩ = some (.slice A195_5 ((zAF l0 (rd (rd_L1 t182 x18_1) x25_2)).f5).length c195_5)) (ds := []) #[fF,fF,fF,fF,fF,fF,fF,fF,fF,fF] (by kernel_rfl) rfl rfl ⟨((HB.out.cell (World.block_lt_of_cell? w _ hw194_0)).trans hw194_0), ((HB.out.cell (World.block_lt_of_cell? w _ hw194_1)).trans hw194_1), ((HB.out.cell (World.block_lt_of_cell? w _ hw194_2)).trans hw194_2), ((HB.out.cell (World.block_lt_of_cell? w _ hw194_3)).trans hw194_3), ((HB.out.cell (World.block_lt_of_cell? w _ hw194_4)).trans hw194_4), ((HB.out.cell (World.block_lt_of_cell? w _ hw194_5)).trans hw194_5), ((HB.out.cell (World.block_lt_of_cell? w _ hw195_0)).trans hw195_0), ((HB.out.cell (World.block_lt_of_cell? w _ hw195_1)).trans hw195_1), ((HB.out.cell (World.block_lt_of_cell? w _ hw195_2)).trans hw195_2), ((HB.out.cell (World.block_lt_of_cell? w _ hw195_3)).trans hw195_3), ((HB.out.cell (World.block_lt_of_cell? w _ hw195_4)).trans hw195_4), ((HB.out.cell (World.block_lt_of_cell? w _ hw195_5)).trans hw195_5)⟩ (fun hHeld => ?_); refine with_tabW sched_Cost.tab10 sched_Cost.bits10 (fun HT_ HW_ => ?_)
                  generalize wr.drew = w28 at HO_4 HO_16 HR188_0 HB HR194_5 HR195_5 hx194_0 hx194_1 hx194_2 hx194_3 hx194_4 hx194_5 hx195_0 hx195_1 hx195_2 hx195_3 hx195_4 hx195_5 hHeld ⊢
                  refine pure_ (i := 0) (N := some 29) (v := ?_) (a' := ?_) #[tT,fF,fF,fF,fF,fF,fF,fF,fF,fF] rfl rfl (zAZ HT_.out (by kernel_rfl)) (fun _ _ _ h => h) (Or.inl ⟨by rfl, ?_⟩) ?_ ?_
                  rotate_left
                  ·intro w'
                   go_simp
                   with_reducible rfl
                  rotate_left
                  ·simp only [Act.put, List.setIfInBounds_toArray, List.set_cons_zero, List.set_cons_succ, i64_w, i32_w]
                   rfl
                  refine pure_ (i := 1) (N := some 30) (v := ?_) (a' := ?_) #[tT,tT,fF,fF,fF,fF,fF,fF,fF,fF] rfl rfl (zAZ HT_.out (by kernel_rfl)) (fun _ _ _ h => h) (Or.inl ⟨by rfl, ?_⟩) ?_ ?_
                  rotate_left
                  ·intro w'
                   go_simp
                   with_reducible rfl
                  rotate_left
                  ·simp only [Act.put, List.setIfInBounds_toArray, List.set_cons_zero, List.set_cons_succ, i64_w, i32_w]
                   rfl
                  refine pure_ (i := 2) (N := some 31) (v := ?_) (a' := ?_) #[tT,tT,tT,fF,fF,fF,fF,fF,fF,fF] rfl rfl (zAZ HT_.out (by kernel_rfl)) (fun _ _ _ h => h) (Or.inl ⟨by rfl, ?_⟩) ?_ ?_
                  rotate_left
                  ·intro w'
                   go_simp
                   with_reducible rfl
                  rotate_left
                  ·simp only [Act.put, List.setIfInBounds_toArray, List.set_cons_zero, List.set_cons_succ, i64_w, i32_w]
                   rfl
                  refine pure_ (i := 4) (N := some 33) (v := ?_) (a' := ?_) #[tT,tT,tT,fF,tT,fF,fF,fF,fF,fF] rfl rfl (zAZ HT_.out (by kernel_rfl)) (fun _ _ _ h => h) (Or.inl ⟨by rfl, ?_⟩) ?_ ?_
                  rotate_left
                  ·intro w'
                   go_simp
                   with_reducible rfl
                  rotate_left
                  ·simp only [Act.put, List.setIfInBounds_toArray, List.set_cons_zero, List.set_cons_succ, i64_w, i32_w]
                   rfl
                  refine pure_ (i := 5) (N := some 34) (v := ?_) (a' := ?_) #[tT,tT,tT,fF,tT,tT,fF,fF,fF,fF] rfl rfl (zAZ HT_.out (by kernel_rfl)) (fun _ _ _ h => h) (Or.inl ⟨by rfl, ?_⟩) ?_ ?_
                  rotate_left
                  ·intro w'
                   go_simp
                   with_reducible rfl
                  rotate_left
                  ·simp only [Act.put, List.setIfInBounds_toArray, List.set_cons_zero, List.set_cons_succ, i64_w, i32_w]
                   rfl
                  refine pure_ (i := 6) (N := some 35) (v := ?_) (a' := ?_) #[tT,tT,tT,fF,tT,tT,tT,fF,fF,fF] rfl rfl (zAZ HT_.out (by kernel_rfl)) (fun _ _ _ h => h) (Or.inl ⟨by rfl, ?_⟩) ?_ ?_
                  rotate_left
                  ·intro w'
                   go_simp
                   with_reducible rfl
                  rotate_left
                  ·simp only [Act.put, List.setIfInBounds_toArray, List.set_cons_zero, List.set_cons_succ, i64_w, i32_w]
                   rfl
                  refine take_ (i := 3) (N := some 32) (v := ?_) (a' := ?_) #[tT,tT,tT,tT,tT,tT,tT,fF,fF,fF] rfl rfl (zBN HT_.out HW_.out (by kernel_rfl)) (fun _ _ _ h => h) (Or.inl ⟨by rfl, ?_⟩) hHeld ?_ ?_
                  rotate_left
                  ·rintro w' ⟨s0, s1, s2, s3, s4, s5, s6, s7, s8, s9, s10, s11⟩
                   go_simp
                   with_reducible rfl
                  rotate_left
                  ·simp only [Act.put, List.setIfInBounds_toArray, List.set_cons_zero, List.set_cons_succ, i64_w, i32_w]
                   rfl
                  refine take_ (i := 7) (N := some 36) (v := ?_) (a' := ?_) #[tT,tT,tT,tT,tT,tT,tT,tT,fF,fF] rfl rfl (zBN HT_.out HW_.out (by kernel_rfl)) (fun _ _ _ h => h) (Or.inl ⟨by rfl, ?_⟩) hHeld ?_ ?_
                  rotate_left
                  ·rintro w' ⟨s0, s1, s2, s3, s4, s5, s6, s7, s8, s9, s10, s11⟩
                   go_simp
                   with_reducible rfl
                  rotate_left
                  ·simp only [Act.put, List.setIfInBounds_toArray, List.set_cons_zero, List.set_cons_succ, i64_w, i32_w]
                   rfl
                  refine one_ (i := 8) (N := some 37) #[tT,tT,tT,tT,tT,tT,tT,tT,tT,fF] rfl rfl (one_of HT_.out (by kernel_rfl)) (by decide) (fun K hK => ?_)
                  refine goes_ Try.func43 (by kernel_rfl) rfl #[.agg #[.int .i64 ((zAF l0 (rd (rd_L1 t182 x18_1) x25_2)).f0), .int .i64 ((zAF l0 (rd (rd_L1 t182 x18_1) x25_2)).f1), .int .i64 ((zAF l0 (rd (rd_L1 t182 x18_1) x25_2)).f2), .int .i64 ((zAF l0 (rd (rd_L1 t182 x18_1) x25_2)).f3), .int .i64 ((zAF l0 (rd (rd_L1 t182 x18_1) x25_2)).f4), .slice A195_5 ((zAF l0 (rd (rd_L1 t182 x18_1) x25_2)).f5).length c195_5]] (by rfl) rfl rfl (by (try simp only [List.map_toArray, List.map_cons, List.map_nil]); first | done | rfl | (simp only [List.length_drop, List.length_take]; rfl)) ?_
                  with_reducible refine (code_Sets.calls k2 ((zAF l0 (rd (rd_L1 t182 x18_1) x25_2)).f0) ((zAF l0 (rd (rd_L1 t182 x18_1) x25_2)).f1) ((zAF l0 (rd (rd_L1 t182 x18_1) x25_2)).f2) ((zAF l0 (rd (rd_L1 t182 x18_1) x25_2)).f3) ((zAF l0 (rd (rd_L1 t182 x18_1) x25_2)).f4) _ _ ((zAF l0 (rd (rd_L1 t182 x18_1) x25_2)).f5) t196 _ ?side1 ?side2 A19.out).mono ?_
                  (case side1 => repeat (first | exact (Kd.C_below HR195_5.out HB.out) | (with_reducible refine Kd.C_alloc ?_ _) | (with_reducible refine Kd.C_drewN ?_ _) | (with_reducible refine Kd.C_drew ?_)))
                  (case side2 => exact HC195_5.out)
                  rintro e w29 ⟨rfl, hb⟩
                  refine ⟨_, rfl, ?_⟩
                  have n0_ := Aside0.mk (Kd.R_below (by (with_reducible repeat (first | apply Kd.R_alloc | apply Kd.R_drewN | apply Kd.R_drew)); exact HO_4.out) hb)
                  have n1_ := Aside0.mk (Kd.S_below (by (with_reducible repeat (first | apply Kd.S_alloc | apply Kd.S_drewN | apply Kd.S_drew)); exact HO_16.out) hb)
                  have n2_ := Aside0.mk (Kd.C_below (by repeat (first | (with_reducible exact HR188_0.out) | (with_reducible refine Kd.C_alloc ?_ _) | (with_reducible refine Kd.C_drewN ?_ _) | (with_reducible refine Kd.C_drew ?_) | exact HR188_0.out)) hb)
                  have n3_ := Aside0.mk (zAL (by repeat (first | (with_reducible first | exact HB.out | apply zAC | apply zAA | apply zAD) | exact HB.out)) hb)
                  clear HO_4
                  clear HO_16
                  clear HR188_0
                  clear HB
                  have HO_4 := n0_
                  have HO_16 := n1_
                  have HR188_0 := n2_
                  have HB := n3_
                  clear n0_ n1_ n2_ n3_
                  (try clear hb)
                  (try clear hb2)
                  (try clear hk)
                  (try clear hi)
                  refine hK.out _ _ ⟨((HB.out.cell (World.block_lt_of_cell? w _ hw194_0)).trans hw194_0), ((HB.out.cell (World.block_lt_of_cell? w _ hw194_1)).trans hw194_1), ((HB.out.cell (World.block_lt_of_cell? w _ hw194_2)).trans hw194_2), ((HB.out.cell (World.block_lt_of_cell? w _ hw194_3)).trans hw194_3), ((HB.out.cell (World.block_lt_of_cell? w _ hw194_4)).trans hw194_4), ((HB.out.cell (World.block_lt_of_cell? w _ hw194_5)).trans hw194_5), ((HB.out.cell (World.block_lt_of_cell? w _ hw195_0)).trans hw195_0), ((HB.out.cell (World.block_lt_of_cell? w _ hw195_1)).trans hw195_1), ((HB.out.cell (World.block_lt_of_cell? w _ hw195_2)).trans hw195_2), ((HB.out.cell (World.block_lt_of_cell? w _ hw195_3)).trans hw195_3), ((HB.out.cell (World.block_lt_of_cell? w _ hw195_4)).trans hw195_4), ((HB.out.cell (World.block_lt_of_cell? w _ hw195_5)).trans hw195_5)⟩ (fun hHeld => ?_)
                  clear hK K
                  refine norm_ (a' := ?_) ?_ ?_
                  rotate_left
                  ·show Act.put _ (some 37) _ = _
                   simp only [Act.put, List.setIfInBounds_toArray, List.set_cons_zero, List.set_cons_succ, i64_w, i32_w]
                   rfl
                  refine one_ (i := 9) (N := some 38) #[tT,tT,tT,tT,tT,tT,tT,tT,tT,tT] rfl rfl (one_of HT_.out (by kernel_rfl)) (by decide) (fun K hK => ?_)
                  refine goes_ Try.func42 (by kernel_rfl) rfl #[.agg #[.int .i64 ((zAF l0 x18_1).f0), .int .i64 ((zAF l0 x18_1).f1), .int .i64 ((zAF l0 x18_1).f2), .int .i64 ((zAF l0 x18_1).f3), .int .i64 ((zAF l0 x18_1).f4), .slice A194_5 ((zAF l0 x18_1).f5).length c194_5], .int .i64 t196] (by rfl) rfl rfl (by (try simp only [List.map_toArray, List.map_cons, List.map_nil]); first | done | rfl | (simp only [List.length_drop, List.length_take]; rfl)) ?_
                  with_reducible refine (sched_reads.calls k2 ((zAF l0 x18_1).f0) ((zAF l0 x18_1).f1) ((zAF l0 x18_1).f2) ((zAF l0 x18_1).f3) ((zAF l0 x18_1).f4) _ _ ((zAF l0 x18_1).f5) t196 false _ ?side1 ?side2 A20.out).mono ?_
                  (case side1 => repeat (first | exact (Kd.C_below HR194_5.out HB.out) | (with_reducible refine Kd.C_alloc ?_ _) | (with_reducible refine Kd.C_drewN ?_ _) | (with_reducible refine Kd.C_drew ?_)))
                  (case side2 => exact HC194_5.out)
                  rintro e w30 ⟨rfl, hb⟩
                  refine ⟨_, rfl, ?_⟩
                  have n0_ := Aside0.mk (Kd.R_below (by (with_reducible repeat (first | apply Kd.R_alloc | apply Kd.R_drewN | apply Kd.R_drew)); exact HO_4.out) hb)
                  have n1_ := Aside0.mk (Kd.S_below (by (with_reducible repeat (first | apply Kd.S_alloc | apply Kd.S_drewN | apply Kd.S_drew)); exact HO_16.out) hb)
                  have n2_ := Aside0.mk (Kd.C_below (by repeat (first | (with_reducible exact HR188_0.out) | (with_reducible refine Kd.C_alloc ?_ _) | (with_reducible refine Kd.C_drewN ?_ _) | (with_reducible refine Kd.C_drew ?_) | exact HR188_0.out)) hb)
                  have n3_ := Aside0.mk (zAL (by repeat (first | (with_reducible first | exact HB.out | apply zAC | apply zAA | apply zAD) | exact HB.out)) hb)
                  clear HO_4
                  clear HO_16
                  clear HR188_0
                  clear HB
                  have HO_4 := n0_
                  have HO_16 := n1_
                  have HR188_0 := n2_
                  have HB := n3_
                  clear n0_ n1_ n2_ n3_
                  (try clear hb)
                  (try clear hb2)
                  (try clear hk)
                  (try clear hi)
                  refine hK.out _ _ ⟨((HB.out.cell (World.block_lt_of_cell? w _ hw194_0)).trans hw194_0), ((HB.out.cell (World.block_lt_of_cell? w _ hw194_1)).trans hw194_1), ((HB.out.cell (World.block_lt_of_cell? w _ hw194_2)).trans hw194_2), ((HB.out.cell (World.block_lt_of_cell? w _ hw194_3)).trans hw194_3), ((HB.out.cell (World.block_lt_of_cell? w _ hw194_4)).trans hw194_4), ((HB.out.cell (World.block_lt_of_cell? w _ hw194_5)).trans hw194_5), ((HB.out.cell (World.block_lt_of_cell? w _ hw195_0)).trans hw195_0), ((HB.out.cell (World.block_lt_of_cell? w _ hw195_1)).trans hw195_1), ((HB.out.cell (World.block_lt_of_cell? w _ hw195_2)).trans hw195_2), ((HB.out.cell (World.block_lt_of_cell? w _ hw195_3)).trans hw195_3), ((HB.out.cell (World.block_lt_of_cell? w _ hw195_4)).trans hw195_4), ((HB.out.cell (World.block_lt_of_cell? w _ hw195_5)).trans hw195_5)⟩ (fun hHeld => ?_)
                  clear hK K
                  refine norm_ (a' := ?_) ?_ ?_
                  rotate_left
                  ·show Act.put _ (some 38) _ = _
                   simp only [Act.put, List.setIfInBounds_toArray, List.set_cons_zero, List.set_cons_succ, i64_w, i32_w]
                   rfl
                  refine done_ (done_of HT_.out (by kernel_rfl)) ?_
                  try go_wp2
                  go_roundg k2
                  case measure => have := HK1.out; have := HK2.out; omega
                  case rel => exact ⟨(x5_2), (wrap64 (x25_2 + 1)), (by first | rfl | (simp; done) | (simp [*]; done)), (by first | rfl | (simp; done) | (simp [*]; done)), H', ⟨by have := HK1.out; have := HK2.out; omega⟩, ⟨by (with_reducible repeat (first | apply Kd.R_alloc | apply Kd.R_drewN | apply Kd.R_drew)); exact HO_4.out⟩, ⟨by (with_reducible repeat (first | apply Kd.S_alloc | apply Kd.S_drewN | apply Kd.S_drew)); exact HO_16.out⟩, ⟨by repeat (first | (with_reducible exact HR188_0.out) | (with_reducible refine Kd.C_alloc ?_ _) | (with_reducible refine Kd.C_drewN ?_ _) | (with_reducible refine Kd.C_drew ?_) | exact HR188_0.out)⟩, ⟨by repeat (first | (with_reducible first | exact HB.out | apply zAC | apply zAA | apply zAD) | exact HB.out)⟩⟩
                ·rw [if_neg c18] at H
                 exact absurd H (by simp)
               ·rw [if_neg c17] at H
                exact absurd H (by simp)
              ·rw [if_neg c16] at H
               exact absurd H (by simp)
             ·rw [if_neg c15] at H
              exact absurd H (by simp)
            ·rw [if_neg c14] at H
             exact absurd H (by simp)
           ·rw [if_neg c13] at H
            exact absurd H (by simp)
          ·rw [if_neg c12] at H
           have c12b0 : decide (x25_2 < ((rd_L1 t182 x18_1).length : Int)) = false := decide_eq_false c12
           clear c12
           by_cases c31 : 0 ≤ x18_1
           ·rw [if_pos c31] at H
            have c31b0 : decide (0 ≤ x18_1) = true := decide_eq_true c31
            clear c31
            by_cases c32 : x18_1 < (l0.length : Int)
            ·rw [if_pos c32] at H
             have c32b0 : decide (x18_1 < (l0.length : Int)) = true := decide_eq_true c32
             clear c32
             replace H := Option.bind_eq_some_iff.mp H
             obtain ⟨t190, A330, H⟩ := H
             replace H : (if x18_1 < (x4_1.length : Int) then ((some (x4_1.set (x18_1 : Int).toNat (wrap64 (x5_2 + t190)) : List Int)).bind fun y191 => (sched_Cost.l0 k2 l0 y191 (wrap64 (x5_2 + 1)) (mx x6_1 (rd y191 x18_1)) t182 (t182.length : Int) (wrap64 (x18_1 + 1)))) else (none)) = some r := H
             have A33 := Aside0.mk A330
             clear A330
             by_cases c34 : x18_1 < (x4_1.length : Int)
             ·rw [if_pos c34] at H
              have c34b0 : decide (x18_1 < (x4_1.length : Int)) = true := decide_eq_true c34
              clear c34
              obtain ⟨y191, hy191⟩ : ∃ y_ : List Int, y_ = (x4_1.set (x18_1 : Int).toNat (wrap64 (x5_2 + t190))) := ⟨_, rfl⟩
              replace H : (sched_Cost.l0 k2 l0 y191 (wrap64 (x5_2 + 1)) (mx x6_1 (rd y191 x18_1)) t182 (t182.length : Int) (wrap64 (x18_1 + 1))) = some r := by first | (rw [hy191]; with_reducible exact H) | (have H2_ := (Option.bind_some _ _).symm.trans H; rw [hy191]; with_reducible exact H2_) | (have H2_ := (Option.bind_some _ _).symm.trans H; with_reducible exact H2_) | with_reducible exact H | (rw [hy191]; exact H) | exact H
              have Ny191 := Aside0.mk hy191
              clear hy191
              obtain ⟨ji36, hji36⟩ : ∃ j_ : Int, (mx x6_1 (rd y191 x18_1)) = j_ := ⟨_, rfl⟩
              replace H : (sched_Cost.l0 k2 l0 y191 (wrap64 (x5_2 + 1)) ji36 t182 (t182.length : Int) (wrap64 (x18_1 + 1))) = some r := by first | (rw [hji36] at H; exact H) | (simp only [hji36] at H ⊢; exact H)
              (try rw [hji36] at A33)
              have hji36_ : (if x6_1 < (rd y191 x18_1) then (rd y191 x18_1) else x6_1) = ji36 := hji36
              have H' := Aside0.mk H
              clear H
              have p189 : 0 ≤ (x18_1 : Int) := of_decide_eq_true (by first | (with_reducible assumption) | assumption)
              have q189 : x18_1 < (l0.length : Int) := of_decide_eq_true (by first | (with_reducible assumption) | assumption)
              obtain ⟨ad189, A189_5, c189_5, e189, hx189_0, hx189_1, hx189_2, hx189_3, hx189_4, hx189_5, hl189_5, hi189_5⟩ := zBT HR0.out x18_1 p189 q189
              cases e189
              replace hx189_0 := (HB.out.cell (World.block_lt_of_cell? w _ hx189_0)).trans hx189_0
              replace hx189_1 := (HB.out.cell (World.block_lt_of_cell? w _ hx189_1)).trans hx189_1
              replace hx189_2 := (HB.out.cell (World.block_lt_of_cell? w _ hx189_2)).trans hx189_2
              replace hx189_3 := (HB.out.cell (World.block_lt_of_cell? w _ hx189_3)).trans hx189_3
              replace hx189_4 := (HB.out.cell (World.block_lt_of_cell? w _ hx189_4)).trans hx189_4
              replace hx189_5 := (HB.out.cell (World.block_lt_of_cell? w _ hx189_5)).trans hx189_5
              have HR189_5 := Aside0.mk hi189_5
              have HC189_5 := Aside0.mk hl189_5
              clear hi189_5 hl189_5
              replace p189 := eq_true p189
              replace q189 := eq_true q189
              go_wp2_with (first | ((with_reducible refine zAV (f := 14) rfl ?_); refine zBO (some 53) rfl rfl Try.func14 (by kernel_rfl) rfl #[.agg #[.int .i64 ((zAF l0 x18_1).f0), .int .i64 ((zAF l0 x18_1).f1), .int .i64 ((zAF l0 x18_1).f2), .int .i64 ((zAF l0 x18_1).f3), .int .i64 ((zAF l0 x18_1).f4), .slice A189_5 ((zAF l0 x18_1).f5).length c189_5]] rfl (by (try simp only [List.map_toArray, List.map_cons, List.map_nil]); first | done | rfl | (simp only [List.length_drop, List.length_take]; rfl)) ?_; (with_reducible refine (sched_Latency.calls ((zAF l0 x18_1).f0) ((zAF l0 x18_1).f1) ((zAF l0 x18_1).f2) ((zAF l0 x18_1).f3) ((zAF l0 x18_1).f4) _ _ ((zAF l0 x18_1).f5) t190 _ ?side1 ?side2 A33.out).mono ?_); (case side1 => repeat (first | exact (Kd.C_below HR189_5.out HB.out) | (with_reducible refine Kd.C_alloc ?_ _) | (with_reducible refine Kd.C_drewN ?_ _) | (with_reducible refine Kd.C_drew ?_))); (case side2 => exact HC189_5.out); rintro e w37 ⟨rfl, hb⟩; refine ⟨_, rfl, ?_⟩; have n0_ := Aside0.mk (Kd.R_below (by (with_reducible repeat (first | apply Kd.R_alloc | apply Kd.R_drewN | apply Kd.R_drew)); exact HO_4.out) hb); have n1_ := Aside0.mk (Kd.S_below (by (with_reducible repeat (first | apply Kd.S_alloc | apply Kd.S_drewN | apply Kd.S_drew)); exact HO_16.out) hb); have n2_ := Aside0.mk (Kd.C_below (by repeat (first | (with_reducible exact HR188_0.out) | (with_reducible refine Kd.C_alloc ?_ _) | (with_reducible refine Kd.C_drewN ?_ _) | (with_reducible refine Kd.C_drew ?_) | exact HR188_0.out)) hb); have n3_ := Aside0.mk (zAL (by repeat (first | (with_reducible first | exact HB.out | apply zAC | apply zAA | apply zAD) | exact HB.out)) hb); clear HO_4; clear HO_16; clear HR188_0; clear HB; have HO_4 := n0_; have HO_16 := n1_; have HR188_0 := n2_; have HB := n3_; clear n0_ n1_ n2_ n3_; (try clear hb); (try clear hb2); (try clear hk); (try clear hi); have p35 : 0 ≤ (x18_1 : Int) := of_decide_eq_true (by first | (with_reducible assumption) | assumption); have q35 : (x18_1 : Int) < ((x4_1.length : Int) : Int) := of_decide_eq_true (by first | (with_reducible assumption) | assumption); obtain ⟨go35, co35, eo35, gb35, gl35, cl35, HG35⟩ := Kd.R_form HO_4.out (by omega); (first | cases eo35 | (injection eo35 with ea_ en_ ec_; (first | subst ea_ | (injection ea_ with ea_; subst ea_)); subst ec_; clear en_)); have GB35 := Aside0.mk gb35; have GG35 := Aside0.mk HG35; clear gb35 gl35 HG35; obtain ⟨hx35_0, hf35_0⟩ := Kd.R_celln 0 HO_4.out (x18_1 : Int) p35 q35; replace p35 := eq_true p35; replace q35 := eq_true q35; obtain ⟨hy38_, hz38_⟩ := Kd.R_celln 0 HO_4.out (x18_1 : Int) (of_decide_eq_true (by first | (with_reducible assumption) | assumption)) (of_decide_eq_true (by first | (with_reducible assumption) | assumption)); have HP38 := Kd.R_putg HO_4.out (x18_1 : Int) (wrap64 (x5_2 + t190))) | ((with_reducible refine gate_store (t := 3) (p := 55) rfl ?_); refine store_event (t := 3) (p := 55) (v := ?vo_w39) (w1 := (w37.setCell ⟨go35, (x18_1 : Int).toNat, none⟩ (.int .i64 (wrap64 (x5_2 + t190))))) ?hg ?ho ?hn ?hr ?_; (case ho => rfl); (case hg => rfl); (case hn => rfl); (case hr => first | (go_simp; done) | (go_simp; rfl)); intro w39 hw; have hg : w37.grownBy w39 (some go35) := (by rw [hw]; exact HP38.2); have hp_ : Kd.R (Kd.int .i64) 3 w39 w.heap.size (fun _ => True) (.slice (some ⟨go35, 0, none⟩) x4_1.length co35) y191 := (by rw [hw, Ny191.out]; exact HP38.1); clear HP38; have n0_ := Aside0.mk (hp_); have n1_ := Aside0.mk (Kd.S_after (v := (.slice (some ⟨go35, 0, none⟩) x4_1.length co35)) (v1 := (.slice (some ⟨go35, 0, none⟩) x4_1.length co35)) (ok := (fun _ => True)) (by (with_reducible repeat (first | apply Kd.S_alloc | apply Kd.S_drewN | apply Kd.S_drew)); exact Kd.S_mono HO_16.out (fun _ hk => ⟨trivial, hk⟩)) hg (.inl rfl)); have n2_ := Aside0.mk ((by rw [hw]; exact zAH (HB.out) GB35.out : Below w.heap.size w w39)); clear HO_4; clear HO_16; clear HB; have HO_4 := n0_; have HO_16 := n1_; have HB := n2_; clear n0_ n1_ n2_; clear hg hw hp_; have p192 : 0 ≤ (x18_1 : Int) := of_decide_eq_true (by first | (with_reducible assumption) | assumption); have q192 : x18_1 < (y191.length : Int) := (by have h_ : (x18_1 : Int) < ((x4_1.length : Int) : Int) := of_decide_eq_true (by first | (with_reducible assumption) | assumption); first | (have e_ := (Kd.R_reads' HO_4.out).1; omega) | simpa only [Ny191.out, List.length_set] using h_); have ql192 : ((x18_1 : Int) < ((x4_1.length : Int) : Int)) = True := eq_true (of_decide_eq_true (by first | (with_reducible assumption) | assumption)); obtain ⟨ad192, e192, hx192_0⟩ := Kd.at_int (Kd.R_reads' HO_4.out).2.2 x18_1 p192 q192; obtain rfl : (⟨go35, 0, none⟩ : Addr) = ad192 := (by injection e192); (first | simp only [zBX] at hx192_0 | simp only [add_at] at hx192_0 | simp only [Addr.add, Nat.zero_add] at hx192_0 | skip); replace p192 := eq_true p192; replace q192 := eq_true q192))
              go_roundg k2
              case measure => have := HK1.out; have := HK2.out; omega
              case rel => exact ⟨(y191), (wrap64 (x5_2 + 1)), (ji36), (wrap64 (x18_1 + 1)), (by first | rfl | (simp; done) | (simp [*]; done)), (by first | rfl | (simp; done) | (simp only [← hji36] <;> (first | rfl | simp)) | (simp [*]; done)), (by first | rfl | (simp; done) | (simp [*]; done)), H', ⟨by have := HK1.out; have := HK2.out; omega⟩, ⟨by (with_reducible repeat (first | apply Kd.R_alloc | apply Kd.R_drewN | apply Kd.R_drew)); exact HO_4.out⟩, ⟨by (with_reducible repeat (first | apply Kd.S_alloc | apply Kd.S_drewN | apply Kd.S_drew)); exact Kd.S_mono HO_16.out (fun _ hk => hk.2)⟩, ⟨by repeat (first | (with_reducible first | exact HB.out | apply zAC | apply zAA | apply zAD) | exact HB.out)⟩⟩
             ·rw [if_neg c34] at H
              exact absurd H (by simp)
            ·rw [if_neg c32] at H
             exact absurd H (by simp)
           ·rw [if_neg c31] at H
            exact absurd H (by simp)
       ·rw [if_neg c11] at H
        exact absurd H (by simp)
      ·rw [if_neg c10] at H
       exact absurd H (by simp)
     ·rw [if_neg c9] at H
      have c9b0 : decide (x18_1 < (t182.length : Int)) = false := decide_eq_false c9
      clear c9
      obtain rfl := Option.some.inj H
      go_wp2
      go_ret
      exact ⟨by first | rfl | (simp [zAO, zAN] <;> rfl) | (simp [*, zAO, zAN] <;> rfl), by repeat (first | (with_reducible first | exact HB.out | apply zAC | apply zAA | apply zAD) | exact HB.out)⟩
  ·rw [if_neg c4] at H
   exact absurd H (by simp)
 ·rw [if_neg c3] at H
  exact absurd H (by simp)
end Go.Proofs.Ytphmlkbmnmicpaa.A
namespace Go.Proofs.Ytphmlkbmnmicpaa.A
open Go.RowKit Go.Proofs.YtphmlkbmnmicpaaW.PrintWords Go.Proofs.YtphmlkbmnmicpaaW.PrintLast Go.Proofs.YtphmlkbmnmicpaaW.PrintMore Go.Shelf
def cOne (l : List S37) (ends : List Int) (i : Nat) (a k : Int) : Int := if zCF (zAF l i) (zBM (zAF l k)) then mx a (rd ends k) else a
def cRow (l : List S37) (ends : List Int) (i : Nat) (row : List Int) (a : Int) : Int := row.foldl (cOne l ends i) a
def costStep (l : List S37) (d : List (List Int)) (s : List Int × Int × Int) (i : Nat) : List Int × Int × Int :=
 (s.1.set i (wrap64 (cRow l s.1 i (rd_L1 d i) s.2.1 + lt_ l i)), wrap64 (cRow l s.1 i (rd_L1 d i) s.2.1 + 1), mx s.2.2 (wrap64 (cRow l s.1 i (rd_L1 d i) s.2.1 + lt_ l i)))
def costN (l : List S37) (d : List (List Int)) (m : Nat) : List Int × Int × Int := (List.range m).foldl (costStep l d) (List.replicate d.length 0, 0, 0)
theorem costN_succ (l : List S37) (d : List (List Int)) (m : Nat) : costN l d (m + 1) = costStep l d (costN l d m) m := by simp [costN, List.range_succ]
theorem costN_length (l : List S37) (d : List (List Int)) (m : Nat) : (costN l d m).1.length = d.length := by
 induction m with
 | zero => simp [costN]
 | succ m ih => rw [costN_succ]; simp [costStep, ih]
def costOf (l : List S37) : Int := (costN l (zAX l) l.length).2.2
theorem lat_f (x : S37) : sched_Latency.f x.f0 x.f1 x.f2 x.f3 x.f4 x.f5 = some (latOf x) := by
 unfold sched_Latency.f latOf
 split <;> (try rfl)
 split <;> (try rfl)
 split <;> (try rfl)
 split <;> (try rfl)
 split <;> (try rfl)
 split <;> (try rfl)
theorem cost_inner (l : List S37) (hl : l.length ≤ 4096) (hs : ∀ x ∈ l, x.f5.length ≤ 1000) (d : List (List Int)) (hdl : d.length = l.length) (i : Nat) (hi : i < l.length) (ends : List Int) (he : ends.length = l.length) (last : Int) (row : List Int)
  (hrow : ∀ k ∈ row, 0 ≤ k ∧ k < l.length) (hrl : row.length ≤ 4096) (r : Int) :
  ∀ (n j : Nat) (a : Int), j ≤ row.length → row.length - j = n →
   Ev (fun k => sched_Cost.l0 k l (ends.set i (wrap64 (cRow l ends i (row.drop j) a + lt_ l i))) (wrap64 (cRow l ends i (row.drop j) a + 1)) (mx last (wrap64 (cRow l ends i (row.drop j) a + lt_ l i))) d (l.length : Int) ((i + 1 : Nat) : Int)) r →
   Ev (fun k => sched_Cost.l1 k l ends a last (i : Int) d (l.length : Int) (i : Int) row (row.length : Int) (j : Int)) r := by
 intro n
 induction n with
 | zero =>
  intro j a hj hn hE
  obtain rfl : j = row.length := by omega
  rw [List.drop_length] at hE
  obtain ⟨K, hK⟩ := hE
  refine ⟨K + 1, fun k hk => ?_⟩
  obtain ⟨k, rfl⟩ : ∃ m, k = m + 1 := ⟨k - 1, by omega⟩
  have hK' := hK k (by omega)
  simp only [sched_Cost.l1]
  rw [if_neg (by omega), if_pos (by omega), if_pos (by omega), lat_f]
  simp only [Option.bind_some, Int.toNat_natCast]
  rw [if_pos (by omega), rd_set, if_pos ⟨rfl, by omega⟩, show wrap64 ((i : Int) + 1) = ((i + 1 : Nat) : Int) from by unfold wrap64; omega]
  exact hK'
 | succ n ih =>
  intro j a hj hn hE
  have hjl : j < row.length := by omega
  rw [List.drop_eq_getElem_cons hjl] at hE
  have hr : rd row (j : Int) = row[j] := by simp [rd, hjl]
  have hk := hrow row[j] (List.getElem_mem hjl)
  have hstep : cRow l ends i (row[j] :: row.drop (j + 1)) a = cRow l ends i (row.drop (j + 1)) (cOne l ends i a row[j]) := rfl
  rw [hstep] at hE
  clear hstep
  have h1 := ih (j + 1) (cOne l ends i a row[j]) (by omega) (by omega) hE
  obtain ⟨K, hK⟩ := h1
  refine ⟨max K 1100 + 1, fun k hk' => ?_⟩
  obtain ⟨k, rfl⟩ : ∃ m, k = m + 1 := ⟨k - 1, by omega⟩
  have hK' := hK k (by omega)
  have hm : ∀ m : Int, 0 ≤ m → m < l.length → (zAF l m).f5.length ≤ 1000 := fun m h0 hm => hs _ (by unfold zAF; rw [List.getD_eq_getElem?_getD, List.getElem?_eq_getElem (show m.toNat < l.length by omega)]; exact List.getElem_mem _)
  simp only [sched_Cost.l1]
  rw [hr]
  generalize row[j] = kk at *
  rw [if_pos (by omega), if_pos (by omega), if_pos (by omega), if_pos (by omega), if_pos (by omega), if_pos (by omega), if_pos (by omega), sets_ev _ _ (by omega)]
  simp only [Option.bind_some]
  rw [reads_ev _ (hm _ (by omega) (by omega)) _ _ (by omega)]
  simp only [Option.bind_some]
  rw [show wrap64 ((j : Int) + 1) = ((j + 1 : Nat) : Int) from by unfold wrap64; omega]
  unfold cOne at hK'
  by_cases hc : zCF (zAF l (i : Int)) (zBM (zAF l kk)) = true
  ·rw [if_pos hc] at hK' ⊢
   rw [if_pos (by omega)]
   exact hK'
  ·rw [if_neg hc] at hK' ⊢
   exact hK'
theorem cost_outer (l : List S37) (hl : l.length ≤ 4096) (hs : ∀ x ∈ l, x.f5.length ≤ 1000) (d : List (List Int)) (hdl : d.length = l.length) (hd : Back d) (hr : ∀ i : Nat, i < l.length → (rd_L1 d i).length ≤ 4096) :
  ∀ (n i : Nat), i ≤ l.length → l.length - i = n → Ev (fun k => sched_Cost.l0 k l (costN l d i).1 (costN l d i).2.1 (costN l d i).2.2 d (l.length : Int) (i : Int)) (costN l d l.length).2.2 := by
 intro n
 induction n with
 | zero =>
  intro i hi hn
  obtain rfl : i = l.length := by omega
  refine ⟨1, fun k hk => ?_⟩
  obtain ⟨k, rfl⟩ : ∃ m, k = m + 1 := ⟨k - 1, by omega⟩
  simp only [sched_Cost.l0]
  rw [if_neg (by omega)]
 | succ n ih =>
  intro i hi hn
  have h1 := ih (i + 1) (by omega) (by omega)
  rw [costN_succ] at h1
  have hrow : ∀ k ∈ rd_L1 d i, 0 ≤ k ∧ k < l.length := by
   intro k hk
   obtain ⟨m, rfl, hm⟩ := hd i (by omega) k hk
   omega
  have h2 := cost_inner l hl hs d hdl i (by omega) (costN l d i).1 (by rw [costN_length]; omega) (costN l d i).2.2 (rd_L1 d i) hrow (hr i (by omega)) _ _ 0 (costN l d i).2.1 (Nat.zero_le _) rfl h1
  obtain ⟨K, hK⟩ := h2
  refine ⟨K + 1, fun k hk => ?_⟩
  obtain ⟨k, rfl⟩ : ∃ m, k = m + 1 := ⟨k - 1, by omega⟩
  have hK' := hK k (by omega)
  simp only [sched_Cost.l0]
  rw [if_pos (by omega), if_pos (by omega), if_pos (by omega)]
  exact hK'
theorem cost_ev (l : List S37) (hl : l.length ≤ 4096) (hs : ∀ x ∈ l, x.f5.length ≤ 1000) : Ev (fun k => sched_Cost.f k l) (costOf l) := by
 have hdl := zBF l
 obtain ⟨K, hK⟩ := cost_outer l hl hs (zAX l) hdl (zBU l) (fun i hi => by
  rw [zBZ l i hi]
  have := zBQ l i i
  omega) l.length 0 (Nat.zero_le _) rfl
 obtain ⟨K2, hK2⟩ := deps_ev l hl hs
 refine ⟨max K K2, fun k hk => ?_⟩
 have hK' := hK k (by omega)
 have hK2' := hK2 k (by omega)
 show sched_Cost.f k l = _
 unfold sched_Cost.f
 simp only at hK2'
 rw [hK2']
 simp only [Option.bind_some]
 rw [if_pos (by omega), if_pos (by omega), hdl, Int.toNat_natCast]
 have e0 : costN l (zAX l) 0 = (List.replicate l.length 0, 0, 0) := by simp [costN, hdl]
 rw [e0] at hK'
 exact hK'
theorem cost_rounds (l : List S37) (hl : l.length ≤ 4096) (hs : ∀ x ∈ l, x.f5.length ≤ 1000) : ∃ k, sched_Cost.f k l = some (costOf l) := (cost_ev l hl hs).rounds
end Go.Proofs.Ytphmlkbmnmicpaa.A
namespace Go.Proofs.Ytphmlkbmnmicpaa.A
open Go.RowKit Go.Proofs.YtphmlkbmnmicpaaW.PrintWords Go.Proofs.YtphmlkbmnmicpaaW.PrintLast Go.Shelf
def mayB (d : List (List Int)) (n : Nat) : List Bool → List Int → Bool
 | _, [] => true
 | ps, k :: r => if k < 0 then false else if (n : Int) ≤ k then false else if ps.getD k.toNat false then false else if (rd_L1 d k).any (fun a => !(ps.getD a.toNat false)) then false else mayB d n (ps.set k.toNat true) r
structure MI (w : World) (Bp g : Nat) (A1 : Option Addr) (c1 n : Nat) (d : List (List Int)) (ps : List Bool) (W : World) : Prop where
 len : ps.length = n
 bp : Boxed W Bp 53 (.slice (some ⟨g, 0, none⟩) n n)
 row : W.heap[g]? = some (.cells (bools ps).toArray 4 (0, 0))
 hD : Kd.R (Kd.slice 3 (Kd.int .i64)) 23 W w.heap.size (fun k => k ≠ g) (.slice A1 n c1) d
 hB : Below w.heap.size w W
 lt : w.heap.size ≤ g ∧ g ≠ Bp
section
variable {w : World} {Bp g : Nat} {A1 : Option Addr} {c1 n : Nat} {d : List (List Int)} {ps : List Bool} {W : World}
theorem MI.drewN (h : MI w Bp g A1 c1 n d ps W) (q : Nat) : MI w Bp g A1 c1 n d ps (W.drewN q) :=
 ⟨h.len, h.bp, h.row, Kd.R_drewN h.hD q, zAA h.hB q, h.lt⟩
theorem MI.cell (h : MI w Bp g A1 c1 n d ps W) (i : Nat) (hi : i < n) : W.cell? ⟨g, i, none⟩ = some (.bool (ps.getD i false)) := by
 rw [zAE h.row i]
 have : i < ps.length := by rw [h.len]; exact hi
 simp [bools, this, List.getD_eq_getElem?_getD]
theorem MI.set (h : MI w Bp g A1 c1 n d ps W) (i : Nat) : MI w Bp g A1 c1 n d (ps.set i true) (W.setCell ⟨g, i, none⟩ (.bool true)) := by
 refine ⟨by simpa using h.len, zAS h.bp (p := ⟨g, i, none⟩) (Ne.symm h.lt.2) _, ?_, Kd.R_far h.hD (p := ⟨g, i, none⟩) (fun k hk => hk) _, h.hB.setCell (p := ⟨g, i, none⟩) h.lt.1 _, h.lt⟩
 have := blk_set h.row i (.bool true)
 rwa [bools_set] at this
end
set_option maxHeartbeats 1000000 in
theorem mayFn_calls {w : World} {Bp g : Nat} {A1 : Option Addr} {c1 n : Nat} {d : List (List Int)} {ps : List Bool} {W : World} (h : MI w Bp g A1 c1 n d ps W) (x : Int) (h0 : 0 ≤ x) (h1 : x < n) :
  Calls Try.prog 41 #[.int .i64 x, .pointer (some ⟨Bp, 0, none⟩)] W fun e w' => e = .returned (.bool (!(ps.getD x.toNat false))) ∧ W = w' := by
 have k0 := h.bp.cell
 have k1 := h.cell x.toNat (by omega)
 generalize ps.getD x.toNat false = b at k1 ⊢
 clear h
 go_enter Try.func41, Try.ntmps41
 go_wp2
 go_ret
 exact ⟨rfl, rfl⟩
set_option maxRecDepth 100000 in
set_option maxHeartbeats 2000000 in
theorem may_calls (l : List S37) (hlen : l.length ≤ 4096) (hs : ∀ x ∈ l, x.f5.length ≤ 1000) (A : Option Addr) (c : Nat) (w : World) (hr : Kd.C k37 w A l.length l) (hc : l.length ≤ c)
  (O : List Int) (Ao : Option Addr) (co : Nat) (hO : Kd.C (Kd.int .i64) w Ao O.length O) (hOl : O.length = l.length) :
  Calls Try.prog 24 #[.slice A l.length c, .slice Ao O.length co] w fun e w' => e = .returned (.bool (mayB (zAX l) l.length (List.replicate l.length false) O)) ∧ Below w.heap.size w w' := by
 have hdl := zBF l
 have hrow : ∀ i, i < l.length → ∀ k ∈ rd_L1 (zAX l) i, 0 ≤ k ∧ k < l.length := by
  intro i hi k hk
  rw [zBZ l i hi, partOf_mem] at hk
  obtain ⟨m, rfl, h1, _⟩ := hk
  omega
 have hdc : Calls Try.prog 17 #[.slice A l.length c] w fun e w' => ∃ A1 c1, e = .returned (.slice A1 l.length c1) ∧ Kd.R (Kd.slice 3 (Kd.int .i64)) 23 w' w.heap.size (fun _ => True) (.slice A1 l.length c1) (zAX l) ∧ Below w.heap.size w w' :=
  (deps_calls l hlen hs A c w hr hc).mono fun e w' ⟨v, he, hS, hB⟩ => by
   obtain ⟨A1, c1, rfl, _, _⟩ := Kd.S_reads hS
   rw [hdl] at he hS
   exact ⟨A1, c1, he, Kd.S_R hS, hB⟩
 generalize zAX l = d at *
 have Hrow := Aside0.mk hrow
 have Hdl := Aside0.mk hdl
 clear hrow hdl hs hr
 generalize hgo : mayB d l.length (List.replicate l.length false) O = goal
 have Hgo := Aside0.mk hgo
 clear hgo
 have hmk := print_make_of (P := Try.prog) 53 4 (.bool false) 1 Try.underlying53 info4 rfl (by decide) l.length (by omega)
 have hll : (O.length : Int) = (l.length : Int) := by omega
 rw [hOl] at hO ⊢
 go_enter Try.func24, Try.ntmps24
 go_wp2_with fail
 refine hdc.mono ?_
 rintro e w1 ⟨A1, c1, rfl, hS, hB1⟩
 go_wp2_with fail
 have hL0 : MI w (w1.heap.size + 1) w1.heap.size A1 c1 l.length d (List.replicate l.length false) ((w1.alloc (.cells (madeCells #[Value.bool false] l.length) 4)).alloc (.cells #[.slice (some ⟨w1.heap.size, 0, none⟩) l.length l.length] 53)) := by
  have b1 := World.alloc_heap_new w1 (.cells (madeCells #[Value.bool false] l.length) 4)
  have b2 := Boxed.new (w1.alloc (.cells (madeCells #[Value.bool false] l.length) 4)) 53 (.slice (some ⟨w1.heap.size, 0, none⟩) l.length l.length)
  rw [World.size_alloc] at b2
  have hsz := hB1.size
  refine ⟨by simp, b2, ?_, ?_, zAC (zAC hB1 _) _, by omega⟩
  ·rw [← made_bools]
   exact zAG b1 _
  ·exact Kd.R_alloc (Kd.R_alloc (Kd.R_mono (Kd.R_bound hS) (fun k hk => by omega)) _) _
 clear hmk hS hB1 hdc
 have hL0' := Aside0.mk hL0
 clear hL0
 go_loopw [26] (fun s wr => ∃ (m : Nat) (ps : List Bool), m ≤ l.length ∧ s = .int .i64 m ∧ Aside0 (MI w (w1.heap.size + 1) w1.heap.size A1 c1 l.length d ps wr) ∧ Aside0 (mayB d l.length ps (O.drop m) = goal))
  (fun s _ => l.length - (intOf s).toNat)
 case atStart => exact ⟨0, _, Nat.zero_le _, rfl, hL0', Hgo⟩
 case round =>
  clear hL0' Hgo
  obtain ⟨m, ps, hm, rfl, hL, Hgo⟩ := hrel
  by_cases hlt : m < l.length
  ·have hmn : (m : Int) < (l.length : Int) := by omega
   have hml : m < O.length := by omega
   obtain ⟨oad, hoe, ho1⟩ := Kd.at_int (Kd.C_below hO hL.out.hB) (m : Int) (by omega) (by omega)
   subst hoe
   rw [Int.toNat_natCast] at ho1
   have hrdm : rd O (m : Int) = O[m] := by simp [rd, hml]
   rw [hrdm] at ho1
   have Hg2 := Hgo.out
   rw [List.drop_eq_getElem_cons hml, mayB] at Hg2
   clear hrdm Hgo
   generalize O[m] = k at ho1 Hg2
   have fin : ∀ {W : World}, Below w.heap.size w W → false = goal → (Ending.returned (.bool false) = Ending.returned (.bool goal) ∧ Below w.heap.size w W) := fun hb hg => ⟨by rw [hg], hb⟩
   by_cases h1 : k < 0
   ·rw [if_pos h1] at Hg2
    have hB := Aside0.mk hL.out.hB
    have hg' := Aside0.mk Hg2
    clear hL Hg2
    go_wp2_with fail
    go_ret
    exact fin hB.out hg'.out
   rw [if_neg h1] at Hg2
   by_cases h2 : (l.length : Int) ≤ k
   ·rw [if_pos h2] at Hg2
    have hB := Aside0.mk hL.out.hB
    have hg' := Aside0.mk Hg2
    clear hL Hg2
    go_wp2_with fail
    go_ret
    exact fin hB.out hg'.out
   rw [if_neg h2] at Hg2
   have k0 : 0 ≤ k := by omega
   have k1 : k < (l.length : Int) := by omega
   have c0 := hL.out.bp.cell
   have c1' := hL.out.cell k.toNat (by omega)
   generalize hb0 : ps.getD k.toNat false = pb at c1' Hg2
   clear hb0
   cases pb
   ·rw [if_neg (by simp)] at Hg2
    obtain ⟨ad, A0, c2, rfl, q0, q1, q2⟩ := at_L1 (by have := (Kd.R_reads' hL.out.hD).2.2; rwa [Hdl.out] at this) k k0 k1
    have hcf := containsFunc_calls (fun a => !(ps.getD a.toNat false)) 41 #[.pointer (some ⟨w1.heap.size + 1, 0, none⟩)] (enters_of Try.func41 (by kernel_rfl) rfl) A0 c2 (rd_L1 d k) wr q2
     (fun x hx q => (mayFn_calls (hL.out.drewN q) x (Hrow.out k.toNat (by omega) x (by rw [Int.toNat_of_nonneg k0]; exact hx)).1 (Hrow.out k.toNat (by omega) x (by rw [Int.toNat_of_nonneg k0]; exact hx)).2).mono fun e w' ⟨he, hw⟩ => ⟨he, 0, by rw [← hw]; rfl⟩)
    generalize ((rd_L1 d k).any fun a => !(ps.getD a.toNat false)) = b2 at hcf Hg2
    generalize (rd_L1 d k).length = rl at q0 q1 hcf
    have hg' := Aside0.mk Hg2
    clear Hg2 q2
    cases b2
    ·go_wp2_with fail
     refine hcf.mono ?_
     rintro e w' ⟨rfl, q, rfl⟩
     have hL1 := Aside0.mk (hL.out.drewN q)
     clear hL c0 c1' q0 hcf
     generalize wr.drewN q = W1 at hL1 ⊢
     have d0 := hL1.out.bp.cell
     have d1 := hL1.out.cell k.toNat (by omega)
     have d2 := zAB hL1.out.row k.toNat
     have hL2 := Aside0.mk (hL1.out.set k.toNat)
     have hg2 := hg'.out
     rw [if_neg (by simp)] at hg2
     have hg3 := Aside0.mk hg2
     clear hg2 hg' hL1
     go_wp2_with fail
     go_roundw
     case rel => exact ⟨m + 1, _, by omega, by go_num, hL2, hg3⟩
     case measure => simp [intOf]; omega
    ·go_wp2_with fail
     refine hcf.mono ?_
     rintro e w' ⟨rfl, q, rfl⟩
     have hL1 := Aside0.mk (hL.out.drewN q)
     clear hL c0 c1' q0 hcf
     generalize wr.drewN q = W1 at hL1 ⊢
     have hB := Aside0.mk hL1.out.hB
     have hg2 := hg'.out
     rw [if_pos (by first | trivial | rfl)] at hg2
     have hg3 := Aside0.mk hg2
     clear hg2 hg' hL1
     go_wp2_with fail
     go_ret
     exact fin hB.out hg3.out
   ·rw [if_pos rfl] at Hg2
    have hB := Aside0.mk hL.out.hB
    have hg' := Aside0.mk Hg2
    clear hL Hg2
    go_wp2_with fail
    go_ret
    exact fin hB.out hg'.out
  ·obtain rfl : m = l.length := by omega
   have hB := Aside0.mk hL.out.hB
   have hg := Hgo.out
   rw [← hOl, List.drop_length] at hg
   have hg' := Aside0.mk hg.symm
   clear hg hL Hgo
   go_wp2_with fail
   go_ret
   exact ⟨by rw [hg'.out]; rfl, hB.out⟩
end Go.Proofs.Ytphmlkbmnmicpaa.A
namespace Go.Proofs.Ytphmlkbmnmicpaa.A
open Go.RowKit Go.Proofs.YtphmlkbmnmicpaaW.PrintWords Go.Proofs.YtphmlkbmnmicpaaW.PrintLast
set_option maxHeartbeats 1000000 in
theorem clone_calls (A : Option Addr) (c : Nat) (xs : List Int) (w : World) (hx : Kd.C (Kd.int .i64) w A xs.length xs) (hc : xs.length ≤ c) (hl : xs.length ≤ 1000000) :
  Calls Try.prog 48 #[.slice A xs.length c] w fun e w' => ∃ v, e = .returned v ∧ w'.ownsRow w.heap.size 3 1 v xs.length (nums .i64 xs) ∧ Below w.heap.size w w' := by
 have q22 : ∀ (w : World) (a : Option Addr) (n c n' c' : Nat), (binOp .eql 23 (.slice a n c) (.slice none n' c')).run Try.prog w = .ok (.bool a.isNone) w := fun w a n c n' c' => Lib.run_eql_slice_nil w _ _ a n c n' c' Try.underlying23
 cases A with
 | none =>
  have h0 : xs = [] := by
   obtain ⟨h1, h2, h3⟩ := hx
   rcases Nat.eq_zero_or_pos xs.length with h | h
   ·exact List.eq_nil_of_length_eq_zero h
   ·obtain ⟨ad, e, _⟩ := h3 h; cases e
  subst h0
  go_enter Try.func48, Try.ntmps48
  go_wp2
  go_ret
  exact ⟨_, rfl, own_nil _ _ _ _, Below.refl _ _⟩
 | some ad =>
  have hr : ReadsInt w .i64 (some ad) xs.length xs := by
   obtain ⟨h1, h2, h3⟩ := hx
   refine ⟨rfl, h2, fun hp => ⟨ad, rfl, fun j hj => ?_⟩⟩
   obtain ⟨ad', e, hc⟩ := Kd.at_int ⟨h1, h2, h3⟩ (j : Int) (by omega) (by omega)
   obtain rfl : ad = ad' := Option.some.inj e
   rw [Int.toNat_natCast] at hc
   rw [hc]
   simp [rd]
  clear hx
  have hr' := Aside0.mk (hr.below (zAC (Below.refl _ _) (.cells #[] 3)))
  have ho := Aside0.mk (World.ownsRow_made w #[] 0 (Nat.le_refl _) (Nat.zero_le _) (by simp) : (w.alloc (.cells #[] 3)).ownsRow w.heap.size 3 1 (.slice (some ⟨w.heap.size, 0, none⟩) 0 0) 0 [])
  clear hr
  go_enter Try.func48, Try.ntmps48
  go_wp2_with (at_builtin; refine print_append_row (w0 := w) w.heap.size rfl (.tmp 5) (.tmp 6) 23 3 .i64 8 rfl Try.underlying23 info3 (by decide) _ [] xs (some ad) xs.length c rfl rfl ho.out hr'.out (zAC (Below.refl _ _) _) (by simp) (by simp; omega) ?_; intro v1 w1 hown hb hg hat)
  go_ret
  exact ⟨v1, rfl, by simpa using hown, hb⟩
def slices_Clone_int_int.f (l0 : List Int) : Option (List Int) := if l0.length ≤ 1000000 then some l0 else none
theorem slices_Clone_int_int.calls (A0 : Option Addr) (c0 : Nat) (l0 : List Int) (r : List Int) (w : World) (hr0 : Kd.C (Kd.int .i64) w A0 l0.length l0) (hc0 : l0.length ≤ c0) (h : slices_Clone_int_int.f l0 = some r) :
  Calls Try.prog 48 #[.slice A0 l0.length c0] w fun e w' => ∃ v0_ : Value, e = .returned (v0_) ∧ Kd.R (Kd.int .i64) 3 w' w.heap.size (fun _ => True) v0_ r ∧ Below w.heap.size w w' := by
 unfold slices_Clone_int_int.f at h
 split at h
 ·obtain rfl := Option.some.inj h
  exact (clone_calls A0 c0 l0 w hr0 hc0 (by assumption)).mono fun e w' ⟨v, he, ho, hb⟩ => ⟨v, he, Kd.R_of_own ho (fun _ _ => trivial), hb⟩
 ·cases h
end Go.Proofs.Ytphmlkbmnmicpaa.A
namespace Go.Proofs.Ytphmlkbmnmicpaa.A
open Go.RowKit Go.Proofs.YtphmlkbmnmicpaaW.PrintWords Go.Proofs.YtphmlkbmnmicpaaW.PrintLast Go.Proofs.YtphmlkbmnmicpaaW.PrintMore
attribute [local go_sem] max2_int zBH max_two zBL zBB zBA zBI zBG   -- for this text's walks alone
def sched_copied.f (a0_0 : Int) (a0_1 : Int) (a0_2 : Int) (a0_3 : Int) (a0_4 : Int) (l0_5 : List Int) : Option (Int × Int × Int × Int × Int × List Int) := (slices_Clone_int_int.f l0_5).bind fun t168 => (some (a0_0, a0_1, a0_2, a0_3, a0_4, t168))
set_option maxHeartbeats 8000000 in
set_option maxRecDepth 100000 in
theorem sched_copied.calls (a0_0 : Int) (a0_1 : Int) (a0_2 : Int) (a0_3 : Int) (a0_4 : Int) (A0_5 : Option Addr) (c0_5 : Nat) (l0_5 : List Int) (r1 : Int) (r2 : Int) (r3 : Int) (r4 : Int) (r5 : Int) (r6 : List Int) (w : World) (hr0_5 : Kd.C (Kd.int .i64) w A0_5 l0_5.length l0_5) (hc0_5 : l0_5.length ≤ c0_5) (h : sched_copied.f a0_0 a0_1 a0_2 a0_3 a0_4 l0_5 = some (r1, r2, r3, r4, r5, r6)) :
  Calls Try.prog 31 #[.agg #[.int .i64 a0_0, .int .i64 a0_1, .int .i64 a0_2, .int .i64 a0_3, .int .i64 a0_4, .slice A0_5 l0_5.length c0_5]] w fun e w' => ∃ v5_ : Value, e = .returned (.agg #[.int .i64 r1, .int .i64 r2, .int .i64 r3, .int .i64 r4, .int .i64 r5, v5_]) ∧ Kd.R (Kd.int .i64) 3 w' w.heap.size (fun _ => True) v5_ r6 ∧ Below w.heap.size w w' := by
 have hu37 := Try.underlying37
 have HR0_5 := Aside0.mk hr0_5
 have HC0_5 := Aside0.mk hc0_5
 clear hr0_5 hc0_5
 have HB := Aside0.mk (Below.refl w.heap.size w)
 have H : ((slices_Clone_int_int.f l0_5).bind fun t168 => (some (a0_0, a0_1, a0_2, a0_3, a0_4, t168))) = some (r1, r2, r3, r4, r5, r6) := h
 clear h
 replace H := Option.bind_eq_some_iff.mp H
 obtain ⟨t168, A20, H⟩ := H
 replace H : (some (a0_0, a0_1, a0_2, a0_3, a0_4, t168)) = some (r1, r2, r3, r4, r5, r6) := H
 have A2 := Aside0.mk A20
 clear A20
 simp only [Option.some.injEq, Prod.mk.injEq] at H
 obtain ⟨rfl, rfl, rfl, rfl, rfl, rfl⟩ := H
 go_enter Try.func31, Try.ntmps31
 go_wp2_with (first | ((with_reducible refine zAU (N := 1) rfl ?_); refine zAT ?hg (N := 1) ?hd (cs := #[.int .i64 a0_0, .int .i64 a0_1, .int .i64 a0_2, .int .i64 a0_3, .int .i64 a0_4, .slice A0_5 l0_5.length c0_5]) (t := 37) ?hr ?_; (case hd => rfl); (case hg => rfl); (case hr => first | (go_simp; done) | (go_simp; rfl)); intro gb166 hg w3 hbox hb; have n0_ := Aside0.mk (zAL (by repeat (first | (with_reducible first | exact HB.out | apply zAC | apply zAA | apply zAD) | exact HB.out)) hb); have n1_ := Aside0.mk (hbox); have n2_ := Aside0.mk ((by rw [hg]; exact (zAM (by repeat (first | (with_reducible first | exact HB.out | apply zAC | apply zAA | apply zAD) | exact HB.out))) : w.heap.size ≤ gb166)); have n3_ := Aside0.mk ((by rw [hg]; exact (zAM (by repeat (first | (with_reducible first | exact HB.out | apply zAC | apply zAA | apply zAD) | exact HB.out))) : w.heap.size ≤ gb166)); clear HB; have HB := n0_; have BK166 := n1_; have GW166 := n2_; have GE166 := n3_; clear n0_ n1_ n2_ n3_; clear hb hbox hg) | ((with_reducible refine zAU (N := 2) rfl ?_); refine zAT ?hg (N := 2) ?hd (cs := #[.int .i64 0, .int .i64 0, .int .i64 0, .int .i64 0, .int .i64 0, .slice none 0 0]) (t := 37) ?hr ?_; (case hd => rfl); (case hg => rfl); (case hr => first | (go_simp; done) | (go_simp; rfl)); intro gb167 hg w4 hbox hb; have n0_ := Aside0.mk (zAP (g := gb166) (o := .cells #[.int .i64 a0_0, .int .i64 a0_1, .int .i64 a0_2, .int .i64 a0_3, .int .i64 a0_4, .slice A0_5 l0_5.length c0_5] 37 (0, 0)) (by (with_reducible repeat (first | refine zAI ?_ _ | refine zAJ ?_ | refine zAG ?_ _)); exact BK166.out) hb); have n1_ := Aside0.mk (zAL (by repeat (first | (with_reducible first | exact HB.out | apply zAC | apply zAA | apply zAD | refine zAH ?_ GE166.out) | exact HB.out)) hb); have n2_ := Aside0.mk (hbox); have n3_ := Aside0.mk ((by rw [hg]; exact (zAM (by repeat (first | (with_reducible first | exact HB.out | apply zAC | apply zAA | apply zAD | refine zAH ?_ GE166.out) | exact HB.out))) : w.heap.size ≤ gb167)); have n4_ := Aside0.mk ((by rw [hg]; exact (zAM (by repeat (first | (with_reducible first | exact HB.out | apply zAC | apply zAA | apply zAD | refine zAH ?_ GE166.out) | exact HB.out))) : w.heap.size ≤ gb167)); have n5_ := Aside0.mk ((by rw [hg]; exact Nat.ne_of_lt (zBE (g := gb166) (o := .cells #[.int .i64 a0_0, .int .i64 a0_1, .int .i64 a0_2, .int .i64 a0_3, .int .i64 a0_4, .slice A0_5 l0_5.length c0_5] 37 (0, 0)) (by (with_reducible repeat (first | refine zAI ?_ _ | refine zAJ ?_ | refine zAG ?_ _)); exact BK166.out)) : gb166 ≠ gb167)); have n6_ := Aside0.mk ((by rw [hg]; exact Nat.ne_of_gt (zBE (g := gb166) (o := .cells #[.int .i64 a0_0, .int .i64 a0_1, .int .i64 a0_2, .int .i64 a0_3, .int .i64 a0_4, .slice A0_5 l0_5.length c0_5] 37 (0, 0)) (by (with_reducible repeat (first | refine zAI ?_ _ | refine zAJ ?_ | refine zAG ?_ _)); exact BK166.out)) : gb167 ≠ gb166)); clear BK166; clear HB; have BK166 := n0_; have HB := n1_; have BK167 := n2_; have GW167 := n3_; have GE167 := n4_; have NB166_167 := n5_; have NB167_166 := n6_; clear n0_ n1_ n2_ n3_ n4_ n5_ n6_; clear hb hbox hg; have hnb5 := NB166_167.out; have hnc5 := NB167_166.out; have hcz6_0 : w4.cell? ⟨gb166, 0, none⟩ = some (.int .i64 a0_0) := (zAE BK166.out 0).trans rfl; have hcz6_1 : w4.cell? ⟨gb166, 1, none⟩ = some (.int .i64 a0_1) := (zAE BK166.out 1).trans rfl; have hcz6_2 : w4.cell? ⟨gb166, 2, none⟩ = some (.int .i64 a0_2) := (zAE BK166.out 2).trans rfl; have hcz6_3 : w4.cell? ⟨gb166, 3, none⟩ = some (.int .i64 a0_3) := (zAE BK166.out 3).trans rfl; have hcz6_4 : w4.cell? ⟨gb166, 4, none⟩ = some (.int .i64 a0_4) := (zAE BK166.out 4).trans rfl; have hcz6_5 : w4.cell? ⟨gb166, 5, none⟩ = some (.slice A0_5 l0_5.length c0_5) := (zAE BK166.out 5).trans rfl; have hfz6_0 := zAB BK166.out 0; have hfz6_1 := zAB BK166.out 1; have hfz6_2 := zAB BK166.out 2; have hfz6_3 := zAB BK166.out 3; have hfz6_4 := zAB BK166.out 4; have hfz6_5 := zAB BK166.out 5) | ((with_reducible refine zAV (f := 48) rfl ?_); refine zBO (some 5) rfl rfl Try.func48 (by kernel_rfl) rfl #[.slice A0_5 l0_5.length c0_5] rfl (by (try simp only [List.map_toArray, List.map_cons, List.map_nil]); first | done | rfl | (simp only [List.length_drop, List.length_take]; rfl)) ?_; (with_reducible refine (slices_Clone_int_int.calls _ _ l0_5 t168 _ ?side1 ?side2 A2.out).mono ?_); (case side1 => repeat (first | exact (Kd.C_below HR0_5.out HB.out) | (with_reducible refine Kd.C_alloc ?_ _) | (with_reducible refine Kd.C_drewN ?_ _) | (with_reducible refine Kd.C_drew ?_))); (case side2 => exact HC0_5.out); rintro e w7 ⟨v169, rfl, ho0, hb⟩; refine ⟨_, rfl, ?_⟩; have n0_ := Aside0.mk (Kd.R_lower ho0 (zAM (by repeat (first | (with_reducible first | exact HB.out | apply zAC | apply zAA | apply zAD | refine zAH ?_ GE166.out | refine zAH ?_ GE167.out) | exact HB.out)))); have n1_ := Aside0.mk (zAP (g := gb166) (o := .cells #[.int .i64 a0_0, .int .i64 a0_1, .int .i64 a0_2, .int .i64 a0_3, .int .i64 a0_4, .slice A0_5 l0_5.length c0_5] 37 (0, 0)) (by (with_reducible repeat (first | refine zAI ?_ _ | refine zAJ ?_ | refine zAG ?_ _)); exact BK166.out) hb); have n2_ := Aside0.mk (zAP (g := gb167) (o := .cells #[.int .i64 0, .int .i64 0, .int .i64 0, .int .i64 0, .int .i64 0, .slice none 0 0] 37 (0, 0)) (by (with_reducible repeat (first | refine zAI ?_ _ | refine zAJ ?_ | refine zAG ?_ _)); exact BK167.out) hb); have n3_ := Aside0.mk (zAL (by repeat (first | (with_reducible first | exact HB.out | apply zAC | apply zAA | apply zAD | refine zAH ?_ GE166.out | refine zAH ?_ GE167.out) | exact HB.out)) hb); clear BK166; clear BK167; clear HB; have HO170 := n0_; have BK166 := n1_; have BK167 := n2_; have HB := n3_; clear n0_ n1_ n2_ n3_; (try clear hb); (try clear hb2); (try clear hk); (try clear hi); (try clear ho0); obtain ⟨Ao8, co8, eo8⟩ := Kd.R_slice HO170.out; subst eo8; have hcz9_0 : w7.cell? ⟨gb166, 0, none⟩ = some (.int .i64 a0_0) := (zAE BK166.out 0).trans rfl; have hcz9_1 : w7.cell? ⟨gb166, 1, none⟩ = some (.int .i64 a0_1) := (zAE BK166.out 1).trans rfl; have hcz9_2 : w7.cell? ⟨gb166, 2, none⟩ = some (.int .i64 a0_2) := (zAE BK166.out 2).trans rfl; have hcz9_3 : w7.cell? ⟨gb166, 3, none⟩ = some (.int .i64 a0_3) := (zAE BK166.out 3).trans rfl; have hcz9_4 : w7.cell? ⟨gb166, 4, none⟩ = some (.int .i64 a0_4) := (zAE BK166.out 4).trans rfl; have hcz9_5 : w7.cell? ⟨gb166, 5, none⟩ = some (.slice A0_5 l0_5.length c0_5) := (zAE BK166.out 5).trans rfl; have hfz9_0 := zAB BK166.out 0; have hfz9_1 := zAB BK166.out 1; have hfz9_2 := zAB BK166.out 2; have hfz9_3 := zAB BK166.out 3; have hfz9_4 := zAB BK166.out 4; have hfz9_5 := zAB BK166.out 5; have hcz10_0 : w7.cell? ⟨gb167, 0, none⟩ = some (.int .i64 0) := (zAE BK167.out 0).trans rfl; have hcz10_1 : w7.cell? ⟨gb167, 1, none⟩ = some (.int .i64 0) := (zAE BK167.out 1).trans rfl; have hcz10_2 : w7.cell? ⟨gb167, 2, none⟩ = some (.int .i64 0) := (zAE BK167.out 2).trans rfl; have hcz10_3 : w7.cell? ⟨gb167, 3, none⟩ = some (.int .i64 0) := (zAE BK167.out 3).trans rfl; have hcz10_4 : w7.cell? ⟨gb167, 4, none⟩ = some (.int .i64 0) := (zAE BK167.out 4).trans rfl; have hcz10_5 : w7.cell? ⟨gb167, 5, none⟩ = some (.slice none 0 0) := (zAE BK167.out 5).trans rfl; have hfz10_0 := zAB BK167.out 0; have hfz10_1 := zAB BK167.out 1; have hfz10_2 := zAB BK167.out 2; have hfz10_3 := zAB BK167.out 3; have hfz10_4 := zAB BK167.out 4; have hfz10_5 := zAB BK167.out 5))
 refine bodyPost_ret (results_cell_row rfl _ _ gb167 37 #[.int .i64 a0_0, .int .i64 a0_1, .int .i64 a0_2, .int .i64 a0_3, .int .i64 a0_4, .slice Ao8 t168.length co8] (0, 0) _ rfl (by (with_reducible repeat (first | refine zAI ?_ _ | refine zAJ ?_ | refine zAG ?_ _)); refine zAR (cs := #[.int .i64 a0_0, .int .i64 a0_1, .int .i64 a0_2, .int .i64 a0_3, .int .i64 a0_4, .slice none 0 0]) ?_ 5 _ rfl; (with_reducible repeat (first | refine zAI ?_ _ | refine zAJ ?_ | refine zAG ?_ _)); refine zAR (cs := #[.int .i64 a0_0, .int .i64 a0_1, .int .i64 a0_2, .int .i64 a0_3, .int .i64 0, .slice none 0 0]) ?_ 4 _ rfl; (with_reducible repeat (first | refine zAI ?_ _ | refine zAJ ?_ | refine zAG ?_ _)); refine zAR (cs := #[.int .i64 a0_0, .int .i64 a0_1, .int .i64 a0_2, .int .i64 0, .int .i64 0, .slice none 0 0]) ?_ 3 _ rfl; (with_reducible repeat (first | refine zAI ?_ _ | refine zAJ ?_ | refine zAG ?_ _)); refine zAR (cs := #[.int .i64 a0_0, .int .i64 a0_1, .int .i64 0, .int .i64 0, .int .i64 0, .slice none 0 0]) ?_ 2 _ rfl; (with_reducible repeat (first | refine zAI ?_ _ | refine zAJ ?_ | refine zAG ?_ _)); refine zAR (cs := #[.int .i64 a0_0, .int .i64 0, .int .i64 0, .int .i64 0, .int .i64 0, .slice none 0 0]) ?_ 1 _ rfl; (with_reducible repeat (first | refine zAI ?_ _ | refine zAJ ?_ | refine zAG ?_ _)); refine zAR (cs := #[.int .i64 0, .int .i64 0, .int .i64 0, .int .i64 0, .int .i64 0, .slice none 0 0]) ?_ 0 _ rfl; (with_reducible repeat (first | refine zAI ?_ _ | refine zAJ ?_ | refine zAG ?_ _)); refine zAS ?_ NB167_166.out _; (with_reducible repeat (first | refine zAI ?_ _ | refine zAJ ?_ | refine zAG ?_ _)); exact BK167.out) Try.underlying37 rfl (by kernel_rfl)) rfl ?_
 exact ⟨_, by first | rfl | (simp [zAO, zAN] <;> rfl) | (simp [*, zAO, zAN] <;> rfl), by (with_reducible repeat (first | apply Kd.R_alloc | apply Kd.R_drewN | apply Kd.R_drew)); exact Kd.R_mono (Kd.R_far (p := ⟨gb167, 5, none⟩) (Kd.R_far (p := ⟨gb167, 4, none⟩) (Kd.R_far (p := ⟨gb167, 3, none⟩) (Kd.R_far (p := ⟨gb167, 2, none⟩) (Kd.R_far (p := ⟨gb167, 1, none⟩) (Kd.R_far (p := ⟨gb167, 0, none⟩) (Kd.R_far (p := ⟨gb166, 5, none⟩) (Kd.R_types (Kd.R_types HO170.out BK166.out (by decide)) BK167.out (by decide)) (fun _ hk => hk.1.2) (.slice Ao8 t168.length co8)) (fun _ hk => hk.2) (.int .i64 a0_0)) (fun _ hk => hk.2) (.int .i64 a0_1)) (fun _ hk => hk.2) (.int .i64 a0_2)) (fun _ hk => hk.2) (.int .i64 a0_3)) (fun _ hk => hk.2) (.int .i64 a0_4)) (fun _ hk => hk.2) (.slice Ao8 t168.length co8)) (fun _ hk => trivial), by repeat (first | (with_reducible first | exact HB.out | apply zAC | apply zAA | apply zAD | refine zAH ?_ GE166.out | refine zAH ?_ GE167.out) | exact HB.out)⟩
end Go.Proofs.Ytphmlkbmnmicpaa.A
namespace Go.Proofs.Ytphmlkbmnmicpaa.A
open Go.RowKit Go.Proofs.YtphmlkbmnmicpaaW.PrintWords Go.Proofs.YtphmlkbmnmicpaaW.PrintLast Go.Shelf
theorem copied_calls (x : S37) (A : Option Addr) (c : Nat) (w : World) (hx : Kd.C (Kd.int .i64) w A x.f5.length x.f5) (hc : x.f5.length ≤ c) (hl : x.f5.length ≤ 1000000) :
  Calls Try.prog 31 #[.agg #[.int .i64 x.f0, .int .i64 x.f1, .int .i64 x.f2, .int .i64 x.f3, .int .i64 x.f4, .slice A x.f5.length c]] w fun e w' =>
   ∃ v5 : Value, e = .returned (.agg #[.int .i64 x.f0, .int .i64 x.f1, .int .i64 x.f2, .int .i64 x.f3, .int .i64 x.f4, v5]) ∧ Kd.R (Kd.int .i64) 3 w' w.heap.size (fun _ => True) v5 x.f5 ∧ Below w.heap.size w w' := by
 refine sched_copied.calls x.f0 x.f1 x.f2 x.f3 x.f4 A c x.f5 _ _ _ _ _ _ w hx hc ?_
 unfold sched_copied.f slices_Clone_int_int.f
 rw [if_pos hl]
 rfl
structure BI (w : World) (A Ao : Option Addr) (c co n : Nat) (t : S27) (O : List Int) (xs : List S37) (u v : Value) (W : World) : Prop where
 hb : W.heap[w.heap.size]? = some (.cells #[.slice A n c, .int .i64 t.f0, .int .i64 t.f1, .int .i64 t.f2, .int .i64 t.f3] 29 (0, 0))
 hz : W.heap[w.heap.size + 1]? = some (.cells #[.slice none 0 0, .int .i64 0, .int .i64 0, .int .i64 0, .int .i64 0] 29 (0, 0))
 ho : W.heap[w.heap.size + 2]? = some (.cells #[u, .int .i64 t.f0, .int .i64 t.f1, .int .i64 t.f2, .int .i64 t.f3] 29 (0, 0))
 hO : Kd.R (Kd.int .i64) 3 W (w.heap.size + 3) (fun k => w.heap.size + 3 ≤ k) (.slice Ao n co) O
 hv : Kd.S k37 37 W w.heap.size (fun k => w.heap.size + 3 ≤ k) v xs
 hB : Below w.heap.size w W
 size : w.heap.size + 3 ≤ W.heap.size
section
variable {w : World} {A Ao : Option Addr} {c co n : Nat} {t : S27} {O : List Int} {xs : List S37} {u v : Value} {W W1 : World}
theorem BI.below (h : BI w A Ao c co n t O xs u v W) (hb : Below W.heap.size W W1) : BI w A Ao c co n t O xs u v W1 :=
 ⟨(hb.block _ (zBE h.hb)).trans h.hb, (hb.block _ (zBE h.hz)).trans h.hz, (hb.block _ (zBE h.ho)).trans h.ho, Kd.R_below h.hO hb, Kd.S_below h.hv hb, zBW h.hB h.hB.size hb, Nat.le_trans h.size hb.size⟩
theorem BI.cellb (h : BI w A Ao c co n t O xs u v W) : W.cell? ⟨w.heap.size, 0, none⟩ = some (.slice A n c) := (zAE h.hb 0).trans rfl
theorem BI.cell (h : BI w A Ao c co n t O xs u v W) : W.cell? ⟨w.heap.size + 2, 0, none⟩ = some u := (zAE h.ho 0).trans rfl
theorem BI.grown {ys : List S37} {v1 : Value} (h : BI w A Ao c co n t O xs u v W) (hv : Kd.S k37 37 W1 w.heap.size (fun k => w.heap.size + 3 ≤ k) v1 ys) (hB : Below w.heap.size w W1) (hg : W.grownBy W1 v.ownBlock) (hs : W.heap.size ≤ W1.heap.size) : BI w A Ao c co n t O ys u v1 W1 := by
 have hne : ∀ g, g < w.heap.size + 3 → some g ≠ v.ownBlock := fun g hg he => by have := (Kd.S_R h.hv).1 g he.symm; omega
 exact ⟨zAW h.hb hg (hne _ (by omega)), zAW h.hz hg (hne _ (by omega)), zAW h.ho hg (hne _ (by omega)), Kd.R_over' h.hO (by obtain ⟨inner, ho⟩ := Kd.S_own h.hv; exact own_typed ho) (by decide) hg, hv, hB, Nat.le_trans h.size hs⟩
theorem BI.set (h : BI w A Ao c co n t O xs u v W) (z : Value) : BI w A Ao c co n t O xs z v (W.setCell ⟨w.heap.size + 2, 0, none⟩ z) := by
 refine ⟨zAS h.hb (p := ⟨w.heap.size + 2, 0, none⟩) (by show _ ≠ w.heap.size + 2; omega) _, zAS h.hz (p := ⟨w.heap.size + 2, 0, none⟩) (by show _ ≠ w.heap.size + 2; omega) _, ?_, Kd.R_far h.hO (p := ⟨w.heap.size + 2, 0, none⟩) (fun k hk => by show k ≠ w.heap.size + 2; omega) _, Kd.S_far h.hv (p := ⟨w.heap.size + 2, 0, none⟩) (fun k hk => by show k ≠ w.heap.size + 2; omega) _, h.hB.setCell (p := ⟨w.heap.size + 2, 0, none⟩) (by show _ ≤ w.heap.size + 2; omega) _, by simpa using h.size⟩
 have := blk_set h.ho 0 z
 simpa using this
end
set_option maxRecDepth 100000 in
set_option maxHeartbeats 4000000 in
theorem block_calls (l : List S37) (t : S27) (hlen : l.length ≤ 4096) (hs : ∀ x ∈ l, x.f5.length ≤ 1000) (A : Option Addr) (c : Nat) (w : World) (hr : Kd.C k37 w A l.length l) (hc : l.length ≤ c)
  (O : List Int) (hord : ∀ W, Below w.heap.size w W → Calls Try.prog 22 #[.slice A l.length c] W fun e w' => ∃ Ao co, e = .returned (.slice Ao l.length co) ∧ Kd.R (Kd.int .i64) 3 w' W.heap.size (fun _ => True) (.slice Ao l.length co) O ∧ Below W.heap.size W w')
  (hO : ∀ k ∈ O, 0 ≤ k ∧ k < l.length) (hOl : O.length = l.length) :
  Calls Try.prog 11 #[.agg #[.slice A l.length c, .int .i64 t.f0, .int .i64 t.f1, .int .i64 t.f2, .int .i64 t.f3]] w fun e w' =>
   ∃ v : Value, e = .returned (.agg #[v, .int .i64 t.f0, .int .i64 t.f1, .int .i64 t.f2, .int .i64 t.f3]) ∧ Kd.S k37 37 w' w.heap.size (fun _ => True) v (O.map fun k => zAF l k) ∧ Below w.heap.size w w' := by
 have hu29 := Try.underlying29
 have hu27 := Try.underlying27
 have hu37 := Try.underlying37
 have Hord := Aside0.mk hord
 have Hs := Aside0.mk hs
 have HO := Aside0.mk hO
 clear hord hs hO
 go_enter Try.func11, Try.ntmps11
 go_wp2_with fail
 have b0 := World.alloc_heap_new w (.cells #[.slice A l.length c, .int .i64 t.f0, .int .i64 t.f1, .int .i64 t.f2, .int .i64 t.f3] 29)
 have b1 := World.alloc_heap_new (w.alloc (.cells #[.slice A l.length c, .int .i64 t.f0, .int .i64 t.f1, .int .i64 t.f2, .int .i64 t.f3] 29)) (.cells #[.slice none 0 0, .int .i64 0, .int .i64 0, .int .i64 0, .int .i64 0] 29)
 have b2 := World.alloc_heap_new ((w.alloc (.cells #[.slice A l.length c, .int .i64 t.f0, .int .i64 t.f1, .int .i64 t.f2, .int .i64 t.f3] 29)).alloc (.cells #[.slice none 0 0, .int .i64 0, .int .i64 0, .int .i64 0, .int .i64 0] 29)) (.cells #[.slice none 0 0, .int .i64 t.f0, .int .i64 t.f1, .int .i64 t.f2, .int .i64 t.f3] 29)
 simp only [World.size_alloc] at b1 b2
 have b01 := zAG (zAG b0 (.cells #[.slice none 0 0, .int .i64 0, .int .i64 0, .int .i64 0, .int .i64 0] 29)) (.cells #[.slice none 0 0, .int .i64 t.f0, .int .i64 t.f1, .int .i64 t.f2, .int .i64 t.f3] 29)
 have b11 := zAG b1 (.cells #[.slice none 0 0, .int .i64 t.f0, .int .i64 t.f1, .int .i64 t.f2, .int .i64 t.f3] 29)
 have hB0 := zAC (zAC (zAC (Below.refl w.heap.size w) (.cells #[.slice A l.length c, .int .i64 t.f0, .int .i64 t.f1, .int .i64 t.f2, .int .i64 t.f3] 29)) (.cells #[.slice none 0 0, .int .i64 0, .int .i64 0, .int .i64 0, .int .i64 0] 29)) (.cells #[.slice none 0 0, .int .i64 t.f0, .int .i64 t.f1, .int .i64 t.f2, .int .i64 t.f3] 29)
 clear b0 b1
 have hsz : (((w.alloc (.cells #[.slice A l.length c, .int .i64 t.f0, .int .i64 t.f1, .int .i64 t.f2, .int .i64 t.f3] 29)).alloc (.cells #[.slice none 0 0, .int .i64 0, .int .i64 0, .int .i64 0, .int .i64 0] 29)).alloc (.cells #[.slice none 0 0, .int .i64 t.f0, .int .i64 t.f1, .int .i64 t.f2, .int .i64 t.f3] 29)).heap.size = w.heap.size + 3 := by simp only [World.size_alloc]
 rw [show w.heap.size + 1 + 1 = w.heap.size + 2 from rfl]
 generalize (((w.alloc (.cells #[.slice A l.length c, .int .i64 t.f0, .int .i64 t.f1, .int .i64 t.f2, .int .i64 t.f3] 29)).alloc (.cells #[.slice none 0 0, .int .i64 0, .int .i64 0, .int .i64 0, .int .i64 0] 29)).alloc (.cells #[.slice none 0 0, .int .i64 t.f0, .int .i64 t.f1, .int .i64 t.f2, .int .i64 t.f3] 29)) = W0 at b01 b11 b2 hB0 hsz ⊢
 refine (Hord.out W0 hB0).mono ?_
 rintro e W1 ⟨Ao, co, rfl, hO1, hB1⟩
 have hL0 : BI w A Ao c co l.length t O [] (.slice none 0 0) (.slice none 0 0) W1 :=
  ⟨(hB1.block _ (zBE b01)).trans b01, (hB1.block _ (zBE b11)).trans b11, (hB1.block _ (zBE b2)).trans b2, by rw [← hsz]; exact Kd.R_mono (Kd.R_bound hO1) (fun k hk => hk.2.1), Kd.S_nil _ _ _ _ _, zBW hB0 hB0.size hB1, by rw [← hsz]; exact hB1.size⟩
 clear hO1 hB1 hB0 b01 b11 b2 hsz
 have h0b := hL0.cellb
 have hL0' := Aside0.mk hL0
 clear hL0
 go_wp2_with fail
 clear h0b
 go_loopw [31] (fun s wr => ∃ (m : Nat) (vo : Value), m ≤ l.length ∧ s = .int .i64 m ∧ Aside0 (BI w A Ao c co l.length t O ((O.take m).map fun k => zAF l k) vo vo wr))
  (fun s _ => l.length - (intOf s).toNat)
 case atStart => exact ⟨0, _, Nat.zero_le _, rfl, hL0'⟩
 case round =>
  clear hL0'
  obtain ⟨m, vo, hm, rfl, hL⟩ := hrel
  by_cases hlt : m < l.length
  ·have hmn : (m : Int) < (l.length : Int) := by omega
   have hml : m < O.length := by omega
   obtain ⟨oad, hoe, ho1⟩ := Kd.at_int (Kd.R_reads' hL.out.hO).2.2 (m : Int) (by omega) (by omega)
   subst hoe
   rw [Int.toNat_natCast] at ho1
   have hrdm : rd O (m : Int) = O[m] := by simp [rd, hml]
   rw [hrdm] at ho1
   have htk : ((O.take (m + 1)).map fun k => zAF l k) = ((O.take m).map fun k => zAF l k) ++ [zAF l O[m]] := by
    rw [List.take_succ_eq_append_getElem hml, List.map_append]
    rfl
   have hk := HO.out O[m] (List.getElem_mem hml)
   have htk' := Aside0.mk htk
   clear htk hrdm
   generalize O[m] = k at ho1 hk htk'
   obtain ⟨hk0, hk1⟩ := hk
   have hxs := Aside0.mk (Hs.out (zAF l k) (by unfold zAF; rw [List.getD_eq_getElem?_getD, List.getElem?_eq_getElem (show k.toNat < l.length by omega)]; exact List.getElem_mem _))
   obtain ⟨ld, A5, c5, rfl, q0, q1, q2, q3, q4, q5, q6, q7⟩ := zBT (Kd.C_below hr hL.out.hB) k hk0 hk1
   have hxl : Aside0 (((O.take m).map fun k => zAF l k).length ≤ 4096) := ⟨by simp; omega⟩
   generalize zAF l k = x at q0 q1 q2 q3 q4 q5 q6 q7 htk' hxs
   generalize ((O.take m).map fun k => zAF l k) = xs at hL htk' hxl
   have hc0 := hL.out.cell
   have hc1 := hL.out.cellb
   go_wp2_with fail
   refine zCA (n := 12) (S := fun w' => w'.cell? ⟨w.heap.size + 2, 0, none⟩ = some vo ∧ w'.cell? ⟨w.heap.size, 0, none⟩ = some (.slice (some ld) l.length c) ∧ w'.cell? (ld.add (k.toNat * 6)) = some (.int .i64 x.f0) ∧ w'.cell? ⟨(ld.add (k.toNat * 6)).block, (ld.add (k.toNat * 6)).off + 1, none⟩ = some (.int .i64 x.f1) ∧ w'.cell? ⟨(ld.add (k.toNat * 6)).block, (ld.add (k.toNat * 6)).off + 2, none⟩ = some (.int .i64 x.f2) ∧ w'.cell? ⟨(ld.add (k.toNat * 6)).block, (ld.add (k.toNat * 6)).off + 3, none⟩ = some (.int .i64 x.f3) ∧ w'.cell? ⟨(ld.add (k.toNat * 6)).block, (ld.add (k.toNat * 6)).off + 4, none⟩ = some (.int .i64 x.f4) ∧ w'.cell? ⟨(ld.add (k.toNat * 6)).block, (ld.add (k.toNat * 6)).off + 5, none⟩ = some (.slice A5 x.f5.length c5)) (ds := [9, 11]) #[fF,fF,fF,fF,fF,fF,fF,fF,fF,fF,fF,fF] (by kernel_rfl) rfl rfl ⟨hc0, hc1, q0, q1, q2, q3, q4, q5⟩ (fun hHeld => ?_)
   have hL1 : Aside0 (BI w (some ld) (some oad) c co l.length t O xs vo vo wr.drew) := ⟨hL.out.below (zAA (Below.refl _ _) 1)⟩
   have q7' : (Kd.int .i64).C wr.drew A5 x.f5.length x.f5 := Kd.C_below q7 (zAA (Below.refl _ _) 1)
   clear hL hc0 hc1 q0 q1 q2 q3 q4 q5 q7 ho1
   generalize wr.drew = W1 at hL1 q7' hHeld ⊢
   refine pure_ (i := 0) (N := some 35) (v := ?_) (a' := ?_) #[tT,fF,fF,fF,fF,fF,fF,fF,fF,fF,fF,fF] rfl rfl (by kernel_rfl) (fun _ _ _ h => h) (Or.inl ⟨by rfl, ?_⟩) ?_ ?_
   rotate_left
   ·intro w'
    go_simp
    try with_reducible rfl
   rotate_left
   ·simp only [Act.put, List.setIfInBounds_toArray, List.set_cons_zero, List.set_cons_succ, i64_w, i32_w]
    rfl
   refine pure_ (i := 2) (N := some 37) (v := ?_) (a' := ?_) #[tT,fF,tT,fF,fF,fF,fF,fF,fF,fF,fF,fF] rfl rfl (by kernel_rfl) (fun _ _ _ h => h) (Or.inl ⟨by rfl, ?_⟩) ?_ ?_
   rotate_left
   ·intro w'
    go_simp
    try with_reducible rfl
   rotate_left
   ·simp only [Act.put, List.setIfInBounds_toArray, List.set_cons_zero, List.set_cons_succ, i64_w, i32_w]
    rfl
   refine pure_ (i := 4) (N := some 39) (v := ?_) (a' := ?_) #[tT,fF,tT,fF,tT,fF,fF,fF,fF,fF,fF,fF] rfl rfl (by kernel_rfl) (fun _ _ _ h => h) (Or.inl ⟨by rfl, ?_⟩) ?_ ?_
   rotate_left
   ·intro w'
    go_simp
    try with_reducible rfl
   rotate_left
   ·simp only [Act.put, List.setIfInBounds_toArray, List.set_cons_zero, List.set_cons_succ, i64_w, i32_w]
    rfl
   refine take_ (i := 1) (N := some 36) (v := ?_) (a' := ?_) #[tT,tT,tT,fF,tT,fF,fF,fF,fF,fF,fF,fF] rfl rfl (by kernel_rfl) (fun _ _ _ h => h) (Or.inl ⟨by rfl, ?_⟩) hHeld ?_ ?_
   rotate_left
   ·rintro w' ⟨s0, s1, s2, s3, s4, s5, s6, s7⟩
    go_simp
    try with_reducible rfl
   rotate_left
   ·simp only [Act.put, List.setIfInBounds_toArray, List.set_cons_zero, List.set_cons_succ, i64_w, i32_w]
    rfl
   refine take_ (i := 3) (N := some 38) (v := ?_) (a' := ?_) #[tT,tT,tT,tT,tT,fF,fF,fF,fF,fF,fF,fF] rfl rfl (by kernel_rfl) (fun _ _ _ h => h) (Or.inl ⟨by rfl, ?_⟩) hHeld ?_ ?_
   rotate_left
   ·rintro w' ⟨s0, s1, s2, s3, s4, s5, s6, s7⟩
    go_simp
    try with_reducible rfl
   rotate_left
   ·simp only [Act.put, List.setIfInBounds_toArray, List.set_cons_zero, List.set_cons_succ, i64_w, i32_w]
    rfl
   refine pure_ (i := 5) (N := some 40) (v := ?_) (a' := ?_) #[tT,tT,tT,tT,tT,tT,fF,fF,fF,fF,fF,fF] rfl rfl (by kernel_rfl) (fun _ _ _ h => h) (Or.inl ⟨by rfl, ?_⟩) ?_ ?_
   rotate_left
   ·intro w'
    go_simp
    try with_reducible rfl
   rotate_left
   ·simp only [Act.put, List.setIfInBounds_toArray, List.set_cons_zero, List.set_cons_succ, i64_w, i32_w]
    rfl
   refine take_ (i := 6) (N := some 41) (v := ?_) (a' := ?_) #[tT,tT,tT,tT,tT,tT,tT,fF,fF,fF,fF,fF] rfl rfl (by kernel_rfl) (fun _ _ _ h => h) (Or.inl ⟨by rfl, ?_⟩) hHeld ?_ ?_
   rotate_left
   ·rintro w' ⟨s0, s1, s2, s3, s4, s5, s6, s7⟩
    go_simp
    try with_reducible rfl
   rotate_left
   ·simp only [Act.put, List.setIfInBounds_toArray, List.set_cons_zero, List.set_cons_succ, i64_w, i32_w]
    rfl
   refine one_ (i := 7) (N := some 42) #[tT,tT,tT,tT,tT,tT,tT,tT,fF,fF,fF,fF] rfl rfl (by kernel_rfl) (by decide) (fun K hK => ?_)
   refine call_ 31 _ (by rfl) rfl (by go_simp; rfl) ?_
   refine (copied_calls x A5 c5 _ q7' q6 (by have := hxs.out; omega)).mono ?_
   rintro e w2 ⟨v5, rfl, hv5, hb2⟩
   refine ⟨_, rfl, ?_⟩
   have hL2 := Aside0.mk (hL1.out.below hb2)
   have hv6 : Aside0 (Kd.R (Kd.int .i64) 3 w2 w.heap.size (fun k => W1.heap.size ≤ k) v5 x.f5) := ⟨Kd.R_lower (Kd.R_mono (Kd.R_bound hv5) (fun k hk => hk.2.1)) hL1.out.hB.size⟩
   have hv7 : Aside0 (∀ k, W1.heap.size ≤ k → w.heap.size + 3 ≤ k ∧ some k ≠ vo.ownBlock) := ⟨fun k hk => ⟨Nat.le_trans hL1.out.size hk, Kd.fresh' (Kd.S_lt hL1.out.hv) k hk⟩⟩
   have hv8 : Aside0 (Kd.S k37 37 w2 w.heap.size (fun k => w.heap.size + 3 ≤ k ∧ ¬ W1.heap.size ≤ k) vo xs) := ⟨Kd.S_below (Kd.S_mono (Kd.S_bound hL1.out.hv) (fun k hk => ⟨hk.1, by have := hk.2.2.1; omega⟩)) hb2⟩
   refine hK.out _ _ ⟨zAK hb2 hHeld.1, zAK hb2 hHeld.2.1, zAK hb2 hHeld.2.2.1, zAK hb2 hHeld.2.2.2.1, zAK hb2 hHeld.2.2.2.2.1, zAK hb2 hHeld.2.2.2.2.2.1, zAK hb2 hHeld.2.2.2.2.2.2.1, zAK hb2 hHeld.2.2.2.2.2.2.2⟩ (fun hHeld => ?_)
   clear hK K
   refine norm_ (a' := ?_) ?_ ?_
   rotate_left
   ·show Act.put _ (some 42) _ = _
    simp only [Act.put, List.setIfInBounds_toArray, List.set_cons_zero, List.set_cons_succ, i64_w, i32_w]
    rfl
   refine one_ (i := 8) (N := some 43) #[tT,tT,tT,tT,tT,tT,tT,tT,tT,fF,fF,fF] rfl rfl (by kernel_rfl) (by decide) (fun K hK => ?_)
   refine value_ (w1 := ?_) (v := ?_) (by rfl) rfl ?_ ?_
   rotate_left 2
   ·go_simp
    constructor
    ·rfl
    ·rfl
   refine hK.out _ _ ⟨zAK (zAC (Below.refl _ _) _) hHeld.1, zAK (zAC (Below.refl _ _) _) hHeld.2.1, zAK (zAC (Below.refl _ _) _) hHeld.2.2.1, zAK (zAC (Below.refl _ _) _) hHeld.2.2.2.1, zAK (zAC (Below.refl _ _) _) hHeld.2.2.2.2.1, zAK (zAC (Below.refl _ _) _) hHeld.2.2.2.2.2.1, zAK (zAC (Below.refl _ _) _) hHeld.2.2.2.2.2.2.1, zAK (zAC (Below.refl _ _) _) hHeld.2.2.2.2.2.2.2⟩ (fun hHeld => ?_)
   clear hK K
   refine norm_ (a' := ?_) ?_ ?_
   rotate_left
   ·show Act.put _ (some 43) _ = _
    simp only [Act.put, List.setIfInBounds_toArray, List.set_cons_zero, List.set_cons_succ, i64_w, i32_w]
    rfl
   refine last_ (i := 9) (N := some 44) #[tT,tT,tT,tT,tT,tT,tT,tT,tT,tT,fF,fF] rfl rfl (by kernel_rfl) (by decide) (fun K hK => ?_)
   refine Kd.S_append_step k37 (w0 := w) w.heap.size (by rfl) (.tmp 36) (.tmp 43) 22 37 (.agg #[(.int .i64 0), (.int .i64 0), (.int .i64 0), (.int .i64 0), (.int .i64 0), (.slice none 0 0)]) 64 rfl Try.underlying22 info37 rfl (by decide) (by omega) vo xs x [.int .i64 x.f0, .int .i64 x.f1, .int .i64 x.f2, .int .i64 x.f3, .int .i64 x.f4, v5] (fun k => w.heap.size + 3 ≤ k) (fun k => W1.heap.size ≤ k) rfl rfl ?aP hv7.out ?aF ?aO ?aB ?aS ?aL ?_
   (case aP => exact k37_mkM _ _ _ x (hv6.out))
   (case aF => intro k hk; have := hL2.out.size; omega)
   (case aO => exact hv8.out)
   (case aB => exact hL2.out.hB)
   (case aS => have := hL2.out.size; omega)
   (case aL => have := hxl.out; omega)
   intro v1 w4 hv1 hb4 hg4 hat4
   have hL4 := Aside0.mk (hL2.out.grown hv1 hb4 hg4 hg4.size)
   obtain ⟨Av, cv, hve⟩ := Kd.S_slice hv1
   rw [show (xs ++ [x]).length = xs.length + 1 by simp] at hve
   subst hve
   refine hK.out _ _ ?_
   clear hK K
   refine norm_ (a' := ?_) ?_ ?_
   rotate_left
   ·show Act.put _ (some 44) _ = _
    simp only [Act.put, List.setIfInBounds_toArray, List.set_cons_zero, List.set_cons_succ, i64_w, i32_w]
    rfl
   refine pure_ (i := 10) (N := some 45) (v := ?_) (a' := ?_) #[tT,tT,tT,tT,tT,tT,tT,tT,tT,tT,tT,fF] rfl rfl (by kernel_rfl) (fun _ _ _ h => h) (Or.inl ⟨by rfl, ?_⟩) ?_ ?_
   rotate_left
   ·intro w'
    go_simp
    try with_reducible rfl
   rotate_left
   ·simp only [Act.put, List.setIfInBounds_toArray, List.set_cons_zero, List.set_cons_succ, i64_w, i32_w]
    rfl
   refine last_ (i := 11) (N := none) #[tT,tT,tT,tT,tT,tT,tT,tT,tT,tT,tT,tT] rfl rfl (by kernel_rfl) (by decide) (fun K hK => ?_)
   have s0 := hL4.out.cell
   have s1 := zAB hL4.out.ho 0
   refine skip_ (w1 := ?_) (by rfl) rfl ?_ ?_
   rotate_left
   ·go_simp
    rfl
   have hL5 := Aside0.mk (hL4.out.set (.slice Av (xs.length + 1) cv))
   refine hK.out _ _ ?_
   clear hK K
   refine done_ (by kernel_rfl) ?_
   try go_wp2
   go_roundw
   case rel => exact ⟨m + 1, _, by omega, by go_num, by rw [htk'.out]; exact hL5⟩
   case measure => simp [intOf]; omega
  ·obtain rfl : m = l.length := by omega
   obtain ⟨Av, cv, hve⟩ := Kd.S_slice hL.out.hv
   rw [show ((O.take l.length).map fun k => zAF l k).length = l.length by simp; omega] at hve
   subst hve
   have hc0 := hL.out.cell
   have hc1 : wr.cell? ⟨w.heap.size + 2, 1, none⟩ = some (.int .i64 t.f0) := (zAE hL.out.ho 1).trans rfl
   have hc2 : wr.cell? ⟨w.heap.size + 2, 2, none⟩ = some (.int .i64 t.f1) := (zAE hL.out.ho 2).trans rfl
   have hc3 : wr.cell? ⟨w.heap.size + 2, 3, none⟩ = some (.int .i64 t.f2) := (zAE hL.out.ho 3).trans rfl
   have hc4 : wr.cell? ⟨w.heap.size + 2, 4, none⟩ = some (.int .i64 t.f3) := (zAE hL.out.ho 4).trans rfl
   have hz0 : wr.cell? ⟨w.heap.size + 1, 0, none⟩ = some (.slice none 0 0) := (zAE hL.out.hz 0).trans rfl
   have hz1 : wr.cell? ⟨w.heap.size + 1, 1, none⟩ = some (.int .i64 0) := (zAE hL.out.hz 1).trans rfl
   have hz2 : wr.cell? ⟨w.heap.size + 1, 2, none⟩ = some (.int .i64 0) := (zAE hL.out.hz 2).trans rfl
   have hz3 : wr.cell? ⟨w.heap.size + 1, 3, none⟩ = some (.int .i64 0) := (zAE hL.out.hz 3).trans rfl
   have hz4 : wr.cell? ⟨w.heap.size + 1, 4, none⟩ = some (.int .i64 0) := (zAE hL.out.hz 4).trans rfl
   have hf0 := zAB hL.out.hz 0
   have hf1 := zAB hL.out.hz 1
   have hf2 := zAB hL.out.hz 2
   have hf3 := zAB hL.out.hz 3
   have hf4 := zAB hL.out.hz 4
   have hend := hL.out.hv
   rw [show List.take l.length O = O by rw [← hOl, List.take_length]] at hend
   have hend' := Aside0.mk hend
   have hB := Aside0.mk hL.out.hB
   clear hend
   have hL' := Aside0.mk hL.out
   clear hL
   go_wp2_with fail
   refine bodyPost_ret (results_cell_row rfl _ _ (w.heap.size + 1) 29 #[.slice Av l.length cv, .int .i64 t.f0, .int .i64 t.f1, .int .i64 t.f2, .int .i64 t.f3] (0, 0) _ rfl (by refine zAR (cs := #[.slice Av l.length cv, .int .i64 t.f0, .int .i64 t.f1, .int .i64 t.f2, .int .i64 0]) ?_ 4 _ rfl; refine zAR (cs := #[.slice Av l.length cv, .int .i64 t.f0, .int .i64 t.f1, .int .i64 0, .int .i64 0]) ?_ 3 _ rfl; refine zAR (cs := #[.slice Av l.length cv, .int .i64 t.f0, .int .i64 0, .int .i64 0, .int .i64 0]) ?_ 2 _ rfl; refine zAR (cs := #[.slice Av l.length cv, .int .i64 0, .int .i64 0, .int .i64 0, .int .i64 0]) ?_ 1 _ rfl; refine zAR (cs := #[.slice none 0 0, .int .i64 0, .int .i64 0, .int .i64 0, .int .i64 0]) ?_ 0 _ rfl; exact hL'.out.hz) Try.underlying29 rfl (by kernel_rfl)) rfl ?_
   have ge : w.heap.size ≤ w.heap.size + 1 := Nat.le_succ _
   have hne : ∀ k, w.heap.size + 3 ≤ k → k ≠ w.heap.size + 1 := fun k hk => by omega
   refine ⟨_, rfl, Kd.S_mono (Kd.S_far (p := ⟨w.heap.size + 1, 4, none⟩) (Kd.S_far (p := ⟨w.heap.size + 1, 3, none⟩) (Kd.S_far (p := ⟨w.heap.size + 1, 2, none⟩) (Kd.S_far (p := ⟨w.heap.size + 1, 1, none⟩) (Kd.S_far (p := ⟨w.heap.size + 1, 0, none⟩) hend'.out hne _) hne _) hne _) hne _) hne _) (fun _ _ => trivial), ?_⟩
   exact zAH (zAH (zAH (zAH (zAH hB.out ge) ge) ge) ge) ge
end Go.Proofs.Ytphmlkbmnmicpaa.A
namespace Go.Proofs.Ytphmlkbmnmicpaa.A
open Go.RowKit Go.Proofs.YtphmlkbmnmicpaaW.PrintWords Go.Proofs.YtphmlkbmnmicpaaW.PrintLast Go.Shelf
def Few (l : List S37) : Prop := l.length ≤ 4096 ∧ ∀ x ∈ l, x.f5.length ≤ 1000
instance (l : List S37) : Decidable (Few l) := by unfold Few; exact inferInstance
def sched_Order.f (l0 : List S37) : Option (List Int) := if Few l0 then some (zCG l0) else none
theorem sched_Order.calls (A0 : Option Addr) (c0 : Nat) (l0 : List S37) (r : List Int) (w : World) (hr0 : Kd.C k37 w A0 l0.length l0) (hc0 : l0.length ≤ c0) (h : sched_Order.f l0 = some r) :
  Calls Try.prog 22 #[.slice A0 l0.length c0] w fun e w' => ∃ v0_ : Value, e = .returned (v0_) ∧ Kd.R (Kd.int .i64) 3 w' w.heap.size (fun _ => True) v0_ r ∧ Below w.heap.size w w' := by
 unfold sched_Order.f at h
 split at h
 ·obtain rfl := Option.some.inj h
  rename_i hf
  exact order_calls l0 hf.1 hf.2 A0 c0 w hr0 hc0
 ·cases h
theorem orderOf_rng (l : List S37) : ∀ k ∈ zCG l, 0 ≤ k ∧ k < l.length := by
 intro k hk
 obtain ⟨i, rfl, hi⟩ := orderBy_rng _ _ (zBU l) k hk
 rw [zBF] at hi
 omega
def sched_Block.f (l0 : List S37) (a b c d : Int) : Option (List S37 × Int × Int × Int × Int) := if Few l0 then some ((zCG l0).map (fun k => zAF l0 k), a, b, c, d) else none
theorem sched_Block.calls (A0 : Option Addr) (c0 : Nat) (l0 : List S37) (a b c d : Int) (r : List S37) (r1 r2 r3 r4 : Int) (w : World) (hr0 : Kd.C k37 w A0 l0.length l0) (hc0 : l0.length ≤ c0) (h : sched_Block.f l0 a b c d = some (r, r1, r2, r3, r4)) :
  Calls Try.prog 11 #[.agg #[.slice A0 l0.length c0, .int .i64 a, .int .i64 b, .int .i64 c, .int .i64 d]] w fun e w' => ∃ v0_ : Value, e = .returned (.agg #[v0_, .int .i64 r1, .int .i64 r2, .int .i64 r3, .int .i64 r4]) ∧ Kd.S k37 37 w' w.heap.size (fun _ => True) v0_ r ∧ Below w.heap.size w w' := by
 unfold sched_Block.f at h
 split at h
 ·rename_i hf
  have h' := Option.some.inj h
  injection h' with e0 h'
  injection h' with e1 h'
  injection h' with e2 h'
  injection h' with e3 e4
  subst e0 e1 e2 e3 e4
  refine block_calls l0 ⟨a, b, c, d⟩ hf.1 hf.2 A0 c0 w hr0 hc0 (zCG l0) (fun W hW => ?_) (orderOf_rng l0) (zCB l0)
  refine (order_calls l0 hf.1 hf.2 A0 c0 W (Kd.C_below hr0 hW) hc0).mono ?_
  rintro e w' ⟨v, he, hv, hb⟩
  obtain ⟨Ao, co, rfl⟩ := Kd.R_slice hv
  rw [zCB] at he hv
  exact ⟨Ao, co, he, hv, hb⟩
 ·cases h
def sched_May.f (l0 : List S37) (o : List Int) : Option Bool := if Few l0 then some (decide (o.length = l0.length) && mayB (zAX l0) l0.length (List.replicate l0.length false) o) else none
set_option maxHeartbeats 1000000 in
theorem sched_May.calls (A0 : Option Addr) (c0 : Nat) (l0 : List S37) (A1 : Option Addr) (c1 : Nat) (l1 : List Int) (r : Bool) (w : World) (hr0 : Kd.C k37 w A0 l0.length l0) (hc0 : l0.length ≤ c0) (hr1 : Kd.C (Kd.int .i64) w A1 l1.length l1) (hc1 : l1.length ≤ c1) (h : sched_May.f l0 l1 = some r) :
  Calls Try.prog 24 #[.slice A0 l0.length c0, .slice A1 l1.length c1] w fun e w' => e = .returned (.bool r) ∧ Below w.heap.size w w' := by
 unfold sched_May.f at h
 split at h
 ·rename_i hf
  obtain rfl := Option.some.inj h
  by_cases hl : l1.length = l0.length
  ·rw [decide_eq_true hl, Bool.true_and]
   exact may_calls l0 hf.1 hf.2 A0 c0 w hr0 hc0 l1 A1 c1 hr1 hl
  ·rw [decide_eq_false hl, Bool.false_and]
   have h1 := hf.1
   have h2 : ((l1.length : Int) != (l0.length : Int)) = true := by simp; omega
   clear hf hr0 hr1 hc0 hc1 h hl
   go_enter Try.func24, Try.ntmps24
   go_wp2_with fail
   go_ret
   exact ⟨rfl, Below.refl _ _⟩
 ·cases h
def sched_heights.f (l0 : List S37) (d : List (List Int)) : Option (List Int) := if Few l0 ∧ d = zAX l0 then some (hAll l0 d (down l0.length 0)) else none
theorem sched_heights.calls (A0 : Option Addr) (c0 : Nat) (l0 : List S37) (A1 : Option Addr) (c1 : Nat) (l1 : List (List Int)) (r : List Int) (w : World) (hr0 : Kd.C k37 w A0 l0.length l0) (hc0 : l0.length ≤ c0) (hr1 : Kd.C (Kd.slice 3 (Kd.int .i64)) w A1 l1.length l1) (hc1 : l1.length ≤ c1) (h : sched_heights.f l0 l1 = some r) :
  Calls Try.prog 34 #[.slice A0 l0.length c0, .slice A1 l1.length c1] w fun e w' => ∃ v0_ : Value, e = .returned (v0_) ∧ Kd.R (Kd.int .i64) 3 w' w.heap.size (fun _ => True) v0_ r ∧ Below w.heap.size w w' := by
 unfold sched_heights.f at h
 split at h
 ·rename_i hf
  obtain rfl := Option.some.inj h
  obtain ⟨hf, hd⟩ := hf
  have hdl : l1.length = l0.length := by rw [hd]; exact zBF l0
  have hbk : Back l1 := by rw [hd]; exact zBU l0
  clear hd h
  have h1 := hf.1
  have := heights_calls l0 l1 A0 A1 c0 c1 w hr0 hc0 hr1 hc1 (by omega) (by omega) (fun i hi k hk => by
   obtain ⟨m, rfl, hm⟩ := hbk i hi k hk
   omega)
  rw [hdl] at this ⊢
  exact this
 ·cases h
end Go.Proofs.Ytphmlkbmnmicpaa.A
namespace Go.Proofs.Ytphmlkbmnmicpaa.A
open Go.RowKit Go.Proofs.YtphmlkbmnmicpaaW.PrintWords Go.Proofs.YtphmlkbmnmicpaaW.PrintLast Go.Shelf
def again (l : List S37) : List S37 := (zCG l).map fun k => zAF l k
theorem again_length (l : List S37) : (again l).length = l.length := by unfold again; rw [List.length_map, zCB]
end Go.Proofs.Ytphmlkbmnmicpaa.A
namespace Go.Proofs.Ytphmlkbmnmicpaa.A
open Go.RowKit Go.Proofs.YtphmlkbmnmicpaaW.PrintWords Go.Proofs.YtphmlkbmnmicpaaW.PrintLast Go.Proofs.YtphmlkbmnmicpaaW.PrintMore
attribute [local go_sem] max2_int zBH max_two zBL zBB zBA zBI zBG   -- for this text's walks alone
def swagelaw27_some.f  : Option ((List (S37))) := some (([(⟨1, 1, 0, 0, 0, ([] : List Int)⟩ : S37), (⟨4, 2, 3, 0, 0, ([] : List Int)⟩ : S37), (⟨2, 4, 1, 2, 1, ([] : List Int)⟩ : S37)] : List (S37)))
set_option maxHeartbeats 8000000 in
set_option maxRecDepth 100000 in
theorem swagelaw27_some.calls  (r : List (S37)) (w : World) (h : swagelaw27_some.f  = some r) :
  Calls Try.prog 30 #[] w fun e w' => ∃ v0_ : Value, e = .returned (v0_) ∧ Kd.S k37 37 w' w.heap.size (fun _ => True) v0_ r ∧ Below w.heap.size w w' := by
 have hu37 := Try.underlying37
 have HB := Aside0.mk (Below.refl w.heap.size w)
 have H : (some (([(⟨1, 1, 0, 0, 0, ([] : List Int)⟩ : S37), (⟨4, 2, 3, 0, 0, ([] : List Int)⟩ : S37), (⟨2, 4, 1, 2, 1, ([] : List Int)⟩ : S37)] : List (S37)))) = some r := h
 clear h
 obtain ⟨y199, hy199⟩ : ∃ y_ : List (S37), y_ = (([(⟨1, 1, 0, 0, 0, ([] : List Int)⟩ : S37), (⟨4, 2, 3, 0, 0, ([] : List Int)⟩ : S37), (⟨2, 4, 1, 2, 1, ([] : List Int)⟩ : S37)] : List (S37))) := ⟨_, rfl⟩
 replace H : (some y199) = some r := by first | (rw [hy199]; with_reducible exact H) | (have H2_ := (Option.bind_some _ _).symm.trans H; rw [hy199]; with_reducible exact H2_) | (have H2_ := (Option.bind_some _ _).symm.trans H; with_reducible exact H2_) | with_reducible exact H | (rw [hy199]; exact H) | exact H
 have Ny199 := Aside0.mk hy199
 clear hy199
 obtain rfl := Option.some.inj H
 go_enter Try.func30, Try.ntmps30
 go_wp2_with (first | ((with_reducible refine zAU (N := 4) rfl ?_); refine Kd.S_lit k37 _ 37 ?hg (N := 4) ?hd (xs := ([(⟨1, 1, 0, 0, 0, ([] : List Int)⟩ : S37), (⟨4, 2, 3, 0, 0, ([] : List Int)⟩ : S37), (⟨2, 4, 1, 2, 1, ([] : List Int)⟩ : S37)] : List (S37))) (inner := [.int .i64 1, .int .i64 1, .int .i64 0, .int .i64 0, .int .i64 0, .slice none 0 0, .int .i64 4, .int .i64 2, .int .i64 3, .int .i64 0, .int .i64 0, .slice none 0 0, .int .i64 2, .int .i64 4, .int .i64 1, .int .i64 2, .int .i64 1, .slice none 0 0]) (ok := fun _ => True) (okp := fun _ => True) ?hr ?hp (fun _ hk => hk) trivial (Below.refl _ _) (Nat.le_refl _) (by simp) ?_; (case hd => rfl); (case hg => rfl); (case hr => first | (go_simp; done) | (go_simp; rfl)); (case hp => exact (Reps.c6 (show Kd.M k37 _ _ _ (⟨1, 1, 0, 0, 0, ([] : List Int)⟩ : S37) [.int .i64 1, .int .i64 1, .int .i64 0, .int .i64 0, .int .i64 0, .slice none 0 0] from (k37_mkM _ _ _ (⟨1, 1, 0, 0, 0, ([] : List Int)⟩ : S37) (Kd.R_nil _ _ _ _ _))) (Reps.c6 (show Kd.M k37 _ _ _ (⟨4, 2, 3, 0, 0, ([] : List Int)⟩ : S37) [.int .i64 4, .int .i64 2, .int .i64 3, .int .i64 0, .int .i64 0, .slice none 0 0] from (k37_mkM _ _ _ (⟨4, 2, 3, 0, 0, ([] : List Int)⟩ : S37) (Kd.R_nil _ _ _ _ _))) (Reps.c6 (show Kd.M k37 _ _ _ (⟨2, 4, 1, 2, 1, ([] : List Int)⟩ : S37) [.int .i64 2, .int .i64 4, .int .i64 1, .int .i64 2, .int .i64 1, .slice none 0 0] from (k37_mkM _ _ _ (⟨2, 4, 1, 2, 1, ([] : List Int)⟩ : S37) (Kd.R_nil _ _ _ _ _))) (Reps.none _ _))))); intro v200 w1 ho2 hb hg_ hnew_; clear hg_ hnew_; (first | rw [← Ny199.out] at ho2 | (simp only [Int.reduceToNat] at ho2; rw [← Ny199.out] at ho2)); have n0_ := Aside0.mk (Kd.S_lower ho2 (zAM (by repeat (first | (with_reducible first | exact HB.out | apply zAC | apply zAA | apply zAD) | exact HB.out)))); have n1_ := Aside0.mk (zAL (by repeat (first | (with_reducible first | exact HB.out | apply zAC | apply zAA | apply zAD) | exact HB.out)) hb); clear HB; have HO201 := n0_; have HB := n1_; clear n0_ n1_; clear hb ho2))
 go_ret
 exact ⟨_, by first | rfl | (simp [zAO, zAN] <;> rfl) | (simp [*, zAO, zAN] <;> rfl), by (with_reducible repeat (first | apply Kd.S_alloc | apply Kd.S_drewN | apply Kd.S_drew)); exact HO201.out, by repeat (first | (with_reducible first | exact HB.out | apply zAC | apply zAA | apply zAD) | exact HB.out)⟩
end Go.Proofs.Ytphmlkbmnmicpaa.A
namespace Go.Proofs.Ytphmlkbmnmicpaa.A
open Go.RowKit Go.Proofs.YtphmlkbmnmicpaaW.PrintWords Go.Proofs.YtphmlkbmnmicpaaW.PrintLast Go.Proofs.YtphmlkbmnmicpaaW.PrintMore
attribute [local go_sem] max2_int zBH max_two zBL zBB zBA zBI zBG   -- for this text's walks alone
def swageref02_Ints.l0 : Nat → List Int → List Int → Int → Option (Bool)
 | 0, _, _, _ => none
 | k + 1, x0, x1, x5 => if x5 < (x0.length : Int) then (if 0 ≤ x5 then (if x5 < (x1.length : Int) then (if (rd x0 x5) = (rd x1 x5) then (swageref02_Ints.l0 k x0 x1 (wrap64 (x5 + 1))) else (some false)) else (none)) else (none)) else (some true)
def swageref02_Ints.f (k : Nat) (l0 : List Int) (l1 : List Int) : Option (Bool) := if (l0.length : Int) = (l1.length : Int) then (swageref02_Ints.l0 k l0 l1 0) else (some false)
set_option maxHeartbeats 8000000 in
set_option maxRecDepth 100000 in
theorem swageref02_Ints.calls (k : Nat) (A0 : Option Addr) (c0 : Nat) (l0 : List Int) (A1 : Option Addr) (c1 : Nat) (l1 : List Int) (r : Bool) (w : World) (hr0 : Kd.C (Kd.int .i64) w A0 l0.length l0) (hc0 : l0.length ≤ c0) (hr1 : Kd.C (Kd.int .i64) w A1 l1.length l1) (hc1 : l1.length ≤ c1) (h : swageref02_Ints.f k l0 l1 = some r) :
  Calls Try.prog 19 #[.slice A0 l0.length c0, .slice A1 l1.length c1] w fun e w' => e = .returned (.bool r) ∧ Drawn0 w w' := by
 have HR0 := Aside0.mk hr0
 have HC0 := Aside0.mk hc0
 clear hr0 hc0
 have HR1 := Aside0.mk hr1
 have HC1 := Aside0.mk hc1
 clear hr1 hc1
 have H : (if (l0.length : Int) = (l1.length : Int) then (swageref02_Ints.l0 k l0 l1 0) else (some false)) = some r := h
 clear h
 by_cases c3 : (l0.length : Int) = (l1.length : Int)
 ·rw [if_pos c3] at H
  have c3b0 : ((l0.length : Int) == (l1.length : Int)) = true := beq_iff_eq.mpr c3
  have c3b1 : ((l0.length : Int) != (l1.length : Int)) = false := bne_eq_false_iff_eq.mpr c3
  have c3b2 : (l0.length == l1.length) = true := by first | simpa using c3 | (simp at c3 ⊢; omega)
  clear c3
  have H' := Aside0.mk H
  clear H
  go_enter Try.func19, Try.ntmps19
  go_wp2
  repeat (go_quiet (fail); try go_wp2)
  go_loopg [5] k (fun kq v5 w' => ∃ (x5_1 : Int), v5 = .int .i64 x5_1 ∧ Aside0 (swageref02_Ints.l0 kq l0 l1 x5_1 = some r) ∧ Aside0 (kq ≤ k) ∧ Drawn0 w w')
  case atStart => exact ⟨(0), (by first | rfl | (simp; done) | (simp [*]; done)), H', ⟨Nat.le_refl _⟩, by repeat (first | exact Drawn0.refl _ | apply Drawn0.step)⟩
  case round =>
   clear H'
   (try clear c1); (try clear p2); (try clear c3); (try clear c3b0); (try clear c3b1); (try clear c3b2)
   obtain ⟨x5_1, rfl, HA, HK1, ⟨m1, rfl⟩⟩ := hrel
   cases gk with
   | zero => exact absurd HA.out (by simp [swageref02_Ints.l0])
   | succ k1 =>
    have H := HA.out
    clear HA
    simp only [swageref02_Ints.l0] at H
    by_cases c4 : x5_1 < (l0.length : Int)
    ·rw [if_pos c4] at H
     have c4b0 : decide (x5_1 < (l0.length : Int)) = true := decide_eq_true c4
     clear c4
     by_cases c5 : 0 ≤ x5_1
     ·rw [if_pos c5] at H
      have c5b0 : decide (0 ≤ x5_1) = true := decide_eq_true c5
      clear c5
      by_cases c6 : x5_1 < (l1.length : Int)
      ·rw [if_pos c6] at H
       have c6b0 : decide (x5_1 < (l1.length : Int)) = true := decide_eq_true c6
       clear c6
       by_cases c7 : (rd l0 x5_1) = (rd l1 x5_1)
       ·rw [if_pos c7] at H
        have c7b0 : ((rd l0 x5_1) == (rd l1 x5_1)) = true := beq_iff_eq.mpr c7
        have c7b1 : ((rd l0 x5_1) != (rd l1 x5_1)) = false := bne_eq_false_iff_eq.mpr c7
        clear c7
        have H' := Aside0.mk H
        clear H
        have p171 : 0 ≤ (x5_1 : Int) := of_decide_eq_true (by first | (with_reducible assumption) | assumption)
        have q171 : x5_1 < (l0.length : Int) := of_decide_eq_true (by first | (with_reducible assumption) | assumption)
        obtain ⟨ad171, e171, hx171_0⟩ := Kd.at_int HR0.out x5_1 p171 q171
        cases e171
        replace p171 := eq_true p171
        replace q171 := eq_true q171
        have p172 : 0 ≤ (x5_1 : Int) := of_decide_eq_true (by first | (with_reducible assumption) | assumption)
        have q172 : x5_1 < (l1.length : Int) := of_decide_eq_true (by first | (with_reducible assumption) | assumption)
        obtain ⟨ad172, e172, hx172_0⟩ := Kd.at_int HR1.out x5_1 p172 q172
        cases e172
        replace p172 := eq_true p172
        replace q172 := eq_true q172
        go_wp2
        repeat (go_quiet (fail); try go_wp2)
        go_roundg k1
        case measure => have := HK1.out; omega
        case rel => exact ⟨(wrap64 (x5_1 + 1)), (by first | rfl | (simp; done) | (simp [*]; done)), H', ⟨by have := HK1.out; omega⟩, by repeat (first | exact Drawn0.refl _ | apply Drawn0.step)⟩
       ·rw [if_neg c7] at H
        have c7b0 : ((rd l0 x5_1) == (rd l1 x5_1)) = false := beq_eq_false_iff_ne.mpr c7
        have c7b1 : ((rd l0 x5_1) != (rd l1 x5_1)) = true := bne_iff_ne.mpr c7
        obtain rfl := Option.some.inj H
        have p171 : 0 ≤ (x5_1 : Int) := of_decide_eq_true (by first | (with_reducible assumption) | assumption)
        have q171 : x5_1 < (l0.length : Int) := of_decide_eq_true (by first | (with_reducible assumption) | assumption)
        obtain ⟨ad171, e171, hx171_0⟩ := Kd.at_int HR0.out x5_1 p171 q171
        cases e171
        replace p171 := eq_true p171
        replace q171 := eq_true q171
        have p172 : 0 ≤ (x5_1 : Int) := of_decide_eq_true (by first | (with_reducible assumption) | assumption)
        have q172 : x5_1 < (l1.length : Int) := of_decide_eq_true (by first | (with_reducible assumption) | assumption)
        obtain ⟨ad172, e172, hx172_0⟩ := Kd.at_int HR1.out x5_1 p172 q172
        cases e172
        replace p172 := eq_true p172
        replace q172 := eq_true q172
        go_wp2
        repeat (go_quiet (fail); try go_wp2)
        go_ret
        exact ⟨by first | rfl | (simp; done) | (simp [*]; done), by repeat (first | exact Drawn0.refl _ | apply Drawn0.step)⟩
      ·rw [if_neg c6] at H
       exact absurd H (by simp)
     ·rw [if_neg c5] at H
      exact absurd H (by simp)
    ·rw [if_neg c4] at H
     have c4b0 : decide (x5_1 < (l0.length : Int)) = false := decide_eq_false c4
     clear c4
     obtain rfl := Option.some.inj H
     go_wp2
     repeat (go_quiet (fail); try go_wp2)
     go_ret
     exact ⟨by first | rfl | (simp; done) | (simp [*]; done), by repeat (first | exact Drawn0.refl _ | apply Drawn0.step)⟩
 ·rw [if_neg c3] at H
  have c3b0 : ((l0.length : Int) == (l1.length : Int)) = false := beq_eq_false_iff_ne.mpr c3
  have c3b1 : ((l0.length : Int) != (l1.length : Int)) = true := bne_iff_ne.mpr c3
  have c3b2 : (l0.length == l1.length) = false := by first | simpa using c3 | (simp at c3 ⊢; omega)
  obtain rfl := Option.some.inj H
  go_enter Try.func19, Try.ntmps19
  go_wp2
  repeat (go_quiet (fail); try go_wp2)
  go_ret
  exact ⟨by first | rfl | (simp; done) | (simp [*]; done), by repeat (first | exact Drawn0.refl _ | apply Drawn0.step)⟩
end Go.Proofs.Ytphmlkbmnmicpaa.A
