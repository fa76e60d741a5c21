/- Parts of the proof, in the order in which they rest on one another. -/
import Derived.Test.YtphmlkbmnmicpaaMTells4
import Derived.Below
import Derived.Deep.Draws
import Derived.Deep.AppendLies
import Derived.Maps.AppendAt
import Derived.OwnWalk
import Derived.Laws.BytesArg
import Derived.Laws.MakeOwn
import Derived.Laws.OwnMore
import Derived.Deep.OwnRows
import Derived.Tactics
import Derived.Lib.ConvBytes
import Derived.Laws.Slices
import Derived.WalkKit
import Derived.KernelRfl
import Derived.RowKit3
import Derived.Deep.LoopGhost
import Derived.Deep.QuietTactic
import Derived.BigQuiet
import Derived.WideLaws
import Derived.Deep.DeepCutAuto
import Derived.Deep.CutBlock
import Derived.Deep.RegionHeld3
import Derived.Laws.Rows
import Derived.Lib.AppendStr
import Derived.ArgAppend
import Derived.Laws.IdiomCopy
import Derived.RowKit
import Derived.OrdersHeld
import Derived.Laws.BitsLemmas
import Derived.Laws.StructEq
import Derived.Test.YtphmlkbmnmicpaaProg
import Derived.Shelf.Abstract
import Derived.Lib.Walk
import Derived.RangeFuncBox
import Derived.RangeFuncLeaves
import Derived.RangeFuncNested
import Derived.RangeFuncBound
import Derived.OwnWalkIn
import Derived.TacticsInMore
import Derived.LoopNIn
import Derived.LoopIn
import Derived.Outline
import Derived.Lib.QuietBelowIn
import Derived.OrdersIn
import Derived.StillTail
import Derived.Lib.SliceRun
import Derived.Deep.Slices
set_option linter.unusedVariables false
set_option linter.unusedSimpArgs false
namespace Go.Proofs.Ytphmlkbmnmicpaa.A
open Go.RowKit Go.Proofs.YtphmlkbmnmicpaaW.PrintWords Go.Proofs.YtphmlkbmnmicpaaW.PrintLast Go.Proofs.YtphmlkbmnmicpaaW.PrintMore
attribute [local go_sem] max2_int zBH max_two zBL zBB zBA zBI zBG   -- for this text's walks alone
mutual
def swageref27_Deps.l0 : Nat → List (S37) → List (List Int) → Int → Option ((List (List Int)))
 | 0, _, _, _ => none
 | k + 1, x0, x3, x4 => if x4 < (x0.length : Int) then (swageref27_Deps.j1 k x0 x3 x4 (decide ((x0.length : Int) ≤ 4096))) else (swageref27_Deps.j1 k x0 x3 x4 false)
def swageref27_Deps.j1 : Nat → List (S37) → List (List Int) → Int → Bool → Option ((List (List Int)))
 | 0, _, _, _, _ => none
 | k + 1, x0, x3, x4, x16 => if x16 = true then (swageref27_Deps.l1 k x0 x3 x4 ([] : List Int) 0) else (some x3)
def swageref27_Deps.l1 : Nat → List (S37) → List (List Int) → Int → List Int → Int → Option ((List (List Int)))
 | 0, _, _, _, _, _ => none
 | k + 1, x0, x3, x4, x5, x6 => if x6 < x4 then (if 0 ≤ x6 then (if x6 < (x0.length : Int) then (if 0 ≤ x4 then (if x4 < (x0.length : Int) then ((swageref27_behind.f k ((zAF x0 x6).f0) ((zAF x0 x6).f1) ((zAF x0 x6).f2) ((zAF x0 x6).f3) ((zAF x0 x6).f4) ((zAF x0 x6).f5) ((zAF x0 x4).f0) ((zAF x0 x4).f1) ((zAF x0 x4).f2) ((zAF x0 x4).f3) ((zAF x0 x4).f4) ((zAF x0 x4).f5)).bind fun t279 => (if t279 = true then (if x5.length < 17592186044416 then (swageref27_Deps.l1 k x0 x3 x4 (x5 ++ [x6]) (wrap64 (x6 + 1))) else (none)) else (swageref27_Deps.l1 k x0 x3 x4 x5 (wrap64 (x6 + 1))))) else (none)) else (none)) else (none)) else (none)) else (if x3.length < 5864062014805 then (swageref27_Deps.l0 k x0 (x3 ++ [x5]) (wrap64 (x4 + 1))) else (none))
end
def swageref27_Deps.f (k : Nat) (l0 : List (S37)) : Option ((List (List Int))) := swageref27_Deps.l0 k l0 ([] : List (List Int)) 0
def swageref27_Deps.T9 : Bool × List (List Nat × List Nat) := (true, [([], []), ([], []), ([0, 1], [0, 1]), ([2], [2]), ([], []), ([], []), ([4, 5], [4, 5]), ([6], [6]), ([3, 7], [3, 7]), ([8, 8, 0, 1, 2, 3, 4, 5, 6, 7, 8], [8])])
def swageref27_Deps.B9 : List Nat := [0, 0, 3, 7, 0, 0, 48, 112, 255, 511]
theorem swageref27_Deps.tab9 : rtab .any (opsOf Try.f18 9) = swageref27_Deps.T9 := by kernel_rfl
theorem swageref27_Deps.bits9 : waitsOk swageref27_Deps.T9.2 swageref27_Deps.B9 = true := by kernel_rfl
set_option maxHeartbeats 8000000 in
set_option maxRecDepth 100000 in
theorem swageref27_Deps.calls (k : Nat) (A0 : Option Addr) (c0 : Nat) (l0 : List (S37)) (r : List (List Int)) (w : World) (hr0 : Kd.C k37 w A0 l0.length l0) (hc0 : l0.length ≤ c0) (h : swageref27_Deps.f k l0 = some r) :
  Calls Try.prog 18 #[.slice A0 l0.length c0] w fun e w' => ∃ v0_ : Value, e = .returned (v0_) ∧ Kd.S (Kd.slice 3 (Kd.int .i64)) 23 w' w.heap.size (fun _ => True) v0_ r ∧ Below w.heap.size w w' := by
 have hu37 := Try.underlying37
 have HR0 := Aside0.mk hr0
 have HC0 := Aside0.mk hc0
 clear hr0 hc0
 have HB := Aside0.mk (Below.refl w.heap.size w)
 have H : (swageref27_Deps.l0 k l0 ([] : List (List Int)) 0) = some r := h
 clear h
 have H' := Aside0.mk H
 clear H
 go_enter Try.func18, Try.ntmps18
 go_wp2
 go_loopg [3, 4] k (fun kq v3 v4 w' => ∃ (x3_1 : List (List Int)) (x4_1 : Int), v4 = .int .i64 x4_1 ∧ Aside0 (swageref27_Deps.l0 kq l0 x3_1 x4_1 = some r) ∧ Aside0 (kq ≤ k) ∧ Aside0 (Kd.S (Kd.slice 3 (Kd.int .i64)) 23 w' w.heap.size (fun _ => True) v3 x3_1) ∧ Aside0 (Below w.heap.size w w'))
 case atStart => exact ⟨(([] : List (List Int))), (0), (by first | rfl | (simp; done) | (simp [*]; done)), H', ⟨Nat.le_refl _⟩, ⟨by first | exact Kd.S_nil _ _ _ _ _ | exact Kd.N_nil _ _ _ _ _ | exact Kd.V_nil _ _ _ _ _ | exact Kd.Q_nil _ _ _ _ _ | exact Kd.R_nil _ _ _ _ _⟩, ⟨by repeat (first | (with_reducible first | exact HB.out | apply zAC | apply zAA | apply zAD) | exact HB.out)⟩⟩
 case round =>
  clear H'
  try clear c1
  obtain ⟨x3_1, x4_1, rfl, HA, HK1, HO_3, HB⟩ := hrel
  cases gk with
  | zero => exact absurd HA.out (by simp [swageref27_Deps.l0])
  | succ k1 =>
   have H := HA.out
   clear HA
   simp only [swageref27_Deps.l0] at H
   have HC2 := Aside0.mk H
   clear H
   go_upto_region 3 with (fail)
   go_cut [16] (fun v16 wc => ∃ (kq : Nat) (x16_1 : Bool), v16 = .bool x16_1 ∧ Aside0 (swageref27_Deps.j1 kq l0 x3_1 x4_1 x16_1 = some r) ∧ Aside0 (kq ≤ k1) ∧ Aside0 (Kd.S (Kd.slice 3 (Kd.int .i64)) 23 wc w.heap.size (fun _ => True) u3 x3_1) ∧ Aside0 (Below w.heap.size w wc))
   case first =>
    have H := HC2.out
    clear HC2
    by_cases c3 : x4_1 < (l0.length : Int)
    ·rw [if_pos c3] at H
     have c3b0 : decide (x4_1 < (l0.length : Int)) = true := decide_eq_true c3
     clear c3
     (first | rw [c3b0] | (simp only [i64_w, i32_w]; rw [c3b0]) | skip)
     have H' := Aside0.mk H
     clear H
     go_wp2
     go_meet
     case rel => exact ⟨_, (decide ((l0.length : Int) ≤ 4096)), (by first | rfl | (simp; done) | (simp [*]; done)), H', ⟨by have := HK1.out; first | omega | exact Nat.le_refl _⟩, ⟨by (with_reducible repeat (first | apply Kd.S_alloc | apply Kd.S_drewN | apply Kd.S_drew)); exact HO_3.out⟩, ⟨by repeat (first | (with_reducible first | exact HB.out | apply zAC | apply zAA | apply zAD) | exact HB.out)⟩⟩
    ·rw [if_neg c3] at H
     have c3b0 : decide (x4_1 < (l0.length : Int)) = false := decide_eq_false c3
     clear c3
     (first | rw [c3b0] | (simp only [i64_w, i32_w]; rw [c3b0]) | skip)
     have H' := Aside0.mk H
     clear H
     go_wp2
     go_meet
     case rel => exact ⟨_, (false), (by first | rfl | (simp; done) | (simp [*]; done)), H', ⟨by have := HK1.out; first | omega | exact Nat.le_refl _⟩, ⟨by (with_reducible repeat (first | apply Kd.S_alloc | apply Kd.S_drewN | apply Kd.S_drew)); exact HO_3.out⟩, ⟨by repeat (first | (with_reducible first | exact HB.out | apply zAC | apply zAA | apply zAD) | exact HB.out)⟩⟩
   case rest =>
    clear HC2
    (try clear c1); (try clear p2); (try clear c3); (try clear c3b0)
    obtain ⟨kq, x16_1, rfl, HA, HJ1, HO_3, HB⟩ := hcut
    cases kq with
    | zero => exact absurd HA.out (by simp [swageref27_Deps.j1])
    | succ kj1 =>
     have H := HA.out
     clear HA
     simp only [swageref27_Deps.j1] at H
     by_cases c4 : x16_1 = true
     ·subst c4
      have H1 : (swageref27_Deps.l1 kj1 l0 x3_1 x4_1 ([] : List Int) 0) = some r := by rw [if_pos rfl] at H; exact H
      clear H
      have H := H1
      clear H1
      have H' := Aside0.mk H
      clear H
      go_wp2
      go_loopg [5, 6] kj1 (fun kq v5 v6 w' => ∃ (x5_3 : List Int) (x6_3 : Int), v6 = .int .i64 x6_3 ∧ Aside0 (swageref27_Deps.l1 kq l0 x3_1 x4_1 x5_3 x6_3 = some r) ∧ Aside0 (kq ≤ kj1) ∧ Aside0 (Kd.S (Kd.slice 3 (Kd.int .i64)) 23 w' w.heap.size (fun k_ => some k_ ≠ (v5 : Value).ownBlock) u3 x3_1) ∧ Aside0 (Kd.R (Kd.int .i64) 3 w' w.heap.size (fun _ => True) v5 x5_3) ∧ Aside0 (Below w.heap.size w w'))
      case atStart => exact ⟨(([] : List Int)), (0), (by first | rfl | (simp; done) | (simp [*]; done)), H', ⟨Nat.le_refl _⟩, ⟨by (with_reducible repeat (first | apply Kd.S_alloc | apply Kd.S_drewN | apply Kd.S_drew)); exact Kd.S_mono HO_3.out (fun _ hk => (by simp [Value.ownBlock]))⟩, ⟨by first | exact Kd.R_nil _ _ _ _ _ | exact Kd.N_nil _ _ _ _ _ | exact Kd.V_nil _ _ _ _ _ | exact Kd.Q_nil _ _ _ _ _ | exact Kd.S_nil _ _ _ _ _⟩, ⟨by repeat (first | (with_reducible first | exact HB.out | apply zAC | apply zAA | apply zAD) | exact HB.out)⟩⟩
      case round =>
       clear H'
       (try clear c1); (try clear p2); (try clear c3); (try clear c3b0); (try clear c4); (try clear p2)
       obtain ⟨x5_3, x6_3, rfl, HA, HK3, HO_3, HO_5, HB⟩ := hrel
       cases gk with
       | zero => exact absurd HA.out (by simp [swageref27_Deps.l1])
       | succ k3 =>
        have H := HA.out
        clear HA
        simp only [swageref27_Deps.l1] at H
        by_cases c5 : x6_3 < x4_1
        ·rw [if_pos c5] at H
         have c5b0 : decide (x6_3 < x4_1) = true := decide_eq_true c5
         clear c5
         by_cases c6 : 0 ≤ x6_3
         ·rw [if_pos c6] at H
          have c6b0 : decide (0 ≤ x6_3) = true := decide_eq_true c6
          clear c6
          by_cases c7 : x6_3 < (l0.length : Int)
          ·rw [if_pos c7] at H
           have c7b0 : decide (x6_3 < (l0.length : Int)) = true := decide_eq_true c7
           clear c7
           by_cases c8 : 0 ≤ x4_1
           ·rw [if_pos c8] at H
            have c8b0 : decide (0 ≤ x4_1) = true := decide_eq_true c8
            clear c8
            by_cases c9 : x4_1 < (l0.length : Int)
            ·rw [if_pos c9] at H
             have c9b0 : decide (x4_1 < (l0.length : Int)) = true := decide_eq_true c9
             clear c9
             replace H := Option.bind_eq_some_iff.mp H
             obtain ⟨t279, A100, H⟩ := H
             replace H : (if t279 = true then (if x5_3.length < 17592186044416 then (swageref27_Deps.l1 k3 l0 x3_1 x4_1 (x5_3 ++ [x6_3]) (wrap64 (x6_3 + 1))) else (none)) else (swageref27_Deps.l1 k3 l0 x3_1 x4_1 x5_3 (wrap64 (x6_3 + 1)))) = some r := H
             have A10 := Aside0.mk A100
             clear A100
             by_cases c11 : t279 = true
             ·subst c11
              have H1 : (if x5_3.length < 17592186044416 then (swageref27_Deps.l1 k3 l0 x3_1 x4_1 (x5_3 ++ [x6_3]) (wrap64 (x6_3 + 1))) else (none)) = some r := by rw [if_pos rfl] at H; exact H
              clear H
              have H := H1
              clear H1
              by_cases c12 : x5_3.length < 17592186044416
              ·rw [if_pos c12] at H
               have LMc12 := Aside0.mk c12
               clear c12
               obtain ⟨y280, hy280⟩ : ∃ y_ : List Int, y_ = (x5_3 ++ [x6_3]) := ⟨_, rfl⟩
               replace H : (swageref27_Deps.l1 k3 l0 x3_1 x4_1 y280 (wrap64 (x6_3 + 1))) = some r := by first | (rw [hy280]; with_reducible exact H) | (have H2_ := (Option.bind_some _ _).symm.trans H; rw [hy280]; with_reducible exact H2_) | (have H2_ := (Option.bind_some _ _).symm.trans H; with_reducible exact H2_) | with_reducible exact H | (rw [hy280]; exact H) | exact H
               have Ny280 := Aside0.mk hy280
               clear hy280
               have H' := Aside0.mk H
               clear H
               try go_wp2
               have n0_ := Aside0.mk (Kd.S_drew HO_3.out)
               have n1_ := Aside0.mk (Kd.R_drew HO_5.out)
               have n2_ := Aside0.mk (zAD HB.out)
               clear HO_3
               clear HO_5
               clear HB
               have HO_3 := n0_
               have HO_5 := n1_
               have HB := n2_
               clear n0_ n1_ n2_
               have p277 : 0 ≤ (x6_3 : Int) := of_decide_eq_true (by first | (with_reducible assumption) | assumption)
               have q277 : x6_3 < (l0.length : Int) := of_decide_eq_true (by first | (with_reducible assumption) | assumption)
               obtain ⟨ad277, A277_5, c277_5, e277, hx277_0, hx277_1, hx277_2, hx277_3, hx277_4, hx277_5, hl277_5, hi277_5⟩ := zBT HR0.out x6_3 p277 q277
               have hw277_5 := hx277_5
               have hw277_4 := hx277_4
               have hw277_3 := hx277_3
               have hw277_2 := hx277_2
               have hw277_1 := hx277_1
               have hw277_0 := hx277_0
               cases e277
               replace hx277_0 := (HB.out.cell (World.block_lt_of_cell? w _ hx277_0)).trans hx277_0
               replace hx277_1 := (HB.out.cell (World.block_lt_of_cell? w _ hx277_1)).trans hx277_1
               replace hx277_2 := (HB.out.cell (World.block_lt_of_cell? w _ hx277_2)).trans hx277_2
               replace hx277_3 := (HB.out.cell (World.block_lt_of_cell? w _ hx277_3)).trans hx277_3
               replace hx277_4 := (HB.out.cell (World.block_lt_of_cell? w _ hx277_4)).trans hx277_4
               replace hx277_5 := (HB.out.cell (World.block_lt_of_cell? w _ hx277_5)).trans hx277_5
               have HR277_5 := Aside0.mk hi277_5
               have HC277_5 := Aside0.mk hl277_5
               clear hi277_5 hl277_5
               replace p277 := eq_true p277
               replace q277 := eq_true q277
               have p278 : 0 ≤ (x4_1 : Int) := of_decide_eq_true (by first | (with_reducible assumption) | assumption)
               have q278 : x4_1 < (l0.length : Int) := of_decide_eq_true (by first | (with_reducible assumption) | assumption)
               obtain ⟨ad278, A278_5, c278_5, e278, hx278_0, hx278_1, hx278_2, hx278_3, hx278_4, hx278_5, hl278_5, hi278_5⟩ := zBT HR0.out x4_1 p278 q278
               have hw278_5 := hx278_5
               have hw278_4 := hx278_4
               have hw278_3 := hx278_3
               have hw278_2 := hx278_2
               have hw278_1 := hx278_1
               have hw278_0 := hx278_0
               obtain rfl : ad277 = ad278 := (by injection e278)
               replace hx278_0 := (HB.out.cell (World.block_lt_of_cell? w _ hx278_0)).trans hx278_0
               replace hx278_1 := (HB.out.cell (World.block_lt_of_cell? w _ hx278_1)).trans hx278_1
               replace hx278_2 := (HB.out.cell (World.block_lt_of_cell? w _ hx278_2)).trans hx278_2
               replace hx278_3 := (HB.out.cell (World.block_lt_of_cell? w _ hx278_3)).trans hx278_3
               replace hx278_4 := (HB.out.cell (World.block_lt_of_cell? w _ hx278_4)).trans hx278_4
               replace hx278_5 := (HB.out.cell (World.block_lt_of_cell? w _ hx278_5)).trans hx278_5
               have HR278_5 := Aside0.mk hi278_5
               have HC278_5 := Aside0.mk hl278_5
               clear hi278_5 hl278_5
               replace p278 := eq_true p278
               replace q278 := eq_true q278
               refine zCA (n := 10) (S := fun w' => w'.cell? (ad277.add ((x6_3).toNat * 6)) = some (.int .i64 ((zAF l0 x6_3).f0)) ∧ w'.cell? ⟨(ad277.add ((x6_3).toNat * 6)).block, (ad277.add ((x6_3).toNat * 6)).off + 1, none⟩ = some (.int .i64 ((zAF l0 x6_3).f1)) ∧ w'.cell? ⟨(ad277.add ((x6_3).toNat * 6)).block, (ad277.add ((x6_3).toNat * 6)).off + 2, none⟩ = some (.int .i64 ((zAF l0 x6_3).f2)) ∧ w'.cell? ⟨(ad277.add ((x6_3).toNat * 6)).block, (ad277.add ((x6_3).toNat * 6)).off + 3, none⟩ = some (.int .i64 ((zAF l0 x6_3).f3)) ∧ w'.cell? ⟨(ad277.add ((x6_3).toNat * 6)).block, (ad277.add ((x6_3).toNat * 6)).off + 4, none⟩ = some (.int .i64 ((zAF l0 x6_3).f4)) ∧ w'.cell? ⟨(ad277.add ((x6_3).toNat * 6)).block, (ad277.add ((x6_3).toNat * 6)).off + 5, none⟩ = some (.slice A277_5 ((zAF l0 x6_3).f5).length c277_5) ∧ w'.cell? (ad277.add ((x4_1).toNat * 6)) = some (.int .i64 ((zAF l0 x4_1).f0)) ∧ w'.cell? ⟨(ad277.add ((x4_1).toNat * 6)).block, (ad277.add ((x4_1).toNat * 6)).off + 1, none⟩ = some (.int .i64 ((zAF l0 x4_1).f1)) ∧ w'.cell? ⟨(ad277.add ((x4_1).toNat * 6)).block, (ad277.add ((x4_1).toNat * 6)).off + 2, none⟩ = some (.int .i64 ((zAF l0 x4_1).f2)) ∧ w'.cell? ⟨(ad277.add ((x4_1).toNat * 6)).block, (ad277.add ((x4_1).toNat * 6)).off + 3, none⟩ = some (.int .i64 ((zAF l0 x4_1).f3)) ∧ w'.cell? ⟨(ad277.add ((x4_1).toNat * 6)).block, (ad277.add ((x4_1).toNat * 6)).off + 4, none⟩ = some (.int .i64 ((zAF l0 x4_1).f4)) ∧ w'.cell? ⟨(ad277.add ((x4_1).toNat * 6)).block, (ad277.add ((x4_1).toNat * 6)).off + 5, none⟩ = some (.slice A278_5 ((zAF l0 x4_1).f5).length c278_5)) (ds := []) #[fF,fF,fF,fF,fF,fF,fF,fF,fF,fF] (by kernel_rfl) rfl rfl ⟨((HB.out.cell (World.block_lt_of_cell? w _ hw277_0)).trans hw277_0), ((HB.out.cell (World.block_lt_of_cell? w _ hw277_1)).trans hw277_1), ((HB.out.cell (World.block_lt_of_cell? w _ hw277_2)).trans hw277_2), ((HB.out.cell (World.block_lt_of_cell? w _ hw277_3)).trans hw277_3), ((HB.out.cell (World.block_lt_of_cell? w _ hw277_4)).trans hw277_4), ((HB.out.cell (World.block_lt_of_cell? w _ hw277_5)).trans hw277_5), ((HB.out.cell (World.block_lt_of_cell? w _ hw278_0)).trans hw278_0), ((HB.out.cell (World.block_lt_of_cell? w _ hw278_1)).trans hw278_1), ((HB.out.cell (World.block_lt_of_cell? w _ hw278_2)).trans hw278_2), ((HB.out.cell (World.block_lt_of_cell? w _ hw278_3)).trans hw278_3), ((HB.out.cell (World.block_lt_of_cell? w _ hw278_4)).trans hw278_4), ((HB.out.cell (World.block_lt_of_cell? w _ hw278_5)).trans hw278_5)⟩ (fun hHeld => ?_); refine with_tabW swageref27_Deps.tab9 swageref27_Deps.bits9 (fun HT_ HW_ => ?_)
               generalize wr.drew = w13 at HO_3 HO_5 HB HR277_5 HR278_5 hx277_0 hx277_1 hx277_2 hx277_3 hx277_4 hx277_5 hx278_0 hx278_1 hx278_2 hx278_3 hx278_4 hx278_5 hHeld ⊢
               refine pure_ (i := 0) (N := some 24) (v := ?_) (a' := ?_) #[tT,fF,fF,fF,fF,fF,fF,fF,fF,fF] rfl rfl (zAZ HT_.out (by kernel_rfl)) (fun _ _ _ h => h) (Or.inl ⟨by rfl, ?_⟩) ?_ ?_
               rotate_left
               ·intro w'
                go_simp
                with_reducible rfl
               rotate_left
               ·simp only [Act.put, List.setIfInBounds_toArray, List.set_cons_zero, List.set_cons_succ, i64_w, i32_w]
                rfl
               refine pure_ (i := 1) (N := some 25) (v := ?_) (a' := ?_) #[tT,tT,fF,fF,fF,fF,fF,fF,fF,fF] rfl rfl (zAZ HT_.out (by kernel_rfl)) (fun _ _ _ h => h) (Or.inl ⟨by rfl, ?_⟩) ?_ ?_
               rotate_left
               ·intro w'
                go_simp
                with_reducible rfl
               rotate_left
               ·simp only [Act.put, List.setIfInBounds_toArray, List.set_cons_zero, List.set_cons_succ, i64_w, i32_w]
                rfl
               refine pure_ (i := 2) (N := some 26) (v := ?_) (a' := ?_) #[tT,tT,tT,fF,fF,fF,fF,fF,fF,fF] rfl rfl (zAZ HT_.out (by kernel_rfl)) (fun _ _ _ h => h) (Or.inl ⟨by rfl, ?_⟩) ?_ ?_
               rotate_left
               ·intro w'
                go_simp
                with_reducible rfl
               rotate_left
               ·simp only [Act.put, List.setIfInBounds_toArray, List.set_cons_zero, List.set_cons_succ, i64_w, i32_w]
                rfl
               refine pure_ (i := 4) (N := some 28) (v := ?_) (a' := ?_) #[tT,tT,tT,fF,tT,fF,fF,fF,fF,fF] rfl rfl (zAZ HT_.out (by kernel_rfl)) (fun _ _ _ h => h) (Or.inl ⟨by rfl, ?_⟩) ?_ ?_
               rotate_left
               ·intro w'
                go_simp
                with_reducible rfl
               rotate_left
               ·simp only [Act.put, List.setIfInBounds_toArray, List.set_cons_zero, List.set_cons_succ, i64_w, i32_w]
                rfl
               refine pure_ (i := 5) (N := some 29) (v := ?_) (a' := ?_) #[tT,tT,tT,fF,tT,tT,fF,fF,fF,fF] rfl rfl (zAZ HT_.out (by kernel_rfl)) (fun _ _ _ h => h) (Or.inl ⟨by rfl, ?_⟩) ?_ ?_
               rotate_left
               ·intro w'
                go_simp
                with_reducible rfl
               rotate_left
               ·simp only [Act.put, List.setIfInBounds_toArray, List.set_cons_zero, List.set_cons_succ, i64_w, i32_w]
                rfl
               refine pure_ (i := 6) (N := some 30) (v := ?_) (a' := ?_) #[tT,tT,tT,fF,tT,tT,tT,fF,fF,fF] rfl rfl (zAZ HT_.out (by kernel_rfl)) (fun _ _ _ h => h) (Or.inl ⟨by rfl, ?_⟩) ?_ ?_
               rotate_left
               ·intro w'
                go_simp
                with_reducible rfl
               rotate_left
               ·simp only [Act.put, List.setIfInBounds_toArray, List.set_cons_zero, List.set_cons_succ, i64_w, i32_w]
                rfl
               refine take_ (i := 3) (N := some 27) (v := ?_) (a' := ?_) #[tT,tT,tT,tT,tT,tT,tT,fF,fF,fF] rfl rfl (zBN HT_.out HW_.out (by kernel_rfl)) (fun _ _ _ h => h) (Or.inl ⟨by rfl, ?_⟩) hHeld ?_ ?_
               rotate_left
               ·rintro w' ⟨s0, s1, s2, s3, s4, s5, s6, s7, s8, s9, s10, s11⟩
                go_simp
                with_reducible rfl
               rotate_left
               ·simp only [Act.put, List.setIfInBounds_toArray, List.set_cons_zero, List.set_cons_succ, i64_w, i32_w]
                rfl
               refine take_ (i := 7) (N := some 31) (v := ?_) (a' := ?_) #[tT,tT,tT,tT,tT,tT,tT,tT,fF,fF] rfl rfl (zBN HT_.out HW_.out (by kernel_rfl)) (fun _ _ _ h => h) (Or.inl ⟨by rfl, ?_⟩) hHeld ?_ ?_
               rotate_left
               ·rintro w' ⟨s0, s1, s2, s3, s4, s5, s6, s7, s8, s9, s10, s11⟩
                go_simp
                with_reducible rfl
               rotate_left
               ·simp only [Act.put, List.setIfInBounds_toArray, List.set_cons_zero, List.set_cons_succ, i64_w, i32_w]
                rfl
               refine one_ (i := 8) (N := some 32) #[tT,tT,tT,tT,tT,tT,tT,tT,tT,fF] rfl rfl (one_of HT_.out (by kernel_rfl)) (by decide) (fun K hK => ?_)
               refine goes_ Try.func33 (by kernel_rfl) rfl #[.agg #[.int .i64 ((zAF l0 x6_3).f0), .int .i64 ((zAF l0 x6_3).f1), .int .i64 ((zAF l0 x6_3).f2), .int .i64 ((zAF l0 x6_3).f3), .int .i64 ((zAF l0 x6_3).f4), .slice A277_5 ((zAF l0 x6_3).f5).length c277_5], .agg #[.int .i64 ((zAF l0 x4_1).f0), .int .i64 ((zAF l0 x4_1).f1), .int .i64 ((zAF l0 x4_1).f2), .int .i64 ((zAF l0 x4_1).f3), .int .i64 ((zAF l0 x4_1).f4), .slice A278_5 ((zAF l0 x4_1).f5).length c278_5]] (by rfl) rfl rfl (by (try simp only [List.map_toArray, List.map_cons, List.map_nil]); first | done | rfl | (simp only [List.length_drop, List.length_take]; rfl)) ?_
               with_reducible refine (swageref27_behind.calls k3 ((zAF l0 x6_3).f0) ((zAF l0 x6_3).f1) ((zAF l0 x6_3).f2) ((zAF l0 x6_3).f3) ((zAF l0 x6_3).f4) _ _ ((zAF l0 x6_3).f5) ((zAF l0 x4_1).f0) ((zAF l0 x4_1).f1) ((zAF l0 x4_1).f2) ((zAF l0 x4_1).f3) ((zAF l0 x4_1).f4) _ _ ((zAF l0 x4_1).f5) true _ ?side1 ?side2 ?side3 ?side4 A10.out).mono ?_
               (case side1 => repeat (first | exact (Kd.C_below HR277_5.out HB.out) | (with_reducible refine Kd.C_alloc ?_ _) | (with_reducible refine Kd.C_drewN ?_ _) | (with_reducible refine Kd.C_drew ?_)))
               (case side2 => exact HC277_5.out)
               (case side3 => repeat (first | exact (Kd.C_below HR278_5.out HB.out) | (with_reducible refine Kd.C_alloc ?_ _) | (with_reducible refine Kd.C_drewN ?_ _) | (with_reducible refine Kd.C_drew ?_)))
               (case side4 => exact HC278_5.out)
               rintro e w14 ⟨rfl, hb⟩
               refine ⟨_, rfl, ?_⟩
               have n0_ := Aside0.mk (Kd.S_below (by (with_reducible repeat (first | apply Kd.S_alloc | apply Kd.S_drewN | apply Kd.S_drew)); exact HO_3.out) hb)
               have n1_ := Aside0.mk (Kd.R_below (by (with_reducible repeat (first | apply Kd.R_alloc | apply Kd.R_drewN | apply Kd.R_drew)); exact HO_5.out) hb)
               have n2_ := Aside0.mk (zAL (by repeat (first | (with_reducible first | exact HB.out | apply zAC | apply zAA | apply zAD) | exact HB.out)) hb)
               clear HO_3
               clear HO_5
               clear HB
               have HO_3 := n0_
               have HO_5 := n1_
               have HB := n2_
               clear n0_ n1_ n2_
               (try clear hb)
               (try clear hb2)
               (try clear hk)
               (try clear hi)
               refine hK.out _ _ ⟨((HB.out.cell (World.block_lt_of_cell? w _ hw277_0)).trans hw277_0), ((HB.out.cell (World.block_lt_of_cell? w _ hw277_1)).trans hw277_1), ((HB.out.cell (World.block_lt_of_cell? w _ hw277_2)).trans hw277_2), ((HB.out.cell (World.block_lt_of_cell? w _ hw277_3)).trans hw277_3), ((HB.out.cell (World.block_lt_of_cell? w _ hw277_4)).trans hw277_4), ((HB.out.cell (World.block_lt_of_cell? w _ hw277_5)).trans hw277_5), ((HB.out.cell (World.block_lt_of_cell? w _ hw278_0)).trans hw278_0), ((HB.out.cell (World.block_lt_of_cell? w _ hw278_1)).trans hw278_1), ((HB.out.cell (World.block_lt_of_cell? w _ hw278_2)).trans hw278_2), ((HB.out.cell (World.block_lt_of_cell? w _ hw278_3)).trans hw278_3), ((HB.out.cell (World.block_lt_of_cell? w _ hw278_4)).trans hw278_4), ((HB.out.cell (World.block_lt_of_cell? w _ hw278_5)).trans hw278_5)⟩ (fun hHeld => ?_)
               clear hK K
               refine norm_ (a' := ?_) ?_ ?_
               rotate_left
               ·show Act.put _ (some 32) _ = _
                simp only [Act.put, List.setIfInBounds_toArray, List.set_cons_zero, List.set_cons_succ, i64_w, i32_w]
                rfl
               refine pure_ (i := 9) (N := some 7) (v := ?_) (a' := ?_) #[tT,tT,tT,tT,tT,tT,tT,tT,tT,tT] rfl rfl (zAZ HT_.out (by kernel_rfl)) (fun _ _ _ h => h) (Or.inl ⟨by rfl, ?_⟩) ?_ ?_
               rotate_left
               ·intro w'
                go_simp
                with_reducible rfl
               rotate_left
               ·simp only [Act.put, List.setIfInBounds_toArray, List.set_cons_zero, List.set_cons_succ, i64_w, i32_w]
                rfl
               refine done_ (done_of HT_.out (by kernel_rfl)) ?_
               try go_wp2_with (first | ((with_reducible refine zBK (b := .append) (xs := #[.tmp 34, .tmp 36]) rfl ?_); (try (refine gate_guard (by rfl) ?_; dsimp only)); at_builtin; refine Kd.R_append (Kd.int .i64) (w0 := w) w.heap.size rfl (.tmp 34) (.tmp 36) 23 3 (.int .i64 0) 8 rfl Try.underlying23 info3 rfl (by decide) (by omega) u5 x5_3 x6_3 [.int .i64 x6_3] (fun _ => True) (fun _ => False) rfl rfl ?aP (fun _ hk => hk.elim) ?aF ?aO ?aB ?aS ?aL ?_; (case aP => exact rfl); (case aB => exact (by repeat (first | (with_reducible first | exact HB.out | apply zAC | apply zAA | apply zAD) | exact HB.out))); (case aF => exact (fun _ _ => trivial)); (case aO => exact (by (with_reducible repeat (first | apply Kd.R_alloc | apply Kd.R_drewN | apply Kd.R_drew)); exact HO_5.out)); (case aS => exact (zAM (by repeat (first | (with_reducible first | exact HB.out | apply zAC | apply zAA | apply zAD) | exact HB.out)))); (case aL => have := LMc12.out; omega); intro v281 w15 ho hb hg hat; rw [← Ny280.out] at ho; have n0_ := Aside0.mk (Kd.S_after (ok := (fun _ => True)) (by (with_reducible repeat (first | apply Kd.S_alloc | apply Kd.S_drewN | apply Kd.S_drew)); exact Kd.S_mono HO_3.out (fun _ hk => ⟨trivial, hk⟩)) hg hat); have n1_ := Aside0.mk (hb); have n2_ := Aside0.mk (ho); clear HO_3; clear HB; clear HO_5; have HO_3 := n0_; have HB := n1_; have HO282 := n2_; clear n0_ n1_ n2_; clear ho hb hg hat))
               go_roundg k3
               case measure => have := HK1.out; have := HJ1.out; have := HK3.out; omega
               case rel => exact ⟨(y280), (wrap64 (x6_3 + 1)), (by first | rfl | (simp; done) | (simp [*]; done)), H', ⟨by have := HK1.out; have := HJ1.out; have := HK3.out; omega⟩, ⟨by (with_reducible repeat (first | apply Kd.S_alloc | apply Kd.S_drewN | apply Kd.S_drew)); exact Kd.S_mono HO_3.out (fun _ hk => hk.2)⟩, ⟨by (with_reducible repeat (first | apply Kd.R_alloc | apply Kd.R_drewN | apply Kd.R_drew)); exact HO282.out⟩, ⟨by repeat (first | (with_reducible first | exact HB.out | apply zAC | apply zAA | apply zAD) | exact HB.out)⟩⟩
              ·rw [if_neg c12] at H
               exact absurd H (by simp)
             ·replace c11 := Bool.eq_false_iff.mpr c11
              subst c11
              have H1 : (swageref27_Deps.l1 k3 l0 x3_1 x4_1 x5_3 (wrap64 (x6_3 + 1))) = some r := by rw [if_neg (show ¬ (false = true) by decide)] at H; exact H
              clear H
              have H := H1
              clear H1
              have H' := Aside0.mk H
              clear H
              try go_wp2
              have n0_ := Aside0.mk (Kd.S_drew HO_3.out)
              have n1_ := Aside0.mk (Kd.R_drew HO_5.out)
              have n2_ := Aside0.mk (zAD HB.out)
              clear HO_3
              clear HO_5
              clear HB
              have HO_3 := n0_
              have HO_5 := n1_
              have HB := n2_
              clear n0_ n1_ n2_
              have p277 : 0 ≤ (x6_3 : Int) := of_decide_eq_true (by first | (with_reducible assumption) | assumption)
              have q277 : x6_3 < (l0.length : Int) := of_decide_eq_true (by first | (with_reducible assumption) | assumption)
              obtain ⟨ad277, A277_5, c277_5, e277, hx277_0, hx277_1, hx277_2, hx277_3, hx277_4, hx277_5, hl277_5, hi277_5⟩ := zBT HR0.out x6_3 p277 q277
              have hw277_5 := hx277_5
              have hw277_4 := hx277_4
              have hw277_3 := hx277_3
              have hw277_2 := hx277_2
              have hw277_1 := hx277_1
              have hw277_0 := hx277_0
              cases e277
              replace hx277_0 := (HB.out.cell (World.block_lt_of_cell? w _ hx277_0)).trans hx277_0
              replace hx277_1 := (HB.out.cell (World.block_lt_of_cell? w _ hx277_1)).trans hx277_1
              replace hx277_2 := (HB.out.cell (World.block_lt_of_cell? w _ hx277_2)).trans hx277_2
              replace hx277_3 := (HB.out.cell (World.block_lt_of_cell? w _ hx277_3)).trans hx277_3
              replace hx277_4 := (HB.out.cell (World.block_lt_of_cell? w _ hx277_4)).trans hx277_4
              replace hx277_5 := (HB.out.cell (World.block_lt_of_cell? w _ hx277_5)).trans hx277_5
              have HR277_5 := Aside0.mk hi277_5
              have HC277_5 := Aside0.mk hl277_5
              clear hi277_5 hl277_5
              replace p277 := eq_true p277
              replace q277 := eq_true q277
              have p278 : 0 ≤ (x4_1 : Int) := of_decide_eq_true (by first | (with_reducible assumption) | assumption)
              have q278 : x4_1 < (l0.length : Int) := of_decide_eq_true (by first | (with_reducible assumption) | assumption)
              obtain ⟨ad278, A278_5, c278_5, e278, hx278_0, hx278_1, hx278_2, hx278_3, hx278_4, hx278_5, hl278_5, hi278_5⟩ := zBT HR0.out x4_1 p278 q278
              have hw278_5 := hx278_5
              have hw278_4 := hx278_4
              have hw278_3 := hx278_3
              have hw278_2 := hx278_2
              have hw278_1 := hx278_1
              have hw278_0 := hx278_0
              obtain rfl : ad277 = ad278 := (by injection e278)
              replace hx278_0 := (HB.out.cell (World.block_lt_of_cell? w _ hx278_0)).trans hx278_0
              replace hx278_1 := (HB.out.cell (World.block_lt_of_cell? w _ hx278_1)).trans hx278_1
              replace hx278_2 := (HB.out.cell (World.block_lt_of_cell? w _ hx278_2)).trans hx278_2
              replace hx278_3 := (HB.out.cell (World.block_lt_of_cell? w _ hx278_3)).trans hx278_3
              replace hx278_4 := (HB.out.cell (World.block_lt_of_cell? w _ hx278_4)).trans hx278_4
              replace hx278_5 := (HB.out.cell (World.block_lt_of_cell? w _ hx278_5)).trans hx278_5
              have HR278_5 := Aside0.mk hi278_5
              have HC278_5 := Aside0.mk hl278_5
              clear hi278_5 hl278_5
              replace p278 := eq_true p278
              replace q278 := eq_true q278
              refine zCA (n := 10) (S := fun w' => w'.cell? (ad277.add ((x6_3).toNat * 6)) = some (.int .i64 ((zAF l0 x6_3).f0)) ∧ w'.cell? ⟨(ad277.add ((x6_3).toNat * 6)).block, (ad277.add ((x6_3).toNat * 6)).off + 1, none⟩ = some (.int .i64 ((zAF l0 x6_3).f1)) ∧ w'.cell? ⟨(ad277.add ((x6_3).toNat * 6)).block, (ad277.add ((x6_3).toNat * 6)).off + 2, none⟩ = some (.int .i64 ((zAF l0 x6_3).f2)) ∧ w'.cell? ⟨(ad277.add ((x6_3).toNat * 6)).block, (ad277.add ((x6_3).toNat * 6)).off + 3, none⟩ = some (.int .i64 ((zAF l0 x6_3).f3)) ∧ w'.cell? ⟨(ad277.add ((x6_3).toNat * 6)).block, (ad277.add ((x6_3).toNat * 6)).off + 4, none⟩ = some (.int .i64 ((zAF l0 x6_3).f4)) ∧ w'.cell? ⟨(ad277.add ((x6_3).toNat * 6)).block, (ad277.add ((x6_3).toNat * 6)).off + 5, none⟩ = some (.slice A277_5 ((zAF l0 x6_3).f5).length c277_5) ∧ w'.cell? (ad277.add ((x4_1).toNat * 6)) = some (.int .i64 ((zAF l0 x4_1).f0)) ∧ w'.cell? ⟨(ad277.add ((x4_1).toNat * 6)).block, (ad277.add ((x4_1).toNat * 6)).off + 1, none⟩ = some (.int .i64 ((zAF l0 x4_1).f1)) ∧ w'.cell? ⟨(ad277.add ((x4_1).toNat * 6)).block, (ad277.add ((x4_1).toNat * 6)).off + 2, none⟩ = some (.int .i64 ((zAF l0 x4_1).f2)) ∧ w'.cell? ⟨(ad277.add ((x4_1).toNat * 6)).block, (ad277.add ((x4_1).toNat * 6)).off + 3, none⟩ = some (.int .i64 ((zAF l0 x4_1).f3)) ∧ w'.cell? ⟨(ad277.add ((x4_1).toNat * 6)).block, (ad277.add ((x4_1).toNat * 6)).off + 4, none⟩ = some (.int .i64 ((zAF l0 x4_1).f4)) ∧ w'.cell? ⟨(ad277.add ((x4_1).toNat * 6)).block, (ad277.add ((x4_1).toNat * 6)).off + 5, none⟩ = some (.slice A278_5 ((zAF l0 x4_1).f5).length c278_5)) (ds := []) #[fF,fF,fF,fF,fF,fF,fF,fF,fF,fF] (by kernel_rfl) rfl rfl ⟨((HB.out.cell (World.block_lt_of_cell? w _ hw277_0)).trans hw277_0), ((HB.out.cell (World.block_lt_of_cell? w _ hw277_1)).trans hw277_1), ((HB.out.cell (World.block_lt_of_cell? w _ hw277_2)).trans hw277_2), ((HB.out.cell (World.block_lt_of_cell? w _ hw277_3)).trans hw277_3), ((HB.out.cell (World.block_lt_of_cell? w _ hw277_4)).trans hw277_4), ((HB.out.cell (World.block_lt_of_cell? w _ hw277_5)).trans hw277_5), ((HB.out.cell (World.block_lt_of_cell? w _ hw278_0)).trans hw278_0), ((HB.out.cell (World.block_lt_of_cell? w _ hw278_1)).trans hw278_1), ((HB.out.cell (World.block_lt_of_cell? w _ hw278_2)).trans hw278_2), ((HB.out.cell (World.block_lt_of_cell? w _ hw278_3)).trans hw278_3), ((HB.out.cell (World.block_lt_of_cell? w _ hw278_4)).trans hw278_4), ((HB.out.cell (World.block_lt_of_cell? w _ hw278_5)).trans hw278_5)⟩ (fun hHeld => ?_); refine with_tabW swageref27_Deps.tab9 swageref27_Deps.bits9 (fun HT_ HW_ => ?_)
              generalize wr.drew = w16 at HO_3 HO_5 HB HR277_5 HR278_5 hx277_0 hx277_1 hx277_2 hx277_3 hx277_4 hx277_5 hx278_0 hx278_1 hx278_2 hx278_3 hx278_4 hx278_5 hHeld ⊢
              refine pure_ (i := 0) (N := some 24) (v := ?_) (a' := ?_) #[tT,fF,fF,fF,fF,fF,fF,fF,fF,fF] rfl rfl (zAZ HT_.out (by kernel_rfl)) (fun _ _ _ h => h) (Or.inl ⟨by rfl, ?_⟩) ?_ ?_
              rotate_left
              ·intro w'
               go_simp
               with_reducible rfl
              rotate_left
              ·simp only [Act.put, List.setIfInBounds_toArray, List.set_cons_zero, List.set_cons_succ, i64_w, i32_w]
               rfl
              refine pure_ (i := 1) (N := some 25) (v := ?_) (a' := ?_) #[tT,tT,fF,fF,fF,fF,fF,fF,fF,fF] rfl rfl (zAZ HT_.out (by kernel_rfl)) (fun _ _ _ h => h) (Or.inl ⟨by rfl, ?_⟩) ?_ ?_
              rotate_left
              ·intro w'
               go_simp
               with_reducible rfl
              rotate_left
              ·simp only [Act.put, List.setIfInBounds_toArray, List.set_cons_zero, List.set_cons_succ, i64_w, i32_w]
               rfl
              refine pure_ (i := 2) (N := some 26) (v := ?_) (a' := ?_) #[tT,tT,tT,fF,fF,fF,fF,fF,fF,fF] rfl rfl (zAZ HT_.out (by kernel_rfl)) (fun _ _ _ h => h) (Or.inl ⟨by rfl, ?_⟩) ?_ ?_
              rotate_left
              ·intro w'
               go_simp
               with_reducible rfl
              rotate_left
              ·simp only [Act.put, List.setIfInBounds_toArray, List.set_cons_zero, List.set_cons_succ, i64_w, i32_w]
               rfl
              refine pure_ (i := 4) (N := some 28) (v := ?_) (a' := ?_) #[tT,tT,tT,fF,tT,fF,fF,fF,fF,fF] rfl rfl (zAZ HT_.out (by kernel_rfl)) (fun _ _ _ h => h) (Or.inl ⟨by rfl, ?_⟩) ?_ ?_
              rotate_left
              ·intro w'
               go_simp
               with_reducible rfl
              rotate_left
              ·simp only [Act.put, List.setIfInBounds_toArray, List.set_cons_zero, List.set_cons_succ, i64_w, i32_w]
               rfl
              refine pure_ (i := 5) (N := some 29) (v := ?_) (a' := ?_) #[tT,tT,tT,fF,tT,tT,fF,fF,fF,fF] rfl rfl (zAZ HT_.out (by kernel_rfl)) (fun _ _ _ h => h) (Or.inl ⟨by rfl, ?_⟩) ?_ ?_
              rotate_left
              ·intro w'
               go_simp
               with_reducible rfl
              rotate_left
              ·simp only [Act.put, List.setIfInBounds_toArray, List.set_cons_zero, List.set_cons_succ, i64_w, i32_w]
               rfl
              refine pure_ (i := 6) (N := some 30) (v := ?_) (a' := ?_) #[tT,tT,tT,fF,tT,tT,tT,fF,fF,fF] rfl rfl (zAZ HT_.out (by kernel_rfl)) (fun _ _ _ h => h) (Or.inl ⟨by rfl, ?_⟩) ?_ ?_
              rotate_left
              ·intro w'
               go_simp
               with_reducible rfl
              rotate_left
              ·simp only [Act.put, List.setIfInBounds_toArray, List.set_cons_zero, List.set_cons_succ, i64_w, i32_w]
               rfl
              refine take_ (i := 3) (N := some 27) (v := ?_) (a' := ?_) #[tT,tT,tT,tT,tT,tT,tT,fF,fF,fF] rfl rfl (zBN HT_.out HW_.out (by kernel_rfl)) (fun _ _ _ h => h) (Or.inl ⟨by rfl, ?_⟩) hHeld ?_ ?_
              rotate_left
              ·rintro w' ⟨s0, s1, s2, s3, s4, s5, s6, s7, s8, s9, s10, s11⟩
               go_simp
               with_reducible rfl
              rotate_left
              ·simp only [Act.put, List.setIfInBounds_toArray, List.set_cons_zero, List.set_cons_succ, i64_w, i32_w]
               rfl
              refine take_ (i := 7) (N := some 31) (v := ?_) (a' := ?_) #[tT,tT,tT,tT,tT,tT,tT,tT,fF,fF] rfl rfl (zBN HT_.out HW_.out (by kernel_rfl)) (fun _ _ _ h => h) (Or.inl ⟨by rfl, ?_⟩) hHeld ?_ ?_
              rotate_left
              ·rintro w' ⟨s0, s1, s2, s3, s4, s5, s6, s7, s8, s9, s10, s11⟩
               go_simp
               with_reducible rfl
              rotate_left
              ·simp only [Act.put, List.setIfInBounds_toArray, List.set_cons_zero, List.set_cons_succ, i64_w, i32_w]
               rfl
              refine one_ (i := 8) (N := some 32) #[tT,tT,tT,tT,tT,tT,tT,tT,tT,fF] rfl rfl (one_of HT_.out (by kernel_rfl)) (by decide) (fun K hK => ?_)
              refine goes_ Try.func33 (by kernel_rfl) rfl #[.agg #[.int .i64 ((zAF l0 x6_3).f0), .int .i64 ((zAF l0 x6_3).f1), .int .i64 ((zAF l0 x6_3).f2), .int .i64 ((zAF l0 x6_3).f3), .int .i64 ((zAF l0 x6_3).f4), .slice A277_5 ((zAF l0 x6_3).f5).length c277_5], .agg #[.int .i64 ((zAF l0 x4_1).f0), .int .i64 ((zAF l0 x4_1).f1), .int .i64 ((zAF l0 x4_1).f2), .int .i64 ((zAF l0 x4_1).f3), .int .i64 ((zAF l0 x4_1).f4), .slice A278_5 ((zAF l0 x4_1).f5).length c278_5]] (by rfl) rfl rfl (by (try simp only [List.map_toArray, List.map_cons, List.map_nil]); first | done | rfl | (simp only [List.length_drop, List.length_take]; rfl)) ?_
              with_reducible refine (swageref27_behind.calls k3 ((zAF l0 x6_3).f0) ((zAF l0 x6_3).f1) ((zAF l0 x6_3).f2) ((zAF l0 x6_3).f3) ((zAF l0 x6_3).f4) _ _ ((zAF l0 x6_3).f5) ((zAF l0 x4_1).f0) ((zAF l0 x4_1).f1) ((zAF l0 x4_1).f2) ((zAF l0 x4_1).f3) ((zAF l0 x4_1).f4) _ _ ((zAF l0 x4_1).f5) false _ ?side1 ?side2 ?side3 ?side4 A10.out).mono ?_
              (case side1 => repeat (first | exact (Kd.C_below HR277_5.out HB.out) | (with_reducible refine Kd.C_alloc ?_ _) | (with_reducible refine Kd.C_drewN ?_ _) | (with_reducible refine Kd.C_drew ?_)))
              (case side2 => exact HC277_5.out)
              (case side3 => repeat (first | exact (Kd.C_below HR278_5.out HB.out) | (with_reducible refine Kd.C_alloc ?_ _) | (with_reducible refine Kd.C_drewN ?_ _) | (with_reducible refine Kd.C_drew ?_)))
              (case side4 => exact HC278_5.out)
              rintro e w17 ⟨rfl, hb⟩
              refine ⟨_, rfl, ?_⟩
              have n0_ := Aside0.mk (Kd.S_below (by (with_reducible repeat (first | apply Kd.S_alloc | apply Kd.S_drewN | apply Kd.S_drew)); exact HO_3.out) hb)
              have n1_ := Aside0.mk (Kd.R_below (by (with_reducible repeat (first | apply Kd.R_alloc | apply Kd.R_drewN | apply Kd.R_drew)); exact HO_5.out) hb)
              have n2_ := Aside0.mk (zAL (by repeat (first | (with_reducible first | exact HB.out | apply zAC | apply zAA | apply zAD) | exact HB.out)) hb)
              clear HO_3
              clear HO_5
              clear HB
              have HO_3 := n0_
              have HO_5 := n1_
              have HB := n2_
              clear n0_ n1_ n2_
              (try clear hb)
              (try clear hb2)
              (try clear hk)
              (try clear hi)
              refine hK.out _ _ ⟨((HB.out.cell (World.block_lt_of_cell? w _ hw277_0)).trans hw277_0), ((HB.out.cell (World.block_lt_of_cell? w _ hw277_1)).trans hw277_1), ((HB.out.cell (World.block_lt_of_cell? w _ hw277_2)).trans hw277_2), ((HB.out.cell (World.block_lt_of_cell? w _ hw277_3)).trans hw277_3), ((HB.out.cell (World.block_lt_of_cell? w _ hw277_4)).trans hw277_4), ((HB.out.cell (World.block_lt_of_cell? w _ hw277_5)).trans hw277_5), ((HB.out.cell (World.block_lt_of_cell? w _ hw278_0)).trans hw278_0), ((HB.out.cell (World.block_lt_of_cell? w _ hw278_1)).trans hw278_1), ((HB.out.cell (World.block_lt_of_cell? w _ hw278_2)).trans hw278_2), ((HB.out.cell (World.block_lt_of_cell? w _ hw278_3)).trans hw278_3), ((HB.out.cell (World.block_lt_of_cell? w _ hw278_4)).trans hw278_4), ((HB.out.cell (World.block_lt_of_cell? w _ hw278_5)).trans hw278_5)⟩ (fun hHeld => ?_)
              clear hK K
              refine norm_ (a' := ?_) ?_ ?_
              rotate_left
              ·show Act.put _ (some 32) _ = _
               simp only [Act.put, List.setIfInBounds_toArray, List.set_cons_zero, List.set_cons_succ, i64_w, i32_w]
               rfl
              refine pure_ (i := 9) (N := some 7) (v := ?_) (a' := ?_) #[tT,tT,tT,tT,tT,tT,tT,tT,tT,tT] rfl rfl (zAZ HT_.out (by kernel_rfl)) (fun _ _ _ h => h) (Or.inl ⟨by rfl, ?_⟩) ?_ ?_
              rotate_left
              ·intro w'
               go_simp
               with_reducible rfl
              rotate_left
              ·simp only [Act.put, List.setIfInBounds_toArray, List.set_cons_zero, List.set_cons_succ, i64_w, i32_w]
               rfl
              refine done_ (done_of HT_.out (by kernel_rfl)) ?_
              try go_wp2
              go_roundg k3
              case measure => have := HK1.out; have := HJ1.out; have := HK3.out; omega
              case rel => exact ⟨(x5_3), (wrap64 (x6_3 + 1)), (by first | rfl | (simp; done) | (simp [*]; done)), H', ⟨by have := HK1.out; have := HJ1.out; have := HK3.out; omega⟩, ⟨by (with_reducible repeat (first | apply Kd.S_alloc | apply Kd.S_drewN | apply Kd.S_drew)); exact HO_3.out⟩, ⟨by (with_reducible repeat (first | apply Kd.R_alloc | apply Kd.R_drewN | apply Kd.R_drew)); exact HO_5.out⟩, ⟨by repeat (first | (with_reducible first | exact HB.out | apply zAC | apply zAA | apply zAD) | exact HB.out)⟩⟩
            ·rw [if_neg c9] at H
             exact absurd H (by simp)
           ·rw [if_neg c8] at H
            exact absurd H (by simp)
          ·rw [if_neg c7] at H
           exact absurd H (by simp)
         ·rw [if_neg c6] at H
          exact absurd H (by simp)
        ·rw [if_neg c5] at H
         have c5b0 : decide (x6_3 < x4_1) = false := decide_eq_false c5
         clear c5
         by_cases c18 : x3_1.length < 5864062014805
         ·rw [if_pos c18] at H
          have LMc18 := Aside0.mk c18
          clear c18
          obtain ⟨y283, hy283⟩ : ∃ y_ : List (List Int), y_ = (x3_1 ++ [x5_3]) := ⟨_, rfl⟩
          replace H : (swageref27_Deps.l0 k3 l0 y283 (wrap64 (x4_1 + 1))) = some r := by first | (rw [hy283]; with_reducible exact H) | (have H2_ := (Option.bind_some _ _).symm.trans H; rw [hy283]; with_reducible exact H2_) | (have H2_ := (Option.bind_some _ _).symm.trans H; with_reducible exact H2_) | with_reducible exact H | (rw [hy283]; exact H) | exact H
          have Ny283 := Aside0.mk hy283
          clear hy283
          have H' := Aside0.mk H
          clear H
          obtain ⟨Ao20, co20, eo20⟩ := Kd.R_slice HO_5.out
          subst eo20
          go_wp2_with (first | ((with_reducible refine zBK (b := .append) (xs := #[.tmp 38, .tmp 40]) rfl ?_); (try (refine gate_guard (by rfl) ?_; dsimp only)); at_builtin; refine Kd.S_append (Kd.slice 3 (Kd.int .i64)) (w0 := w) w.heap.size rfl (.tmp 38) (.tmp 40) 40 23 (.slice none 0 0) 24 rfl Try.underlying40 info23 rfl (by decide) (by omega) u3 x3_1 x5_3 [.slice Ao20 x5_3.length co20] (fun _ => True) (fun k_ => some k_ = (.slice Ao20 x5_3.length co20 : Value).ownBlock) rfl rfl ?aP (fun k_ hk_ => ((Kd.R_mono (ok' := fun k_ => ((fun _ => True)) k_ ∧ some k_ ≠ (u3 : Value).ownBlock) (Kd.R_apart' (HO_5.out) (Kd.S_typed HO_3.out) (by decide)) (fun k_ hk => ⟨trivial, hk.2⟩))).1 k_ hk_.symm) ?aF ?aO ?aB ?aS ?aL ?_; (case aP => exact Kd.M_row (Kd.R_mono (Kd.R_tight rfl (Kd.R_mono (ok' := fun k_ => ((fun _ => True)) k_ ∧ some k_ ≠ (u3 : Value).ownBlock) (Kd.R_apart' (HO_5.out) (Kd.S_typed HO_3.out) (by decide)) (fun k_ hk => ⟨trivial, hk.2⟩))) (fun _ h_ => h_))); (case aB => exact (by repeat (first | (with_reducible first | exact HB.out | apply zAC | apply zAA | apply zAD) | exact HB.out))); (case aF => exact (fun _ _ => trivial)); (case aO => exact (by (with_reducible repeat (first | apply Kd.S_alloc | apply Kd.S_drewN | apply Kd.S_drew)); exact Kd.S_mono HO_3.out (fun k_ hk => ⟨trivial, fun e_ => hk e_⟩))); (case aS => exact (zAM (by repeat (first | (with_reducible first | exact HB.out | apply zAC | apply zAA | apply zAD) | exact HB.out)))); (case aL => have := LMc18.out; omega); intro v284 w19 ho hb hg hat; rw [← Ny283.out] at ho; have n0_ := Aside0.mk (hb); have n1_ := Aside0.mk (ho); clear HB; clear HO_3; clear HO_5; have HB := n0_; have HO285 := n1_; clear n0_ n1_; clear ho hb hg hat))
          go_roundg k3
          case measure => have := HK1.out; have := HJ1.out; have := HK3.out; omega
          case rel => exact ⟨(y283), (wrap64 (x4_1 + 1)), (by first | rfl | (simp; done) | (simp [*]; done)), H', ⟨by have := HK1.out; have := HJ1.out; have := HK3.out; omega⟩, ⟨by (with_reducible repeat (first | apply Kd.S_alloc | apply Kd.S_drewN | apply Kd.S_drew)); exact HO285.out⟩, ⟨by repeat (first | (with_reducible first | exact HB.out | apply zAC | apply zAA | apply zAD) | exact HB.out)⟩⟩
         ·rw [if_neg c18] at H
          exact absurd H (by simp)
     ·replace c4 := Bool.eq_false_iff.mpr c4
      subst c4
      have H1 : (some x3_1) = some r := by rw [if_neg (show ¬ (false = true) by decide)] at H; exact H
      clear H
      have H := H1
      clear H1
      obtain rfl := Option.some.inj H
      go_wp2
      go_ret
      exact ⟨_, by first | rfl | (simp [zAO, zAN] <;> rfl) | (simp [*, zAO, zAN] <;> rfl), by (with_reducible repeat (first | apply Kd.S_alloc | apply Kd.S_drewN | apply Kd.S_drew)); exact HO_3.out, by repeat (first | (with_reducible first | exact HB.out | apply zAC | apply zAA | apply zAD) | exact HB.out)⟩
end Go.Proofs.Ytphmlkbmnmicpaa.A
namespace Go.Proofs.Ytphmlkbmnmicpaa.A
open Go.RowKit Go.Proofs.YtphmlkbmnmicpaaW.PrintWords Go.Proofs.YtphmlkbmnmicpaaW.PrintLast Go.Proofs.YtphmlkbmnmicpaaW.PrintMore
attribute [local go_sem] max2_int zBH max_two zBL zBB zBA zBI zBG   -- for this text's walks alone
mutual
def swageref27_Cost.l0 : Nat → List (S37) → List (List Int) → List Int → Int → Int → Int → Option (Int)
 | 0, _, _, _, _, _, _ => none
 | k + 1, x0, x3, x4, x5, x6, x7 => if x7 < (x3.length : Int) then (swageref27_Cost.l1 k x0 x3 x4 x5 x6 x7 0) else (some x5)
def swageref27_Cost.l1 : Nat → List (S37) → List (List Int) → List Int → Int → Int → Int → Int → Option (Int)
 | 0, _, _, _, _, _, _, _ => none
 | k + 1, x0, x3, x4, x5, x6, x7, x8 => if 0 ≤ x7 then (if x7 < (x3.length : Int) then (if x8 < ((rd_L1 x3 x7).length : Int) then (if x7 < (x0.length : Int) then ((swageref14_Uses.f k ((zAF x0 x7).f0) ((zAF x0 x7).f1) ((zAF x0 x7).f2) ((zAF x0 x7).f3) ((zAF x0 x7).f4) ((zAF x0 x7).f5)).bind fun t367 => (if 0 ≤ x8 then (if 0 ≤ (rd (rd_L1 x3 x7) x8) then (if (rd (rd_L1 x3 x7) x8) < (x0.length : Int) then ((swageref14_Sets.f ((zAF x0 (rd (rd_L1 x3 x7) x8)).f0) ((zAF x0 (rd (rd_L1 x3 x7) x8)).f1) ((zAF x0 (rd (rd_L1 x3 x7) x8)).f2) ((zAF x0 (rd (rd_L1 x3 x7) x8)).f3) ((zAF x0 (rd (rd_L1 x3 x7) x8)).f4) ((zAF x0 (rd (rd_L1 x3 x7) x8)).f5)).bind fun t373 => ((swageref27_has.f k t367 t373).bind fun t374 => (if t374 = true then (if (rd (rd_L1 x3 x7) x8) < (x4.length : Int) then (swageref27_Cost.l1 k x0 x3 x4 x5 (mx x6 (rd x4 (rd (rd_L1 x3 x7) x8))) x7 (wrap64 (x8 + 1))) else (none)) else (swageref27_Cost.l1 k x0 x3 x4 x5 x6 x7 (wrap64 (x8 + 1)))))) else (none)) else (none)) else (none))) else (none)) else (if x7 < (x0.length : Int) then ((swageref27_Latency.f k ((zAF x0 x7).f0) ((zAF x0 x7).f1) ((zAF x0 x7).f2) ((zAF x0 x7).f3) ((zAF x0 x7).f4) ((zAF x0 x7).f5)).bind fun t363 => (if x7 < (x4.length : Int) then ((some (x4.set (x7 : Int).toNat (wrap64 (x6 + t363)) : List Int)).bind fun y364 => (swageref27_Cost.l0 k x0 x3 y364 (mx x5 (rd y364 x7)) (wrap64 (x6 + 1)) (wrap64 (x7 + 1)))) else (none))) else (none))) else (none)) else (none)
end
def swageref27_Cost.f (k : Nat) (l0 : List (S37)) : Option (Int) := (swageref27_Deps.f k l0).bind fun t355 => (if 0 ≤ (t355.length : Int) then (if ((t355.length : Int) : Int).toNat ≤ 35184372088832 then (swageref27_Cost.l0 k l0 t355 (List.replicate ((t355.length : Int) : Int).toNat 0) 0 0 0) else (none)) else (none))
def swageref27_Cost.T11 : Bool × List (List Nat × List Nat) := (true, [([], []), ([], []), ([0, 1], [0, 1]), ([2], [2]), ([3], [3]), ([], []), ([], []), ([], []), ([6, 7], [6, 7]), ([8], [8]), ([], []), ([9, 10], [9, 10]), ([11], [11]), ([5, 12], [5, 12]), ([13], [13]), ([14, 4], [14]), ([4, 15, 15], [4, 15])])
def swageref27_Cost.B11 : List Nat := [0, 0, 3, 7, 15, 0, 0, 0, 192, 448, 0, 1984, 4032, 8160, 16352, 32767, 65535]
theorem swageref27_Cost.tab11 : rtab .any (opsOf Try.f27 11) = swageref27_Cost.T11 := by kernel_rfl
theorem swageref27_Cost.bits11 : waitsOk swageref27_Cost.T11.2 swageref27_Cost.B11 = true := by kernel_rfl
set_option maxHeartbeats 8000000 in
set_option maxRecDepth 100000 in
theorem swageref27_Cost.calls (k : Nat) (A0 : Option Addr) (c0 : Nat) (l0 : List (S37)) (r : Int) (w : World) (hr0 : Kd.C k37 w A0 l0.length l0) (hc0 : l0.length ≤ c0) (h : swageref27_Cost.f k l0 = some r) :
  Calls Try.prog 27 #[.slice A0 l0.length c0] w fun e w' => e = .returned (.int .i64 r) ∧ Below w.heap.size w w' := by
 have hu37 := Try.underlying37
 have HR0 := Aside0.mk hr0
 have HC0 := Aside0.mk hc0
 clear hr0 hc0
 have HB := Aside0.mk (Below.refl w.heap.size w)
 have H : ((swageref27_Deps.f k l0).bind fun t355 => (if 0 ≤ (t355.length : Int) then (if ((t355.length : Int) : Int).toNat ≤ 35184372088832 then (swageref27_Cost.l0 k l0 t355 (List.replicate ((t355.length : Int) : Int).toNat 0) 0 0 0) else (none)) else (none))) = some r := h
 clear h
 replace H := Option.bind_eq_some_iff.mp H
 obtain ⟨t355, A20, H⟩ := H
 replace H : (if 0 ≤ (t355.length : Int) then (if ((t355.length : Int) : Int).toNat ≤ 35184372088832 then (swageref27_Cost.l0 k l0 t355 (List.replicate ((t355.length : Int) : Int).toNat 0) 0 0 0) else (none)) else (none)) = some r := H
 have A2 := Aside0.mk A20
 clear A20
 by_cases c3 : 0 ≤ (t355.length : Int)
 ·rw [if_pos c3] at H
  have c3b0 := eq_true c3
  have c3b1 : decide (0 ≤ (t355.length : Int)) = true := decide_eq_true c3
  clear c3
  by_cases c4 : ((t355.length : Int) : Int).toNat ≤ 35184372088832
  ·rw [if_pos c4] at H
   have c4b0 := eq_true c4
   have c4b1 : decide (((t355.length : Int) : Int).toNat ≤ 35184372088832) = true := decide_eq_true c4
   clear c4
   obtain ⟨y358, hy358⟩ : ∃ y_ : List Int, y_ = (List.replicate ((t355.length : Int) : Int).toNat 0) := ⟨_, rfl⟩
   replace H : (swageref27_Cost.l0 k l0 t355 y358 0 0 0) = some r := by first | (rw [hy358]; with_reducible exact H) | (have H2_ := (Option.bind_some _ _).symm.trans H; rw [hy358]; with_reducible exact H2_) | (have H2_ := (Option.bind_some _ _).symm.trans H; with_reducible exact H2_) | with_reducible exact H | (rw [hy358]; exact H) | exact H
   have Ny358 := Aside0.mk hy358
   clear hy358
   have H' := Aside0.mk H
   clear H
   go_enter Try.func27, Try.ntmps27
   go_wp2_with (first | ((with_reducible refine zAV (f := 18) rfl ?_); refine zBO (some 10) rfl rfl Try.func18 (by kernel_rfl) rfl #[.slice A0 l0.length c0] rfl (by (try simp only [List.map_toArray, List.map_cons, List.map_nil]); first | done | rfl | (simp only [List.length_drop, List.length_take]; rfl)) ?_; (with_reducible refine (swageref27_Deps.calls k _ _ l0 t355 _ ?side1 ?side2 A2.out).mono ?_); (case side1 => repeat (first | exact HR0.out | (with_reducible refine Kd.C_alloc ?_ _) | (with_reducible refine Kd.C_drewN ?_ _) | (with_reducible refine Kd.C_drew ?_))); (case side2 => exact HC0.out); rintro e w5 ⟨v356, rfl, ho0, hb⟩; refine ⟨_, rfl, ?_⟩; have n0_ := Aside0.mk (Kd.S_lower ho0 (zAM (by repeat (first | (with_reducible first | exact HB.out | apply zAC | apply zAA | apply zAD) | exact HB.out)))); have n1_ := Aside0.mk (zAL (by repeat (first | (with_reducible first | exact HB.out | apply zAC | apply zAA | apply zAD) | exact HB.out)) hb); clear HB; have HO357 := n0_; have HB := n1_; clear n0_ n1_; (try clear hb); (try clear hb2); (try clear hk); (try clear hi); (try clear ho0); obtain ⟨Ao6, co6, eo6⟩ := Kd.S_slice HO357.out; subst eo6) | ((with_reducible refine zAU (N := 13) rfl ?_); refine Kd.R_make (Kd.int .i64) _ 3 rfl (N := 13) rfl 23 _ _ rfl (t355.length : Int) rfl rfl Try.underlying23 (.int .i64 0) 8 info3 rfl (by decide) (by omega) 0 (ok := fun _ => True) (okp := fun _ => True) rfl (fun _ hk => hk) trivial (of_decide_eq_true (by first | (with_reducible assumption) | assumption)) (Nat.le_trans (Nat.mul_le_mul_right _ (of_decide_eq_true (by first | (with_reducible assumption) | assumption) : (t355.length : Int).toNat ≤ 35184372088832)) (by omega)) (Below.refl _ _) (Nat.le_refl _) ?_; intro v359 w7 ho8 hb hg_ hnew_; clear hg_ hnew_; (first | rw [← Ny358.out] at ho8 | (simp only [Int.reduceToNat] at ho8; rw [← Ny358.out] at ho8)); have n0_ := Aside0.mk (Kd.S_elder' (by (with_reducible repeat (first | apply Kd.S_alloc | apply Kd.S_drewN | apply Kd.S_drew)); exact HO357.out) (Kd.R_base ho8) hb); have n1_ := Aside0.mk (Kd.R_lower ho8 (zAM (by repeat (first | (with_reducible first | exact HB.out | apply zAC | apply zAA | apply zAD) | exact HB.out)))); have n2_ := Aside0.mk (zAL (by repeat (first | (with_reducible first | exact HB.out | apply zAC | apply zAA | apply zAD) | exact HB.out)) hb); clear HO357; clear HB; have HO357 := n0_; have HO360 := n1_; have HB := n2_; clear n0_ n1_ n2_; clear hb ho8))
   go_loopg [5, 6, 7] k (fun kq v5 v6 v7 w' => ∃ (x4_1 : List Int) (x5_1 : Int) (x6_1 : Int) (x7_1 : Int), v5 = .int .i64 x5_1 ∧ v6 = .int .i64 x6_1 ∧ v7 = .int .i64 x7_1 ∧ Aside0 (swageref27_Cost.l0 kq l0 t355 x4_1 x5_1 x6_1 x7_1 = some r) ∧ Aside0 (kq ≤ k) ∧ Aside0 (Kd.S (Kd.slice 3 (Kd.int .i64)) 23 w' w.heap.size (fun k_ => some k_ ≠ (v359 : Value).ownBlock) (.slice Ao6 t355.length co6) t355) ∧ Aside0 (Kd.R (Kd.int .i64) 3 w' w.heap.size (fun _ => True) v359 x4_1) ∧ Aside0 (Below w.heap.size w w'))
   case atStart => exact ⟨(y358), (0), (0), (0), (by first | rfl | (simp; done) | (simp [*]; done)), (by first | rfl | (simp; done) | (simp [*]; done)), (by first | rfl | (simp; done) | (simp [*]; done)), H', ⟨Nat.le_refl _⟩, ⟨by (with_reducible repeat (first | apply Kd.S_alloc | apply Kd.S_drewN | apply Kd.S_drew)); exact Kd.S_mono HO357.out (fun _ hk => hk.2)⟩, ⟨by (with_reducible repeat (first | apply Kd.R_alloc | apply Kd.R_drewN | apply Kd.R_drew)); exact HO360.out⟩, ⟨by repeat (first | (with_reducible first | exact HB.out | apply zAC | apply zAA | apply zAD) | exact HB.out)⟩⟩
   case round =>
    clear H'
    (try clear c1); (try clear c2); (try clear p2); (try clear c3); (try clear c3b0); (try clear c3b1); (try clear c4); (try clear c4b0); (try clear c4b1)
    obtain ⟨x4_1, x5_1, x6_1, x7_1, rfl, rfl, rfl, HA, HK1, HO_3, HO_4, HB⟩ := hrel
    cases gk with
    | zero => exact absurd HA.out (by simp [swageref27_Cost.l0])
    | succ k1 =>
     have H := HA.out
     clear HA
     simp only [swageref27_Cost.l0] at H
     by_cases c9 : x7_1 < (t355.length : Int)
     ·rw [if_pos c9] at H
      have c9b0 : decide (x7_1 < (t355.length : Int)) = true := decide_eq_true c9
      clear c9
      have H' := Aside0.mk H
      clear H
      go_wp2
      go_loopg [6, 8] k1 (fun kq v6 v8 w' => ∃ (x6_2 : Int) (x8_2 : Int), v6 = .int .i64 x6_2 ∧ v8 = .int .i64 x8_2 ∧ Aside0 (swageref27_Cost.l1 kq l0 t355 x4_1 x5_1 x6_2 x7_1 x8_2 = some r) ∧ Aside0 (kq ≤ k1) ∧ Aside0 (Kd.S (Kd.slice 3 (Kd.int .i64)) 23 w' w.heap.size (fun k_ => some k_ ≠ (v359 : Value).ownBlock) (.slice Ao6 t355.length co6) t355) ∧ Aside0 (Kd.R (Kd.int .i64) 3 w' w.heap.size (fun _ => True) v359 x4_1) ∧ Aside0 (Below w.heap.size w w'))
      case atStart => exact ⟨(x6_1), (0), (by first | rfl | (simp; done) | (simp [*]; done)), (by first | rfl | (simp; done) | (simp [*]; done)), H', ⟨Nat.le_refl _⟩, ⟨by (with_reducible repeat (first | apply Kd.S_alloc | apply Kd.S_drewN | apply Kd.S_drew)); exact HO_3.out⟩, ⟨by (with_reducible repeat (first | apply Kd.R_alloc | apply Kd.R_drewN | apply Kd.R_drew)); exact HO_4.out⟩, ⟨by repeat (first | (with_reducible first | exact HB.out | apply zAC | apply zAA | apply zAD) | exact HB.out)⟩⟩
      case round =>
       clear H'
       (try clear c1); (try clear c2); (try clear p2); (try clear c3); (try clear c3b0); (try clear c3b1); (try clear c4); (try clear c4b0); (try clear c4b1); (try clear c9); (try clear c9b0); (try clear p2)
       obtain ⟨x6_2, x8_2, rfl, rfl, HA, HK2, HO_3, HO_4, HB⟩ := hrel
       cases gk with
       | zero => exact absurd HA.out (by simp [swageref27_Cost.l1])
       | succ k2 =>
        have H := HA.out
        clear HA
        simp only [swageref27_Cost.l1] at H
        by_cases c10 : 0 ≤ x7_1
        ·rw [if_pos c10] at H
         have c10b0 : decide (0 ≤ x7_1) = true := decide_eq_true c10
         clear c10
         by_cases c11 : x7_1 < (t355.length : Int)
         ·rw [if_pos c11] at H
          have c11b0 : decide (x7_1 < (t355.length : Int)) = true := decide_eq_true c11
          clear c11
          by_cases c12 : x8_2 < ((rd_L1 t355 x7_1).length : Int)
          ·rw [if_pos c12] at H
           have c12b0 : decide (x8_2 < ((rd_L1 t355 x7_1).length : Int)) = true := decide_eq_true c12
           clear c12
           by_cases c13 : x7_1 < (l0.length : Int)
           ·rw [if_pos c13] at H
            have c13b0 : decide (x7_1 < (l0.length : Int)) = true := decide_eq_true c13
            clear c13
            replace H := Option.bind_eq_some_iff.mp H
            obtain ⟨t367, A140, H⟩ := H
            replace H : (if 0 ≤ x8_2 then (if 0 ≤ (rd (rd_L1 t355 x7_1) x8_2) then (if (rd (rd_L1 t355 x7_1) x8_2) < (l0.length : Int) then ((swageref14_Sets.f ((zAF l0 (rd (rd_L1 t355 x7_1) x8_2)).f0) ((zAF l0 (rd (rd_L1 t355 x7_1) x8_2)).f1) ((zAF l0 (rd (rd_L1 t355 x7_1) x8_2)).f2) ((zAF l0 (rd (rd_L1 t355 x7_1) x8_2)).f3) ((zAF l0 (rd (rd_L1 t355 x7_1) x8_2)).f4) ((zAF l0 (rd (rd_L1 t355 x7_1) x8_2)).f5)).bind fun t373 => ((swageref27_has.f k2 t367 t373).bind fun t374 => (if t374 = true then (if (rd (rd_L1 t355 x7_1) x8_2) < (x4_1.length : Int) then (swageref27_Cost.l1 k2 l0 t355 x4_1 x5_1 (mx x6_2 (rd x4_1 (rd (rd_L1 t355 x7_1) x8_2))) x7_1 (wrap64 (x8_2 + 1))) else (none)) else (swageref27_Cost.l1 k2 l0 t355 x4_1 x5_1 x6_2 x7_1 (wrap64 (x8_2 + 1)))))) else (none)) else (none)) else (none)) = some r := H
            have A14 := Aside0.mk A140
            clear A140
            by_cases c15 : 0 ≤ x8_2
            ·rw [if_pos c15] at H
             have c15b0 : decide (0 ≤ x8_2) = true := decide_eq_true c15
             clear c15
             by_cases c16 : 0 ≤ (rd (rd_L1 t355 x7_1) x8_2)
             ·rw [if_pos c16] at H
              have c16b0 : decide (0 ≤ (rd (rd_L1 t355 x7_1) x8_2)) = true := decide_eq_true c16
              clear c16
              by_cases c17 : (rd (rd_L1 t355 x7_1) x8_2) < (l0.length : Int)
              ·rw [if_pos c17] at H
               have c17b0 : decide ((rd (rd_L1 t355 x7_1) x8_2) < (l0.length : Int)) = true := decide_eq_true c17
               clear c17
               replace H := Option.bind_eq_some_iff.mp H
               obtain ⟨t373, A180, H⟩ := H
               replace H : ((swageref27_has.f k2 t367 t373).bind fun t374 => (if t374 = true then (if (rd (rd_L1 t355 x7_1) x8_2) < (x4_1.length : Int) then (swageref27_Cost.l1 k2 l0 t355 x4_1 x5_1 (mx x6_2 (rd x4_1 (rd (rd_L1 t355 x7_1) x8_2))) x7_1 (wrap64 (x8_2 + 1))) else (none)) else (swageref27_Cost.l1 k2 l0 t355 x4_1 x5_1 x6_2 x7_1 (wrap64 (x8_2 + 1))))) = some r := H
               have A18 := Aside0.mk A180
               clear A180
               replace H := Option.bind_eq_some_iff.mp H
               obtain ⟨t374, A190, H⟩ := H
               replace H : (if t374 = true then (if (rd (rd_L1 t355 x7_1) x8_2) < (x4_1.length : Int) then (swageref27_Cost.l1 k2 l0 t355 x4_1 x5_1 (mx x6_2 (rd x4_1 (rd (rd_L1 t355 x7_1) x8_2))) x7_1 (wrap64 (x8_2 + 1))) else (none)) else (swageref27_Cost.l1 k2 l0 t355 x4_1 x5_1 x6_2 x7_1 (wrap64 (x8_2 + 1)))) = some r := H
               have A19 := Aside0.mk A190
               clear A190
               by_cases c20 : t374 = true
               ·subst c20
                have H1 : (if (rd (rd_L1 t355 x7_1) x8_2) < (x4_1.length : Int) then (swageref27_Cost.l1 k2 l0 t355 x4_1 x5_1 (mx x6_2 (rd x4_1 (rd (rd_L1 t355 x7_1) x8_2))) x7_1 (wrap64 (x8_2 + 1))) else (none)) = some r := by rw [if_pos rfl] at H; exact H
                clear H
                have H := H1
                clear H1
                by_cases c21 : (rd (rd_L1 t355 x7_1) x8_2) < (x4_1.length : Int)
                ·rw [if_pos c21] at H
                 have c21b0 : decide ((rd (rd_L1 t355 x7_1) x8_2) < (x4_1.length : Int)) = true := decide_eq_true c21
                 clear c21
                 obtain ⟨ji22, hji22⟩ : ∃ j_ : Int, (mx x6_2 (rd x4_1 (rd (rd_L1 t355 x7_1) x8_2))) = j_ := ⟨_, rfl⟩
                 replace H : (swageref27_Cost.l1 k2 l0 t355 x4_1 x5_1 ji22 x7_1 (wrap64 (x8_2 + 1))) = some r := by first | (rw [hji22] at H; exact H) | (simp only [hji22] at H ⊢; exact H)
                 (try rw [hji22] at A14)
                 (try rw [hji22] at A18)
                 (try rw [hji22] at A19)
                 have hji22_ : (if x6_2 < (rd x4_1 (rd (rd_L1 t355 x7_1) x8_2)) then (rd x4_1 (rd (rd_L1 t355 x7_1) x8_2)) else x6_2) = ji22 := hji22
                 have H' := Aside0.mk H
                 clear H
                 have p361 : 0 ≤ (x7_1 : Int) := of_decide_eq_true (by first | (with_reducible assumption) | assumption)
                 have q361 : x7_1 < (t355.length : Int) := of_decide_eq_true (by first | (with_reducible assumption) | assumption)
                 obtain ⟨ad361, A361_0, c361_0, e361, hx361_0, hl361_0, hi361_0⟩ := at_L1 (Kd.S_reads' HO_3.out).2.2 x7_1 p361 q361
                 cases e361
                 obtain ⟨ce361, hce361, hMe361, hcc361⟩ := Kd.S_get HO_3.out [] x7_1 p361 (by first | exact q361 | exact of_decide_eq_true (by first | (with_reducible assumption) | assumption) | (have e_ := (Kd.S_reads' HO_3.out).1; omega))
                 obtain ⟨ve361_0, rfl, ge361_0⟩ := hMe361
                 have hv361_0 := hcc361 0 _ rfl
                 rw [Nat.add_zero, show ((Kd.slice 3 (Kd.int .i64))).sz = 1 from rfl, Nat.mul_one] at hv361_0
                 replace hv361_0 := Option.some.inj (hv361_0.symm.trans hx361_0)
                 rw [hv361_0] at ge361_0
                 have HL361_0 := Aside0.mk (show Kd.R (Kd.int .i64) 3 _ _ _ _ (rd_L1 t355 x7_1) from ge361_0)
                 clear hv361_0 ge361_0
                 clear hcc361 hce361
                 have HR361_0 := Aside0.mk hi361_0
                 have HC361_0 := Aside0.mk hl361_0
                 clear hi361_0 hl361_0
                 replace p361 := eq_true p361
                 replace q361 := eq_true q361
                 try go_wp2
                 have n0_ := Aside0.mk (Kd.S_drew HO_3.out)
                 have n1_ := Aside0.mk (Kd.R_drew HO_4.out)
                 have n2_ := Aside0.mk (Kd.R_drew HL361_0.out)
                 have n3_ := Aside0.mk (Kd.C_drew HR361_0.out)
                 have n4_ := Aside0.mk (zAD HB.out)
                 clear HO_3
                 clear HO_4
                 clear HL361_0
                 clear HR361_0
                 clear HB
                 have HO_3 := n0_
                 have HO_4 := n1_
                 have HL361_0 := n2_
                 have HR361_0 := n3_
                 have HB := n4_
                 clear n0_ n1_ n2_ n3_ n4_
                 have p366 : 0 ≤ (x7_1 : Int) := of_decide_eq_true (by first | (with_reducible assumption) | assumption)
                 have q366 : x7_1 < (l0.length : Int) := of_decide_eq_true (by first | (with_reducible assumption) | assumption)
                 obtain ⟨ad366, A366_5, c366_5, e366, hx366_0, hx366_1, hx366_2, hx366_3, hx366_4, hx366_5, hl366_5, hi366_5⟩ := zBT HR0.out x7_1 p366 q366
                 have hw366_5 := hx366_5
                 have hw366_4 := hx366_4
                 have hw366_3 := hx366_3
                 have hw366_2 := hx366_2
                 have hw366_1 := hx366_1
                 have hw366_0 := hx366_0
                 cases e366
                 replace hx366_0 := (HB.out.cell (World.block_lt_of_cell? w _ hx366_0)).trans hx366_0
                 replace hx366_1 := (HB.out.cell (World.block_lt_of_cell? w _ hx366_1)).trans hx366_1
                 replace hx366_2 := (HB.out.cell (World.block_lt_of_cell? w _ hx366_2)).trans hx366_2
                 replace hx366_3 := (HB.out.cell (World.block_lt_of_cell? w _ hx366_3)).trans hx366_3
                 replace hx366_4 := (HB.out.cell (World.block_lt_of_cell? w _ hx366_4)).trans hx366_4
                 replace hx366_5 := (HB.out.cell (World.block_lt_of_cell? w _ hx366_5)).trans hx366_5
                 have HR366_5 := Aside0.mk hi366_5
                 have HC366_5 := Aside0.mk hl366_5
                 clear hi366_5 hl366_5
                 replace p366 := eq_true p366
                 replace q366 := eq_true q366
                 have p370 : 0 ≤ (x7_1 : Int) := of_decide_eq_true (by first | (with_reducible assumption) | assumption)
                 have q370 : x7_1 < (t355.length : Int) := of_decide_eq_true (by first | (with_reducible assumption) | assumption)
                 obtain ⟨ad370, A370_0, c370_0, e370, hx370_0, hl370_0, hi370_0⟩ := at_L1 (Kd.S_reads' HO_3.out).2.2 x7_1 p370 q370
                 obtain rfl : ad361 = ad370 := (by injection e370)
                 obtain ⟨ce370, hce370, hMe370, hcc370⟩ := Kd.S_get HO_3.out [] x7_1 p370 (by first | exact q370 | exact of_decide_eq_true (by first | (with_reducible assumption) | assumption) | (have e_ := (Kd.S_reads' HO_3.out).1; omega))
                 obtain ⟨ve370_0, rfl, ge370_0⟩ := hMe370
                 have hv370_0 := hcc370 0 _ rfl
                 rw [Nat.add_zero, show ((Kd.slice 3 (Kd.int .i64))).sz = 1 from rfl, Nat.mul_one] at hv370_0
                 replace hv370_0 := Option.some.inj (hv370_0.symm.trans hx370_0)
                 rw [hv370_0] at ge370_0
                 have HL370_0 := Aside0.mk (show Kd.R (Kd.int .i64) 3 _ _ _ _ (rd_L1 t355 x7_1) from ge370_0)
                 clear hv370_0 ge370_0
                 clear hcc370 hce370
                 have HR370_0 := Aside0.mk hi370_0
                 have HC370_0 := Aside0.mk hl370_0
                 clear hi370_0 hl370_0
                 replace p370 := eq_true p370
                 replace q370 := eq_true q370
                 have p371 : 0 ≤ (x8_2 : Int) := of_decide_eq_true (by first | (with_reducible assumption) | assumption)
                 have q371 : x8_2 < ((rd_L1 t355 x7_1).length : Int) := of_decide_eq_true (by first | (with_reducible assumption) | assumption)
                 obtain ⟨ad371, e371, hx371_0⟩ := Kd.at_int (by repeat (first | (with_reducible exact HR370_0.out) | (with_reducible refine Kd.C_alloc ?_ _) | (with_reducible refine Kd.C_drewN ?_ _) | (with_reducible refine Kd.C_drew ?_) | exact HR370_0.out)) x8_2 p371 q371
                 cases e371
                 replace p371 := eq_true p371
                 replace q371 := eq_true q371
                 have p372 : 0 ≤ ((rd (rd_L1 t355 x7_1) x8_2) : Int) := of_decide_eq_true (by first | (with_reducible assumption) | assumption)
                 have q372 : (rd (rd_L1 t355 x7_1) x8_2) < (l0.length : Int) := of_decide_eq_true (by first | (with_reducible assumption) | assumption)
                 obtain ⟨ad372, A372_5, c372_5, e372, hx372_0, hx372_1, hx372_2, hx372_3, hx372_4, hx372_5, hl372_5, hi372_5⟩ := zBT HR0.out (rd (rd_L1 t355 x7_1) x8_2) p372 q372
                 have hw372_5 := hx372_5
                 have hw372_4 := hx372_4
                 have hw372_3 := hx372_3
                 have hw372_2 := hx372_2
                 have hw372_1 := hx372_1
                 have hw372_0 := hx372_0
                 obtain rfl : ad366 = ad372 := (by injection e372)
                 replace hx372_0 := (HB.out.cell (World.block_lt_of_cell? w _ hx372_0)).trans hx372_0
                 replace hx372_1 := (HB.out.cell (World.block_lt_of_cell? w _ hx372_1)).trans hx372_1
                 replace hx372_2 := (HB.out.cell (World.block_lt_of_cell? w _ hx372_2)).trans hx372_2
                 replace hx372_3 := (HB.out.cell (World.block_lt_of_cell? w _ hx372_3)).trans hx372_3
                 replace hx372_4 := (HB.out.cell (World.block_lt_of_cell? w _ hx372_4)).trans hx372_4
                 replace hx372_5 := (HB.out.cell (World.block_lt_of_cell? w _ hx372_5)).trans hx372_5
                 have HR372_5 := Aside0.mk hi372_5
                 have HC372_5 := Aside0.mk hl372_5
                 clear hi372_5 hl372_5
                 replace p372 := eq_true p372
                 replace q372 := eq_true q372
                 refine zCA (n := 17) (S := fun w' => w'.cell? (ad366.add ((x7_1).toNat * 6)) = some (.int .i64 ((zAF l0 x7_1).f0)) ∧ w'.cell? ⟨(ad366.add ((x7_1).toNat * 6)).block, (ad366.add ((x7_1).toNat * 6)).off + 1, none⟩ = some (.int .i64 ((zAF l0 x7_1).f1)) ∧ w'.cell? ⟨(ad366.add ((x7_1).toNat * 6)).block, (ad366.add ((x7_1).toNat * 6)).off + 2, none⟩ = some (.int .i64 ((zAF l0 x7_1).f2)) ∧ w'.cell? ⟨(ad366.add ((x7_1).toNat * 6)).block, (ad366.add ((x7_1).toNat * 6)).off + 3, none⟩ = some (.int .i64 ((zAF l0 x7_1).f3)) ∧ w'.cell? ⟨(ad366.add ((x7_1).toNat * 6)).block, (ad366.add ((x7_1).toNat * 6)).off + 4, none⟩ = some (.int .i64 ((zAF l0 x7_1).f4)) ∧ w'.cell? ⟨(ad366.add ((x7_1).toNat * 6)).block, (ad366.add ((x7_1).toNat * 6)).off + 5, none⟩ = some (.slice A366_5 ((zAF l0 x7_1).f5).length c366_5) ∧ w'.cell? (ad361.add (x7_1).toNat) = some (.slice (some ad371) (rd_L1 t355 x7_1).length c370_0) ∧ w'.cell? (ad371.add (x8_2).toNat) = some (.int .i64 (rd (rd_L1 t355 x7_1) x8_2)) ∧ w'.cell? (ad366.add (((rd (rd_L1 t355 x7_1) x8_2)).toNat * 6)) = some (.int .i64 ((zAF l0 (rd (rd_L1 t355 x7_1) x8_2)).f0)) ∧ w'.cell? ⟨(ad366.add (((rd (rd_L1 t355 x7_1) x8_2)).toNat * 6)).block, (ad366.add (((rd (rd_L1 t355 x7_1) x8_2)).toNat * 6)).off + 1, none⟩ = some (.int .i64 ((zAF l0 (rd (rd_L1 t355 x7_1) x8_2)).f1)) ∧ w'.cell? ⟨(ad366.add (((rd (rd_L1 t355 x7_1) x8_2)).toNat * 6)).block, (ad366.add (((rd (rd_L1 t355 x7_1) x8_2)).toNat * 6)).off + 2, none⟩ = some (.int .i64 ((zAF l0 (rd (rd_L1 t355 x7_1) x8_2)).f2)) ∧ w'.cell? ⟨(ad366.add (((rd (rd_L1 t355 x7_1) x8_2)).toNat * 6)).block, (ad366.add (((rd (rd_L1 t355 x7_1) x8_2)).toNat * 6)).off + 3, none⟩ = some (.int .i64 ((zAF l0 (rd (rd_L1 t355 x7_1) x8_2)).f3)) ∧ w'.cell? ⟨(ad366.add (((rd (rd_L1 t355 x7_1) x8_2)).toNat * 6)).block, (ad366.add (((rd (rd_L1 t355 x7_1) x8_2)).toNat * 6)).off + 4, none⟩ = some (.int .i64 ((zAF l0 (rd (rd_L1 t355 x7_1) x8_2)).f4)) ∧ w'.cell? ⟨(ad366.add (((rd (rd_L1 t355 x7_1) x8_2)).toNat * 6)).block, (ad366.add (((rd (rd_L1 t355 x7_1) x8_2)).toNat * 6)).off + 5, none⟩ = some (.slice A372_5 ((zAF l0 (rd (rd_L1 t355 x7_1) x8_2)).f5).length c372_5)) (ds := []) #[fF,fF,fF,fF,fF,fF,fF,fF,fF,fF,fF,fF,fF,fF,fF,fF,fF] (by kernel_rfl) rfl rfl ⟨((HB.out.cell (World.block_lt_of_cell? w _ hw366_0)).trans hw366_0), ((HB.out.cell (World.block_lt_of_cell? w _ hw366_1)).trans hw366_1), ((HB.out.cell (World.block_lt_of_cell? w _ hw366_2)).trans hw366_2), ((HB.out.cell (World.block_lt_of_cell? w _ hw366_3)).trans hw366_3), ((HB.out.cell (World.block_lt_of_cell? w _ hw366_4)).trans hw366_4), ((HB.out.cell (World.block_lt_of_cell? w _ hw366_5)).trans hw366_5), hx370_0, hx371_0, ((HB.out.cell (World.block_lt_of_cell? w _ hw372_0)).trans hw372_0), ((HB.out.cell (World.block_lt_of_cell? w _ hw372_1)).trans hw372_1), ((HB.out.cell (World.block_lt_of_cell? w _ hw372_2)).trans hw372_2), ((HB.out.cell (World.block_lt_of_cell? w _ hw372_3)).trans hw372_3), ((HB.out.cell (World.block_lt_of_cell? w _ hw372_4)).trans hw372_4), ((HB.out.cell (World.block_lt_of_cell? w _ hw372_5)).trans hw372_5)⟩ (fun hHeld => ?_); refine with_tabW swageref27_Cost.tab11 swageref27_Cost.bits11 (fun HT_ HW_ => ?_)
                 generalize wr.drew = w23 at HO_3 HO_4 HL361_0 HR361_0 HB HL370_0 HR366_5 HR370_0 HR372_5 hx366_0 hx366_1 hx366_2 hx366_3 hx366_4 hx366_5 hx370_0 hx371_0 hx372_0 hx372_1 hx372_2 hx372_3 hx372_4 hx372_5 hHeld ⊢
                 refine pure_ (i := 0) (N := some 29) (v := ?_) (a' := ?_) #[tT,fF,fF,fF,fF,fF,fF,fF,fF,fF,fF,fF,fF,fF,fF,fF,fF] rfl rfl (zAZ HT_.out (by kernel_rfl)) (fun _ _ _ h => h) (Or.inl ⟨by rfl, ?_⟩) ?_ ?_
                 rotate_left
                 ·intro w'
                  go_simp
                  with_reducible rfl
                 rotate_left
                 ·simp only [Act.put, List.setIfInBounds_toArray, List.set_cons_zero, List.set_cons_succ, i64_w, i32_w]
                  rfl
                 refine pure_ (i := 1) (N := some 30) (v := ?_) (a' := ?_) #[tT,tT,fF,fF,fF,fF,fF,fF,fF,fF,fF,fF,fF,fF,fF,fF,fF] rfl rfl (zAZ HT_.out (by kernel_rfl)) (fun _ _ _ h => h) (Or.inl ⟨by rfl, ?_⟩) ?_ ?_
                 rotate_left
                 ·intro w'
                  go_simp
                  with_reducible rfl
                 rotate_left
                 ·simp only [Act.put, List.setIfInBounds_toArray, List.set_cons_zero, List.set_cons_succ, i64_w, i32_w]
                  rfl
                 refine pure_ (i := 2) (N := some 31) (v := ?_) (a' := ?_) #[tT,tT,tT,fF,fF,fF,fF,fF,fF,fF,fF,fF,fF,fF,fF,fF,fF] rfl rfl (zAZ HT_.out (by kernel_rfl)) (fun _ _ _ h => h) (Or.inl ⟨by rfl, ?_⟩) ?_ ?_
                 rotate_left
                 ·intro w'
                  go_simp
                  with_reducible rfl
                 rotate_left
                 ·simp only [Act.put, List.setIfInBounds_toArray, List.set_cons_zero, List.set_cons_succ, i64_w, i32_w]
                  rfl
                 refine pure_ (i := 5) (N := some 34) (v := ?_) (a' := ?_) #[tT,tT,tT,fF,fF,tT,fF,fF,fF,fF,fF,fF,fF,fF,fF,fF,fF] rfl rfl (zAZ HT_.out (by kernel_rfl)) (fun _ _ _ h => h) (Or.inl ⟨by rfl, ?_⟩) ?_ ?_
                 rotate_left
                 ·intro w'
                  go_simp
                  with_reducible rfl
                 rotate_left
                 ·simp only [Act.put, List.setIfInBounds_toArray, List.set_cons_zero, List.set_cons_succ, i64_w, i32_w]
                  rfl
                 refine pure_ (i := 6) (N := some 35) (v := ?_) (a' := ?_) #[tT,tT,tT,fF,fF,tT,tT,fF,fF,fF,fF,fF,fF,fF,fF,fF,fF] rfl rfl (zAZ HT_.out (by kernel_rfl)) (fun _ _ _ h => h) (Or.inl ⟨by rfl, ?_⟩) ?_ ?_
                 rotate_left
                 ·intro w'
                  go_simp
                  with_reducible rfl
                 rotate_left
                 ·simp only [Act.put, List.setIfInBounds_toArray, List.set_cons_zero, List.set_cons_succ, i64_w, i32_w]
                  rfl
                 refine pure_ (i := 7) (N := some 36) (v := ?_) (a' := ?_) #[tT,tT,tT,fF,fF,tT,tT,tT,fF,fF,fF,fF,fF,fF,fF,fF,fF] rfl rfl (zAZ HT_.out (by kernel_rfl)) (fun _ _ _ h => h) (Or.inl ⟨by rfl, ?_⟩) ?_ ?_
                 rotate_left
                 ·intro w'
                  go_simp
                  with_reducible rfl
                 rotate_left
                 ·simp only [Act.put, List.setIfInBounds_toArray, List.set_cons_zero, List.set_cons_succ, i64_w, i32_w]
                  rfl
                 refine pure_ (i := 8) (N := some 37) (v := ?_) (a' := ?_) #[tT,tT,tT,fF,fF,tT,tT,tT,tT,fF,fF,fF,fF,fF,fF,fF,fF] rfl rfl (zAZ HT_.out (by kernel_rfl)) (fun _ _ _ h => h) (Or.inl ⟨by rfl, ?_⟩) ?_ ?_
                 rotate_left
                 ·intro w'
                  go_simp
                  with_reducible rfl
                 rotate_left
                 ·simp only [Act.put, List.setIfInBounds_toArray, List.set_cons_zero, List.set_cons_succ, i64_w, i32_w]
                  rfl
                 refine pure_ (i := 10) (N := some 39) (v := ?_) (a' := ?_) #[tT,tT,tT,fF,fF,tT,tT,tT,tT,fF,tT,fF,fF,fF,fF,fF,fF] rfl rfl (zAZ HT_.out (by kernel_rfl)) (fun _ _ _ h => h) (Or.inl ⟨by rfl, ?_⟩) ?_ ?_
                 rotate_left
                 ·intro w'
                  go_simp
                  with_reducible rfl
                 rotate_left
                 ·simp only [Act.put, List.setIfInBounds_toArray, List.set_cons_zero, List.set_cons_succ, i64_w, i32_w]
                  rfl
                 refine take_ (i := 3) (N := some 32) (v := ?_) (a' := ?_) #[tT,tT,tT,tT,fF,tT,tT,tT,tT,fF,tT,fF,fF,fF,fF,fF,fF] rfl rfl (zBN HT_.out HW_.out (by kernel_rfl)) (fun _ _ _ h => h) (Or.inl ⟨by rfl, ?_⟩) hHeld ?_ ?_
                 rotate_left
                 ·rintro w' ⟨s0, s1, s2, s3, s4, s5, s6, s7, s8, s9, s10, s11, s12, s13⟩
                  go_simp
                  with_reducible rfl
                 rotate_left
                 ·simp only [Act.put, List.setIfInBounds_toArray, List.set_cons_zero, List.set_cons_succ, i64_w, i32_w]
                  rfl
                 refine take_ (i := 9) (N := some 38) (v := ?_) (a' := ?_) #[tT,tT,tT,tT,fF,tT,tT,tT,tT,tT,tT,fF,fF,fF,fF,fF,fF] rfl rfl (zBN HT_.out HW_.out (by kernel_rfl)) (fun _ _ _ h => h) (Or.inl ⟨by rfl, ?_⟩) hHeld ?_ ?_
                 rotate_left
                 ·rintro w' ⟨s0, s1, s2, s3, s4, s5, s6, s7, s8, s9, s10, s11, s12, s13⟩
                  go_simp
                  with_reducible rfl
                 rotate_left
                 ·simp only [Act.put, List.setIfInBounds_toArray, List.set_cons_zero, List.set_cons_succ, i64_w, i32_w]
                  rfl
                 refine pure_ (i := 11) (N := some 40) (v := ?_) (a' := ?_) #[tT,tT,tT,tT,fF,tT,tT,tT,tT,tT,tT,tT,fF,fF,fF,fF,fF] rfl rfl (zAZ HT_.out (by kernel_rfl)) (fun _ _ _ h => h) (Or.inl ⟨by rfl, ?_⟩) ?_ ?_
                 rotate_left
                 ·intro w'
                  go_simp
                  with_reducible rfl
                 rotate_left
                 ·simp only [Act.put, List.setIfInBounds_toArray, List.set_cons_zero, List.set_cons_succ, i64_w, i32_w]
                  rfl
                 refine take_ (i := 12) (N := some 41) (v := ?_) (a' := ?_) #[tT,tT,tT,tT,fF,tT,tT,tT,tT,tT,tT,tT,tT,fF,fF,fF,fF] rfl rfl (zBN HT_.out HW_.out (by kernel_rfl)) (fun _ _ _ h => h) (Or.inl ⟨by rfl, ?_⟩) hHeld ?_ ?_
                 rotate_left
                 ·rintro w' ⟨s0, s1, s2, s3, s4, s5, s6, s7, s8, s9, s10, s11, s12, s13⟩
                  go_simp
                  with_reducible rfl
                 rotate_left
                 ·simp only [Act.put, List.setIfInBounds_toArray, List.set_cons_zero, List.set_cons_succ, i64_w, i32_w]
                  rfl
                 refine pure_ (i := 13) (N := some 42) (v := ?_) (a' := ?_) #[tT,tT,tT,tT,fF,tT,tT,tT,tT,tT,tT,tT,tT,tT,fF,fF,fF] rfl rfl (zAZ HT_.out (by kernel_rfl)) (fun _ _ _ h => h) (Or.inl ⟨by rfl, ?_⟩) ?_ ?_
                 rotate_left
                 ·intro w'
                  go_simp
                  with_reducible rfl
                 rotate_left
                 ·simp only [Act.put, List.setIfInBounds_toArray, List.set_cons_zero, List.set_cons_succ, i64_w, i32_w]
                  rfl
                 refine take_ (i := 14) (N := some 43) (v := ?_) (a' := ?_) #[tT,tT,tT,tT,fF,tT,tT,tT,tT,tT,tT,tT,tT,tT,tT,fF,fF] rfl rfl (zBN HT_.out HW_.out (by kernel_rfl)) (fun _ _ _ h => h) (Or.inl ⟨by rfl, ?_⟩) hHeld ?_ ?_
                 rotate_left
                 ·rintro w' ⟨s0, s1, s2, s3, s4, s5, s6, s7, s8, s9, s10, s11, s12, s13⟩
                  go_simp
                  with_reducible rfl
                 rotate_left
                 ·simp only [Act.put, List.setIfInBounds_toArray, List.set_cons_zero, List.set_cons_succ, i64_w, i32_w]
                  rfl
                 refine one_ (i := 4) (N := some 33) #[tT,tT,tT,tT,tT,tT,tT,tT,tT,tT,tT,tT,tT,tT,tT,fF,fF] rfl rfl (one_of HT_.out (by kernel_rfl)) (by decide) (fun K hK => ?_)
                 refine goes_ Try.func45 (by kernel_rfl) rfl #[.agg #[.int .i64 ((zAF l0 x7_1).f0), .int .i64 ((zAF l0 x7_1).f1), .int .i64 ((zAF l0 x7_1).f2), .int .i64 ((zAF l0 x7_1).f3), .int .i64 ((zAF l0 x7_1).f4), .slice A366_5 ((zAF l0 x7_1).f5).length c366_5]] (by rfl) rfl rfl (by (try simp only [List.map_toArray, List.map_cons, List.map_nil]); first | done | rfl | (simp only [List.length_drop, List.length_take]; rfl)) ?_
                 with_reducible refine (swageref14_Uses.calls k2 ((zAF l0 x7_1).f0) ((zAF l0 x7_1).f1) ((zAF l0 x7_1).f2) ((zAF l0 x7_1).f3) ((zAF l0 x7_1).f4) _ _ ((zAF l0 x7_1).f5) t367 _ ?side1 ?side2 A14.out).mono ?_
                 (case side1 => repeat (first | exact (Kd.C_below HR366_5.out HB.out) | (with_reducible refine Kd.C_alloc ?_ _) | (with_reducible refine Kd.C_drewN ?_ _) | (with_reducible refine Kd.C_drew ?_)))
                 (case side2 => exact HC366_5.out)
                 rintro e w24 ⟨v368, rfl, ho0, hb⟩
                 have HS6_ := (hb.cell (World.block_lt_of_cell? _ _ (hHeld.2.2.2.2.2.2.1))).trans (hHeld.2.2.2.2.2.2.1)
                 have HS7_ := (hb.cell (World.block_lt_of_cell? _ _ (hHeld.2.2.2.2.2.2.2.1))).trans (hHeld.2.2.2.2.2.2.2.1)
                 refine ⟨_, rfl, ?_⟩
                 have n0_ := Aside0.mk (Kd.S_elder' (by (with_reducible repeat (first | apply Kd.S_alloc | apply Kd.S_drewN | apply Kd.S_drew)); exact HO_3.out) (Kd.R_base ho0) hb)
                 have n1_ := Aside0.mk (Kd.R_elder' (by (with_reducible repeat (first | apply Kd.R_alloc | apply Kd.R_drewN | apply Kd.R_drew)); exact HO_4.out) (Kd.R_base ho0) hb)
                 have n2_ := Aside0.mk (Kd.R_elder' (by (with_reducible repeat (first | apply Kd.R_alloc | apply Kd.R_drewN | apply Kd.R_drew)); exact HL361_0.out) (Kd.R_base ho0) hb)
                 have n3_ := Aside0.mk (Kd.R_elder' (by (with_reducible repeat (first | apply Kd.R_alloc | apply Kd.R_drewN | apply Kd.R_drew)); exact HL370_0.out) (Kd.R_base ho0) hb)
                 have n4_ := Aside0.mk (Kd.R_lower (Kd.R_new' (Kd.R_new' (Kd.R_new' ho0 (Kd.R_lt (by (with_reducible repeat (first | apply Kd.R_alloc | apply Kd.R_drewN | apply Kd.R_drew)); exact HO_4.out))) (Kd.R_lt (by (with_reducible repeat (first | apply Kd.R_alloc | apply Kd.R_drewN | apply Kd.R_drew)); exact HL361_0.out))) (Kd.R_lt (by (with_reducible repeat (first | apply Kd.R_alloc | apply Kd.R_drewN | apply Kd.R_drew)); exact HL370_0.out))) (zAM (by repeat (first | (with_reducible first | exact HB.out | apply zAC | apply zAA | apply zAD) | exact HB.out))))
                 have n5_ := Aside0.mk (Kd.C_below (by repeat (first | (with_reducible exact HR361_0.out) | (with_reducible refine Kd.C_alloc ?_ _) | (with_reducible refine Kd.C_drewN ?_ _) | (with_reducible refine Kd.C_drew ?_) | exact HR361_0.out)) hb)
                 have n6_ := Aside0.mk (Kd.C_below (by repeat (first | (with_reducible exact HR370_0.out) | (with_reducible refine Kd.C_alloc ?_ _) | (with_reducible refine Kd.C_drewN ?_ _) | (with_reducible refine Kd.C_drew ?_) | exact HR370_0.out)) hb)
                 have n7_ := Aside0.mk (zAL (by repeat (first | (with_reducible first | exact HB.out | apply zAC | apply zAA | apply zAD) | exact HB.out)) hb)
                 clear HO_3
                 clear HO_4
                 clear HL361_0
                 clear HL370_0
                 clear HR361_0
                 clear HR370_0
                 clear HB
                 have HO_3 := n0_
                 have HO_4 := n1_
                 have HL361_0 := n2_
                 have HL370_0 := n3_
                 have HO369 := n4_
                 have HR361_0 := n5_
                 have HR370_0 := n6_
                 have HB := n7_
                 clear n0_ n1_ n2_ n3_ n4_ n5_ n6_ n7_
                 (try clear hb)
                 (try clear hb2)
                 (try clear hk)
                 (try clear hi)
                 (try clear ho0)
                 refine hK.out _ _ ⟨((HB.out.cell (World.block_lt_of_cell? w _ hw366_0)).trans hw366_0), ((HB.out.cell (World.block_lt_of_cell? w _ hw366_1)).trans hw366_1), ((HB.out.cell (World.block_lt_of_cell? w _ hw366_2)).trans hw366_2), ((HB.out.cell (World.block_lt_of_cell? w _ hw366_3)).trans hw366_3), ((HB.out.cell (World.block_lt_of_cell? w _ hw366_4)).trans hw366_4), ((HB.out.cell (World.block_lt_of_cell? w _ hw366_5)).trans hw366_5), HS6_, HS7_, ((HB.out.cell (World.block_lt_of_cell? w _ hw372_0)).trans hw372_0), ((HB.out.cell (World.block_lt_of_cell? w _ hw372_1)).trans hw372_1), ((HB.out.cell (World.block_lt_of_cell? w _ hw372_2)).trans hw372_2), ((HB.out.cell (World.block_lt_of_cell? w _ hw372_3)).trans hw372_3), ((HB.out.cell (World.block_lt_of_cell? w _ hw372_4)).trans hw372_4), ((HB.out.cell (World.block_lt_of_cell? w _ hw372_5)).trans hw372_5)⟩ (fun hHeld => ?_)
                 clear hK K
                 refine norm_ (a' := ?_) ?_ ?_
                 rotate_left
                 ·show Act.put _ (some 33) _ = _
                  simp only [Act.put, List.setIfInBounds_toArray, List.set_cons_zero, List.set_cons_succ, i64_w, i32_w]
                  rfl
                 refine one_ (i := 15) (N := some 44) #[tT,tT,tT,tT,tT,tT,tT,tT,tT,tT,tT,tT,tT,tT,tT,tT,fF] rfl rfl (one_of HT_.out (by kernel_rfl)) (by decide) (fun K hK => ?_)
                 refine goes_ Try.func46 (by kernel_rfl) rfl #[.agg #[.int .i64 ((zAF l0 (rd (rd_L1 t355 x7_1) x8_2)).f0), .int .i64 ((zAF l0 (rd (rd_L1 t355 x7_1) x8_2)).f1), .int .i64 ((zAF l0 (rd (rd_L1 t355 x7_1) x8_2)).f2), .int .i64 ((zAF l0 (rd (rd_L1 t355 x7_1) x8_2)).f3), .int .i64 ((zAF l0 (rd (rd_L1 t355 x7_1) x8_2)).f4), .slice A372_5 ((zAF l0 (rd (rd_L1 t355 x7_1) x8_2)).f5).length c372_5]] (by rfl) rfl rfl (by (try simp only [List.map_toArray, List.map_cons, List.map_nil]); first | done | rfl | (simp only [List.length_drop, List.length_take]; rfl)) ?_
                 with_reducible refine (swageref14_Sets.calls ((zAF l0 (rd (rd_L1 t355 x7_1) x8_2)).f0) ((zAF l0 (rd (rd_L1 t355 x7_1) x8_2)).f1) ((zAF l0 (rd (rd_L1 t355 x7_1) x8_2)).f2) ((zAF l0 (rd (rd_L1 t355 x7_1) x8_2)).f3) ((zAF l0 (rd (rd_L1 t355 x7_1) x8_2)).f4) _ _ ((zAF l0 (rd (rd_L1 t355 x7_1) x8_2)).f5) t373 _ ?side1 ?side2 A18.out).mono ?_
                 (case side1 => repeat (first | exact (Kd.C_below HR372_5.out HB.out) | (with_reducible refine Kd.C_alloc ?_ _) | (with_reducible refine Kd.C_drewN ?_ _) | (with_reducible refine Kd.C_drew ?_)))
                 (case side2 => exact HC372_5.out)
                 rintro e w25 ⟨rfl, hb⟩
                 have HS6_ := (hb.cell (World.block_lt_of_cell? _ _ (hHeld.2.2.2.2.2.2.1))).trans (hHeld.2.2.2.2.2.2.1)
                 have HS7_ := (hb.cell (World.block_lt_of_cell? _ _ (hHeld.2.2.2.2.2.2.2.1))).trans (hHeld.2.2.2.2.2.2.2.1)
                 refine ⟨_, rfl, ?_⟩
                 have n0_ := Aside0.mk (Kd.S_below (by (with_reducible repeat (first | apply Kd.S_alloc | apply Kd.S_drewN | apply Kd.S_drew)); exact HO_3.out) hb)
                 have n1_ := Aside0.mk (Kd.R_below (by (with_reducible repeat (first | apply Kd.R_alloc | apply Kd.R_drewN | apply Kd.R_drew)); exact HO_4.out) hb)
                 have n2_ := Aside0.mk (Kd.R_below (by (with_reducible repeat (first | apply Kd.R_alloc | apply Kd.R_drewN | apply Kd.R_drew)); exact HL361_0.out) hb)
                 have n3_ := Aside0.mk (Kd.R_below (by (with_reducible repeat (first | apply Kd.R_alloc | apply Kd.R_drewN | apply Kd.R_drew)); exact HL370_0.out) hb)
                 have n4_ := Aside0.mk (Kd.R_below (by (with_reducible repeat (first | apply Kd.R_alloc | apply Kd.R_drewN | apply Kd.R_drew)); exact HO369.out) hb)
                 have n5_ := Aside0.mk (Kd.C_below (by repeat (first | (with_reducible exact HR361_0.out) | (with_reducible refine Kd.C_alloc ?_ _) | (with_reducible refine Kd.C_drewN ?_ _) | (with_reducible refine Kd.C_drew ?_) | exact HR361_0.out)) hb)
                 have n6_ := Aside0.mk (Kd.C_below (by repeat (first | (with_reducible exact HR370_0.out) | (with_reducible refine Kd.C_alloc ?_ _) | (with_reducible refine Kd.C_drewN ?_ _) | (with_reducible refine Kd.C_drew ?_) | exact HR370_0.out)) hb)
                 have n7_ := Aside0.mk (zAL (by repeat (first | (with_reducible first | exact HB.out | apply zAC | apply zAA | apply zAD) | exact HB.out)) hb)
                 clear HO_3
                 clear HO_4
                 clear HL361_0
                 clear HL370_0
                 clear HO369
                 clear HR361_0
                 clear HR370_0
                 clear HB
                 have HO_3 := n0_
                 have HO_4 := n1_
                 have HL361_0 := n2_
                 have HL370_0 := n3_
                 have HO369 := n4_
                 have HR361_0 := n5_
                 have HR370_0 := n6_
                 have HB := n7_
                 clear n0_ n1_ n2_ n3_ n4_ n5_ n6_ n7_
                 (try clear hb)
                 (try clear hb2)
                 (try clear hk)
                 (try clear hi)
                 obtain ⟨Ao26, co26, eo26⟩ := Kd.R_slice HO369.out
                 (first | subst eo26 | (injection eo26 with f1_ f2_ f3_; have f4_ := f1_.symm; have f5_ := f3_.symm; clear f1_ f2_ f3_; subst f4_; subst f5_))
                 refine hK.out _ _ ⟨((HB.out.cell (World.block_lt_of_cell? w _ hw366_0)).trans hw366_0), ((HB.out.cell (World.block_lt_of_cell? w _ hw366_1)).trans hw366_1), ((HB.out.cell (World.block_lt_of_cell? w _ hw366_2)).trans hw366_2), ((HB.out.cell (World.block_lt_of_cell? w _ hw366_3)).trans hw366_3), ((HB.out.cell (World.block_lt_of_cell? w _ hw366_4)).trans hw366_4), ((HB.out.cell (World.block_lt_of_cell? w _ hw366_5)).trans hw366_5), HS6_, HS7_, ((HB.out.cell (World.block_lt_of_cell? w _ hw372_0)).trans hw372_0), ((HB.out.cell (World.block_lt_of_cell? w _ hw372_1)).trans hw372_1), ((HB.out.cell (World.block_lt_of_cell? w _ hw372_2)).trans hw372_2), ((HB.out.cell (World.block_lt_of_cell? w _ hw372_3)).trans hw372_3), ((HB.out.cell (World.block_lt_of_cell? w _ hw372_4)).trans hw372_4), ((HB.out.cell (World.block_lt_of_cell? w _ hw372_5)).trans hw372_5)⟩ (fun hHeld => ?_)
                 clear hK K
                 refine norm_ (a' := ?_) ?_ ?_
                 rotate_left
                 ·show Act.put _ (some 44) _ = _
                  simp only [Act.put, List.setIfInBounds_toArray, List.set_cons_zero, List.set_cons_succ, i64_w, i32_w]
                  rfl
                 refine one_ (i := 16) (N := some 45) #[tT,tT,tT,tT,tT,tT,tT,tT,tT,tT,tT,tT,tT,tT,tT,tT,tT] rfl rfl (one_of HT_.out (by kernel_rfl)) (by decide) (fun K hK => ?_)
                 refine goes_ Try.func44 (by kernel_rfl) rfl #[.slice Ao26 t367.length co26, .int .i64 t373] (by rfl) rfl rfl (by (try simp only [List.map_toArray, List.map_cons, List.map_nil]); first | done | rfl | (simp only [List.length_drop, List.length_take]; rfl)) ?_
                 with_reducible refine (swageref27_has.calls k2 _ _ t367 t373 true _ ?side1 ?side2 A19.out).mono ?_
                 (case side1 => repeat (first | exact (Kd.R_reads' HO369.out).2.2 | (with_reducible refine Kd.C_alloc ?_ _) | (with_reducible refine Kd.C_drewN ?_ _) | (with_reducible refine Kd.C_drew ?_)))
                 (case side2 => exact (Kd.R_reads' HO369.out).2.1)
                 rintro e w' ⟨rfl, ⟨nd, rfl⟩⟩
                 refine ⟨_, rfl, ?_⟩
                 refine hK.out _ _ ⟨((HB.out.cell (World.block_lt_of_cell? w _ hw366_0)).trans hw366_0), ((HB.out.cell (World.block_lt_of_cell? w _ hw366_1)).trans hw366_1), ((HB.out.cell (World.block_lt_of_cell? w _ hw366_2)).trans hw366_2), ((HB.out.cell (World.block_lt_of_cell? w _ hw366_3)).trans hw366_3), ((HB.out.cell (World.block_lt_of_cell? w _ hw366_4)).trans hw366_4), ((HB.out.cell (World.block_lt_of_cell? w _ hw366_5)).trans hw366_5), hHeld.2.2.2.2.2.2.1, hHeld.2.2.2.2.2.2.2.1, ((HB.out.cell (World.block_lt_of_cell? w _ hw372_0)).trans hw372_0), ((HB.out.cell (World.block_lt_of_cell? w _ hw372_1)).trans hw372_1), ((HB.out.cell (World.block_lt_of_cell? w _ hw372_2)).trans hw372_2), ((HB.out.cell (World.block_lt_of_cell? w _ hw372_3)).trans hw372_3), ((HB.out.cell (World.block_lt_of_cell? w _ hw372_4)).trans hw372_4), ((HB.out.cell (World.block_lt_of_cell? w _ hw372_5)).trans hw372_5)⟩ (fun hHeld => ?_)
                 clear hK K
                 refine norm_ (a' := ?_) ?_ ?_
                 rotate_left
                 ·show Act.put _ (some 45) _ = _
                  simp only [Act.put, List.setIfInBounds_toArray, List.set_cons_zero, List.set_cons_succ, i64_w, i32_w]
                  rfl
                 refine done_ (done_of HT_.out (by kernel_rfl)) ?_
                 have p375 : 0 ≤ (x7_1 : Int) := of_decide_eq_true (by first | (with_reducible assumption) | assumption)
                 have q375 : x7_1 < (t355.length : Int) := of_decide_eq_true (by first | (with_reducible assumption) | assumption)
                 obtain ⟨ad375, A375_0, c375_0, e375, hx375_0, hl375_0, hi375_0⟩ := at_L1 (Kd.S_reads' HO_3.out).2.2 x7_1 p375 q375
                 obtain rfl : ad361 = ad375 := (by injection e375)
                 obtain ⟨ce375, hce375, hMe375, hcc375⟩ := Kd.S_get HO_3.out [] x7_1 p375 (by first | exact q375 | exact of_decide_eq_true (by first | (with_reducible assumption) | assumption) | (have e_ := (Kd.S_reads' HO_3.out).1; omega))
                 obtain ⟨ve375_0, rfl, ge375_0⟩ := hMe375
                 have hv375_0 := hcc375 0 _ rfl
                 rw [Nat.add_zero, show ((Kd.slice 3 (Kd.int .i64))).sz = 1 from rfl, Nat.mul_one] at hv375_0
                 replace hv375_0 := Option.some.inj (hv375_0.symm.trans hx375_0)
                 rw [hv375_0] at ge375_0
                 have HL375_0 := Aside0.mk (show Kd.R (Kd.int .i64) 3 _ _ _ _ (rd_L1 t355 x7_1) from ge375_0)
                 clear hv375_0 ge375_0
                 clear hcc375 hce375
                 have HR375_0 := Aside0.mk hi375_0
                 have HC375_0 := Aside0.mk hl375_0
                 clear hi375_0 hl375_0
                 replace p375 := eq_true p375
                 replace q375 := eq_true q375
                 have p376 : 0 ≤ (x8_2 : Int) := of_decide_eq_true (by first | (with_reducible assumption) | assumption)
                 have q376 : x8_2 < ((rd_L1 t355 x7_1).length : Int) := of_decide_eq_true (by first | (with_reducible assumption) | assumption)
                 obtain ⟨ad376, e376, hx376_0⟩ := Kd.at_int (by repeat (first | (with_reducible exact HR375_0.out) | (with_reducible refine Kd.C_alloc ?_ _) | (with_reducible refine Kd.C_drewN ?_ _) | (with_reducible refine Kd.C_drew ?_) | exact HR375_0.out)) x8_2 p376 q376
                 cases e376
                 replace p376 := eq_true p376
                 replace q376 := eq_true q376
                 obtain ⟨Ao27, co27, eo27⟩ := Kd.R_slice HO_4.out
                 subst eo27
                 have p377 : 0 ≤ ((rd (rd_L1 t355 x7_1) x8_2) : Int) := of_decide_eq_true (by first | (with_reducible assumption) | assumption)
                 have q377 : (rd (rd_L1 t355 x7_1) x8_2) < (x4_1.length : Int) := of_decide_eq_true (by first | (with_reducible assumption) | assumption)
                 obtain ⟨ad377, e377, hx377_0⟩ := Kd.at_int (Kd.R_reads' HO_4.out).2.2 (rd (rd_L1 t355 x7_1) x8_2) p377 q377
                 cases e377
                 replace p377 := eq_true p377
                 replace q377 := eq_true q377
                 try go_wp2
                 go_roundg k2
                 case measure => have := HK1.out; have := HK2.out; omega
                 case rel => exact ⟨(ji22), (wrap64 (x8_2 + 1)), (by first | rfl | (simp; done) | (simp only [← hji22] <;> (first | rfl | simp)) | (simp [*]; done)), (by first | rfl | (simp; done) | (simp [*]; done)), H', ⟨by have := HK1.out; have := HK2.out; omega⟩, ⟨by (with_reducible repeat (first | apply Kd.S_alloc | apply Kd.S_drewN | apply Kd.S_drew)); exact Kd.S_mono HO_3.out (fun _ hk => hk.1)⟩, ⟨by (with_reducible repeat (first | apply Kd.R_alloc | apply Kd.R_drewN | apply Kd.R_drew)); exact Kd.R_mono HO_4.out (fun _ hk => trivial)⟩, ⟨by repeat (first | (with_reducible first | exact HB.out | apply zAC | apply zAA | apply zAD) | exact HB.out)⟩⟩
                ·rw [if_neg c21] at H
                 exact absurd H (by simp)
               ·replace c20 := Bool.eq_false_iff.mpr c20
                subst c20
                have H1 : (swageref27_Cost.l1 k2 l0 t355 x4_1 x5_1 x6_2 x7_1 (wrap64 (x8_2 + 1))) = some r := by rw [if_neg (show ¬ (false = true) by decide)] at H; exact H
                clear H
                have H := H1
                clear H1
                have H' := Aside0.mk H
                clear H
                have p361 : 0 ≤ (x7_1 : Int) := of_decide_eq_true (by first | (with_reducible assumption) | assumption)
                have q361 : x7_1 < (t355.length : Int) := of_decide_eq_true (by first | (with_reducible assumption) | assumption)
                obtain ⟨ad361, A361_0, c361_0, e361, hx361_0, hl361_0, hi361_0⟩ := at_L1 (Kd.S_reads' HO_3.out).2.2 x7_1 p361 q361
                cases e361
                obtain ⟨ce361, hce361, hMe361, hcc361⟩ := Kd.S_get HO_3.out [] x7_1 p361 (by first | exact q361 | exact of_decide_eq_true (by first | (with_reducible assumption) | assumption) | (have e_ := (Kd.S_reads' HO_3.out).1; omega))
                obtain ⟨ve361_0, rfl, ge361_0⟩ := hMe361
                have hv361_0 := hcc361 0 _ rfl
                rw [Nat.add_zero, show ((Kd.slice 3 (Kd.int .i64))).sz = 1 from rfl, Nat.mul_one] at hv361_0
                replace hv361_0 := Option.some.inj (hv361_0.symm.trans hx361_0)
                rw [hv361_0] at ge361_0
                have HL361_0 := Aside0.mk (show Kd.R (Kd.int .i64) 3 _ _ _ _ (rd_L1 t355 x7_1) from ge361_0)
                clear hv361_0 ge361_0
                clear hcc361 hce361
                have HR361_0 := Aside0.mk hi361_0
                have HC361_0 := Aside0.mk hl361_0
                clear hi361_0 hl361_0
                replace p361 := eq_true p361
                replace q361 := eq_true q361
                try go_wp2
                have n0_ := Aside0.mk (Kd.S_drew HO_3.out)
                have n1_ := Aside0.mk (Kd.R_drew HO_4.out)
                have n2_ := Aside0.mk (Kd.R_drew HL361_0.out)
                have n3_ := Aside0.mk (Kd.C_drew HR361_0.out)
                have n4_ := Aside0.mk (zAD HB.out)
                clear HO_3
                clear HO_4
                clear HL361_0
                clear HR361_0
                clear HB
                have HO_3 := n0_
                have HO_4 := n1_
                have HL361_0 := n2_
                have HR361_0 := n3_
                have HB := n4_
                clear n0_ n1_ n2_ n3_ n4_
                have p366 : 0 ≤ (x7_1 : Int) := of_decide_eq_true (by first | (with_reducible assumption) | assumption)
                have q366 : x7_1 < (l0.length : Int) := of_decide_eq_true (by first | (with_reducible assumption) | assumption)
                obtain ⟨ad366, A366_5, c366_5, e366, hx366_0, hx366_1, hx366_2, hx366_3, hx366_4, hx366_5, hl366_5, hi366_5⟩ := zBT HR0.out x7_1 p366 q366
                have hw366_5 := hx366_5
                have hw366_4 := hx366_4
                have hw366_3 := hx366_3
                have hw366_2 := hx366_2
                have hw366_1 := hx366_1
                have hw366_0 := hx366_0
                cases e366
                replace hx366_0 := (HB.out.cell (World.block_lt_of_cell? w _ hx366_0)).trans hx366_0
                replace hx366_1 := (HB.out.cell (World.block_lt_of_cell? w _ hx366_1)).trans hx366_1
                replace hx366_2 := (HB.out.cell (World.block_lt_of_cell? w _ hx366_2)).trans hx366_2
                replace hx366_3 := (HB.out.cell (World.block_lt_of_cell? w _ hx366_3)).trans hx366_3
                replace hx366_4 := (HB.out.cell (World.block_lt_of_cell? w _ hx366_4)).trans hx366_4
                replace hx366_5 := (HB.out.cell (World.block_lt_of_cell? w _ hx366_5)).trans hx366_5
                have HR366_5 := Aside0.mk hi366_5
                have HC366_5 := Aside0.mk hl366_5
                clear hi366_5 hl366_5
                replace p366 := eq_true p366
                replace q366 := eq_true q366
                have p370 : 0 ≤ (x7_1 : Int) := of_decide_eq_true (by first | (with_reducible assumption) | assumption)
                have q370 : x7_1 < (t355.length : Int) := of_decide_eq_true (by first | (with_reducible assumption) | assumption)
                obtain ⟨ad370, A370_0, c370_0, e370, hx370_0, hl370_0, hi370_0⟩ := at_L1 (Kd.S_reads' HO_3.out).2.2 x7_1 p370 q370
                obtain rfl : ad361 = ad370 := (by injection e370)
                obtain ⟨ce370, hce370, hMe370, hcc370⟩ := Kd.S_get HO_3.out [] x7_1 p370 (by first | exact q370 | exact of_decide_eq_true (by first | (with_reducible assumption) | assumption) | (have e_ := (Kd.S_reads' HO_3.out).1; omega))
                obtain ⟨ve370_0, rfl, ge370_0⟩ := hMe370
                have hv370_0 := hcc370 0 _ rfl
                rw [Nat.add_zero, show ((Kd.slice 3 (Kd.int .i64))).sz = 1 from rfl, Nat.mul_one] at hv370_0
                replace hv370_0 := Option.some.inj (hv370_0.symm.trans hx370_0)
                rw [hv370_0] at ge370_0
                have HL370_0 := Aside0.mk (show Kd.R (Kd.int .i64) 3 _ _ _ _ (rd_L1 t355 x7_1) from ge370_0)
                clear hv370_0 ge370_0
                clear hcc370 hce370
                have HR370_0 := Aside0.mk hi370_0
                have HC370_0 := Aside0.mk hl370_0
                clear hi370_0 hl370_0
                replace p370 := eq_true p370
                replace q370 := eq_true q370
                have p371 : 0 ≤ (x8_2 : Int) := of_decide_eq_true (by first | (with_reducible assumption) | assumption)
                have q371 : x8_2 < ((rd_L1 t355 x7_1).length : Int) := of_decide_eq_true (by first | (with_reducible assumption) | assumption)
                obtain ⟨ad371, e371, hx371_0⟩ := Kd.at_int (by repeat (first | (with_reducible exact HR370_0.out) | (with_reducible refine Kd.C_alloc ?_ _) | (with_reducible refine Kd.C_drewN ?_ _) | (with_reducible refine Kd.C_drew ?_) | exact HR370_0.out)) x8_2 p371 q371
                cases e371
                replace p371 := eq_true p371
                replace q371 := eq_true q371
                have p372 : 0 ≤ ((rd (rd_L1 t355 x7_1) x8_2) : Int) := of_decide_eq_true (by first | (with_reducible assumption) | assumption)
                have q372 : (rd (rd_L1 t355 x7_1) x8_2) < (l0.length : Int) := of_decide_eq_true (by first | (with_reducible assumption) | assumption)
                obtain ⟨ad372, A372_5, c372_5, e372, hx372_0, hx372_1, hx372_2, hx372_3, hx372_4, hx372_5, hl372_5, hi372_5⟩ := zBT HR0.out (rd (rd_L1 t355 x7_1) x8_2) p372 q372
                have hw372_5 := hx372_5
                have hw372_4 := hx372_4
                have hw372_3 := hx372_3
                have hw372_2 := hx372_2
                have hw372_1 := hx372_1
                have hw372_0 := hx372_0
                obtain rfl : ad366 = ad372 := (by injection e372)
                replace hx372_0 := (HB.out.cell (World.block_lt_of_cell? w _ hx372_0)).trans hx372_0
                replace hx372_1 := (HB.out.cell (World.block_lt_of_cell? w _ hx372_1)).trans hx372_1
                replace hx372_2 := (HB.out.cell (World.block_lt_of_cell? w _ hx372_2)).trans hx372_2
                replace hx372_3 := (HB.out.cell (World.block_lt_of_cell? w _ hx372_3)).trans hx372_3
                replace hx372_4 := (HB.out.cell (World.block_lt_of_cell? w _ hx372_4)).trans hx372_4
                replace hx372_5 := (HB.out.cell (World.block_lt_of_cell? w _ hx372_5)).trans hx372_5
                have HR372_5 := Aside0.mk hi372_5
                have HC372_5 := Aside0.mk hl372_5
                clear hi372_5 hl372_5
                replace p372 := eq_true p372
                replace q372 := eq_true q372
                refine zCA (n := 17) (S := fun w' => w'.cell? (ad366.add ((x7_1).toNat * 6)) = some (.int .i64 ((zAF l0 x7_1).f0)) ∧ w'.cell? ⟨(ad366.add ((x7_1).toNat * 6)).block, (ad366.add ((x7_1).toNat * 6)).off + 1, none⟩ = some (.int .i64 ((zAF l0 x7_1).f1)) ∧ w'.cell? ⟨(ad366.add ((x7_1).toNat * 6)).block, (ad366.add ((x7_1).toNat * 6)).off + 2, none⟩ = some (.int .i64 ((zAF l0 x7_1).f2)) ∧ w'.cell? ⟨(ad366.add ((x7_1).toNat * 6)).block, (ad366.add ((x7_1).toNat * 6)).off + 3, none⟩ = some (.int .i64 ((zAF l0 x7_1).f3)) ∧ w'.cell? ⟨(ad366.add ((x7_1).toNat * 6)).block, (ad366.add ((x7_1).toNat * 6)).off + 4, none⟩ = some (.int .i64 ((zAF l0 x7_1).f4)) ∧ w'.cell? ⟨(ad366.add ((x7_1).toNat * 6)).block, (ad366.add ((x7_1).toNat * 6)).off + 5, none⟩ = some (.slice A366_5 ((zAF l0 x7_1).f5).length c366_5) ∧ w'.cell? (ad361.add (x7_1).toNat) = some (.slice (some ad371) (rd_L1 t355 x7_1).length c370_0) ∧ w'.cell? (ad371.add (x8_2).toNat) = some (.int .i64 (rd (rd_L1 t355 x7_1) x8_2)) ∧ w'.cell? (ad366.add (((rd (rd_L1 t355 x7_1) x8_2)).toNat * 6)) = some (.int .i64 ((zAF l0 (rd (rd_L1 t355 x7_1) x8_2)).f0)) ∧ w'.cell? ⟨(ad366.add (((rd (rd_L1 t355 x7_1) x8_2)).toNat * 6)).block, (ad366.add (((rd (rd_L1 t355 x7_1) x8_2)).toNat * 6)).off + 1, none⟩ = some (.int .i64 ((zAF l0 (rd (rd_L1 t355 x7_1) x8_2)).f1)) ∧ w'.cell? ⟨(ad366.add (((rd (rd_L1 t355 x7_1) x8_2)).toNat * 6)).block, (ad366.add (((rd (rd_L1 t355 x7_1) x8_2)).toNat * 6)).off + 2, none⟩ = some (.int .i64 ((zAF l0 (rd (rd_L1 t355 x7_1) x8_2)).f2)) ∧ w'.cell? ⟨(ad366.add (((rd (rd_L1 t355 x7_1) x8_2)).toNat * 6)).block, (ad366.add (((rd (rd_L1 t355 x7_1) x8_2)).toNat * 6)).off + 3, none⟩ = some (.int .i64 ((zAF l0 (rd (rd_L1 t355 x7_1) x8_2)).f3)) ∧ w'.cell? ⟨(ad366.add (((rd (rd_L1 t355 x7_1) x8_2)).toNat * 6)).block, (ad366.add (((rd (rd_L1 t355 x7_1) x8_2)).toNat * 6)).off + 4, none⟩ = some (.int .i64 ((zAF l0 (rd (rd_L1 t355 x7_1) x8_2)).f4)) ∧ w'.cell? ⟨(ad366.add (((rd (rd_L1 t355 x7_1) x8_2)).toNat * 6)).block, (ad366.add (((rd (rd_L1 t355 x7_1) x8_2)).toNat * 6)).off + 5, none⟩ = some (.slice A372_5 ((zAF l0 (rd (rd_L1 t355 x7_1) x8_2)).f5).length c372_5)) (ds := []) #[fF,fF,fF,fF,fF,fF,fF,fF,fF,fF,fF,fF,fF,fF,fF,fF,fF] (by kernel_rfl) rfl rfl ⟨((HB.out.cell (World.block_lt_of_cell? w _ hw366_0)).trans hw366_0), ((HB.out.cell (World.block_lt_of_cell? w _ hw366_1)).trans hw366_1), ((HB.out.cell (World.block_lt_of_cell? w _ hw366_2)).trans hw366_2), ((HB.out.cell (World.block_lt_of_cell? w _ hw366_3)).trans hw366_3), ((HB.out.cell (World.block_lt_of_cell? w _ hw366_4)).trans hw366_4), ((HB.out.cell (World.block_lt_of_cell? w _ hw366_5)).trans hw366_5), hx370_0, hx371_0, ((HB.out.cell (World.block_lt_of_cell? w _ hw372_0)).trans hw372_0), ((HB.out.cell (World.block_lt_of_cell? w _ hw372_1)).trans hw372_1), ((HB.out.cell (World.block_lt_of_cell? w _ hw372_2)).trans hw372_2), ((HB.out.cell (World.block_lt_of_cell? w _ hw372_3)).trans hw372_3), ((HB.out.cell (World.block_lt_of_cell? w _ hw372_4)).trans hw372_4), ((HB.out.cell (World.block_lt_of_cell? w _ hw372_5)).trans hw372_5)⟩ (fun hHeld => ?_); refine with_tabW swageref27_Cost.tab11 swageref27_Cost.bits11 (fun HT_ HW_ => ?_)
                generalize wr.drew = w28 at HO_3 HO_4 HL361_0 HR361_0 HB HL370_0 HR366_5 HR370_0 HR372_5 hx366_0 hx366_1 hx366_2 hx366_3 hx366_4 hx366_5 hx370_0 hx371_0 hx372_0 hx372_1 hx372_2 hx372_3 hx372_4 hx372_5 hHeld ⊢
                refine pure_ (i := 0) (N := some 29) (v := ?_) (a' := ?_) #[tT,fF,fF,fF,fF,fF,fF,fF,fF,fF,fF,fF,fF,fF,fF,fF,fF] rfl rfl (zAZ HT_.out (by kernel_rfl)) (fun _ _ _ h => h) (Or.inl ⟨by rfl, ?_⟩) ?_ ?_
                rotate_left
                ·intro w'
                 go_simp
                 with_reducible rfl
                rotate_left
                ·simp only [Act.put, List.setIfInBounds_toArray, List.set_cons_zero, List.set_cons_succ, i64_w, i32_w]
                 rfl
                refine pure_ (i := 1) (N := some 30) (v := ?_) (a' := ?_) #[tT,tT,fF,fF,fF,fF,fF,fF,fF,fF,fF,fF,fF,fF,fF,fF,fF] rfl rfl (zAZ HT_.out (by kernel_rfl)) (fun _ _ _ h => h) (Or.inl ⟨by rfl, ?_⟩) ?_ ?_
                rotate_left
                ·intro w'
                 go_simp
                 with_reducible rfl
                rotate_left
                ·simp only [Act.put, List.setIfInBounds_toArray, List.set_cons_zero, List.set_cons_succ, i64_w, i32_w]
                 rfl
                refine pure_ (i := 2) (N := some 31) (v := ?_) (a' := ?_) #[tT,tT,tT,fF,fF,fF,fF,fF,fF,fF,fF,fF,fF,fF,fF,fF,fF] rfl rfl (zAZ HT_.out (by kernel_rfl)) (fun _ _ _ h => h) (Or.inl ⟨by rfl, ?_⟩) ?_ ?_
                rotate_left
                ·intro w'
                 go_simp
                 with_reducible rfl
                rotate_left
                ·simp only [Act.put, List.setIfInBounds_toArray, List.set_cons_zero, List.set_cons_succ, i64_w, i32_w]
                 rfl
                refine pure_ (i := 5) (N := some 34) (v := ?_) (a' := ?_) #[tT,tT,tT,fF,fF,tT,fF,fF,fF,fF,fF,fF,fF,fF,fF,fF,fF] rfl rfl (zAZ HT_.out (by kernel_rfl)) (fun _ _ _ h => h) (Or.inl ⟨by rfl, ?_⟩) ?_ ?_
                rotate_left
                ·intro w'
                 go_simp
                 with_reducible rfl
                rotate_left
                ·simp only [Act.put, List.setIfInBounds_toArray, List.set_cons_zero, List.set_cons_succ, i64_w, i32_w]
                 rfl
                refine pure_ (i := 6) (N := some 35) (v := ?_) (a' := ?_) #[tT,tT,tT,fF,fF,tT,tT,fF,fF,fF,fF,fF,fF,fF,fF,fF,fF] rfl rfl (zAZ HT_.out (by kernel_rfl)) (fun _ _ _ h => h) (Or.inl ⟨by rfl, ?_⟩) ?_ ?_
                rotate_left
                ·intro w'
                 go_simp
                 with_reducible rfl
                rotate_left
                ·simp only [Act.put, List.setIfInBounds_toArray, List.set_cons_zero, List.set_cons_succ, i64_w, i32_w]
                 rfl
                refine pure_ (i := 7) (N := some 36) (v := ?_) (a' := ?_) #[tT,tT,tT,fF,fF,tT,tT,tT,fF,fF,fF,fF,fF,fF,fF,fF,fF] rfl rfl (zAZ HT_.out (by kernel_rfl)) (fun _ _ _ h => h) (Or.inl ⟨by rfl, ?_⟩) ?_ ?_
                rotate_left
                ·intro w'
                 go_simp
                 with_reducible rfl
                rotate_left
                ·simp only [Act.put, List.setIfInBounds_toArray, List.set_cons_zero, List.set_cons_succ, i64_w, i32_w]
                 rfl
                refine pure_ (i := 8) (N := some 37) (v := ?_) (a' := ?_) #[tT,tT,tT,fF,fF,tT,tT,tT,tT,fF,fF,fF,fF,fF,fF,fF,fF] rfl rfl (zAZ HT_.out (by kernel_rfl)) (fun _ _ _ h => h) (Or.inl ⟨by rfl, ?_⟩) ?_ ?_
                rotate_left
                ·intro w'
                 go_simp
                 with_reducible rfl
                rotate_left
                ·simp only [Act.put, List.setIfInBounds_toArray, List.set_cons_zero, List.set_cons_succ, i64_w, i32_w]
                 rfl
                refine pure_ (i := 10) (N := some 39) (v := ?_) (a' := ?_) #[tT,tT,tT,fF,fF,tT,tT,tT,tT,fF,tT,fF,fF,fF,fF,fF,fF] rfl rfl (zAZ HT_.out (by kernel_rfl)) (fun _ _ _ h => h) (Or.inl ⟨by rfl, ?_⟩) ?_ ?_
                rotate_left
                ·intro w'
                 go_simp
                 with_reducible rfl
                rotate_left
                ·simp only [Act.put, List.setIfInBounds_toArray, List.set_cons_zero, List.set_cons_succ, i64_w, i32_w]
                 rfl
                refine take_ (i := 3) (N := some 32) (v := ?_) (a' := ?_) #[tT,tT,tT,tT,fF,tT,tT,tT,tT,fF,tT,fF,fF,fF,fF,fF,fF] rfl rfl (zBN HT_.out HW_.out (by kernel_rfl)) (fun _ _ _ h => h) (Or.inl ⟨by rfl, ?_⟩) hHeld ?_ ?_
                rotate_left
                ·rintro w' ⟨s0, s1, s2, s3, s4, s5, s6, s7, s8, s9, s10, s11, s12, s13⟩
                 go_simp
                 with_reducible rfl
                rotate_left
                ·simp only [Act.put, List.setIfInBounds_toArray, List.set_cons_zero, List.set_cons_succ, i64_w, i32_w]
                 rfl
                refine take_ (i := 9) (N := some 38) (v := ?_) (a' := ?_) #[tT,tT,tT,tT,fF,tT,tT,tT,tT,tT,tT,fF,fF,fF,fF,fF,fF] rfl rfl (zBN HT_.out HW_.out (by kernel_rfl)) (fun _ _ _ h => h) (Or.inl ⟨by rfl, ?_⟩) hHeld ?_ ?_
                rotate_left
                ·rintro w' ⟨s0, s1, s2, s3, s4, s5, s6, s7, s8, s9, s10, s11, s12, s13⟩
                 go_simp
                 with_reducible rfl
                rotate_left
                ·simp only [Act.put, List.setIfInBounds_toArray, List.set_cons_zero, List.set_cons_succ, i64_w, i32_w]
                 rfl
                refine pure_ (i := 11) (N := some 40) (v := ?_) (a' := ?_) #[tT,tT,tT,tT,fF,tT,tT,tT,tT,tT,tT,tT,fF,fF,fF,fF,fF] rfl rfl (zAZ HT_.out (by kernel_rfl)) (fun _ _ _ h => h) (Or.inl ⟨by rfl, ?_⟩) ?_ ?_
                rotate_left
                ·intro w'
                 go_simp
                 with_reducible rfl
                rotate_left
                ·simp only [Act.put, List.setIfInBounds_toArray, List.set_cons_zero, List.set_cons_succ, i64_w, i32_w]
                 rfl
                refine take_ (i := 12) (N := some 41) (v := ?_) (a' := ?_) #[tT,tT,tT,tT,fF,tT,tT,tT,tT,tT,tT,tT,tT,fF,fF,fF,fF] rfl rfl (zBN HT_.out HW_.out (by kernel_rfl)) (fun _ _ _ h => h) (Or.inl ⟨by rfl, ?_⟩) hHeld ?_ ?_
                rotate_left
                ·rintro w' ⟨s0, s1, s2, s3, s4, s5, s6, s7, s8, s9, s10, s11, s12, s13⟩
                 go_simp
                 with_reducible rfl
                rotate_left
                ·simp only [Act.put, List.setIfInBounds_toArray, List.set_cons_zero, List.set_cons_succ, i64_w, i32_w]
                 rfl
                refine pure_ (i := 13) (N := some 42) (v := ?_) (a' := ?_) #[tT,tT,tT,tT,fF,tT,tT,tT,tT,tT,tT,tT,tT,tT,fF,fF,fF] rfl rfl (zAZ HT_.out (by kernel_rfl)) (fun _ _ _ h => h) (Or.inl ⟨by rfl, ?_⟩) ?_ ?_
                rotate_left
                ·intro w'
                 go_simp
                 with_reducible rfl
                rotate_left
                ·simp only [Act.put, List.setIfInBounds_toArray, List.set_cons_zero, List.set_cons_succ, i64_w, i32_w]
                 rfl
                refine take_ (i := 14) (N := some 43) (v := ?_) (a' := ?_) #[tT,tT,tT,tT,fF,tT,tT,tT,tT,tT,tT,tT,tT,tT,tT,fF,fF] rfl rfl (zBN HT_.out HW_.out (by kernel_rfl)) (fun _ _ _ h => h) (Or.inl ⟨by rfl, ?_⟩) hHeld ?_ ?_
                rotate_left
                ·rintro w' ⟨s0, s1, s2, s3, s4, s5, s6, s7, s8, s9, s10, s11, s12, s13⟩
                 go_simp
                 with_reducible rfl
                rotate_left
                ·simp only [Act.put, List.setIfInBounds_toArray, List.set_cons_zero, List.set_cons_succ, i64_w, i32_w]
                 rfl
                refine one_ (i := 4) (N := some 33) #[tT,tT,tT,tT,tT,tT,tT,tT,tT,tT,tT,tT,tT,tT,tT,fF,fF] rfl rfl (one_of HT_.out (by kernel_rfl)) (by decide) (fun K hK => ?_)
                refine goes_ Try.func45 (by kernel_rfl) rfl #[.agg #[.int .i64 ((zAF l0 x7_1).f0), .int .i64 ((zAF l0 x7_1).f1), .int .i64 ((zAF l0 x7_1).f2), .int .i64 ((zAF l0 x7_1).f3), .int .i64 ((zAF l0 x7_1).f4), .slice A366_5 ((zAF l0 x7_1).f5).length c366_5]] (by rfl) rfl rfl (by (try simp only [List.map_toArray, List.map_cons, List.map_nil]); first | done | rfl | (simp only [List.length_drop, List.length_take]; rfl)) ?_
                with_reducible refine (swageref14_Uses.calls k2 ((zAF l0 x7_1).f0) ((zAF l0 x7_1).f1) ((zAF l0 x7_1).f2) ((zAF l0 x7_1).f3) ((zAF l0 x7_1).f4) _ _ ((zAF l0 x7_1).f5) t367 _ ?side1 ?side2 A14.out).mono ?_
                (case side1 => repeat (first | exact (Kd.C_below HR366_5.out HB.out) | (with_reducible refine Kd.C_alloc ?_ _) | (with_reducible refine Kd.C_drewN ?_ _) | (with_reducible refine Kd.C_drew ?_)))
                (case side2 => exact HC366_5.out)
                rintro e w29 ⟨v368, rfl, ho0, hb⟩
                have HS6_ := (hb.cell (World.block_lt_of_cell? _ _ (hHeld.2.2.2.2.2.2.1))).trans (hHeld.2.2.2.2.2.2.1)
                have HS7_ := (hb.cell (World.block_lt_of_cell? _ _ (hHeld.2.2.2.2.2.2.2.1))).trans (hHeld.2.2.2.2.2.2.2.1)
                refine ⟨_, rfl, ?_⟩
                have n0_ := Aside0.mk (Kd.S_elder' (by (with_reducible repeat (first | apply Kd.S_alloc | apply Kd.S_drewN | apply Kd.S_drew)); exact HO_3.out) (Kd.R_base ho0) hb)
                have n1_ := Aside0.mk (Kd.R_elder' (by (with_reducible repeat (first | apply Kd.R_alloc | apply Kd.R_drewN | apply Kd.R_drew)); exact HO_4.out) (Kd.R_base ho0) hb)
                have n2_ := Aside0.mk (Kd.R_elder' (by (with_reducible repeat (first | apply Kd.R_alloc | apply Kd.R_drewN | apply Kd.R_drew)); exact HL361_0.out) (Kd.R_base ho0) hb)
                have n3_ := Aside0.mk (Kd.R_elder' (by (with_reducible repeat (first | apply Kd.R_alloc | apply Kd.R_drewN | apply Kd.R_drew)); exact HL370_0.out) (Kd.R_base ho0) hb)
                have n4_ := Aside0.mk (Kd.R_lower (Kd.R_new' (Kd.R_new' (Kd.R_new' ho0 (Kd.R_lt (by (with_reducible repeat (first | apply Kd.R_alloc | apply Kd.R_drewN | apply Kd.R_drew)); exact HO_4.out))) (Kd.R_lt (by (with_reducible repeat (first | apply Kd.R_alloc | apply Kd.R_drewN | apply Kd.R_drew)); exact HL361_0.out))) (Kd.R_lt (by (with_reducible repeat (first | apply Kd.R_alloc | apply Kd.R_drewN | apply Kd.R_drew)); exact HL370_0.out))) (zAM (by repeat (first | (with_reducible first | exact HB.out | apply zAC | apply zAA | apply zAD) | exact HB.out))))
                have n5_ := Aside0.mk (Kd.C_below (by repeat (first | (with_reducible exact HR361_0.out) | (with_reducible refine Kd.C_alloc ?_ _) | (with_reducible refine Kd.C_drewN ?_ _) | (with_reducible refine Kd.C_drew ?_) | exact HR361_0.out)) hb)
                have n6_ := Aside0.mk (Kd.C_below (by repeat (first | (with_reducible exact HR370_0.out) | (with_reducible refine Kd.C_alloc ?_ _) | (with_reducible refine Kd.C_drewN ?_ _) | (with_reducible refine Kd.C_drew ?_) | exact HR370_0.out)) hb)
                have n7_ := Aside0.mk (zAL (by repeat (first | (with_reducible first | exact HB.out | apply zAC | apply zAA | apply zAD) | exact HB.out)) hb)
                clear HO_3
                clear HO_4
                clear HL361_0
                clear HL370_0
                clear HR361_0
                clear HR370_0
                clear HB
                have HO_3 := n0_
                have HO_4 := n1_
                have HL361_0 := n2_
                have HL370_0 := n3_
                have HO369 := n4_
                have HR361_0 := n5_
                have HR370_0 := n6_
                have HB := n7_
                clear n0_ n1_ n2_ n3_ n4_ n5_ n6_ n7_
                (try clear hb)
                (try clear hb2)
                (try clear hk)
                (try clear hi)
                (try clear ho0)
                refine hK.out _ _ ⟨((HB.out.cell (World.block_lt_of_cell? w _ hw366_0)).trans hw366_0), ((HB.out.cell (World.block_lt_of_cell? w _ hw366_1)).trans hw366_1), ((HB.out.cell (World.block_lt_of_cell? w _ hw366_2)).trans hw366_2), ((HB.out.cell (World.block_lt_of_cell? w _ hw366_3)).trans hw366_3), ((HB.out.cell (World.block_lt_of_cell? w _ hw366_4)).trans hw366_4), ((HB.out.cell (World.block_lt_of_cell? w _ hw366_5)).trans hw366_5), HS6_, HS7_, ((HB.out.cell (World.block_lt_of_cell? w _ hw372_0)).trans hw372_0), ((HB.out.cell (World.block_lt_of_cell? w _ hw372_1)).trans hw372_1), ((HB.out.cell (World.block_lt_of_cell? w _ hw372_2)).trans hw372_2), ((HB.out.cell (World.block_lt_of_cell? w _ hw372_3)).trans hw372_3), ((HB.out.cell (World.block_lt_of_cell? w _ hw372_4)).trans hw372_4), ((HB.out.cell (World.block_lt_of_cell? w _ hw372_5)).trans hw372_5)⟩ (fun hHeld => ?_)
                clear hK K
                refine norm_ (a' := ?_) ?_ ?_
                rotate_left
                ·show Act.put _ (some 33) _ = _
                 simp only [Act.put, List.setIfInBounds_toArray, List.set_cons_zero, List.set_cons_succ, i64_w, i32_w]
                 rfl
                refine one_ (i := 15) (N := some 44) #[tT,tT,tT,tT,tT,tT,tT,tT,tT,tT,tT,tT,tT,tT,tT,tT,fF] rfl rfl (one_of HT_.out (by kernel_rfl)) (by decide) (fun K hK => ?_)
                refine goes_ Try.func46 (by kernel_rfl) rfl #[.agg #[.int .i64 ((zAF l0 (rd (rd_L1 t355 x7_1) x8_2)).f0), .int .i64 ((zAF l0 (rd (rd_L1 t355 x7_1) x8_2)).f1), .int .i64 ((zAF l0 (rd (rd_L1 t355 x7_1) x8_2)).f2), .int .i64 ((zAF l0 (rd (rd_L1 t355 x7_1) x8_2)).f3), .int .i64 ((zAF l0 (rd (rd_L1 t355 x7_1) x8_2)).f4), .slice A372_5 ((zAF l0 (rd (rd_L1 t355 x7_1) x8_2)).f5).length c372_5]] (by rfl) rfl rfl (by (try simp only [List.map_toArray, List.map_cons, List.map_nil]); first | done | rfl | (simp only [List.length_drop, List.length_take]; rfl)) ?_
                with_reducible refine (swageref14_Sets.calls ((zAF l0 (rd (rd_L1 t355 x7_1) x8_2)).f0) ((zAF l0 (rd (rd_L1 t355 x7_1) x8_2)).f1) ((zAF l0 (rd (rd_L1 t355 x7_1) x8_2)).f2) ((zAF l0 (rd (rd_L1 t355 x7_1) x8_2)).f3) ((zAF l0 (rd (rd_L1 t355 x7_1) x8_2)).f4) _ _ ((zAF l0 (rd (rd_L1 t355 x7_1) x8_2)).f5) t373 _ ?side1 ?side2 A18.out).mono ?_
                (case side1 => repeat (first | exact (Kd.C_below HR372_5.out HB.out) | (with_reducible refine Kd.C_alloc ?_ _) | (with_reducible refine Kd.C_drewN ?_ _) | (with_reducible refine Kd.C_drew ?_)))
                (case side2 => exact HC372_5.out)
                rintro e w30 ⟨rfl, hb⟩
                have HS6_ := (hb.cell (World.block_lt_of_cell? _ _ (hHeld.2.2.2.2.2.2.1))).trans (hHeld.2.2.2.2.2.2.1)
                have HS7_ := (hb.cell (World.block_lt_of_cell? _ _ (hHeld.2.2.2.2.2.2.2.1))).trans (hHeld.2.2.2.2.2.2.2.1)
                refine ⟨_, rfl, ?_⟩
                have n0_ := Aside0.mk (Kd.S_below (by (with_reducible repeat (first | apply Kd.S_alloc | apply Kd.S_drewN | apply Kd.S_drew)); exact HO_3.out) hb)
                have n1_ := Aside0.mk (Kd.R_below (by (with_reducible repeat (first | apply Kd.R_alloc | apply Kd.R_drewN | apply Kd.R_drew)); exact HO_4.out) hb)
                have n2_ := Aside0.mk (Kd.R_below (by (with_reducible repeat (first | apply Kd.R_alloc | apply Kd.R_drewN | apply Kd.R_drew)); exact HL361_0.out) hb)
                have n3_ := Aside0.mk (Kd.R_below (by (with_reducible repeat (first | apply Kd.R_alloc | apply Kd.R_drewN | apply Kd.R_drew)); exact HL370_0.out) hb)
                have n4_ := Aside0.mk (Kd.R_below (by (with_reducible repeat (first | apply Kd.R_alloc | apply Kd.R_drewN | apply Kd.R_drew)); exact HO369.out) hb)
                have n5_ := Aside0.mk (Kd.C_below (by repeat (first | (with_reducible exact HR361_0.out) | (with_reducible refine Kd.C_alloc ?_ _) | (with_reducible refine Kd.C_drewN ?_ _) | (with_reducible refine Kd.C_drew ?_) | exact HR361_0.out)) hb)
                have n6_ := Aside0.mk (Kd.C_below (by repeat (first | (with_reducible exact HR370_0.out) | (with_reducible refine Kd.C_alloc ?_ _) | (with_reducible refine Kd.C_drewN ?_ _) | (with_reducible refine Kd.C_drew ?_) | exact HR370_0.out)) hb)
                have n7_ := Aside0.mk (zAL (by repeat (first | (with_reducible first | exact HB.out | apply zAC | apply zAA | apply zAD) | exact HB.out)) hb)
                clear HO_3
                clear HO_4
                clear HL361_0
                clear HL370_0
                clear HO369
                clear HR361_0
                clear HR370_0
                clear HB
                have HO_3 := n0_
                have HO_4 := n1_
                have HL361_0 := n2_
                have HL370_0 := n3_
                have HO369 := n4_
                have HR361_0 := n5_
                have HR370_0 := n6_
                have HB := n7_
                clear n0_ n1_ n2_ n3_ n4_ n5_ n6_ n7_
                (try clear hb)
                (try clear hb2)
                (try clear hk)
                (try clear hi)
                obtain ⟨Ao31, co31, eo31⟩ := Kd.R_slice HO369.out
                (first | subst eo31 | (injection eo31 with f1_ f2_ f3_; have f4_ := f1_.symm; have f5_ := f3_.symm; clear f1_ f2_ f3_; subst f4_; subst f5_))
                refine hK.out _ _ ⟨((HB.out.cell (World.block_lt_of_cell? w _ hw366_0)).trans hw366_0), ((HB.out.cell (World.block_lt_of_cell? w _ hw366_1)).trans hw366_1), ((HB.out.cell (World.block_lt_of_cell? w _ hw366_2)).trans hw366_2), ((HB.out.cell (World.block_lt_of_cell? w _ hw366_3)).trans hw366_3), ((HB.out.cell (World.block_lt_of_cell? w _ hw366_4)).trans hw366_4), ((HB.out.cell (World.block_lt_of_cell? w _ hw366_5)).trans hw366_5), HS6_, HS7_, ((HB.out.cell (World.block_lt_of_cell? w _ hw372_0)).trans hw372_0), ((HB.out.cell (World.block_lt_of_cell? w _ hw372_1)).trans hw372_1), ((HB.out.cell (World.block_lt_of_cell? w _ hw372_2)).trans hw372_2), ((HB.out.cell (World.block_lt_of_cell? w _ hw372_3)).trans hw372_3), ((HB.out.cell (World.block_lt_of_cell? w _ hw372_4)).trans hw372_4), ((HB.out.cell (World.block_lt_of_cell? w _ hw372_5)).trans hw372_5)⟩ (fun hHeld => ?_)
                clear hK K
                refine norm_ (a' := ?_) ?_ ?_
                rotate_left
                ·show Act.put _ (some 44) _ = _
                 simp only [Act.put, List.setIfInBounds_toArray, List.set_cons_zero, List.set_cons_succ, i64_w, i32_w]
                 rfl
                refine one_ (i := 16) (N := some 45) #[tT,tT,tT,tT,tT,tT,tT,tT,tT,tT,tT,tT,tT,tT,tT,tT,tT] rfl rfl (one_of HT_.out (by kernel_rfl)) (by decide) (fun K hK => ?_)
                refine goes_ Try.func44 (by kernel_rfl) rfl #[.slice Ao31 t367.length co31, .int .i64 t373] (by rfl) rfl rfl (by (try simp only [List.map_toArray, List.map_cons, List.map_nil]); first | done | rfl | (simp only [List.length_drop, List.length_take]; rfl)) ?_
                with_reducible refine (swageref27_has.calls k2 _ _ t367 t373 false _ ?side1 ?side2 A19.out).mono ?_
                (case side1 => repeat (first | exact (Kd.R_reads' HO369.out).2.2 | (with_reducible refine Kd.C_alloc ?_ _) | (with_reducible refine Kd.C_drewN ?_ _) | (with_reducible refine Kd.C_drew ?_)))
                (case side2 => exact (Kd.R_reads' HO369.out).2.1)
                rintro e w' ⟨rfl, ⟨nd, rfl⟩⟩
                refine ⟨_, rfl, ?_⟩
                refine hK.out _ _ ⟨((HB.out.cell (World.block_lt_of_cell? w _ hw366_0)).trans hw366_0), ((HB.out.cell (World.block_lt_of_cell? w _ hw366_1)).trans hw366_1), ((HB.out.cell (World.block_lt_of_cell? w _ hw366_2)).trans hw366_2), ((HB.out.cell (World.block_lt_of_cell? w _ hw366_3)).trans hw366_3), ((HB.out.cell (World.block_lt_of_cell? w _ hw366_4)).trans hw366_4), ((HB.out.cell (World.block_lt_of_cell? w _ hw366_5)).trans hw366_5), hHeld.2.2.2.2.2.2.1, hHeld.2.2.2.2.2.2.2.1, ((HB.out.cell (World.block_lt_of_cell? w _ hw372_0)).trans hw372_0), ((HB.out.cell (World.block_lt_of_cell? w _ hw372_1)).trans hw372_1), ((HB.out.cell (World.block_lt_of_cell? w _ hw372_2)).trans hw372_2), ((HB.out.cell (World.block_lt_of_cell? w _ hw372_3)).trans hw372_3), ((HB.out.cell (World.block_lt_of_cell? w _ hw372_4)).trans hw372_4), ((HB.out.cell (World.block_lt_of_cell? w _ hw372_5)).trans hw372_5)⟩ (fun hHeld => ?_)
                clear hK K
                refine norm_ (a' := ?_) ?_ ?_
                rotate_left
                ·show Act.put _ (some 45) _ = _
                 simp only [Act.put, List.setIfInBounds_toArray, List.set_cons_zero, List.set_cons_succ, i64_w, i32_w]
                 rfl
                refine done_ (done_of HT_.out (by kernel_rfl)) ?_
                try go_wp2
                go_roundg k2
                case measure => have := HK1.out; have := HK2.out; omega
                case rel => exact ⟨(x6_2), (wrap64 (x8_2 + 1)), (by first | rfl | (simp; done) | (simp [*]; done)), (by first | rfl | (simp; done) | (simp [*]; done)), H', ⟨by have := HK1.out; have := HK2.out; omega⟩, ⟨by (with_reducible repeat (first | apply Kd.S_alloc | apply Kd.S_drewN | apply Kd.S_drew)); exact Kd.S_mono HO_3.out (fun _ hk => hk.1)⟩, ⟨by (with_reducible repeat (first | apply Kd.R_alloc | apply Kd.R_drewN | apply Kd.R_drew)); exact Kd.R_mono HO_4.out (fun _ hk => trivial)⟩, ⟨by repeat (first | (with_reducible first | exact HB.out | apply zAC | apply zAA | apply zAD) | exact HB.out)⟩⟩
              ·rw [if_neg c17] at H
               exact absurd H (by simp)
             ·rw [if_neg c16] at H
              exact absurd H (by simp)
            ·rw [if_neg c15] at H
             exact absurd H (by simp)
           ·rw [if_neg c13] at H
            exact absurd H (by simp)
          ·rw [if_neg c12] at H
           have c12b0 : decide (x8_2 < ((rd_L1 t355 x7_1).length : Int)) = false := decide_eq_false c12
           clear c12
           by_cases c32 : x7_1 < (l0.length : Int)
           ·rw [if_pos c32] at H
            have c32b0 : decide (x7_1 < (l0.length : Int)) = true := decide_eq_true c32
            clear c32
            replace H := Option.bind_eq_some_iff.mp H
            obtain ⟨t363, A330, H⟩ := H
            replace H : (if x7_1 < (x4_1.length : Int) then ((some (x4_1.set (x7_1 : Int).toNat (wrap64 (x6_2 + t363)) : List Int)).bind fun y364 => (swageref27_Cost.l0 k2 l0 t355 y364 (mx x5_1 (rd y364 x7_1)) (wrap64 (x6_2 + 1)) (wrap64 (x7_1 + 1)))) else (none)) = some r := H
            have A33 := Aside0.mk A330
            clear A330
            by_cases c34 : x7_1 < (x4_1.length : Int)
            ·rw [if_pos c34] at H
             have c34b0 : decide (x7_1 < (x4_1.length : Int)) = true := decide_eq_true c34
             clear c34
             obtain ⟨y364, hy364⟩ : ∃ y_ : List Int, y_ = (x4_1.set (x7_1 : Int).toNat (wrap64 (x6_2 + t363))) := ⟨_, rfl⟩
             replace H : (swageref27_Cost.l0 k2 l0 t355 y364 (mx x5_1 (rd y364 x7_1)) (wrap64 (x6_2 + 1)) (wrap64 (x7_1 + 1))) = some r := by first | (rw [hy364]; with_reducible exact H) | (have H2_ := (Option.bind_some _ _).symm.trans H; rw [hy364]; with_reducible exact H2_) | (have H2_ := (Option.bind_some _ _).symm.trans H; with_reducible exact H2_) | with_reducible exact H | (rw [hy364]; exact H) | exact H
             have Ny364 := Aside0.mk hy364
             clear hy364
             obtain ⟨ji36, hji36⟩ : ∃ j_ : Int, (mx x5_1 (rd y364 x7_1)) = j_ := ⟨_, rfl⟩
             replace H : (swageref27_Cost.l0 k2 l0 t355 y364 ji36 (wrap64 (x6_2 + 1)) (wrap64 (x7_1 + 1))) = some r := by first | (rw [hji36] at H; exact H) | (simp only [hji36] at H ⊢; exact H)
             (try rw [hji36] at A33)
             have hji36_ : (if x5_1 < (rd y364 x7_1) then (rd y364 x7_1) else x5_1) = ji36 := hji36
             have H' := Aside0.mk H
             clear H
             have p361 : 0 ≤ (x7_1 : Int) := of_decide_eq_true (by first | (with_reducible assumption) | assumption)
             have q361 : x7_1 < (t355.length : Int) := of_decide_eq_true (by first | (with_reducible assumption) | assumption)
             obtain ⟨ad361, A361_0, c361_0, e361, hx361_0, hl361_0, hi361_0⟩ := at_L1 (Kd.S_reads' HO_3.out).2.2 x7_1 p361 q361
             cases e361
             obtain ⟨ce361, hce361, hMe361, hcc361⟩ := Kd.S_get HO_3.out [] x7_1 p361 (by first | exact q361 | exact of_decide_eq_true (by first | (with_reducible assumption) | assumption) | (have e_ := (Kd.S_reads' HO_3.out).1; omega))
             obtain ⟨ve361_0, rfl, ge361_0⟩ := hMe361
             have hv361_0 := hcc361 0 _ rfl
             rw [Nat.add_zero, show ((Kd.slice 3 (Kd.int .i64))).sz = 1 from rfl, Nat.mul_one] at hv361_0
             replace hv361_0 := Option.some.inj (hv361_0.symm.trans hx361_0)
             rw [hv361_0] at ge361_0
             have HL361_0 := Aside0.mk (show Kd.R (Kd.int .i64) 3 _ _ _ _ (rd_L1 t355 x7_1) from ge361_0)
             clear hv361_0 ge361_0
             clear hcc361 hce361
             have HR361_0 := Aside0.mk hi361_0
             have HC361_0 := Aside0.mk hl361_0
             clear hi361_0 hl361_0
             replace p361 := eq_true p361
             replace q361 := eq_true q361
             have p362 : 0 ≤ (x7_1 : Int) := of_decide_eq_true (by first | (with_reducible assumption) | assumption)
             have q362 : x7_1 < (l0.length : Int) := of_decide_eq_true (by first | (with_reducible assumption) | assumption)
             obtain ⟨ad362, A362_5, c362_5, e362, hx362_0, hx362_1, hx362_2, hx362_3, hx362_4, hx362_5, hl362_5, hi362_5⟩ := zBT HR0.out x7_1 p362 q362
             cases e362
             replace hx362_0 := (HB.out.cell (World.block_lt_of_cell? w _ hx362_0)).trans hx362_0
             replace hx362_1 := (HB.out.cell (World.block_lt_of_cell? w _ hx362_1)).trans hx362_1
             replace hx362_2 := (HB.out.cell (World.block_lt_of_cell? w _ hx362_2)).trans hx362_2
             replace hx362_3 := (HB.out.cell (World.block_lt_of_cell? w _ hx362_3)).trans hx362_3
             replace hx362_4 := (HB.out.cell (World.block_lt_of_cell? w _ hx362_4)).trans hx362_4
             replace hx362_5 := (HB.out.cell (World.block_lt_of_cell? w _ hx362_5)).trans hx362_5
             have HR362_5 := Aside0.mk hi362_5
             have HC362_5 := Aside0.mk hl362_5
             clear hi362_5 hl362_5
             replace p362 := eq_true p362
             replace q362 := eq_true q362
             go_wp2_with (first | ((with_reducible refine zAV (f := 15) rfl ?_); refine zBO (some 65) rfl rfl Try.func15 (by kernel_rfl) rfl #[.agg #[.int .i64 ((zAF l0 x7_1).f0), .int .i64 ((zAF l0 x7_1).f1), .int .i64 ((zAF l0 x7_1).f2), .int .i64 ((zAF l0 x7_1).f3), .int .i64 ((zAF l0 x7_1).f4), .slice A362_5 ((zAF l0 x7_1).f5).length c362_5]] rfl (by (try simp only [List.map_toArray, List.map_cons, List.map_nil]); first | done | rfl | (simp only [List.length_drop, List.length_take]; rfl)) ?_; (with_reducible refine (swageref27_Latency.calls k2 ((zAF l0 x7_1).f0) ((zAF l0 x7_1).f1) ((zAF l0 x7_1).f2) ((zAF l0 x7_1).f3) ((zAF l0 x7_1).f4) _ _ ((zAF l0 x7_1).f5) t363 _ ?side1 ?side2 A33.out).mono ?_); (case side1 => repeat (first | exact (Kd.C_below HR362_5.out HB.out) | (with_reducible refine Kd.C_alloc ?_ _) | (with_reducible refine Kd.C_drewN ?_ _) | (with_reducible refine Kd.C_drew ?_))); (case side2 => exact HC362_5.out); rintro e w37 ⟨rfl, hb⟩; refine ⟨_, rfl, ?_⟩; have n0_ := Aside0.mk (Kd.S_below (by (with_reducible repeat (first | apply Kd.S_alloc | apply Kd.S_drewN | apply Kd.S_drew)); exact HO_3.out) hb); have n1_ := Aside0.mk (Kd.R_below (by (with_reducible repeat (first | apply Kd.R_alloc | apply Kd.R_drewN | apply Kd.R_drew)); exact HO_4.out) hb); have n2_ := Aside0.mk (Kd.R_below (by (with_reducible repeat (first | apply Kd.R_alloc | apply Kd.R_drewN | apply Kd.R_drew)); exact HL361_0.out) hb); have n3_ := Aside0.mk (Kd.C_below (by repeat (first | (with_reducible exact HR361_0.out) | (with_reducible refine Kd.C_alloc ?_ _) | (with_reducible refine Kd.C_drewN ?_ _) | (with_reducible refine Kd.C_drew ?_) | exact HR361_0.out)) hb); have n4_ := Aside0.mk (zAL (by repeat (first | (with_reducible first | exact HB.out | apply zAC | apply zAA | apply zAD) | exact HB.out)) hb); clear HO_3; clear HO_4; clear HL361_0; clear HR361_0; clear HB; have HO_3 := n0_; have HO_4 := n1_; have HL361_0 := n2_; have HR361_0 := n3_; have HB := n4_; clear n0_ n1_ n2_ n3_ n4_; (try clear hb); (try clear hb2); (try clear hk); (try clear hi); have p35 : 0 ≤ (x7_1 : Int) := of_decide_eq_true (by first | (with_reducible assumption) | assumption); have q35 : (x7_1 : Int) < ((x4_1.length : Int) : Int) := of_decide_eq_true (by first | (with_reducible assumption) | assumption); obtain ⟨go35, co35, eo35, gb35, gl35, cl35, HG35⟩ := Kd.R_form HO_4.out (by omega); (first | cases eo35 | (injection eo35 with ea_ en_ ec_; (first | subst ea_ | (injection ea_ with ea_; subst ea_)); subst ec_; clear en_)); have GB35 := Aside0.mk gb35; have GG35 := Aside0.mk HG35; clear gb35 gl35 HG35; obtain ⟨hx35_0, hf35_0⟩ := Kd.R_celln 0 HO_4.out (x7_1 : Int) p35 q35; replace p35 := eq_true p35; replace q35 := eq_true q35; obtain ⟨hy38_, hz38_⟩ := Kd.R_celln 0 HO_4.out (x7_1 : Int) (of_decide_eq_true (by first | (with_reducible assumption) | assumption)) (of_decide_eq_true (by first | (with_reducible assumption) | assumption)); have HP38 := Kd.R_putg HO_4.out (x7_1 : Int) (wrap64 (x6_2 + t363))) | ((with_reducible refine gate_store (t := 3) (p := 67) rfl ?_); refine store_event (t := 3) (p := 67) (v := ?vo_w39) (w1 := (w37.setCell ⟨go35, (x7_1 : Int).toNat, none⟩ (.int .i64 (wrap64 (x6_2 + t363))))) ?hg ?ho ?hn ?hr ?_; (case ho => rfl); (case hg => rfl); (case hn => rfl); (case hr => first | (go_simp; done) | (go_simp; rfl)); intro w39 hw; have hg : w37.grownBy w39 (some go35) := (by rw [hw]; exact HP38.2); have hp_ : Kd.R (Kd.int .i64) 3 w39 w.heap.size (fun _ => True) (.slice (some ⟨go35, 0, none⟩) x4_1.length co35) y364 := (by rw [hw, Ny364.out]; exact HP38.1); clear HP38; have n0_ := Aside0.mk (Kd.S_after (v := (.slice (some ⟨go35, 0, none⟩) x4_1.length co35)) (v1 := (.slice (some ⟨go35, 0, none⟩) x4_1.length co35)) (ok := (fun _ => True)) (by (with_reducible repeat (first | apply Kd.S_alloc | apply Kd.S_drewN | apply Kd.S_drew)); exact Kd.S_mono HO_3.out (fun _ hk => ⟨trivial, hk⟩)) hg (.inl rfl)); have n1_ := Aside0.mk (hp_); have n2_ := Aside0.mk (Kd.R_after (v := (.slice (some ⟨go35, 0, none⟩) x4_1.length co35)) (v1 := (.slice (some ⟨go35, 0, none⟩) x4_1.length co35)) (ok := (fun k_ => some k_ ≠ (.slice (some ad361) t355.length co6 : Value).ownBlock)) (by (with_reducible repeat (first | apply Kd.R_alloc | apply Kd.R_drewN | apply Kd.R_drew)); exact Kd.R_mono HL361_0.out (fun _ hk => ⟨hk.2, hk.1⟩)) hg (.inl rfl)); have n3_ := Aside0.mk ((by rw [hw]; exact zAH (HB.out) GB35.out : Below w.heap.size w w39)); clear HO_3; clear HO_4; clear HL361_0; clear HB; have HO_3 := n0_; have HO_4 := n1_; have HL361_0 := n2_; have HB := n3_; clear n0_ n1_ n2_ n3_; clear hg hw hp_; have p365 : 0 ≤ (x7_1 : Int) := of_decide_eq_true (by first | (with_reducible assumption) | assumption); have q365 : x7_1 < (y364.length : Int) := (by have h_ : (x7_1 : Int) < ((x4_1.length : Int) : Int) := of_decide_eq_true (by first | (with_reducible assumption) | assumption); first | (have e_ := (Kd.R_reads' HO_4.out).1; omega) | simpa only [Ny364.out, List.length_set] using h_); have ql365 : ((x7_1 : Int) < ((x4_1.length : Int) : Int)) = True := eq_true (of_decide_eq_true (by first | (with_reducible assumption) | assumption)); obtain ⟨ad365, e365, hx365_0⟩ := Kd.at_int (Kd.R_reads' HO_4.out).2.2 x7_1 p365 q365; obtain rfl : (⟨go35, 0, none⟩ : Addr) = ad365 := (by injection e365); (first | simp only [zBX] at hx365_0 | simp only [add_at] at hx365_0 | simp only [Addr.add, Nat.zero_add] at hx365_0 | skip); replace p365 := eq_true p365; replace q365 := eq_true q365))
             go_roundg k2
             case measure => have := HK1.out; have := HK2.out; omega
             case rel => exact ⟨(y364), (ji36), (wrap64 (x6_2 + 1)), (wrap64 (x7_1 + 1)), (by first | rfl | (simp; done) | (simp only [← hji36] <;> (first | rfl | simp)) | (simp [*]; done)), (by first | rfl | (simp; done) | (simp [*]; done)), (by first | rfl | (simp; done) | (simp [*]; done)), H', ⟨by have := HK1.out; have := HK2.out; omega⟩, ⟨by (with_reducible repeat (first | apply Kd.S_alloc | apply Kd.S_drewN | apply Kd.S_drew)); exact Kd.S_mono HO_3.out (fun _ hk => hk.2)⟩, ⟨by (with_reducible repeat (first | apply Kd.R_alloc | apply Kd.R_drewN | apply Kd.R_drew)); exact HO_4.out⟩, ⟨by repeat (first | (with_reducible first | exact HB.out | apply zAC | apply zAA | apply zAD) | exact HB.out)⟩⟩
            ·rw [if_neg c34] at H
             exact absurd H (by simp)
           ·rw [if_neg c32] at H
            exact absurd H (by simp)
         ·rw [if_neg c11] at H
          exact absurd H (by simp)
        ·rw [if_neg c10] at H
         exact absurd H (by simp)
     ·rw [if_neg c9] at H
      have c9b0 : decide (x7_1 < (t355.length : Int)) = false := decide_eq_false c9
      clear c9
      obtain rfl := Option.some.inj H
      go_wp2
      go_ret
      exact ⟨by first | rfl | (simp [zAO, zAN] <;> rfl) | (simp [*, zAO, zAN] <;> rfl), by repeat (first | (with_reducible first | exact HB.out | apply zAC | apply zAA | apply zAD) | exact HB.out)⟩
  ·rw [if_neg c4] at H
   exact absurd H (by simp)
 ·rw [if_neg c3] at H
  exact absurd H (by simp)
end Go.Proofs.Ytphmlkbmnmicpaa.A
namespace Go.Proofs.Ytphmlkbmnmicpaa.A
open Go.RowKit Go.Proofs.YtphmlkbmnmicpaaW.PrintWords Go.Proofs.YtphmlkbmnmicpaaW.PrintLast Go.Proofs.YtphmlkbmnmicpaaW.PrintMore
attribute [local go_sem] max2_int zBH max_two zBL zBB zBA zBI zBG   -- for this text's walks alone
def swageref27_in.l0 : Nat → List Int → Int → Int → Option (Bool)
 | 0, _, _, _ => none
 | k + 1, x0, x1, x5 => if x5 < (x0.length : Int) then (if 0 ≤ x5 then (if (rd x0 x5) = x1 then (some true) else (swageref27_in.l0 k x0 x1 (wrap64 (x5 + 1)))) else (none)) else (some false)
def swageref27_in.f (k : Nat) (l0 : List Int) (a1 : Int) : Option (Bool) := swageref27_in.l0 k l0 a1 0
set_option maxHeartbeats 8000000 in
set_option maxRecDepth 100000 in
theorem swageref27_in.calls (k : Nat) (A0 : Option Addr) (c0 : Nat) (l0 : List Int) (a1 : Int) (r : Bool) (w : World) (hr0 : Kd.C (Kd.int .i64) w A0 l0.length l0) (hc0 : l0.length ≤ c0) (h : swageref27_in.f k l0 a1 = some r) :
  Calls Try.prog 35 #[.slice A0 l0.length c0, .int .i64 a1] w fun e w' => e = .returned (.bool r) ∧ Drawn0 w w' := by
 have HR0 := Aside0.mk hr0
 have HC0 := Aside0.mk hc0
 clear hr0 hc0
 have H : (swageref27_in.l0 k l0 a1 0) = some r := h
 clear h
 have H' := Aside0.mk H
 clear H
 go_enter Try.func35, Try.ntmps35
 go_wp2
 go_loopg [5] k (fun kq v5 w' => ∃ (x5_1 : Int), v5 = .int .i64 x5_1 ∧ Aside0 (swageref27_in.l0 kq l0 a1 x5_1 = some r) ∧ Aside0 (kq ≤ k) ∧ Drawn0 w w')
 case atStart => exact ⟨(0), (by first | rfl | (simp; done) | (simp [*]; done)), H', ⟨Nat.le_refl _⟩, by repeat (first | exact Drawn0.refl _ | apply Drawn0.step)⟩
 case round =>
  clear H'
  try clear p2
  obtain ⟨x5_1, rfl, HA, HK1, ⟨m1, rfl⟩⟩ := hrel
  cases gk with
  | zero => exact absurd HA.out (by simp [swageref27_in.l0])
  | succ k1 =>
   have H := HA.out
   clear HA
   simp only [swageref27_in.l0] at H
   by_cases c3 : x5_1 < (l0.length : Int)
   ·rw [if_pos c3] at H
    have c3b0 : decide (x5_1 < (l0.length : Int)) = true := decide_eq_true c3
    clear c3
    by_cases c4 : 0 ≤ x5_1
    ·rw [if_pos c4] at H
     have c4b0 : decide (0 ≤ x5_1) = true := decide_eq_true c4
     clear c4
     by_cases c5 : (rd l0 x5_1) = a1
     ·rw [if_pos c5] at H
      have c5b0 : ((rd l0 x5_1) == a1) = true := beq_iff_eq.mpr c5
      have c5b1 : ((rd l0 x5_1) != a1) = false := bne_eq_false_iff_eq.mpr c5
      clear c5
      obtain rfl := Option.some.inj H
      have p287 : 0 ≤ (x5_1 : Int) := of_decide_eq_true (by first | (with_reducible assumption) | assumption)
      have q287 : x5_1 < (l0.length : Int) := of_decide_eq_true (by first | (with_reducible assumption) | assumption)
      obtain ⟨ad287, e287, hx287_0⟩ := Kd.at_int HR0.out x5_1 p287 q287
      cases e287
      replace p287 := eq_true p287
      replace q287 := eq_true q287
      go_wp2
      go_ret
      exact ⟨by first | rfl | (simp; done) | (simp [*]; done), by repeat (first | exact Drawn0.refl _ | apply Drawn0.step)⟩
     ·rw [if_neg c5] at H
      have c5b0 : ((rd l0 x5_1) == a1) = false := beq_eq_false_iff_ne.mpr c5
      have c5b1 : ((rd l0 x5_1) != a1) = true := bne_iff_ne.mpr c5
      have H' := Aside0.mk H
      clear H
      have p287 : 0 ≤ (x5_1 : Int) := of_decide_eq_true (by first | (with_reducible assumption) | assumption)
      have q287 : x5_1 < (l0.length : Int) := of_decide_eq_true (by first | (with_reducible assumption) | assumption)
      obtain ⟨ad287, e287, hx287_0⟩ := Kd.at_int HR0.out x5_1 p287 q287
      cases e287
      replace p287 := eq_true p287
      replace q287 := eq_true q287
      go_wp2
      go_roundg k1
      case measure => have := HK1.out; omega
      case rel => exact ⟨(wrap64 (x5_1 + 1)), (by first | rfl | (simp; done) | (simp [*]; done)), H', ⟨by have := HK1.out; omega⟩, by repeat (first | exact Drawn0.refl _ | apply Drawn0.step)⟩
    ·rw [if_neg c4] at H
     exact absurd H (by simp)
   ·rw [if_neg c3] at H
    have c3b0 : decide (x5_1 < (l0.length : Int)) = false := decide_eq_false c3
    clear c3
    obtain rfl := Option.some.inj H
    go_wp2
    go_ret
    exact ⟨by first | rfl | (simp; done) | (simp [*]; done), by repeat (first | exact Drawn0.refl _ | apply Drawn0.step)⟩
end Go.Proofs.Ytphmlkbmnmicpaa.A
namespace Go.Proofs.Ytphmlkbmnmicpaa.A
open Go.RowKit Go.Proofs.YtphmlkbmnmicpaaW.PrintWords Go.Proofs.YtphmlkbmnmicpaaW.PrintLast Go.Shelf
theorem zCE (i : Nat) (hi : i ≤ 100000) : wrap64 ((i : Int) + 1) = ((i + 1 : Nat) : Int) := by unfold wrap64; omega
theorem rlat (x : S37) (k : Nat) (hk : 1 ≤ k) : swageref27_Latency.f k x.f0 x.f1 x.f2 x.f3 x.f4 x.f5 = some (latOf x) := by
 obtain ⟨k, rfl⟩ : ∃ m, k = m + 1 := ⟨k - 1, by omega⟩
 unfold swageref27_Latency.f latOf
 simp only [swageref27_Latency.j0]
 by_cases h7 : x.f0 = 7
 ·rw [if_pos h7, if_pos h7]
 rw [if_neg h7, if_neg h7]
 by_cases h4 : x.f0 = 4
 ·rw [if_pos h4, if_pos h4]; rfl
 rw [if_neg h4, if_neg h4]
 by_cases h2 : x.f0 = 2
 ·rw [if_pos h2, if_pos h2]
  by_cases i3 : x.f4 = 3
  ·rw [if_pos i3, if_pos (by simp [i3])]; simp [h2]
  ·rw [if_neg i3, if_neg (by simp [i3])]
   rw [if_pos h2]
   split <;> (try rfl)
   split <;> rfl
 ·rw [if_neg h2, if_neg h2, if_neg (by simp), if_neg h2]
theorem rsets (x : S37) : swageref14_Sets.f x.f0 x.f1 x.f2 x.f3 x.f4 x.f5 = some (zBM x) := by
 unfold swageref14_Sets.f zBM zBS
 by_cases h1 : x.f0 = 1
 ·simp [h1]
 by_cases h2 : x.f0 = 2
 ·simp [h2]
 by_cases h3 : x.f0 = 3
 ·simp [h3]
 by_cases h4 : x.f0 = 4
 ·simp [h4]
 by_cases h5 : x.f0 = 5
 ·simp [h5]
 by_cases h6 : x.f0 = 6
 ·simp [h6]
 by_cases h7 : x.f0 = 7
 ·simp [h7]
 by_cases h8 : x.f0 = 8
 ·simp [h8]
 by_cases h9 : x.f0 = 9
 ·simp [h9]
 by_cases a : x.f0 < 1
 ·simp [h1, h2, h3, h4, h5, h6, h7, h8, h9, a]
 ·have a2 : x.f0 > 8 := by omega
  simp [h1, h2, h3, h4, h5, h6, h7, h8, h9, a, a2]
theorem rpure (x : S37) : swageref14_Pure.f x.f0 x.f1 x.f2 x.f3 x.f4 x.f5 = some (pureOf x) := by
 unfold swageref14_Pure.f pureOf
 by_cases h2 : x.f0 = 2
 ·rw [if_pos h2]
  by_cases i4 : x.f4 = 4
  ·simp [h2, i4]
  by_cases i5 : x.f4 = 5
  ·simp [h2, i5]
  by_cases i9 : x.f4 = 9
  ·simp [h2, i9]
  rw [if_neg i4, if_neg i5, if_neg i9]
  by_cases i10 : x.f4 = 10 <;> simp [h2, i4, i5, i9, i10]
 ·rw [if_neg h2]
  by_cases h1 : x.f0 = 1
  ·simp [h1]
  ·rw [if_neg h1]
   by_cases h3 : x.f0 = 3 <;> simp [h1, h2, h3]
theorem ruses (x : S37) (hx : x.f5.length ≤ 1000) (k : Nat) (hk : 3 ≤ k) : swageref14_Uses.f k x.f0 x.f1 x.f2 x.f3 x.f4 x.f5 = some (usesOf x) := by
 obtain ⟨k, rfl⟩ : ∃ m, k = m + 2 := ⟨k - 2, by omega⟩
 unfold swageref14_Uses.f usesOf
 have hlt : ([] : List Int).length + x.f5.length < 17592186044416 := by simp; omega
 simp only [swageref14_Uses.j0, swageref14_Uses.j1, Option.bind_some, List.nil_append]
 rw [if_pos hlt]
 unfold zBS
 by_cases h1 : x.f0 = 1
 ·simp [h1]
 by_cases h2 : x.f0 = 2
 ·simp [h2]
 by_cases h3 : x.f0 = 3
 ·simp [h3]
 by_cases h4 : x.f0 = 4
 ·simp [h4]
 by_cases h5 : x.f0 = 5
 ·simp [h5]
 by_cases h6 : x.f0 = 6
 ·simp [h6]
 by_cases h7 : x.f0 = 7
 ·simp [h7]
 by_cases h8 : x.f0 = 8
 ·simp [h8]
 by_cases h9 : x.f0 = 9
 ·simp [h9]
 simp [h1, h2, h3, h4, h5, h6, h7, h8, h9]
theorem rhas0 (xs : List Int) (n : Int) (hl : xs.length ≤ 2000) : ∀ (d i k : Nat), i ≤ xs.length → xs.length - i = d → d < k → swageref27_has.l0 k xs n (i : Int) = some (decide (n ≠ 0) && decide (n ∈ xs.drop i)) := by
 intro d
 induction d with
 | zero =>
  intro i k hi hd hk
  obtain ⟨k, rfl⟩ : ∃ m, k = m + 1 := ⟨k - 1, by omega⟩
  simp only [swageref27_has.l0]
  rw [if_neg (by omega), List.drop_eq_nil_of_le (by omega)]
  simp
 | succ d ih =>
  intro i k hi hd hk
  obtain ⟨k, rfl⟩ : ∃ m, k = m + 1 := ⟨k - 1, by omega⟩
  have hil : i < xs.length := by omega
  have h1 := ih (i + 1) k (by omega) (by omega) (by omega)
  have hr : rd xs (i : Int) = xs[i] := by simp [rd, hil]
  simp only [swageref27_has.l0]
  rw [if_pos (by omega), if_pos (by omega), hr, zCE i (by omega), h1, List.drop_eq_getElem_cons hil]
  by_cases e : xs[i] = n
  ·rw [if_pos e]
   by_cases n0 : n = 0
   ·rw [if_pos n0]; simp [n0]
   ·rw [if_neg n0]; simp [n0, e]
  ·rw [if_neg e]
   have : n ∈ xs[i] :: xs.drop (i + 1) ↔ n ∈ xs.drop (i + 1) := by
    rw [List.mem_cons]
    constructor
    ·rintro (h | h)
     ·exact absurd h.symm e
     ·exact h
    ·exact .inr
   simp only [this]
theorem rhas (xs : List Int) (n : Int) (hl : xs.length ≤ 2000) (k : Nat) (hk : 2001 ≤ k) : swageref27_has.f k xs n = some (decide (n ≠ 0) && decide (n ∈ xs)) := by
 have := rhas0 xs n hl xs.length 0 k (Nat.zero_le _) rfl (by omega)
 rwa [List.drop_zero] at this
theorem rin0 (xs : List Int) (n : Int) (hl : xs.length ≤ 2000) : ∀ (d i k : Nat), i ≤ xs.length → xs.length - i = d → d < k → swageref27_in.l0 k xs n (i : Int) = some (decide (n ∈ xs.drop i)) := by
 intro d
 induction d with
 | zero =>
  intro i k hi hd hk
  obtain ⟨k, rfl⟩ : ∃ m, k = m + 1 := ⟨k - 1, by omega⟩
  simp only [swageref27_in.l0]
  rw [if_neg (by omega), List.drop_eq_nil_of_le (by omega)]
  simp
 | succ d ih =>
  intro i k hi hd hk
  obtain ⟨k, rfl⟩ : ∃ m, k = m + 1 := ⟨k - 1, by omega⟩
  have hil : i < xs.length := by omega
  have h1 := ih (i + 1) k (by omega) (by omega) (by omega)
  have hr : rd xs (i : Int) = xs[i] := by simp [rd, hil]
  simp only [swageref27_in.l0]
  rw [if_pos (by omega), if_pos (by omega), hr, zCE i (by omega), h1, List.drop_eq_getElem_cons hil]
  by_cases e : xs[i] = n
  ·rw [if_pos e]
   simp [e]
  ·rw [if_neg e]
   have : n ∈ xs[i] :: xs.drop (i + 1) ↔ n ∈ xs.drop (i + 1) := by
    rw [List.mem_cons]
    constructor
    ·rintro (h | h)
     ·exact absurd h.symm e
     ·exact h
    ·exact .inr
   simp only [this]
theorem rin (xs : List Int) (n : Int) (hl : xs.length ≤ 2000) (k : Nat) (hk : 2001 ≤ k) : swageref27_in.f k xs n = some (decide (n ∈ xs)) := by
 have := rin0 xs n hl xs.length 0 k (Nat.zero_le _) rfl (by omega)
 rwa [List.drop_zero] at this
theorem rbehind (a b : S37) (ha : a.f5.length ≤ 1000) (hb : b.f5.length ≤ 1000) (k : Nat) (hk : 2010 ≤ k) : swageref27_behind.f k a.f0 a.f1 a.f2 a.f3 a.f4 a.f5 b.f0 b.f1 b.f2 b.f3 b.f4 b.f5 = some (afterOf b a) := by
 have hua := usesOf_length a
 have hub := usesOf_length b
 unfold swageref27_behind.f afterOf
 rw [rsets a, rsets b, rpure a, rpure b]
 simp only [Option.bind_some]
 obtain ⟨k, rfl⟩ : ∃ m, k = m + 1 := ⟨k - 1, by omega⟩
 have tail : swageref27_behind.j0 (k + 1) (zBM a) (zBM b) true a.f0 a.f1 a.f2 a.f3 a.f4 a.f5 b.f0 b.f1 b.f2 b.f3 b.f4 b.f5 = some ((decide (zBM a ≠ 0) && decide (zBM a = zBM b)) || zCF b (zBM a) || zCF a (zBM b)) := by
  simp only [swageref27_behind.j0]
  rw [ruses a ha k (by omega), ruses b hb k (by omega)]
  simp only [Option.bind_some]
  rw [rhas _ _ (by omega) k (by omega), rhas _ _ (by omega) k (by omega)]
  simp only [Option.bind_some]
  rw [if_pos trivial]
  unfold zCF
  by_cases h0 : zBM a = 0
  ·rw [if_pos h0]; simp [h0]
  ·rw [if_neg h0]
   by_cases he : zBM a = zBM b
   ·rw [if_pos he]; simp [h0, he]
    left; left
    rw [← he]; exact h0
   ·rw [if_neg he]
    simp only [he, decide_false, Bool.and_false, Bool.false_or]
    cases decide (zBM a ≠ 0) && decide (zBM a ∈ usesOf b) <;> simp
 cases hpa : pureOf a
 ·rw [if_neg (by simp)]
  cases hpb : pureOf b
  ·simp [swageref27_behind.j0]
  ·rw [tail]; simp
 ·rw [if_pos rfl, tail]; simp
def depsTo (l : List S37) (i : Nat) : List (List Int) := mkL i fun m => zBR l m m
theorem depsTo_succ (l : List S37) (i : Nat) : depsTo l (i + 1) = depsTo l i ++ [zBR l i i] := by simp [depsTo, mkL, List.range_succ]
theorem depsTo_length (l : List S37) (i : Nat) : (depsTo l i).length = i := by simp [depsTo, mkL]
theorem rdeps_inner (l : List S37) (hl : l.length ≤ 4096) (hs : ∀ x ∈ l, x.f5.length ≤ 1000) (i : Nat) (hi : i < l.length) (r : List (List Int))
  (hE : Ev (fun k => swageref27_Deps.l0 k l (depsTo l (i + 1)) ((i + 1 : Nat) : Int)) r) :
  ∀ (d j : Nat), j ≤ i → i - j = d → Ev (fun k => swageref27_Deps.l1 k l (depsTo l i) (i : Int) (zBR l i j) (j : Int)) r := by
 intro d
 induction d with
 | zero =>
  intro j hj hd
  obtain rfl : j = i := by omega
  obtain ⟨K, hK⟩ := hE
  refine ⟨K + 1, fun k hk => ?_⟩
  obtain ⟨k, rfl⟩ : ∃ m, k = m + 1 := ⟨k - 1, by omega⟩
  have hK' := hK k (by omega)
  have hd := depsTo_length l j
  rw [depsTo_succ] at hK'
  simp only [swageref27_Deps.l1]
  rw [if_neg (by omega), if_pos (by omega), zCE j (by omega)]
  exact hK'
 | succ d ih =>
  intro j hj hd
  obtain ⟨K, hK⟩ := ih (j + 1) (by omega) (by omega)
  refine ⟨max K 2012 + 1, fun k hk => ?_⟩
  obtain ⟨k, rfl⟩ : ∃ m, k = m + 1 := ⟨k - 1, by omega⟩
  have hm : ∀ m : Nat, m < l.length → (zAF l (m : Int)).f5.length ≤ 1000 := fun m hm => hs _ (by unfold zAF; rw [Int.toNat_natCast, List.getD_eq_getElem?_getD, List.getElem?_eq_getElem hm]; exact List.getElem_mem hm)
  have hK' := hK k (by omega)
  have hpl := zBQ l i j
  rw [partOf_succ] at hK'
  simp only [swageref27_Deps.l1]
  rw [if_pos (by omega), if_pos (by omega), if_pos (by omega), if_pos (by omega), if_pos (by omega), rbehind _ _ (hm j (by omega)) (hm i hi) k (by omega)]
  simp only [Option.bind_some]
  rw [zCE j (by omega)]
  have e1 : zAF l (i : Int) = l.getD i z37 := rfl
  have e2 : zAF l (j : Int) = l.getD j z37 := rfl
  rw [e1, e2]
  cases ha : afterOf (l.getD i z37) (l.getD j z37) with
  | false =>
   rw [ha] at hK'
   rw [if_neg (by simp)]
   simpa using hK'
  | true =>
   rw [ha] at hK'
   rw [if_pos rfl, if_pos (by omega)]
   simpa using hK'
theorem rdeps_outer (l : List S37) (hl : l.length ≤ 4096) (hs : ∀ x ∈ l, x.f5.length ≤ 1000) :
  ∀ (d i : Nat), i ≤ l.length → l.length - i = d → Ev (fun k => swageref27_Deps.l0 k l (depsTo l i) (i : Int)) (zAX l) := by
 intro d
 induction d with
 | zero =>
  intro i hi hd
  obtain rfl : i = l.length := by omega
  refine ⟨2, fun k hk => ?_⟩
  obtain ⟨k, rfl⟩ : ∃ m, k = m + 2 := ⟨k - 2, by omega⟩
  simp only [swageref27_Deps.l0, swageref27_Deps.j1]
  rw [if_neg (by omega), if_neg (by simp)]
  rfl
 | succ d ih =>
  intro i hi hd
  obtain ⟨K, hK⟩ := rdeps_inner l hl hs i (by omega) (zAX l) (ih (i + 1) (by omega) (by omega)) i 0 (Nat.zero_le _) rfl
  refine ⟨K + 2, fun k hk => ?_⟩
  obtain ⟨k, rfl⟩ : ∃ m, k = m + 2 := ⟨k - 2, by omega⟩
  have hK' := hK k (by omega)
  simp only [swageref27_Deps.l0, swageref27_Deps.j1]
  rw [if_pos (by omega), if_pos (by simp; omega)]
  exact hK'
theorem rdeps (l : List S37) (hl : l.length ≤ 4096) (hs : ∀ x ∈ l, x.f5.length ≤ 1000) : Ev (fun k => swageref27_Deps.f k l) (zAX l) := rdeps_outer l hl hs l.length 0 (Nat.zero_le _) rfl
theorem rcost_inner (l : List S37) (hl : l.length ≤ 4096) (hs : ∀ x ∈ l, x.f5.length ≤ 1000) (d : List (List Int)) (hdl : d.length = l.length) (i : Nat) (hi : i < l.length) (ends : List Int) (he : ends.length = l.length) (last : Int)
  (hrow : ∀ k ∈ rd_L1 d i, 0 ≤ k ∧ k < l.length) (hrl : (rd_L1 d i).length ≤ 4096) (r : Int) :
  ∀ (n j : Nat) (a : Int), j ≤ (rd_L1 d i).length → (rd_L1 d i).length - j = n →
   Ev (fun k => swageref27_Cost.l0 k l d (ends.set i (wrap64 (cRow l ends i ((rd_L1 d i).drop j) a + lt_ l i))) (mx last (wrap64 (cRow l ends i ((rd_L1 d i).drop j) a + lt_ l i))) (wrap64 (cRow l ends i ((rd_L1 d i).drop j) a + 1)) ((i + 1 : Nat) : Int)) r →
   Ev (fun k => swageref27_Cost.l1 k l d ends last a (i : Int) (j : Int)) r := by
 intro n
 induction n with
 | zero =>
  intro j a hj hn hE
  obtain rfl : j = (rd_L1 d i).length := by omega
  rw [List.drop_length] at hE
  have e1 : cRow l ends i [] a = a := rfl
  have e2 : lt_ l i = latOf (zAF l (i : Int)) := rfl
  rw [e1, e2] at hE
  clear e1 e2
  obtain ⟨K, hK⟩ := hE
  refine ⟨K + 2, fun k hk => ?_⟩
  obtain ⟨k, rfl⟩ : ∃ m, k = m + 2 := ⟨k - 2, by omega⟩
  have hK' := hK (k + 1) (by omega)
  simp only [swageref27_Cost.l1]
  rw [if_pos (by omega), if_pos (by omega), if_neg (by omega), if_pos (by omega), rlat _ _ (by omega)]
  rw [Option.bind_some, Option.bind_some, Int.toNat_natCast]
  rw [if_pos (by omega), rd_set, if_pos ⟨rfl, by omega⟩, zCE i (by omega)]
  exact hK'
 | succ n ih =>
  intro j a hj hn hE
  have hjl : j < (rd_L1 d i).length := by omega
  rw [List.drop_eq_getElem_cons hjl] at hE
  have hr : rd (rd_L1 d i) (j : Int) = (rd_L1 d i)[j] := by simp [rd, hjl]
  have hk := hrow (rd_L1 d i)[j] (List.getElem_mem hjl)
  have hstep : cRow l ends i ((rd_L1 d i)[j] :: (rd_L1 d i).drop (j + 1)) a = cRow l ends i ((rd_L1 d i).drop (j + 1)) (cOne l ends i a (rd_L1 d i)[j]) := rfl
  rw [hstep] at hE
  clear hstep
  have h1 := ih (j + 1) (cOne l ends i a (rd_L1 d i)[j]) (by omega) (by omega) hE
  obtain ⟨K, hK⟩ := h1
  refine ⟨max K 2100 + 1, fun k hk' => ?_⟩
  obtain ⟨k, rfl⟩ : ∃ m, k = m + 1 := ⟨k - 1, by omega⟩
  have hK' := hK k (by omega)
  have hm : ∀ m : Int, 0 ≤ m → m < l.length → (zAF l m).f5.length ≤ 1000 := fun m h0 hm => hs _ (by unfold zAF; rw [List.getD_eq_getElem?_getD, List.getElem?_eq_getElem (show m.toNat < l.length by omega)]; exact List.getElem_mem _)
  have hul := usesOf_length (zAF l (i : Int))
  have hml := hm (i : Int) (by omega) (by omega)
  simp only [swageref27_Cost.l1]
  rw [hr]
  generalize (rd_L1 d i)[j] = kk at *
  rw [if_pos (by omega), if_pos (by omega), if_pos (by omega), if_pos (by omega), ruses _ hml k (by omega)]
  simp only [Option.bind_some]
  rw [if_pos (by omega), if_pos (by omega), if_pos (by omega), rsets]
  simp only [Option.bind_some]
  rw [rhas _ _ (by omega) k (by omega)]
  simp only [Option.bind_some]
  rw [zCE j (by omega)]
  unfold cOne zCF at hK'
  by_cases hc : (decide (zBM (zAF l kk) ≠ 0) && decide (zBM (zAF l kk) ∈ usesOf (zAF l (i : Int)))) = true
  ·rw [if_pos hc] at hK' ⊢
   rw [if_pos (by omega)]
   exact hK'
  ·rw [if_neg hc] at hK' ⊢
   exact hK'
theorem rcost_outer (l : List S37) (hl : l.length ≤ 4096) (hs : ∀ x ∈ l, x.f5.length ≤ 1000) (d : List (List Int)) (hdl : d.length = l.length) (hd : Back d) (hr : ∀ i : Nat, i < l.length → (rd_L1 d i).length ≤ 4096) :
  ∀ (n i : Nat), i ≤ l.length → l.length - i = n → Ev (fun k => swageref27_Cost.l0 k l d (costN l d i).1 (costN l d i).2.2 (costN l d i).2.1 (i : Int)) (costN l d l.length).2.2 := by
 intro n
 induction n with
 | zero =>
  intro i hi hn
  obtain rfl : i = l.length := by omega
  refine ⟨1, fun k hk => ?_⟩
  obtain ⟨k, rfl⟩ : ∃ m, k = m + 1 := ⟨k - 1, by omega⟩
  simp only [swageref27_Cost.l0]
  rw [if_neg (by omega)]
 | succ n ih =>
  intro i hi hn
  have h1 := ih (i + 1) (by omega) (by omega)
  rw [costN_succ] at h1
  have hrow : ∀ k ∈ rd_L1 d i, 0 ≤ k ∧ k < l.length := by
   intro k hk
   obtain ⟨m, rfl, hm⟩ := hd i (by omega) k hk
   omega
  have h2 := rcost_inner l hl hs d hdl i (by omega) (costN l d i).1 (by rw [costN_length]; omega) (costN l d i).2.2 hrow (hr i (by omega)) _ _ 0 (costN l d i).2.1 (Nat.zero_le _) rfl h1
  obtain ⟨K, hK⟩ := h2
  refine ⟨K + 1, fun k hk => ?_⟩
  obtain ⟨k, rfl⟩ : ∃ m, k = m + 1 := ⟨k - 1, by omega⟩
  have hK' := hK k (by omega)
  simp only [swageref27_Cost.l0]
  rw [if_pos (by omega)]
  exact hK'
theorem rcost (l : List S37) (hl : l.length ≤ 4096) (hs : ∀ x ∈ l, x.f5.length ≤ 1000) : Ev (fun k => swageref27_Cost.f k l) (costOf l) := by
 have hdl := zBF l
 obtain ⟨K, hK⟩ := rcost_outer l hl hs (zAX l) hdl (zBU l) (fun i hi => by
  rw [zBZ l i hi]
  have := zBQ l i i
  omega) l.length 0 (Nat.zero_le _) rfl
 obtain ⟨K2, hK2⟩ := rdeps l hl hs
 refine ⟨max K K2, fun k hk => ?_⟩
 have hK' := hK k (by omega)
 have hK2' := hK2 k (by omega)
 show swageref27_Cost.f k l = _
 unfold swageref27_Cost.f
 simp only at hK2'
 rw [hK2']
 simp only [Option.bind_some]
 rw [if_pos (by omega), if_pos (by omega), hdl, Int.toNat_natCast]
 have e0 : costN l (zAX l) 0 = (List.replicate l.length 0, 0, 0) := by simp [costN, hdl]
 rw [e0] at hK'
 exact hK'
end Go.Proofs.Ytphmlkbmnmicpaa.A
namespace Go.Proofs.Ytphmlkbmnmicpaa.A
open Go.RowKit Go.Proofs.YtphmlkbmnmicpaaW.PrintWords Go.Proofs.YtphmlkbmnmicpaaW.PrintLast Go.Proofs.YtphmlkbmnmicpaaW.PrintMore
attribute [local go_sem] max2_int zBH max_two zBL zBB zBA zBI zBG   -- for this text's walks alone
mutual
def swageref27_Heights.l0 : Nat → List (S37) → List (List Int) → List Int → Int → Option (List Int)
 | 0, _, _, _, _ => none
 | k + 1, x0, x3, x4, x5 => if x5 ≥ 0 then (swageref27_Heights.l1 k x0 x3 x4 x5 (wrap64 (x5 + 1))) else (some x4)
def swageref27_Heights.l1 : Nat → List (S37) → List (List Int) → List Int → Int → Int → Option (List Int)
 | 0, _, _, _, _, _ => none
 | k + 1, x0, x3, x4, x5, x6 => if x6 < (x3.length : Int) then (if 0 ≤ x6 then ((swageref27_in.f k (rd_L1 x3 x6) x5).bind fun t295 => (if t295 = true then (if 0 ≤ x5 then (if x5 < (x4.length : Int) then (if x6 < (x4.length : Int) then (swageref27_Heights.l1 k x0 x3 (x4.set (x5 : Int).toNat (mx (rd x4 x5) (rd x4 x6))) x5 (wrap64 (x6 + 1))) else (none)) else (none)) else (none)) else (swageref27_Heights.l1 k x0 x3 x4 x5 (wrap64 (x6 + 1))))) else (none)) else (if 0 ≤ x5 then (if x5 < (x4.length : Int) then (if x5 < (x0.length : Int) then ((swageref27_Latency.f k ((zAF x0 x5).f0) ((zAF x0 x5).f1) ((zAF x0 x5).f2) ((zAF x0 x5).f3) ((zAF x0 x5).f4) ((zAF x0 x5).f5)).bind fun t301 => (swageref27_Heights.l0 k x0 x3 (x4.set (x5 : Int).toNat (wrap64 ((rd x4 x5) + t301))) (wrap64 (x5 - 1)))) else (none)) else (none)) else (none))
end
def swageref27_Heights.f (k : Nat) (l0 : List (S37)) : Option (List Int) := (swageref27_Deps.f k l0).bind fun t288 => (if 0 ≤ (t288.length : Int) then (if ((t288.length : Int) : Int).toNat ≤ 35184372088832 then (swageref27_Heights.l0 k l0 t288 (List.replicate ((t288.length : Int) : Int).toNat 0) (wrap64 ((t288.length : Int) - 1))) else (none)) else (none))
def swageref27_Heights.T10 : Bool × List (List Nat × List Nat) := (true, [([], []), ([], []), ([], []), ([], []), ([2, 3], [2, 3]), ([4], [4]), ([], []), ([], []), ([6, 7], [6, 7]), ([8], [8]), ([5, 9], [5, 9]), ([0, 1, 0, 1, 2, 3, 4, 5, 6, 7, 8, 9, 10], [0, 1]), ([11, 10, 0, 1, 2, 3, 4, 5, 6, 7, 8, 9, 10], [10, 11])])
def swageref27_Heights.B10 : List Nat := [0, 0, 0, 0, 12, 28, 0, 0, 192, 448, 1020, 2047, 4095]
theorem swageref27_Heights.tab10 : rtab .any (opsOf Try.f21 10) = swageref27_Heights.T10 := by kernel_rfl
theorem swageref27_Heights.bits10 : waitsOk swageref27_Heights.T10.2 swageref27_Heights.B10 = true := by kernel_rfl
def swageref27_Heights.T11 : Bool × List (List Nat × List Nat) := (true, [([], []), ([], []), ([], []), ([], []), ([2, 3], [2, 3]), ([4], [4]), ([], []), ([], []), ([6, 7], [6, 7]), ([8], [8]), ([9], [9]), ([5, 10], [5, 10]), ([0, 1, 0, 1, 2, 3, 4, 5, 6, 7, 8, 9, 10, 11], [0, 1]), ([12, 11, 10, 0, 1, 2, 3, 4, 5, 6, 7, 8, 9, 10, 11], [11, 12])])
def swageref27_Heights.B11 : List Nat := [0, 0, 0, 0, 12, 28, 0, 0, 192, 448, 960, 2044, 4095, 8191]
theorem swageref27_Heights.tab11 : rtab .any (opsOf Try.f21 11) = swageref27_Heights.T11 := by kernel_rfl
theorem swageref27_Heights.bits11 : waitsOk swageref27_Heights.T11.2 swageref27_Heights.B11 = true := by kernel_rfl
set_option maxHeartbeats 8000000 in
set_option maxRecDepth 100000 in
theorem swageref27_Heights.calls (k : Nat) (A0 : Option Addr) (c0 : Nat) (l0 : List (S37)) (r : List Int) (w : World) (hr0 : Kd.C k37 w A0 l0.length l0) (hc0 : l0.length ≤ c0) (h : swageref27_Heights.f k l0 = some r) :
  Calls Try.prog 21 #[.slice A0 l0.length c0] w fun e w' => ∃ v0_ : Value, e = .returned (v0_) ∧ Kd.R (Kd.int .i64) 3 w' w.heap.size (fun _ => True) v0_ r ∧ Below w.heap.size w w' := by
 have hu37 := Try.underlying37
 have HR0 := Aside0.mk hr0
 have HC0 := Aside0.mk hc0
 clear hr0 hc0
 have HB := Aside0.mk (Below.refl w.heap.size w)
 have H : ((swageref27_Deps.f k l0).bind fun t288 => (if 0 ≤ (t288.length : Int) then (if ((t288.length : Int) : Int).toNat ≤ 35184372088832 then (swageref27_Heights.l0 k l0 t288 (List.replicate ((t288.length : Int) : Int).toNat 0) (wrap64 ((t288.length : Int) - 1))) else (none)) else (none))) = some r := h
 clear h
 replace H := Option.bind_eq_some_iff.mp H
 obtain ⟨t288, A20, H⟩ := H
 replace H : (if 0 ≤ (t288.length : Int) then (if ((t288.length : Int) : Int).toNat ≤ 35184372088832 then (swageref27_Heights.l0 k l0 t288 (List.replicate ((t288.length : Int) : Int).toNat 0) (wrap64 ((t288.length : Int) - 1))) else (none)) else (none)) = some r := H
 have A2 := Aside0.mk A20
 clear A20
 by_cases c3 : 0 ≤ (t288.length : Int)
 ·rw [if_pos c3] at H
  have c3b0 := eq_true c3
  have c3b1 : decide (0 ≤ (t288.length : Int)) = true := decide_eq_true c3
  clear c3
  by_cases c4 : ((t288.length : Int) : Int).toNat ≤ 35184372088832
  ·rw [if_pos c4] at H
   have c4b0 := eq_true c4
   have c4b1 : decide (((t288.length : Int) : Int).toNat ≤ 35184372088832) = true := decide_eq_true c4
   clear c4
   obtain ⟨y291, hy291⟩ : ∃ y_ : List Int, y_ = (List.replicate ((t288.length : Int) : Int).toNat 0) := ⟨_, rfl⟩
   replace H : (swageref27_Heights.l0 k l0 t288 y291 (wrap64 ((t288.length : Int) - 1))) = some r := by first | (rw [hy291]; with_reducible exact H) | (have H2_ := (Option.bind_some _ _).symm.trans H; rw [hy291]; with_reducible exact H2_) | (have H2_ := (Option.bind_some _ _).symm.trans H; with_reducible exact H2_) | with_reducible exact H | (rw [hy291]; exact H) | exact H
   have Ny291 := Aside0.mk hy291
   clear hy291
   have H' := Aside0.mk H
   clear H
   go_enter Try.func21, Try.ntmps21
   go_wp2_with (first | ((with_reducible refine zAV (f := 18) rfl ?_); refine zBO (some 8) rfl rfl Try.func18 (by kernel_rfl) rfl #[.slice A0 l0.length c0] rfl (by (try simp only [List.map_toArray, List.map_cons, List.map_nil]); first | done | rfl | (simp only [List.length_drop, List.length_take]; rfl)) ?_; (with_reducible refine (swageref27_Deps.calls k _ _ l0 t288 _ ?side1 ?side2 A2.out).mono ?_); (case side1 => repeat (first | exact HR0.out | (with_reducible refine Kd.C_alloc ?_ _) | (with_reducible refine Kd.C_drewN ?_ _) | (with_reducible refine Kd.C_drew ?_))); (case side2 => exact HC0.out); rintro e w5 ⟨v289, rfl, ho0, hb⟩; refine ⟨_, rfl, ?_⟩; have n0_ := Aside0.mk (Kd.S_lower ho0 (zAM (by repeat (first | (with_reducible first | exact HB.out | apply zAC | apply zAA | apply zAD) | exact HB.out)))); have n1_ := Aside0.mk (zAL (by repeat (first | (with_reducible first | exact HB.out | apply zAC | apply zAA | apply zAD) | exact HB.out)) hb); clear HB; have HO290 := n0_; have HB := n1_; clear n0_ n1_; (try clear hb); (try clear hb2); (try clear hk); (try clear hi); (try clear ho0); obtain ⟨Ao6, co6, eo6⟩ := Kd.S_slice HO290.out; subst eo6) | ((with_reducible refine zAU (N := 11) rfl ?_); refine Kd.R_make (Kd.int .i64) _ 3 rfl (N := 11) rfl 23 _ _ rfl (t288.length : Int) rfl rfl Try.underlying23 (.int .i64 0) 8 info3 rfl (by decide) (by omega) 0 (ok := fun _ => True) (okp := fun _ => True) rfl (fun _ hk => hk) trivial (of_decide_eq_true (by first | (with_reducible assumption) | assumption)) (Nat.le_trans (Nat.mul_le_mul_right _ (of_decide_eq_true (by first | (with_reducible assumption) | assumption) : (t288.length : Int).toNat ≤ 35184372088832)) (by omega)) (Below.refl _ _) (Nat.le_refl _) ?_; intro v292 w7 ho8 hb hg_ hnew_; clear hg_ hnew_; (first | rw [← Ny291.out] at ho8 | (simp only [Int.reduceToNat] at ho8; rw [← Ny291.out] at ho8)); have n0_ := Aside0.mk (Kd.S_elder' (by (with_reducible repeat (first | apply Kd.S_alloc | apply Kd.S_drewN | apply Kd.S_drew)); exact HO290.out) (Kd.R_base ho8) hb); have n1_ := Aside0.mk (Kd.R_lower ho8 (zAM (by repeat (first | (with_reducible first | exact HB.out | apply zAC | apply zAA | apply zAD) | exact HB.out)))); have n2_ := Aside0.mk (zAL (by repeat (first | (with_reducible first | exact HB.out | apply zAC | apply zAA | apply zAD) | exact HB.out)) hb); clear HO290; clear HB; have HO290 := n0_; have HO293 := n1_; have HB := n2_; clear n0_ n1_ n2_; clear hb ho8))
   go_loopg [5] k (fun kq v5 w' => ∃ (x4_1 : List Int) (x5_1 : Int), v5 = .int .i64 x5_1 ∧ Aside0 (swageref27_Heights.l0 kq l0 t288 x4_1 x5_1 = some r) ∧ Aside0 (kq ≤ k) ∧ Aside0 (Kd.S (Kd.slice 3 (Kd.int .i64)) 23 w' w.heap.size (fun k_ => some k_ ≠ (v292 : Value).ownBlock) (.slice Ao6 t288.length co6) t288) ∧ Aside0 (Kd.R (Kd.int .i64) 3 w' w.heap.size (fun _ => True) v292 x4_1) ∧ Aside0 (Below w.heap.size w w'))
   case atStart => exact ⟨(y291), (wrap64 ((t288.length : Int) - 1)), (by first | rfl | (simp; done) | (simp [*]; done)), H', ⟨Nat.le_refl _⟩, ⟨by (with_reducible repeat (first | apply Kd.S_alloc | apply Kd.S_drewN | apply Kd.S_drew)); exact Kd.S_mono HO290.out (fun _ hk => hk.2)⟩, ⟨by (with_reducible repeat (first | apply Kd.R_alloc | apply Kd.R_drewN | apply Kd.R_drew)); exact HO293.out⟩, ⟨by repeat (first | (with_reducible first | exact HB.out | apply zAC | apply zAA | apply zAD) | exact HB.out)⟩⟩
   case round =>
    clear H'
    (try clear c1); (try clear c2); (try clear p2); (try clear c3); (try clear c3b0); (try clear c3b1); (try clear c4); (try clear c4b0); (try clear c4b1); (try clear p6)
    obtain ⟨x4_1, x5_1, rfl, HA, HK1, HO_3, HO_4, HB⟩ := hrel
    cases gk with
    | zero => exact absurd HA.out (by simp [swageref27_Heights.l0])
    | succ k1 =>
     have H := HA.out
     clear HA
     simp only [swageref27_Heights.l0] at H
     by_cases c9 : x5_1 ≥ 0
     ·rw [if_pos c9] at H
      have c9b0 : decide (0 ≤ x5_1) = true := decide_eq_true c9
      clear c9
      have H' := Aside0.mk H
      clear H
      go_wp2
      go_loopg [6] k1 (fun kq v6 w' => ∃ (x4_2 : List Int) (x6_2 : Int), v6 = .int .i64 x6_2 ∧ Aside0 (swageref27_Heights.l1 kq l0 t288 x4_2 x5_1 x6_2 = some r) ∧ Aside0 (kq ≤ k1) ∧ Aside0 (Kd.S (Kd.slice 3 (Kd.int .i64)) 23 w' w.heap.size (fun k_ => some k_ ≠ (v292 : Value).ownBlock) (.slice Ao6 t288.length co6) t288) ∧ Aside0 (Kd.R (Kd.int .i64) 3 w' w.heap.size (fun _ => True) v292 x4_2) ∧ Aside0 (Below w.heap.size w w'))
      case atStart => exact ⟨(x4_1), (wrap64 (x5_1 + 1)), (by first | rfl | (simp; done) | (simp [*]; done)), H', ⟨Nat.le_refl _⟩, ⟨by (with_reducible repeat (first | apply Kd.S_alloc | apply Kd.S_drewN | apply Kd.S_drew)); exact HO_3.out⟩, ⟨by (with_reducible repeat (first | apply Kd.R_alloc | apply Kd.R_drewN | apply Kd.R_drew)); exact HO_4.out⟩, ⟨by repeat (first | (with_reducible first | exact HB.out | apply zAC | apply zAA | apply zAD) | exact HB.out)⟩⟩
      case round =>
       clear H'
       (try clear c1); (try clear c2); (try clear p2); (try clear c3); (try clear c3b0); (try clear c3b1); (try clear c4); (try clear c4b0); (try clear c4b1); (try clear p6); (try clear c9); (try clear c9b0); (try clear p2); (try clear p6)
       obtain ⟨x4_2, x6_2, rfl, HA, HK2, HO_3, HO_4, HB⟩ := hrel
       cases gk with
       | zero => exact absurd HA.out (by simp [swageref27_Heights.l1])
       | succ k2 =>
        have H := HA.out
        clear HA
        simp only [swageref27_Heights.l1] at H
        by_cases c10 : x6_2 < (t288.length : Int)
        ·rw [if_pos c10] at H
         have c10b0 : decide (x6_2 < (t288.length : Int)) = true := decide_eq_true c10
         clear c10
         by_cases c11 : 0 ≤ x6_2
         ·rw [if_pos c11] at H
          have c11b0 : decide (0 ≤ x6_2) = true := decide_eq_true c11
          clear c11
          replace H := Option.bind_eq_some_iff.mp H
          obtain ⟨t295, A120, H⟩ := H
          replace H : (if t295 = true then (if 0 ≤ x5_1 then (if x5_1 < (x4_2.length : Int) then (if x6_2 < (x4_2.length : Int) then (swageref27_Heights.l1 k2 l0 t288 (x4_2.set (x5_1 : Int).toNat (mx (rd x4_2 x5_1) (rd x4_2 x6_2))) x5_1 (wrap64 (x6_2 + 1))) else (none)) else (none)) else (none)) else (swageref27_Heights.l1 k2 l0 t288 x4_2 x5_1 (wrap64 (x6_2 + 1)))) = some r := H
          have A12 := Aside0.mk A120
          clear A120
          by_cases c13 : t295 = true
          ·subst c13
           have H1 : (if 0 ≤ x5_1 then (if x5_1 < (x4_2.length : Int) then (if x6_2 < (x4_2.length : Int) then (swageref27_Heights.l1 k2 l0 t288 (x4_2.set (x5_1 : Int).toNat (mx (rd x4_2 x5_1) (rd x4_2 x6_2))) x5_1 (wrap64 (x6_2 + 1))) else (none)) else (none)) else (none)) = some r := by rw [if_pos rfl] at H; exact H
           clear H
           have H := H1
           clear H1
           by_cases c14 : 0 ≤ x5_1
           ·rw [if_pos c14] at H
            have c14b0 : decide (0 ≤ x5_1) = true := decide_eq_true c14
            clear c14
            by_cases c15 : x5_1 < (x4_2.length : Int)
            ·rw [if_pos c15] at H
             have c15b0 : decide (x5_1 < (x4_2.length : Int)) = true := decide_eq_true c15
             clear c15
             by_cases c16 : x6_2 < (x4_2.length : Int)
             ·rw [if_pos c16] at H
              have c16b0 : decide (x6_2 < (x4_2.length : Int)) = true := decide_eq_true c16
              clear c16
              obtain ⟨ji17, hji17⟩ : ∃ j_ : Int, (mx (rd x4_2 x5_1) (rd x4_2 x6_2)) = j_ := ⟨_, rfl⟩
              replace H : (swageref27_Heights.l1 k2 l0 t288 (x4_2.set (x5_1 : Int).toNat (ji17)) x5_1 (wrap64 (x6_2 + 1))) = some r := by first | (rw [hji17] at H; exact H) | (simp only [hji17] at H ⊢; exact H)
              (try rw [hji17] at A12)
              have hji17_ : (if (rd x4_2 x5_1) < (rd x4_2 x6_2) then (rd x4_2 x6_2) else (rd x4_2 x5_1)) = ji17 := hji17
              obtain ⟨y298, hy298⟩ : ∃ y_ : List Int, y_ = (x4_2.set (x5_1 : Int).toNat (ji17)) := ⟨_, rfl⟩
              replace H : (swageref27_Heights.l1 k2 l0 t288 y298 x5_1 (wrap64 (x6_2 + 1))) = some r := by first | (rw [hy298]; with_reducible exact H) | (have H2_ := (Option.bind_some _ _).symm.trans H; rw [hy298]; with_reducible exact H2_) | (have H2_ := (Option.bind_some _ _).symm.trans H; with_reducible exact H2_) | with_reducible exact H | (rw [hy298]; exact H) | exact H
              have Ny298 := Aside0.mk hy298
              clear hy298
              have H' := Aside0.mk H
              clear H
              have p294 : 0 ≤ (x6_2 : Int) := of_decide_eq_true (by first | (with_reducible assumption) | assumption)
              have q294 : x6_2 < (t288.length : Int) := of_decide_eq_true (by first | (with_reducible assumption) | assumption)
              obtain ⟨ad294, A294_0, c294_0, e294, hx294_0, hl294_0, hi294_0⟩ := at_L1 (Kd.S_reads' HO_3.out).2.2 x6_2 p294 q294
              cases e294
              obtain ⟨ce294, hce294, hMe294, hcc294⟩ := Kd.S_get HO_3.out [] x6_2 p294 (by first | exact q294 | exact of_decide_eq_true (by first | (with_reducible assumption) | assumption) | (have e_ := (Kd.S_reads' HO_3.out).1; omega))
              obtain ⟨ve294_0, rfl, ge294_0⟩ := hMe294
              have hv294_0 := hcc294 0 _ rfl
              rw [Nat.add_zero, show ((Kd.slice 3 (Kd.int .i64))).sz = 1 from rfl, Nat.mul_one] at hv294_0
              replace hv294_0 := Option.some.inj (hv294_0.symm.trans hx294_0)
              rw [hv294_0] at ge294_0
              have HL294_0 := Aside0.mk (show Kd.R (Kd.int .i64) 3 _ _ _ _ (rd_L1 t288 x6_2) from ge294_0)
              clear hv294_0 ge294_0
              clear hcc294 hce294
              have HR294_0 := Aside0.mk hi294_0
              have HC294_0 := Aside0.mk hl294_0
              clear hi294_0 hl294_0
              replace p294 := eq_true p294
              replace q294 := eq_true q294
              try go_wp2_with (first | ((with_reducible refine zAV (f := 35) rfl ?_); refine zBO (some 32) rfl rfl Try.func35 (by kernel_rfl) rfl #[.slice A294_0 (rd_L1 t288 x6_2).length c294_0, .int .i64 x5_1] rfl (by (try simp only [List.map_toArray, List.map_cons, List.map_nil]); first | done | rfl | (simp only [List.length_drop, List.length_take]; rfl)) ?_; (with_reducible refine (swageref27_in.calls k2 _ _ (rd_L1 t288 x6_2) x5_1 true _ ?side1 ?side2 A12.out).mono ?_); (case side1 => repeat (first | exact (by repeat (first | (with_reducible exact HR294_0.out) | (with_reducible refine Kd.C_alloc ?_ _) | (with_reducible refine Kd.C_drewN ?_ _) | (with_reducible refine Kd.C_drew ?_) | exact HR294_0.out)) | (with_reducible refine Kd.C_alloc ?_ _) | (with_reducible refine Kd.C_drewN ?_ _) | (with_reducible refine Kd.C_drew ?_))); (case side2 => exact HC294_0.out); rintro e w' ⟨rfl, ⟨nd, rfl⟩⟩; refine ⟨_, rfl, ?_⟩; (try (rw [drewN_self wr]; generalize hq_ : World.drewN wr _ = wr; have n0_ : Aside0 (Kd.R (Kd.int .i64) 3 wr w.heap.size (fun k_ => some k_ ≠ (.slice (some ad294) t288.length co6 : Value).ownBlock ∧ some k_ ≠ (v292 : Value).ownBlock) (.slice A294_0 (rd_L1 t288 x6_2).length c294_0) (rd_L1 t288 x6_2)) := ⟨by rw [← hq_]; exact (by (with_reducible repeat (first | apply Kd.R_alloc | apply Kd.R_drewN | apply Kd.R_drew)); exact Kd.R_mono HL294_0.out (fun _ hk => ⟨hk.2, hk.1⟩))⟩; have n1_ : Aside0 (Kd.S (Kd.slice 3 (Kd.int .i64)) 23 wr w.heap.size (fun k_ => some k_ ≠ (v292 : Value).ownBlock) (.slice (some ad294) t288.length co6) t288) := ⟨by rw [← hq_]; exact (by (with_reducible repeat (first | apply Kd.S_alloc | apply Kd.S_drewN | apply Kd.S_drew)); exact HO_3.out)⟩; have n2_ : Aside0 (Kd.R (Kd.int .i64) 3 wr w.heap.size (fun _ => True) v292 x4_2) := ⟨by rw [← hq_]; exact (by (with_reducible repeat (first | apply Kd.R_alloc | apply Kd.R_drewN | apply Kd.R_drew)); exact HO_4.out)⟩; have n3_ : Aside0 (Below w.heap.size w wr) := ⟨by rw [← hq_]; exact (by repeat (first | (with_reducible first | exact HB.out | apply zAC | apply zAA | apply zAD) | exact HB.out))⟩; have n4_ : Aside0 (Kd.C (Kd.int .i64) wr A294_0 (rd_L1 t288 x6_2).length (rd_L1 t288 x6_2)) := ⟨by rw [← hq_]; exact (by repeat (first | (with_reducible exact HR294_0.out) | (with_reducible refine Kd.C_alloc ?_ _) | (with_reducible refine Kd.C_drewN ?_ _) | (with_reducible refine Kd.C_drew ?_) | exact HR294_0.out))⟩; clear HL294_0 HO_3 HO_4 HB HR294_0 hq_; have HL294_0 := n0_; have HO_3 := n1_; have HO_4 := n2_; have HB := n3_; have HR294_0 := n4_; clear n0_ n1_ n2_ n3_ n4_))))
              have n0_ := Aside0.mk (Kd.S_drew HO_3.out)
              have n1_ := Aside0.mk (Kd.R_drew HO_4.out)
              have n2_ := Aside0.mk (Kd.R_drew HL294_0.out)
              have n3_ := Aside0.mk (Kd.C_drew HR294_0.out)
              have n4_ := Aside0.mk (zAD HB.out)
              clear HO_3
              clear HO_4
              clear HL294_0
              clear HR294_0
              clear HB
              have HO_3 := n0_
              have HO_4 := n1_
              have HL294_0 := n2_
              have HR294_0 := n3_
              have HB := n4_
              clear n0_ n1_ n2_ n3_ n4_
              obtain ⟨Ao20, co20, eo20⟩ := Kd.R_slice HO_4.out
              (first | subst eo20 | (injection eo20 with f1_ f2_ f3_; have f4_ := f1_.symm; have f5_ := f3_.symm; clear f1_ f2_ f3_; subst f4_; subst f5_))
              have p296 : 0 ≤ (x5_1 : Int) := of_decide_eq_true (by first | (with_reducible assumption) | assumption)
              have q296 : x5_1 < (x4_2.length : Int) := of_decide_eq_true (by first | (with_reducible assumption) | assumption)
              obtain ⟨ad296, e296, hx296_0⟩ := Kd.at_int (Kd.R_reads' HO_4.out).2.2 x5_1 p296 q296
              cases e296
              replace p296 := eq_true p296
              replace q296 := eq_true q296
              have p297 : 0 ≤ (x6_2 : Int) := of_decide_eq_true (by first | (with_reducible assumption) | assumption)
              have q297 : x6_2 < (x4_2.length : Int) := of_decide_eq_true (by first | (with_reducible assumption) | assumption)
              obtain ⟨ad297, e297, hx297_0⟩ := Kd.at_int (Kd.R_reads' HO_4.out).2.2 x6_2 p297 q297
              obtain rfl : ad296 = ad297 := (by injection e297)
              replace p297 := eq_true p297
              replace q297 := eq_true q297
              have p18 : 0 ≤ (x5_1 : Int) := of_decide_eq_true (by first | (with_reducible assumption) | assumption)
              have q18 : (x5_1 : Int) < ((x4_2.length : Int) : Int) := of_decide_eq_true (by first | (with_reducible assumption) | assumption)
              obtain ⟨go18, co18, eo18, gb18, gl18, cl18, HG18⟩ := Kd.R_form HO_4.out (by omega)
              (first | cases eo18 | (injection eo18 with ea_ en_ ec_; (first | subst ea_ | (injection ea_ with ea_; subst ea_)); subst ec_; clear en_))
              have GB18 := Aside0.mk gb18
              have GG18 := Aside0.mk HG18
              clear gb18 gl18 HG18
              (first | simp only [zBX] at hx296_0 | skip)
              (first | simp only [zBX] at hx297_0 | skip)
              obtain ⟨hx18_0, hf18_0⟩ := Kd.R_celln 0 HO_4.out (x5_1 : Int) p18 q18
              replace p18 := eq_true p18
              replace q18 := eq_true q18
              have HP21 := Kd.R_putn HO_4.out (x5_1 : Int) ji17
              rw [← Ny298.out] at HP21
              have HQ21 := Aside0.mk HP21
              clear HP21
              refine zCA (n := 13) (S := fun w' => w'.cell? ⟨go18, (x5_1).toNat, none⟩ = some (.int .i64 (rd x4_2 x5_1)) ∧ w'.cell? ⟨go18, (x6_2).toNat, none⟩ = some (.int .i64 (rd x4_2 x6_2))) (ds := [12]) #[fF,fF,fF,fF,fF,fF,fF,fF,fF,fF,fF,fF,fF] (by kernel_rfl) rfl rfl ⟨hx296_0, hx297_0⟩ (fun hHeld => ?_); refine with_tabW swageref27_Heights.tab10 swageref27_Heights.bits10 (fun HT_ HW_ => ?_)
              generalize wr.drew = w19 at HO_3 HO_4 HL294_0 HR294_0 HB GG18 HQ21 hf18_0 hx18_0 hx296_0 hx297_0 hHeld ⊢
              refine pure_ (i := 0) (N := some 33) (v := ?_) (a' := ?_) #[tT,fF,fF,fF,fF,fF,fF,fF,fF,fF,fF,fF,fF] rfl rfl (zAZ HT_.out (by kernel_rfl)) (fun _ _ _ h => h) (Or.inl ⟨by rfl, ?_⟩) ?_ ?_
              rotate_left
              ·intro w'
               go_simp
               with_reducible rfl
              rotate_left
              ·simp only [Act.put, List.setIfInBounds_toArray, List.set_cons_zero, List.set_cons_succ, i64_w, i32_w]
               rfl
              refine pure_ (i := 1) (N := some 34) (v := ?_) (a' := ?_) #[tT,tT,fF,fF,fF,fF,fF,fF,fF,fF,fF,fF,fF] rfl rfl (zAZ HT_.out (by kernel_rfl)) (fun _ _ _ h => h) (Or.inl ⟨by rfl, ?_⟩) ?_ ?_
              rotate_left
              ·intro w'
               go_simp
               with_reducible rfl
              rotate_left
              ·simp only [Act.put, List.setIfInBounds_toArray, List.set_cons_zero, List.set_cons_succ, i64_w, i32_w]
               rfl
              refine pure_ (i := 2) (N := some 35) (v := ?_) (a' := ?_) #[tT,tT,tT,fF,fF,fF,fF,fF,fF,fF,fF,fF,fF] rfl rfl (zAZ HT_.out (by kernel_rfl)) (fun _ _ _ h => h) (Or.inl ⟨by rfl, ?_⟩) ?_ ?_
              rotate_left
              ·intro w'
               go_simp
               with_reducible rfl
              rotate_left
              ·simp only [Act.put, List.setIfInBounds_toArray, List.set_cons_zero, List.set_cons_succ, i64_w, i32_w]
               rfl
              refine pure_ (i := 3) (N := some 36) (v := ?_) (a' := ?_) #[tT,tT,tT,tT,fF,fF,fF,fF,fF,fF,fF,fF,fF] rfl rfl (zAZ HT_.out (by kernel_rfl)) (fun _ _ _ h => h) (Or.inl ⟨by rfl, ?_⟩) ?_ ?_
              rotate_left
              ·intro w'
               go_simp
               with_reducible rfl
              rotate_left
              ·simp only [Act.put, List.setIfInBounds_toArray, List.set_cons_zero, List.set_cons_succ, i64_w, i32_w]
               rfl
              refine pure_ (i := 4) (N := some 37) (v := ?_) (a' := ?_) #[tT,tT,tT,tT,tT,fF,fF,fF,fF,fF,fF,fF,fF] rfl rfl (zAZ HT_.out (by kernel_rfl)) (fun _ _ _ h => h) (Or.inl ⟨by rfl, ?_⟩) ?_ ?_
              rotate_left
              ·intro w'
               go_simp
               with_reducible rfl
              rotate_left
              ·simp only [Act.put, List.setIfInBounds_toArray, List.set_cons_zero, List.set_cons_succ, i64_w, i32_w]
               rfl
              refine pure_ (i := 6) (N := some 39) (v := ?_) (a' := ?_) #[tT,tT,tT,tT,tT,fF,tT,fF,fF,fF,fF,fF,fF] rfl rfl (zAZ HT_.out (by kernel_rfl)) (fun _ _ _ h => h) (Or.inl ⟨by rfl, ?_⟩) ?_ ?_
              rotate_left
              ·intro w'
               go_simp
               with_reducible rfl
              rotate_left
              ·simp only [Act.put, List.setIfInBounds_toArray, List.set_cons_zero, List.set_cons_succ, i64_w, i32_w]
               rfl
              refine pure_ (i := 7) (N := some 40) (v := ?_) (a' := ?_) #[tT,tT,tT,tT,tT,fF,tT,tT,fF,fF,fF,fF,fF] rfl rfl (zAZ HT_.out (by kernel_rfl)) (fun _ _ _ h => h) (Or.inl ⟨by rfl, ?_⟩) ?_ ?_
              rotate_left
              ·intro w'
               go_simp
               with_reducible rfl
              rotate_left
              ·simp only [Act.put, List.setIfInBounds_toArray, List.set_cons_zero, List.set_cons_succ, i64_w, i32_w]
               rfl
              refine pure_ (i := 8) (N := some 41) (v := ?_) (a' := ?_) #[tT,tT,tT,tT,tT,fF,tT,tT,tT,fF,fF,fF,fF] rfl rfl (zAZ HT_.out (by kernel_rfl)) (fun _ _ _ h => h) (Or.inl ⟨by rfl, ?_⟩) ?_ ?_
              rotate_left
              ·intro w'
               go_simp
               with_reducible rfl
              rotate_left
              ·simp only [Act.put, List.setIfInBounds_toArray, List.set_cons_zero, List.set_cons_succ, i64_w, i32_w]
               rfl
              refine take_ (i := 5) (N := some 38) (v := ?_) (a' := ?_) #[tT,tT,tT,tT,tT,tT,tT,tT,tT,fF,fF,fF,fF] rfl rfl (zBN HT_.out HW_.out (by kernel_rfl)) (fun _ _ _ h => h) (Or.inl ⟨by rfl, ?_⟩) hHeld ?_ ?_
              rotate_left
              ·rintro w' ⟨s0, s1⟩
               go_simp
               with_reducible rfl
              rotate_left
              ·simp only [Act.put, List.setIfInBounds_toArray, List.set_cons_zero, List.set_cons_succ, i64_w, i32_w]
               rfl
              refine take_ (i := 9) (N := some 42) (v := ?_) (a' := ?_) #[tT,tT,tT,tT,tT,tT,tT,tT,tT,tT,fF,fF,fF] rfl rfl (zBN HT_.out HW_.out (by kernel_rfl)) (fun _ _ _ h => h) (Or.inl ⟨by rfl, ?_⟩) hHeld ?_ ?_
              rotate_left
              ·rintro w' ⟨s0, s1⟩
               go_simp
               with_reducible rfl
              rotate_left
              ·simp only [Act.put, List.setIfInBounds_toArray, List.set_cons_zero, List.set_cons_succ, i64_w, i32_w]
               rfl
              refine pure_ (i := 10) (N := some 43) (v := ?_) (a' := ?_) #[tT,tT,tT,tT,tT,tT,tT,tT,tT,tT,tT,fF,fF] rfl rfl (zAZ HT_.out (by kernel_rfl)) (fun _ _ _ h => h) (Or.inl ⟨by rfl, ?_⟩) ?_ ?_
              rotate_left
              ·intro w'
               go_simp
               with_reducible rfl
              rotate_left
              ·simp only [Act.put, List.setIfInBounds_toArray, List.set_cons_zero, List.set_cons_succ, i64_w, i32_w]
               rfl
              refine pure_ (i := 11) (N := some 44) (v := ?_) (a' := ?_) #[tT,tT,tT,tT,tT,tT,tT,tT,tT,tT,tT,tT,fF] rfl rfl (zAZ HT_.out (by kernel_rfl)) (fun _ _ _ h => h) (Or.inl ⟨by rfl, ?_⟩) ?_ ?_
              rotate_left
              ·intro w'
               go_simp
               with_reducible rfl
              rotate_left
              ·simp only [Act.put, List.setIfInBounds_toArray, List.set_cons_zero, List.set_cons_succ, i64_w, i32_w]
               rfl
              refine last_ (i := 12) (N := none) #[tT,tT,tT,tT,tT,tT,tT,tT,tT,tT,tT,tT,tT] rfl rfl (one_of HT_.out (by kernel_rfl)) (by decide) (fun K hK => ?_)
              refine skip_ (w1 := ?_) (by rfl) rfl ?_ ?_
              rotate_left
              ·go_simp
               rfl
              refine hK.out _ _ ?_
              clear hK K
              refine done_ (done_of HT_.out (by kernel_rfl)) ?_
              try go_wp2
              go_roundg k2
              case measure => have := HK1.out; have := HK2.out; omega
              case rel => exact ⟨(y298), (wrap64 (x6_2 + 1)), (by first | rfl | (simp; done) | (simp [*]; done)), H', ⟨by have := HK1.out; have := HK2.out; omega⟩, ⟨by (with_reducible repeat (first | apply Kd.S_alloc | apply Kd.S_drewN | apply Kd.S_drew)); exact Kd.S_mono (Kd.S_far (p := ⟨go18, (x5_1 : Int).toNat, none⟩) (Kd.S_mono HO_3.out (fun k_ hk => (⟨hk, fun e_ => hk (by rw [e_]; rfl)⟩ : _ ∧ k_ ≠ go18))) (fun _ hk => hk.2) (.int .i64 ji17)) (fun _ hk => hk.1)⟩, ⟨by (with_reducible repeat (first | apply Kd.R_alloc | apply Kd.R_drewN | apply Kd.R_drew)); exact HQ21.out⟩, ⟨by repeat (first | (with_reducible first | exact HB.out | apply zAC | apply zAA | apply zAD | refine zAH ?_ GB18.out) | exact HB.out)⟩⟩
             ·rw [if_neg c16] at H
              exact absurd H (by simp)
            ·rw [if_neg c15] at H
             exact absurd H (by simp)
           ·rw [if_neg c14] at H
            exact absurd H (by simp)
          ·replace c13 := Bool.eq_false_iff.mpr c13
           subst c13
           have H1 : (swageref27_Heights.l1 k2 l0 t288 x4_2 x5_1 (wrap64 (x6_2 + 1))) = some r := by rw [if_neg (show ¬ (false = true) by decide)] at H; exact H
           clear H
           have H := H1
           clear H1
           have H' := Aside0.mk H
           clear H
           have p294 : 0 ≤ (x6_2 : Int) := of_decide_eq_true (by first | (with_reducible assumption) | assumption)
           have q294 : x6_2 < (t288.length : Int) := of_decide_eq_true (by first | (with_reducible assumption) | assumption)
           obtain ⟨ad294, A294_0, c294_0, e294, hx294_0, hl294_0, hi294_0⟩ := at_L1 (Kd.S_reads' HO_3.out).2.2 x6_2 p294 q294
           cases e294
           obtain ⟨ce294, hce294, hMe294, hcc294⟩ := Kd.S_get HO_3.out [] x6_2 p294 (by first | exact q294 | exact of_decide_eq_true (by first | (with_reducible assumption) | assumption) | (have e_ := (Kd.S_reads' HO_3.out).1; omega))
           obtain ⟨ve294_0, rfl, ge294_0⟩ := hMe294
           have hv294_0 := hcc294 0 _ rfl
           rw [Nat.add_zero, show ((Kd.slice 3 (Kd.int .i64))).sz = 1 from rfl, Nat.mul_one] at hv294_0
           replace hv294_0 := Option.some.inj (hv294_0.symm.trans hx294_0)
           rw [hv294_0] at ge294_0
           have HL294_0 := Aside0.mk (show Kd.R (Kd.int .i64) 3 _ _ _ _ (rd_L1 t288 x6_2) from ge294_0)
           clear hv294_0 ge294_0
           clear hcc294 hce294
           have HR294_0 := Aside0.mk hi294_0
           have HC294_0 := Aside0.mk hl294_0
           clear hi294_0 hl294_0
           replace p294 := eq_true p294
           replace q294 := eq_true q294
           go_wp2_with (first | ((with_reducible refine zAV (f := 35) rfl ?_); refine zBO (some 32) rfl rfl Try.func35 (by kernel_rfl) rfl #[.slice A294_0 (rd_L1 t288 x6_2).length c294_0, .int .i64 x5_1] rfl (by (try simp only [List.map_toArray, List.map_cons, List.map_nil]); first | done | rfl | (simp only [List.length_drop, List.length_take]; rfl)) ?_; (with_reducible refine (swageref27_in.calls k2 _ _ (rd_L1 t288 x6_2) x5_1 false _ ?side1 ?side2 A12.out).mono ?_); (case side1 => repeat (first | exact (by repeat (first | (with_reducible exact HR294_0.out) | (with_reducible refine Kd.C_alloc ?_ _) | (with_reducible refine Kd.C_drewN ?_ _) | (with_reducible refine Kd.C_drew ?_) | exact HR294_0.out)) | (with_reducible refine Kd.C_alloc ?_ _) | (with_reducible refine Kd.C_drewN ?_ _) | (with_reducible refine Kd.C_drew ?_))); (case side2 => exact HC294_0.out); rintro e w' ⟨rfl, ⟨nd, rfl⟩⟩; refine ⟨_, rfl, ?_⟩))
           go_roundg k2
           case measure => have := HK1.out; have := HK2.out; omega
           case rel => exact ⟨(x4_2), (wrap64 (x6_2 + 1)), (by first | rfl | (simp; done) | (simp [*]; done)), H', ⟨by have := HK1.out; have := HK2.out; omega⟩, ⟨by (with_reducible repeat (first | apply Kd.S_alloc | apply Kd.S_drewN | apply Kd.S_drew)); exact HO_3.out⟩, ⟨by (with_reducible repeat (first | apply Kd.R_alloc | apply Kd.R_drewN | apply Kd.R_drew)); exact HO_4.out⟩, ⟨by repeat (first | (with_reducible first | exact HB.out | apply zAC | apply zAA | apply zAD) | exact HB.out)⟩⟩
         ·rw [if_neg c11] at H
          exact absurd H (by simp)
        ·rw [if_neg c10] at H
         have c10b0 : decide (x6_2 < (t288.length : Int)) = false := decide_eq_false c10
         clear c10
         by_cases c22 : 0 ≤ x5_1
         ·rw [if_pos c22] at H
          have c22b0 : decide (0 ≤ x5_1) = true := decide_eq_true c22
          clear c22
          by_cases c23 : x5_1 < (x4_2.length : Int)
          ·rw [if_pos c23] at H
           have c23b0 : decide (x5_1 < (x4_2.length : Int)) = true := decide_eq_true c23
           clear c23
           by_cases c24 : x5_1 < (l0.length : Int)
           ·rw [if_pos c24] at H
            have c24b0 : decide (x5_1 < (l0.length : Int)) = true := decide_eq_true c24
            clear c24
            replace H := Option.bind_eq_some_iff.mp H
            obtain ⟨t301, A250, H⟩ := H
            replace H : (swageref27_Heights.l0 k2 l0 t288 (x4_2.set (x5_1 : Int).toNat (wrap64 ((rd x4_2 x5_1) + t301))) (wrap64 (x5_1 - 1))) = some r := H
            have A25 := Aside0.mk A250
            clear A250
            obtain ⟨y302, hy302⟩ : ∃ y_ : List Int, y_ = (x4_2.set (x5_1 : Int).toNat (wrap64 ((rd x4_2 x5_1) + t301))) := ⟨_, rfl⟩
            replace H : (swageref27_Heights.l0 k2 l0 t288 y302 (wrap64 (x5_1 - 1))) = some r := by first | (rw [hy302]; with_reducible exact H) | (have H2_ := (Option.bind_some _ _).symm.trans H; rw [hy302]; with_reducible exact H2_) | (have H2_ := (Option.bind_some _ _).symm.trans H; with_reducible exact H2_) | with_reducible exact H | (rw [hy302]; exact H) | exact H
            have Ny302 := Aside0.mk hy302
            clear hy302
            have H' := Aside0.mk H
            clear H
            try go_wp2
            have n0_ := Aside0.mk (Kd.S_drew HO_3.out)
            have n1_ := Aside0.mk (Kd.R_drew HO_4.out)
            have n2_ := Aside0.mk (zAD HB.out)
            clear HO_3
            clear HO_4
            clear HB
            have HO_3 := n0_
            have HO_4 := n1_
            have HB := n2_
            clear n0_ n1_ n2_
            obtain ⟨Ao28, co28, eo28⟩ := Kd.R_slice HO_4.out
            (first | subst eo28 | (injection eo28 with f1_ f2_ f3_; have f4_ := f1_.symm; have f5_ := f3_.symm; clear f1_ f2_ f3_; subst f4_; subst f5_))
            have p299 : 0 ≤ (x5_1 : Int) := of_decide_eq_true (by first | (with_reducible assumption) | assumption)
            have q299 : x5_1 < (x4_2.length : Int) := of_decide_eq_true (by first | (with_reducible assumption) | assumption)
            obtain ⟨ad299, e299, hx299_0⟩ := Kd.at_int (Kd.R_reads' HO_4.out).2.2 x5_1 p299 q299
            cases e299
            replace p299 := eq_true p299
            replace q299 := eq_true q299
            have p300 : 0 ≤ (x5_1 : Int) := of_decide_eq_true (by first | (with_reducible assumption) | assumption)
            have q300 : x5_1 < (l0.length : Int) := of_decide_eq_true (by first | (with_reducible assumption) | assumption)
            obtain ⟨ad300, A300_5, c300_5, e300, hx300_0, hx300_1, hx300_2, hx300_3, hx300_4, hx300_5, hl300_5, hi300_5⟩ := zBT HR0.out x5_1 p300 q300
            have hw300_5 := hx300_5
            have hw300_4 := hx300_4
            have hw300_3 := hx300_3
            have hw300_2 := hx300_2
            have hw300_1 := hx300_1
            have hw300_0 := hx300_0
            cases e300
            replace hx300_0 := (HB.out.cell (World.block_lt_of_cell? w _ hx300_0)).trans hx300_0
            replace hx300_1 := (HB.out.cell (World.block_lt_of_cell? w _ hx300_1)).trans hx300_1
            replace hx300_2 := (HB.out.cell (World.block_lt_of_cell? w _ hx300_2)).trans hx300_2
            replace hx300_3 := (HB.out.cell (World.block_lt_of_cell? w _ hx300_3)).trans hx300_3
            replace hx300_4 := (HB.out.cell (World.block_lt_of_cell? w _ hx300_4)).trans hx300_4
            replace hx300_5 := (HB.out.cell (World.block_lt_of_cell? w _ hx300_5)).trans hx300_5
            have HR300_5 := Aside0.mk hi300_5
            have HC300_5 := Aside0.mk hl300_5
            clear hi300_5 hl300_5
            replace p300 := eq_true p300
            replace q300 := eq_true q300
            refine zCA (n := 14) (S := fun w' => w'.cell? (ad299.add (x5_1).toNat) = some (.int .i64 (rd x4_2 x5_1)) ∧ w'.cell? (ad300.add ((x5_1).toNat * 6)) = some (.int .i64 ((zAF l0 x5_1).f0)) ∧ w'.cell? ⟨(ad300.add ((x5_1).toNat * 6)).block, (ad300.add ((x5_1).toNat * 6)).off + 1, none⟩ = some (.int .i64 ((zAF l0 x5_1).f1)) ∧ w'.cell? ⟨(ad300.add ((x5_1).toNat * 6)).block, (ad300.add ((x5_1).toNat * 6)).off + 2, none⟩ = some (.int .i64 ((zAF l0 x5_1).f2)) ∧ w'.cell? ⟨(ad300.add ((x5_1).toNat * 6)).block, (ad300.add ((x5_1).toNat * 6)).off + 3, none⟩ = some (.int .i64 ((zAF l0 x5_1).f3)) ∧ w'.cell? ⟨(ad300.add ((x5_1).toNat * 6)).block, (ad300.add ((x5_1).toNat * 6)).off + 4, none⟩ = some (.int .i64 ((zAF l0 x5_1).f4)) ∧ w'.cell? ⟨(ad300.add ((x5_1).toNat * 6)).block, (ad300.add ((x5_1).toNat * 6)).off + 5, none⟩ = some (.slice A300_5 ((zAF l0 x5_1).f5).length c300_5)) (ds := [13]) #[fF,fF,fF,fF,fF,fF,fF,fF,fF,fF,fF,fF,fF,fF] (by kernel_rfl) rfl rfl ⟨hx299_0, ((HB.out.cell (World.block_lt_of_cell? w _ hw300_0)).trans hw300_0), ((HB.out.cell (World.block_lt_of_cell? w _ hw300_1)).trans hw300_1), ((HB.out.cell (World.block_lt_of_cell? w _ hw300_2)).trans hw300_2), ((HB.out.cell (World.block_lt_of_cell? w _ hw300_3)).trans hw300_3), ((HB.out.cell (World.block_lt_of_cell? w _ hw300_4)).trans hw300_4), ((HB.out.cell (World.block_lt_of_cell? w _ hw300_5)).trans hw300_5)⟩ (fun hHeld => ?_); refine with_tabW swageref27_Heights.tab11 swageref27_Heights.bits11 (fun HT_ HW_ => ?_)
            generalize wr.drew = w27 at HO_3 HO_4 HB HR300_5 hx299_0 hx300_0 hx300_1 hx300_2 hx300_3 hx300_4 hx300_5 hHeld ⊢
            refine pure_ (i := 0) (N := some 45) (v := ?_) (a' := ?_) #[tT,fF,fF,fF,fF,fF,fF,fF,fF,fF,fF,fF,fF,fF] rfl rfl (zAZ HT_.out (by kernel_rfl)) (fun _ _ _ h => h) (Or.inl ⟨by rfl, ?_⟩) ?_ ?_
            rotate_left
            ·intro w'
             go_simp
             with_reducible rfl
            rotate_left
            ·simp only [Act.put, List.setIfInBounds_toArray, List.set_cons_zero, List.set_cons_succ, i64_w, i32_w]
             rfl
            refine pure_ (i := 1) (N := some 46) (v := ?_) (a' := ?_) #[tT,tT,fF,fF,fF,fF,fF,fF,fF,fF,fF,fF,fF,fF] rfl rfl (zAZ HT_.out (by kernel_rfl)) (fun _ _ _ h => h) (Or.inl ⟨by rfl, ?_⟩) ?_ ?_
            rotate_left
            ·intro w'
             go_simp
             with_reducible rfl
            rotate_left
            ·simp only [Act.put, List.setIfInBounds_toArray, List.set_cons_zero, List.set_cons_succ, i64_w, i32_w]
             rfl
            refine pure_ (i := 2) (N := some 47) (v := ?_) (a' := ?_) #[tT,tT,tT,fF,fF,fF,fF,fF,fF,fF,fF,fF,fF,fF] rfl rfl (zAZ HT_.out (by kernel_rfl)) (fun _ _ _ h => h) (Or.inl ⟨by rfl, ?_⟩) ?_ ?_
            rotate_left
            ·intro w'
             go_simp
             with_reducible rfl
            rotate_left
            ·simp only [Act.put, List.setIfInBounds_toArray, List.set_cons_zero, List.set_cons_succ, i64_w, i32_w]
             rfl
            refine pure_ (i := 3) (N := some 48) (v := ?_) (a' := ?_) #[tT,tT,tT,tT,fF,fF,fF,fF,fF,fF,fF,fF,fF,fF] rfl rfl (zAZ HT_.out (by kernel_rfl)) (fun _ _ _ h => h) (Or.inl ⟨by rfl, ?_⟩) ?_ ?_
            rotate_left
            ·intro w'
             go_simp
             with_reducible rfl
            rotate_left
            ·simp only [Act.put, List.setIfInBounds_toArray, List.set_cons_zero, List.set_cons_succ, i64_w, i32_w]
             rfl
            refine pure_ (i := 4) (N := some 49) (v := ?_) (a' := ?_) #[tT,tT,tT,tT,tT,fF,fF,fF,fF,fF,fF,fF,fF,fF] rfl rfl (zAZ HT_.out (by kernel_rfl)) (fun _ _ _ h => h) (Or.inl ⟨by rfl, ?_⟩) ?_ ?_
            rotate_left
            ·intro w'
             go_simp
             with_reducible rfl
            rotate_left
            ·simp only [Act.put, List.setIfInBounds_toArray, List.set_cons_zero, List.set_cons_succ, i64_w, i32_w]
             rfl
            refine pure_ (i := 6) (N := some 51) (v := ?_) (a' := ?_) #[tT,tT,tT,tT,tT,fF,tT,fF,fF,fF,fF,fF,fF,fF] rfl rfl (zAZ HT_.out (by kernel_rfl)) (fun _ _ _ h => h) (Or.inl ⟨by rfl, ?_⟩) ?_ ?_
            rotate_left
            ·intro w'
             go_simp
             with_reducible rfl
            rotate_left
            ·simp only [Act.put, List.setIfInBounds_toArray, List.set_cons_zero, List.set_cons_succ, i64_w, i32_w]
             rfl
            refine pure_ (i := 7) (N := some 52) (v := ?_) (a' := ?_) #[tT,tT,tT,tT,tT,fF,tT,tT,fF,fF,fF,fF,fF,fF] rfl rfl (zAZ HT_.out (by kernel_rfl)) (fun _ _ _ h => h) (Or.inl ⟨by rfl, ?_⟩) ?_ ?_
            rotate_left
            ·intro w'
             go_simp
             with_reducible rfl
            rotate_left
            ·simp only [Act.put, List.setIfInBounds_toArray, List.set_cons_zero, List.set_cons_succ, i64_w, i32_w]
             rfl
            refine pure_ (i := 8) (N := some 53) (v := ?_) (a' := ?_) #[tT,tT,tT,tT,tT,fF,tT,tT,tT,fF,fF,fF,fF,fF] rfl rfl (zAZ HT_.out (by kernel_rfl)) (fun _ _ _ h => h) (Or.inl ⟨by rfl, ?_⟩) ?_ ?_
            rotate_left
            ·intro w'
             go_simp
             with_reducible rfl
            rotate_left
            ·simp only [Act.put, List.setIfInBounds_toArray, List.set_cons_zero, List.set_cons_succ, i64_w, i32_w]
             rfl
            refine take_ (i := 5) (N := some 50) (v := ?_) (a' := ?_) #[tT,tT,tT,tT,tT,tT,tT,tT,tT,fF,fF,fF,fF,fF] rfl rfl (zBN HT_.out HW_.out (by kernel_rfl)) (fun _ _ _ h => h) (Or.inl ⟨by rfl, ?_⟩) hHeld ?_ ?_
            rotate_left
            ·rintro w' ⟨s0, s1, s2, s3, s4, s5, s6⟩
             go_simp
             with_reducible rfl
            rotate_left
            ·simp only [Act.put, List.setIfInBounds_toArray, List.set_cons_zero, List.set_cons_succ, i64_w, i32_w]
             rfl
            refine take_ (i := 9) (N := some 54) (v := ?_) (a' := ?_) #[tT,tT,tT,tT,tT,tT,tT,tT,tT,tT,fF,fF,fF,fF] rfl rfl (zBN HT_.out HW_.out (by kernel_rfl)) (fun _ _ _ h => h) (Or.inl ⟨by rfl, ?_⟩) hHeld ?_ ?_
            rotate_left
            ·rintro w' ⟨s0, s1, s2, s3, s4, s5, s6⟩
             go_simp
             with_reducible rfl
            rotate_left
            ·simp only [Act.put, List.setIfInBounds_toArray, List.set_cons_zero, List.set_cons_succ, i64_w, i32_w]
             rfl
            refine one_ (i := 10) (N := some 55) #[tT,tT,tT,tT,tT,tT,tT,tT,tT,tT,tT,fF,fF,fF] rfl rfl (one_of HT_.out (by kernel_rfl)) (by decide) (fun K hK => ?_)
            refine goes_ Try.func15 (by kernel_rfl) rfl #[.agg #[.int .i64 ((zAF l0 x5_1).f0), .int .i64 ((zAF l0 x5_1).f1), .int .i64 ((zAF l0 x5_1).f2), .int .i64 ((zAF l0 x5_1).f3), .int .i64 ((zAF l0 x5_1).f4), .slice A300_5 ((zAF l0 x5_1).f5).length c300_5]] (by rfl) rfl rfl (by (try simp only [List.map_toArray, List.map_cons, List.map_nil]); first | done | rfl | (simp only [List.length_drop, List.length_take]; rfl)) ?_
            with_reducible refine (swageref27_Latency.calls k2 ((zAF l0 x5_1).f0) ((zAF l0 x5_1).f1) ((zAF l0 x5_1).f2) ((zAF l0 x5_1).f3) ((zAF l0 x5_1).f4) _ _ ((zAF l0 x5_1).f5) t301 _ ?side1 ?side2 A25.out).mono ?_
            (case side1 => repeat (first | exact (Kd.C_below HR300_5.out HB.out) | (with_reducible refine Kd.C_alloc ?_ _) | (with_reducible refine Kd.C_drewN ?_ _) | (with_reducible refine Kd.C_drew ?_)))
            (case side2 => exact HC300_5.out)
            rintro e w29 ⟨rfl, hb⟩
            have HS0_ := (hb.cell (World.block_lt_of_cell? _ _ (hHeld.1))).trans (hHeld.1)
            refine ⟨_, rfl, ?_⟩
            have n0_ := Aside0.mk (Kd.S_below (by (with_reducible repeat (first | apply Kd.S_alloc | apply Kd.S_drewN | apply Kd.S_drew)); exact HO_3.out) hb)
            have n1_ := Aside0.mk (Kd.R_below (by (with_reducible repeat (first | apply Kd.R_alloc | apply Kd.R_drewN | apply Kd.R_drew)); exact HO_4.out) hb)
            have n2_ := Aside0.mk (zAL (by repeat (first | (with_reducible first | exact HB.out | apply zAC | apply zAA | apply zAD) | exact HB.out)) hb)
            clear HO_3
            clear HO_4
            clear HB
            have HO_3 := n0_
            have HO_4 := n1_
            have HB := n2_
            clear n0_ n1_ n2_
            (try clear hb)
            (try clear hb2)
            (try clear hk)
            (try clear hi)
            have p26 : 0 ≤ (x5_1 : Int) := of_decide_eq_true (by first | (with_reducible assumption) | assumption)
            have q26 : (x5_1 : Int) < ((x4_2.length : Int) : Int) := of_decide_eq_true (by first | (with_reducible assumption) | assumption)
            obtain ⟨go26, co26, eo26, gb26, gl26, cl26, HG26⟩ := Kd.R_form HO_4.out (by omega)
            (first | cases eo26 | (injection eo26 with ea_ en_ ec_; (first | subst ea_ | (injection ea_ with ea_; subst ea_)); subst ec_; clear en_))
            have GB26 := Aside0.mk gb26
            have GG26 := Aside0.mk HG26
            clear gb26 gl26 HG26
            (first | simp only [zBX] at hx299_0 | skip)
            obtain ⟨hx26_0, hf26_0⟩ := Kd.R_celln 0 HO_4.out (x5_1 : Int) p26 q26
            replace p26 := eq_true p26
            replace q26 := eq_true q26
            have HP30 := Kd.R_putn HO_4.out (x5_1 : Int) (wrap64 ((rd x4_2 x5_1) + t301))
            rw [← Ny302.out] at HP30
            have HQ30 := Aside0.mk HP30
            clear HP30
            refine hK.out _ _ ⟨HS0_, ((HB.out.cell (World.block_lt_of_cell? w _ hw300_0)).trans hw300_0), ((HB.out.cell (World.block_lt_of_cell? w _ hw300_1)).trans hw300_1), ((HB.out.cell (World.block_lt_of_cell? w _ hw300_2)).trans hw300_2), ((HB.out.cell (World.block_lt_of_cell? w _ hw300_3)).trans hw300_3), ((HB.out.cell (World.block_lt_of_cell? w _ hw300_4)).trans hw300_4), ((HB.out.cell (World.block_lt_of_cell? w _ hw300_5)).trans hw300_5)⟩ (fun hHeld => ?_)
            clear hK K
            refine norm_ (a' := ?_) ?_ ?_
            rotate_left
            ·show Act.put _ (some 55) _ = _
             simp only [Act.put, List.setIfInBounds_toArray, List.set_cons_zero, List.set_cons_succ, i64_w, i32_w]
             rfl
            refine pure_ (i := 11) (N := some 56) (v := ?_) (a' := ?_) #[tT,tT,tT,tT,tT,tT,tT,tT,tT,tT,tT,tT,fF,fF] rfl rfl (zAZ HT_.out (by kernel_rfl)) (fun _ _ _ h => h) (Or.inl ⟨by rfl, ?_⟩) ?_ ?_
            rotate_left
            ·intro w'
             go_simp
             with_reducible rfl
            rotate_left
            ·simp only [Act.put, List.setIfInBounds_toArray, List.set_cons_zero, List.set_cons_succ, i64_w, i32_w]
             rfl
            refine pure_ (i := 12) (N := some 57) (v := ?_) (a' := ?_) #[tT,tT,tT,tT,tT,tT,tT,tT,tT,tT,tT,tT,tT,fF] rfl rfl (zAZ HT_.out (by kernel_rfl)) (fun _ _ _ h => h) (Or.inl ⟨by rfl, ?_⟩) ?_ ?_
            rotate_left
            ·intro w'
             go_simp
             with_reducible rfl
            rotate_left
            ·simp only [Act.put, List.setIfInBounds_toArray, List.set_cons_zero, List.set_cons_succ, i64_w, i32_w]
             rfl
            refine last_ (i := 13) (N := none) #[tT,tT,tT,tT,tT,tT,tT,tT,tT,tT,tT,tT,tT,tT] rfl rfl (one_of HT_.out (by kernel_rfl)) (by decide) (fun K hK => ?_)
            refine skip_ (w1 := ?_) (by rfl) rfl ?_ ?_
            rotate_left
            ·go_simp
             rfl
            refine hK.out _ _ ?_
            clear hK K
            refine done_ (done_of HT_.out (by kernel_rfl)) ?_
            try go_wp2
            go_roundg k2
            case measure => have := HK1.out; have := HK2.out; omega
            case rel => exact ⟨(y302), (wrap64 (x5_1 - 1)), (by first | rfl | (simp; done) | (simp [*]; done)), H', ⟨by have := HK1.out; have := HK2.out; omega⟩, ⟨by (with_reducible repeat (first | apply Kd.S_alloc | apply Kd.S_drewN | apply Kd.S_drew)); exact Kd.S_mono (Kd.S_far (p := ⟨go26, (x5_1 : Int).toNat, none⟩) (Kd.S_mono HO_3.out (fun k_ hk => (⟨hk, fun e_ => hk (by rw [e_]; rfl)⟩ : _ ∧ k_ ≠ go26))) (fun _ hk => hk.2) (.int .i64 (wrap64 ((rd x4_2 x5_1) + t301)))) (fun _ hk => hk.1)⟩, ⟨by (with_reducible repeat (first | apply Kd.R_alloc | apply Kd.R_drewN | apply Kd.R_drew)); exact HQ30.out⟩, ⟨by repeat (first | (with_reducible first | exact HB.out | apply zAC | apply zAA | apply zAD | refine zAH ?_ GB26.out) | exact HB.out)⟩⟩
           ·rw [if_neg c24] at H
            exact absurd H (by simp)
          ·rw [if_neg c23] at H
           exact absurd H (by simp)
         ·rw [if_neg c22] at H
          exact absurd H (by simp)
     ·rw [if_neg c9] at H
      have c9b0 : decide (0 ≤ x5_1) = false := decide_eq_false c9
      clear c9
      obtain rfl := Option.some.inj H
      go_wp2
      go_ret
      exact ⟨_, by first | rfl | (simp [zAO, zAN] <;> rfl) | (simp [*, zAO, zAN] <;> rfl), by (with_reducible repeat (first | apply Kd.R_alloc | apply Kd.R_drewN | apply Kd.R_drew)); exact HO_4.out, by repeat (first | (with_reducible first | exact HB.out | apply zAC | apply zAA | apply zAD) | exact HB.out)⟩
  ·rw [if_neg c4] at H
   exact absurd H (by simp)
 ·rw [if_neg c3] at H
  exact absurd H (by simp)
end Go.Proofs.Ytphmlkbmnmicpaa.A
