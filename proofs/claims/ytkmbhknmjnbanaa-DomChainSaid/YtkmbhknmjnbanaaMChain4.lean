/- Parts of the proof, in the order in which they rest on one another. -/
import Derived.Test.YtkmbhknmjnbanaaMChain3
import Derived.Below
import Derived.Deep.Draws
import Derived.Deep.AppendLies
import Derived.Maps.AppendAt
import Derived.OwnWalk
import Derived.Laws.BytesArg
import Derived.Laws.MakeOwn
import Derived.Laws.OwnMore
import Derived.Deep.OwnRows
import Derived.Tactics
import Derived.Lib.ConvBytes
import Derived.Laws.Slices
import Derived.WalkKit
import Derived.KernelRfl
import Derived.RowKit3
import Derived.Deep.LoopGhost
import Derived.Deep.QuietTactic
import Derived.BigQuiet
import Derived.WideLaws
import Derived.Deep.DeepCutAuto
import Derived.Deep.CutBlock
import Derived.Deep.RegionHeld3
import Derived.Laws.Rows
import Derived.Lib.AppendStr
import Derived.ArgAppend
import Derived.Laws.IdiomCopy
import Derived.RowKit
import Derived.OrdersHeld
import Derived.Laws.BitsLemmas
import Derived.Laws.StructEq
import Derived.Test.YtkmbhknmjnbanaaProg
import Derived.Shelf.Abstract
import Derived.Lib.Walk
import Derived.RangeFuncWrites
import Derived.RangeFuncNested
import Derived.RangeFuncBound
import Derived.RangeFuncCalls
import Derived.RangeFuncLeaves
import Derived.Shelf.RegionOpen
import Derived.OwnWalkIn
import Derived.TacticsInMore
import Derived.LoopNIn
import Derived.LoopIn
import Derived.Laws.EntriesVeiled
import Derived.RangeFuncBox
import Derived.Laws.CopyOwn
import Derived.Deep.RegionLaw
import Derived.BigRegion
import Derived.WalkSpells
import Derived.Shelf.SlIterI.Nil
import Derived.Shelf.SortM.Plain
import Derived.Shelf.SortM.SortNone
import Derived.Ground.GgzProg
import Derived.Ground.SlgmProg
import Derived.Shelf.SlGeneric
import Derived.Maps.Own
import Derived.Maps.OwnOps
import Derived.Maps.OwnSet
import Derived.Maps.Views
import Derived.RangeFuncRecord
import Derived.Deep.RegionLawGrows
import Derived.Deep.Upon
import Derived.Maps.OwnRows
import Derived.Maps.GroupsBeside
import Derived.Deep.RegionWith
import Derived.Deep.CutRange
import Derived.Maps.OwnIn
import Derived.Lib.SliceRun
import Derived.Outline
namespace Go.Proofs.Ytkmbhknmjnbanaa.A
open Go.RowKit Go.Proofs.YtkmbhknmjnbanaaW.PrintWords Go.Proofs.YtkmbhknmjnbanaaW.PrintLast Go.Proofs.YtkmbhknmjnbanaaW.PrintMore
attribute [local go_sem] max2_int min2_int max_two min_two max_three min_three max_four min_four   -- for this text's walks alone
set_option linter.unusedVariables false
set_option linter.unusedSimpArgs false

mutual
def swagelaw07_DomChain.j0 : Nat → Int → Int → Bool → Bool → Option (Bool)
  | 0, _, _, _, _ => none
  | k + 1, x0, x1, x5, x29 => if x29 = true then (some x5) else (swagelaw07_DomChain.l0 k x0 x1 x5 ([] : List (List Int)) 0)
def swagelaw07_DomChain.l0 : Nat → Int → Int → Bool → List (List Int) → Int → Option (Bool)
  | 0, _, _, _, _, _ => none
  | k + 1, x0, x1, x5, x6, x7 => if x7 < x0 then (if (wrap64 (x7 + 1)) = x0 then (if x6.length < 5864062014805 then (swagelaw07_DomChain.l0 k x0 x1 x5 (x6 ++ [([] : List Int)]) (wrap64 (x7 + 1))) else (none)) else (if x6.length < 5864062014805 then (swagelaw07_DomChain.l0 k x0 x1 x5 (x6 ++ [(([wrap64 (x7 + 1)] : List Int))]) (wrap64 (x7 + 1))) else (none))) else ((dom_Frontier.f k x6).bind fun t274 => ((dom_Idom.f k x6).bind fun t277 => (if 0 ≤ (wrap64 (x0 - 1)) then (if (wrap64 (x0 - 1)) < (x6.length : Int) then ((some (x6.set ((wrap64 (x0 - 1)) : Int).toNat (([x1] : List Int)) : List (List Int))).bind fun y283 => ((dom_Frontier.f k y283).bind fun t284 => (if (t274.length : Int) = x0 then (if (t284.length : Int) = x0 then (if (t277.length : Int) = x0 then ((dom_Idom.f k y283).bind fun t287 => ((swageref02_Ints.f k t287 t277).bind fun t290 => (swagelaw07_DomChain.j2 k x0 x1 x5 t274 t277 t284 (!t290)))) else (swagelaw07_DomChain.j2 k x0 x1 x5 t274 t277 t284 true)) else (swagelaw07_DomChain.j2 k x0 x1 x5 t274 t277 t284 true)) else (swagelaw07_DomChain.j2 k x0 x1 x5 t274 t277 t284 true)))) else (none)) else (none))))
def swagelaw07_DomChain.j2 : Nat → Int → Int → Bool → List (List Int) → List Int → List (List Int) → Bool → Option (Bool)
  | 0, _, _, _, _, _, _, _ => none
  | k + 1, x0, x1, x5, x9, x10, x11, x81 => if x81 = true then (some false) else (swagelaw07_DomChain.l1 k x0 x1 x5 x9 x10 x11 0)
def swagelaw07_DomChain.l1 : Nat → Int → Int → Bool → List (List Int) → List Int → List (List Int) → Int → Option (Bool)
  | 0, _, _, _, _, _, _, _ => none
  | k + 1, x0, x1, x5, x9, x10, x11, x12 => if x12 < x0 then (if x12 < x1 then (swagelaw07_DomChain.j4 k x0 x1 x5 x9 x10 x11 x12 ([] : List Int)) else (swagelaw07_DomChain.j4 k x0 x1 x5 x9 x10 x11 x12 (([x1] : List Int)))) else (some x5)
def swagelaw07_DomChain.j4 : Nat → Int → Int → Bool → List (List Int) → List Int → List (List Int) → Int → List Int → Option (Bool)
  | 0, _, _, _, _, _, _, _, _ => none
  | k + 1, x0, x1, x5, x9, x10, x11, x12, x13 => if 0 ≤ x12 then (if x12 < (x10.length : Int) then (if (rd x10 x12) = (wrap64 (x12 - 1)) then (if x12 < (x9.length : Int) then (if ((rd_L1 x9 x12).length : Int) = 0 then (if x12 < (x11.length : Int) then ((swageref02_Ints.f k (rd_L1 x11 x12) x13).bind fun t297 => (if t297 = true then ((dom_Dominates.f x10 0 x12).bind fun t298 => (if t298 = true then ((dom_Dominates.f x10 (wrap64 (x0 - 1)) x12).bind fun t299 => (if (t299 != (x12 == (wrap64 (x0 - 1)))) = true then (some false) else (swagelaw07_DomChain.l1 k x0 x1 x5 x9 x10 x11 (wrap64 (x12 + 1))))) else (some false))) else (some false))) else (none)) else (some false)) else (none)) else (some false)) else (none)) else (none)
end
def swagelaw07_DomChain.f (k : Nat) (a0 : Int) (a1 : Int) : Option (Bool) := (swagelaw07_small.f).bind fun t264 => (if a0 < 1 then (swagelaw07_DomChain.j0 k a0 a1 t264 true) else (if a0 > 20 then (swagelaw07_DomChain.j0 k a0 a1 t264 true) else (if a1 < 0 then (swagelaw07_DomChain.j0 k a0 a1 t264 true) else (swagelaw07_DomChain.j0 k a0 a1 t264 (decide (a1 ≥ a0))))))
set_option maxHeartbeats 8000000 in
set_option maxRecDepth 100000 in
theorem swagelaw07_DomChain.calls (k : Nat) (a0 : Int) (a1 : Int) (r : Bool) (w : World) (h : swagelaw07_DomChain.f k a0 a1 = some r) :
    Calls Try.prog 10 #[.int .i64 a0, .int .i64 a1] w fun e w' => e = .returned (.bool r) ∧ Below w.heap.size w w' := by
  have HB := Aside0.mk (Below.refl w.heap.size w)
  have H : ((swagelaw07_small.f).bind fun t264 => (if a0 < 1 then (swagelaw07_DomChain.j0 k a0 a1 t264 true) else (if a0 > 20 then (swagelaw07_DomChain.j0 k a0 a1 t264 true) else (if a1 < 0 then (swagelaw07_DomChain.j0 k a0 a1 t264 true) else (swagelaw07_DomChain.j0 k a0 a1 t264 (decide (a1 ≥ a0))))))) = some r := h
  clear h
  replace H := Option.bind_eq_some_iff.mp H
  obtain ⟨t264, A30, H⟩ := H
  replace H : (if a0 < 1 then (swagelaw07_DomChain.j0 k a0 a1 t264 true) else (if a0 > 20 then (swagelaw07_DomChain.j0 k a0 a1 t264 true) else (if a1 < 0 then (swagelaw07_DomChain.j0 k a0 a1 t264 true) else (swagelaw07_DomChain.j0 k a0 a1 t264 (decide (a1 ≥ a0)))))) = some r := H
  have A3 := Aside0.mk A30
  clear A30
  have HC4 := Aside0.mk H
  clear H
  go_enter Try.func10, Try.ntmps10
  go_upto_region 2 with (first | ((with_reducible refine gate_callee (f := 34) rfl ?_); refine goesL_ (some 14) rfl rfl Try.func34 (by kernel_rfl) rfl #[] rfl (by (try simp only [List.map_toArray, List.map_cons, List.map_nil]); first | done | rfl | (simp only [List.length_drop, List.length_take]; rfl)) ?_; (with_reducible refine (swagelaw07_small.calls  t264 _ A3.out).mono ?_); rintro e w5 ⟨rfl, hb⟩; refine ⟨_, rfl, ?_⟩; have n0_ := Aside0.mk (below_step (by repeat (first | (with_reducible first | exact HB.out | apply below_alloc | apply pw_below_drewN | apply below_drew1) | exact HB.out)) hb); clear HB; have HB := n0_; clear n0_; (try clear hb); (try clear hb2); (try clear hk); (try clear hi)))
  (try simp only [Act.put, List.setIfInBounds_toArray, List.set_cons_zero, List.set_cons_succ])
  go_cut [29] (fun v29 wc => ∃ (kq : Nat) (x29_3 : Bool), v29 = .bool x29_3 ∧ Aside0 (swagelaw07_DomChain.j0 kq a0 a1 t264 x29_3 = some r) ∧ Aside0 (kq ≤ k) ∧ Aside0 (Below w.heap.size w wc))
  case first =>
    have H := HC4.out
    clear HC4
    by_cases c6 : a0 < 1
    · rw [if_pos c6] at H
      have c6b0 : decide (a0 < 1) = true := decide_eq_true c6
      clear c6
      (first | rw [c6b0] | (simp only [i64_w, i32_w]; rw [c6b0]) | skip)
      have H' := Aside0.mk H
      clear H
      go_wp2
      go_meet
      case rel => exact ⟨_, (true), (by first | rfl | (simp; done) | (simp [*]; done)), H', ⟨by first | omega | exact Nat.le_refl _⟩, ⟨by repeat (first | (with_reducible first | exact HB.out | apply below_alloc | apply pw_below_drewN | apply below_drew1) | exact HB.out)⟩⟩
    · rw [if_neg c6] at H
      have c6b0 : decide (a0 < 1) = false := decide_eq_false c6
      clear c6
      (first | rw [c6b0] | (simp only [i64_w, i32_w]; rw [c6b0]) | skip)
      by_cases c7 : a0 > 20
      · rw [if_pos c7] at H
        have c7b0 : decide (20 < a0) = true := decide_eq_true c7
        clear c7
        have H' := Aside0.mk H
        clear H
        go_wp2
        go_meet
        case rel => exact ⟨_, (true), (by first | rfl | (simp; done) | (simp [*]; done)), H', ⟨by first | omega | exact Nat.le_refl _⟩, ⟨by repeat (first | (with_reducible first | exact HB.out | apply below_alloc | apply pw_below_drewN | apply below_drew1) | exact HB.out)⟩⟩
      · rw [if_neg c7] at H
        have c7b0 : decide (20 < a0) = false := decide_eq_false c7
        clear c7
        by_cases c8 : a1 < 0
        · rw [if_pos c8] at H
          have c8b0 : decide (a1 < 0) = true := decide_eq_true c8
          clear c8
          have H' := Aside0.mk H
          clear H
          go_wp2
          go_meet
          case rel => exact ⟨_, (true), (by first | rfl | (simp; done) | (simp [*]; done)), H', ⟨by first | omega | exact Nat.le_refl _⟩, ⟨by repeat (first | (with_reducible first | exact HB.out | apply below_alloc | apply pw_below_drewN | apply below_drew1) | exact HB.out)⟩⟩
        · rw [if_neg c8] at H
          have c8b0 : decide (a1 < 0) = false := decide_eq_false c8
          clear c8
          have H' := Aside0.mk H
          clear H
          go_wp2
          go_meet
          case rel => exact ⟨_, (decide (a1 ≥ a0)), (by first | rfl | (simp; done) | (simp [*]; done)), H', ⟨by first | omega | exact Nat.le_refl _⟩, ⟨by repeat (first | (with_reducible first | exact HB.out | apply below_alloc | apply pw_below_drewN | apply below_drew1) | exact HB.out)⟩⟩
  case rest =>
    clear HC4
    try clear c1
    try clear p2
    try clear c3
    try clear c6
    try clear c6b0
    try clear c7
    try clear c7b0
    try clear c8
    try clear c8b0
    obtain ⟨kq, x29_3, rfl, HA, HJ3, HB⟩ := hcut
    cases kq with
    | zero => exact absurd HA.out (by simp [swagelaw07_DomChain.j0])
    | succ kj3 =>
      have H := HA.out
      clear HA
      simp only [swagelaw07_DomChain.j0] at H
      by_cases c9 : x29_3 = true
      · subst c9
        have H1 : (some t264) = some r := by rw [if_pos rfl] at H; exact H
        clear H
        have H := H1
        clear H1
        obtain rfl := Option.some.inj H
        go_wp2
        go_ret
        exact ⟨by first | rfl | (simp [errW_none, errW_some] <;> rfl) | (simp [*, errW_none, errW_some] <;> rfl), by repeat (first | (with_reducible first | exact HB.out | apply below_alloc | apply pw_below_drewN | apply below_drew1) | exact HB.out)⟩
      · replace c9 := Bool.eq_false_iff.mpr c9
        subst c9
        have H1 : (swagelaw07_DomChain.l0 kj3 a0 a1 t264 ([] : List (List Int)) 0) = some r := by rw [if_neg (show ¬ (false = true) by decide)] at H; exact H
        clear H
        have H := H1
        clear H1
        have H' := Aside0.mk H
        clear H
        go_wp2
        go_loopg [6, 7] kj3 (fun kq v6 v7 w' => ∃ (x6_2 : List (List Int)) (x7_2 : Int), v7 = .int .i64 x7_2 ∧ Aside0 (swagelaw07_DomChain.l0 kq a0 a1 t264 x6_2 x7_2 = some r) ∧ Aside0 (kq ≤ kj3) ∧ Aside0 (Kd.S (Kd.slice 3 (Kd.int .i64)) 27 w' w.heap.size (fun _ => True) v6 x6_2) ∧ Aside0 (Below w.heap.size w w'))
        case atStart => exact ⟨(([] : List (List Int))), (0), (by first | rfl | (simp; done) | (simp [*]; done)), H', ⟨Nat.le_refl _⟩, ⟨by first | exact Kd.S_nil _ _ _ _ _ | exact Kd.N_nil _ _ _ _ _ | exact Kd.V_nil _ _ _ _ _ | exact Kd.Q_nil _ _ _ _ _ | exact Kd.R_nil _ _ _ _ _⟩, ⟨by repeat (first | (with_reducible first | exact HB.out | apply below_alloc | apply pw_below_drewN | apply below_drew1) | exact HB.out)⟩⟩
        case round =>
          clear H'
          try clear c1
          try clear p2
          try clear c3
          try clear c6
          try clear c6b0
          try clear c7
          try clear c7b0
          try clear c8
          try clear c8b0
          try clear c9
          try clear p2
          obtain ⟨x6_2, x7_2, rfl, HA, HK2, HO_6, HB⟩ := hrel
          cases gk with
          | zero => exact absurd HA.out (by simp [swagelaw07_DomChain.l0])
          | succ k2 =>
            have H := HA.out
            clear HA
            simp only [swagelaw07_DomChain.l0] at H
            by_cases c10 : x7_2 < a0
            · rw [if_pos c10] at H
              have c10b0 : decide (x7_2 < a0) = true := decide_eq_true c10
              clear c10
              obtain ⟨y265, hy265⟩ : ∃ y_ : List Int, y_ = (([wrap64 (x7_2 + 1)] : List Int)) := ⟨_, rfl⟩
              replace H : (if (wrap64 (x7_2 + 1)) = a0 then (if x6_2.length < 5864062014805 then (swagelaw07_DomChain.l0 k2 a0 a1 t264 (x6_2 ++ [([] : List Int)]) (wrap64 (x7_2 + 1))) else (none)) else (if x6_2.length < 5864062014805 then (swagelaw07_DomChain.l0 k2 a0 a1 t264 (x6_2 ++ [y265]) (wrap64 (x7_2 + 1))) else (none))) = some r := by first | (rw [hy265]; with_reducible exact H) | (have H2_ := (Option.bind_some _ _).symm.trans H; rw [hy265]; with_reducible exact H2_) | (have H2_ := (Option.bind_some _ _).symm.trans H; with_reducible exact H2_) | with_reducible exact H | (rw [hy265]; exact H) | exact H
              have Ny265 := Aside0.mk hy265
              clear hy265
              by_cases c11 : (wrap64 (x7_2 + 1)) = a0
              · rw [if_pos c11] at H
                have c11b0 : ((wrap64 (x7_2 + 1)) == a0) = true := beq_iff_eq.mpr c11
                have c11b1 : ((wrap64 (x7_2 + 1)) != a0) = false := bne_eq_false_iff_eq.mpr c11
                clear c11
                by_cases c12 : x6_2.length < 5864062014805
                · rw [if_pos c12] at H
                  have LMc12 := Aside0.mk c12
                  clear c12
                  obtain ⟨y268, hy268⟩ : ∃ y_ : List (List Int), y_ = (x6_2 ++ [([] : List Int)]) := ⟨_, rfl⟩
                  replace H : (swagelaw07_DomChain.l0 k2 a0 a1 t264 y268 (wrap64 (x7_2 + 1))) = some r := by first | (rw [hy268]; with_reducible exact H) | (have H2_ := (Option.bind_some _ _).symm.trans H; rw [hy268]; with_reducible exact H2_) | (have H2_ := (Option.bind_some _ _).symm.trans H; with_reducible exact H2_) | with_reducible exact H | (rw [hy268]; exact H) | exact H
                  have Ny268 := Aside0.mk hy268
                  clear hy268
                  have H' := Aside0.mk H
                  clear H
                  go_wp2_with (first | ((with_reducible refine gate_dst (N := 38) rfl ?_); (try (refine gate_guard (by rfl) ?_; dsimp only)); refine Kd.R_lit (Kd.int .i64) _ 3 ?hg (N := 38) ?hd (xs := ([wrap64 (x7_2 + 1)] : List Int)) (inner := [.int .i64 (wrap64 (x7_2 + 1))]) (ok := fun _ => True) (okp := fun _ => True) ?hr ?hp (fun _ hk => hk) trivial (Below.refl _ _) (Nat.le_refl _) (by simp) ?_; (case hd => rfl); (case hg => rfl); (case hr => first | (go_simp; done) | (go_simp; rfl)); (case hp => exact (Reps.one (show Kd.M (Kd.int .i64) _ _ _ (wrap64 (x7_2 + 1)) [.int .i64 (wrap64 (x7_2 + 1))] from rfl) (Reps.none _ _))); intro v266 w13 ho14 hb hg_ hnew_; clear hg_ hnew_; (first | rw [← Ny265.out] at ho14 | (simp only [Int.reduceToNat] at ho14; rw [← Ny265.out] at ho14)); have n0_ := Aside0.mk (Kd.S_elder' (by (with_reducible repeat (first | apply Kd.S_alloc | apply Kd.S_drewN | apply Kd.S_drew)); exact HO_6.out) (Kd.R_base ho14) hb); have n1_ := Aside0.mk (Kd.R_lower ho14 (below_size (by repeat (first | (with_reducible first | exact HB.out | apply below_alloc | apply pw_below_drewN | apply below_drew1) | exact HB.out)))); have n2_ := Aside0.mk (below_step (by repeat (first | (with_reducible first | exact HB.out | apply below_alloc | apply pw_below_drewN | apply below_drew1) | exact HB.out)) hb); clear HO_6; clear HB; have HO_6 := n0_; have HO267 := n1_; have HB := n2_; clear n0_ n1_ n2_; clear hb ho14) | ((with_reducible refine gate_builtin (b := .append) (xs := #[.tmp 43, .tmp 45]) rfl ?_); (try (refine gate_guard (by rfl) ?_; dsimp only)); at_builtin; refine Kd.S_append (Kd.slice 3 (Kd.int .i64)) (w0 := w) w.heap.size rfl (.tmp 43) (.tmp 45) 22 27 (.slice none 0 0) 24 rfl Try.underlying22 info27 rfl (by decide) (by omega) u6 x6_2 ([] : List Int) [.slice none 0 0] (fun k_ => some k_ ≠ (v266 : Value).ownBlock) (fun _ => False) rfl rfl ?aP (fun k_ hk_ => hk_.elim) ?aF ?aO ?aB ?aS ?aL ?_; (case aP => exact Kd.M_row (Kd.R_nil _ _ _ _ _)); (case aB => exact (by repeat (first | (with_reducible first | exact HB.out | apply below_alloc | apply pw_below_drewN | apply below_drew1) | exact HB.out))); (case aF => exact (fun k_ hk => Kd.fresh' (Kd.R_lt (by (with_reducible repeat (first | apply Kd.R_alloc | apply Kd.R_drewN | apply Kd.R_drew)); exact HO267.out)) k_ hk)); (case aO => exact (by (with_reducible repeat (first | apply Kd.S_alloc | apply Kd.S_drewN | apply Kd.S_drew)); exact Kd.S_mono HO_6.out (fun k_ hk => ⟨hk.2, fun e_ => e_⟩))); (case aS => exact (below_size (by repeat (first | (with_reducible first | exact HB.out | apply below_alloc | apply pw_below_drewN | apply below_drew1) | exact HB.out)))); (case aL => have := LMc12.out; omega); intro v269 w15 ho hb hg hat; rw [← Ny268.out] at ho; have n0_ := Aside0.mk (Kd.R_over' (by (with_reducible repeat (first | apply Kd.R_alloc | apply Kd.R_drewN | apply Kd.R_drew)); exact HO267.out) (Kd.S_typed (by (with_reducible repeat (first | apply Kd.S_alloc | apply Kd.S_drewN | apply Kd.S_drew)); exact HO_6.out)) (by decide) hg); have n1_ := Aside0.mk (hb); have n2_ := Aside0.mk (ho); clear HO267; clear HB; clear HO_6; have HO267 := n0_; have HB := n1_; have HO270 := n2_; clear n0_ n1_ n2_; clear ho hb hg hat))
                  go_roundg k2
                  case measure => have := HJ3.out; have := HK2.out; omega
                  case rel => exact ⟨(y268), (wrap64 (x7_2 + 1)), (by first | rfl | (simp; done) | (simp [*]; done)), H', ⟨by have := HJ3.out; have := HK2.out; omega⟩, ⟨by (with_reducible repeat (first | apply Kd.S_alloc | apply Kd.S_drewN | apply Kd.S_drew)); exact Kd.S_mono HO270.out (fun _ hk => trivial)⟩, ⟨by repeat (first | (with_reducible first | exact HB.out | apply below_alloc | apply pw_below_drewN | apply below_drew1) | exact HB.out)⟩⟩
                · rw [if_neg c12] at H
                  exact absurd H (by simp)
              · rw [if_neg c11] at H
                have c11b0 : ((wrap64 (x7_2 + 1)) == a0) = false := beq_eq_false_iff_ne.mpr c11
                have c11b1 : ((wrap64 (x7_2 + 1)) != a0) = true := bne_iff_ne.mpr c11
                by_cases c16 : x6_2.length < 5864062014805
                · rw [if_pos c16] at H
                  have LMc16 := Aside0.mk c16
                  clear c16
                  obtain ⟨y271, hy271⟩ : ∃ y_ : List (List Int), y_ = (x6_2 ++ [y265]) := ⟨_, rfl⟩
                  replace H : (swagelaw07_DomChain.l0 k2 a0 a1 t264 y271 (wrap64 (x7_2 + 1))) = some r := by first | (rw [hy271]; with_reducible exact H) | (have H2_ := (Option.bind_some _ _).symm.trans H; rw [hy271]; with_reducible exact H2_) | (have H2_ := (Option.bind_some _ _).symm.trans H; with_reducible exact H2_) | with_reducible exact H | (rw [hy271]; exact H) | exact H
                  have Ny271 := Aside0.mk hy271
                  clear hy271
                  have H' := Aside0.mk H
                  clear H
                  go_wp2_with (first | ((with_reducible refine gate_dst (N := 38) rfl ?_); (try (refine gate_guard (by rfl) ?_; dsimp only)); refine Kd.R_lit (Kd.int .i64) _ 3 ?hg (N := 38) ?hd (xs := ([wrap64 (x7_2 + 1)] : List Int)) (inner := [.int .i64 (wrap64 (x7_2 + 1))]) (ok := fun _ => True) (okp := fun _ => True) ?hr ?hp (fun _ hk => hk) trivial (Below.refl _ _) (Nat.le_refl _) (by simp) ?_; (case hd => rfl); (case hg => rfl); (case hr => first | (go_simp; done) | (go_simp; rfl)); (case hp => exact (Reps.one (show Kd.M (Kd.int .i64) _ _ _ (wrap64 (x7_2 + 1)) [.int .i64 (wrap64 (x7_2 + 1))] from rfl) (Reps.none _ _))); intro v266 w17 ho18 hb hg_ hnew_; clear hg_ hnew_; (first | rw [← Ny265.out] at ho18 | (simp only [Int.reduceToNat] at ho18; rw [← Ny265.out] at ho18)); have n0_ := Aside0.mk (Kd.S_elder' (by (with_reducible repeat (first | apply Kd.S_alloc | apply Kd.S_drewN | apply Kd.S_drew)); exact HO_6.out) (Kd.R_base ho18) hb); have n1_ := Aside0.mk (Kd.R_lower ho18 (below_size (by repeat (first | (with_reducible first | exact HB.out | apply below_alloc | apply pw_below_drewN | apply below_drew1) | exact HB.out)))); have n2_ := Aside0.mk (below_step (by repeat (first | (with_reducible first | exact HB.out | apply below_alloc | apply pw_below_drewN | apply below_drew1) | exact HB.out)) hb); clear HO_6; clear HB; have HO_6 := n0_; have HO267 := n1_; have HB := n2_; clear n0_ n1_ n2_; clear hb ho18; obtain ⟨Ao20, co20, eo20⟩ := Kd.R_slice HO267.out; subst eo20) | ((with_reducible refine gate_builtin (b := .append) (xs := #[.tmp 43, .tmp 45]) rfl ?_); (try (refine gate_guard (by rfl) ?_; dsimp only)); at_builtin; refine Kd.S_append (Kd.slice 3 (Kd.int .i64)) (w0 := w) w.heap.size rfl (.tmp 43) (.tmp 45) 22 27 (.slice none 0 0) 24 rfl Try.underlying22 info27 rfl (by decide) (by omega) u6 x6_2 y265 [.slice Ao20 y265.length co20] (fun _ => True) (fun k_ => some k_ = (.slice Ao20 y265.length co20 : Value).ownBlock) rfl rfl ?aP (fun k_ hk_ => ((Kd.R_mono (ok' := fun k_ => ((fun _ => True)) k_ ∧ some k_ ≠ (u6 : Value).ownBlock) (Kd.R_apart' (HO267.out) (Kd.S_typed HO_6.out) (by decide)) (fun k_ hk => ⟨trivial, hk.2⟩))).1 k_ hk_.symm) ?aF ?aO ?aB ?aS ?aL ?_; (case aP => exact Kd.M_row (Kd.R_mono (Kd.R_tight rfl (Kd.R_mono (ok' := fun k_ => ((fun _ => True)) k_ ∧ some k_ ≠ (u6 : Value).ownBlock) (Kd.R_apart' (HO267.out) (Kd.S_typed HO_6.out) (by decide)) (fun k_ hk => ⟨trivial, hk.2⟩))) (fun _ h_ => h_))); (case aB => exact (by repeat (first | (with_reducible first | exact HB.out | apply below_alloc | apply pw_below_drewN | apply below_drew1) | exact HB.out))); (case aF => exact (fun _ _ => trivial)); (case aO => exact (by (with_reducible repeat (first | apply Kd.S_alloc | apply Kd.S_drewN | apply Kd.S_drew)); exact Kd.S_mono HO_6.out (fun k_ hk => ⟨trivial, fun e_ => hk.2 e_⟩))); (case aS => exact (below_size (by repeat (first | (with_reducible first | exact HB.out | apply below_alloc | apply pw_below_drewN | apply below_drew1) | exact HB.out)))); (case aL => have := LMc16.out; omega); intro v272 w19 ho hb hg hat; rw [← Ny271.out] at ho; have n0_ := Aside0.mk (hb); have n1_ := Aside0.mk (ho); clear HB; clear HO_6; clear HO267; have HB := n0_; have HO273 := n1_; clear n0_ n1_; clear ho hb hg hat))
                  go_roundg k2
                  case measure => have := HJ3.out; have := HK2.out; omega
                  case rel => exact ⟨(y271), (wrap64 (x7_2 + 1)), (by first | rfl | (simp; done) | (simp [*]; done)), H', ⟨by have := HJ3.out; have := HK2.out; omega⟩, ⟨by (with_reducible repeat (first | apply Kd.S_alloc | apply Kd.S_drewN | apply Kd.S_drew)); exact HO273.out⟩, ⟨by repeat (first | (with_reducible first | exact HB.out | apply below_alloc | apply pw_below_drewN | apply below_drew1) | exact HB.out)⟩⟩
                · rw [if_neg c16] at H
                  exact absurd H (by simp)
            · rw [if_neg c10] at H
              have c10b0 : decide (x7_2 < a0) = false := decide_eq_false c10
              clear c10
              replace H := Option.bind_eq_some_iff.mp H
              obtain ⟨t274, A210, H⟩ := H
              replace H : ((dom_Idom.f k2 x6_2).bind fun t277 => (if 0 ≤ (wrap64 (a0 - 1)) then (if (wrap64 (a0 - 1)) < (x6_2.length : Int) then ((some (x6_2.set ((wrap64 (a0 - 1)) : Int).toNat (([a1] : List Int)) : List (List Int))).bind fun y283 => ((dom_Frontier.f k2 y283).bind fun t284 => (if (t274.length : Int) = a0 then (if (t284.length : Int) = a0 then (if (t277.length : Int) = a0 then ((dom_Idom.f k2 y283).bind fun t287 => ((swageref02_Ints.f k2 t287 t277).bind fun t290 => (swagelaw07_DomChain.j2 k2 a0 a1 t264 t274 t277 t284 (!t290)))) else (swagelaw07_DomChain.j2 k2 a0 a1 t264 t274 t277 t284 true)) else (swagelaw07_DomChain.j2 k2 a0 a1 t264 t274 t277 t284 true)) else (swagelaw07_DomChain.j2 k2 a0 a1 t264 t274 t277 t284 true)))) else (none)) else (none))) = some r := H
              have A21 := Aside0.mk A210
              clear A210
              replace H := Option.bind_eq_some_iff.mp H
              obtain ⟨t277, A220, H⟩ := H
              replace H : (if 0 ≤ (wrap64 (a0 - 1)) then (if (wrap64 (a0 - 1)) < (x6_2.length : Int) then ((some (x6_2.set ((wrap64 (a0 - 1)) : Int).toNat (([a1] : List Int)) : List (List Int))).bind fun y283 => ((dom_Frontier.f k2 y283).bind fun t284 => (if (t274.length : Int) = a0 then (if (t284.length : Int) = a0 then (if (t277.length : Int) = a0 then ((dom_Idom.f k2 y283).bind fun t287 => ((swageref02_Ints.f k2 t287 t277).bind fun t290 => (swagelaw07_DomChain.j2 k2 a0 a1 t264 t274 t277 t284 (!t290)))) else (swagelaw07_DomChain.j2 k2 a0 a1 t264 t274 t277 t284 true)) else (swagelaw07_DomChain.j2 k2 a0 a1 t264 t274 t277 t284 true)) else (swagelaw07_DomChain.j2 k2 a0 a1 t264 t274 t277 t284 true)))) else (none)) else (none)) = some r := H
              have A22 := Aside0.mk A220
              clear A220
              obtain ⟨y280, hy280⟩ : ∃ y_ : List Int, y_ = (([a1] : List Int)) := ⟨_, rfl⟩
              replace H : (if 0 ≤ (wrap64 (a0 - 1)) then (if (wrap64 (a0 - 1)) < (x6_2.length : Int) then ((some (x6_2.set ((wrap64 (a0 - 1)) : Int).toNat y280 : List (List Int))).bind fun y283 => ((dom_Frontier.f k2 y283).bind fun t284 => (if (t274.length : Int) = a0 then (if (t284.length : Int) = a0 then (if (t277.length : Int) = a0 then ((dom_Idom.f k2 y283).bind fun t287 => ((swageref02_Ints.f k2 t287 t277).bind fun t290 => (swagelaw07_DomChain.j2 k2 a0 a1 t264 t274 t277 t284 (!t290)))) else (swagelaw07_DomChain.j2 k2 a0 a1 t264 t274 t277 t284 true)) else (swagelaw07_DomChain.j2 k2 a0 a1 t264 t274 t277 t284 true)) else (swagelaw07_DomChain.j2 k2 a0 a1 t264 t274 t277 t284 true)))) else (none)) else (none)) = some r := by first | (rw [hy280]; with_reducible exact H) | (have H2_ := (Option.bind_some _ _).symm.trans H; rw [hy280]; with_reducible exact H2_) | (have H2_ := (Option.bind_some _ _).symm.trans H; with_reducible exact H2_) | with_reducible exact H | (rw [hy280]; exact H) | exact H
              have Ny280 := Aside0.mk hy280
              clear hy280
              obtain ⟨ji23, hji23⟩ : ∃ j_ : Int, (wrap64 (a0 - 1)) = j_ := ⟨_, rfl⟩
              replace H : (if 0 ≤ (ji23) then (if (ji23) < (x6_2.length : Int) then ((some (x6_2.set ((ji23) : Int).toNat y280 : List (List Int))).bind fun y283 => ((dom_Frontier.f k2 y283).bind fun t284 => (if (t274.length : Int) = a0 then (if (t284.length : Int) = a0 then (if (t277.length : Int) = a0 then ((dom_Idom.f k2 y283).bind fun t287 => ((swageref02_Ints.f k2 t287 t277).bind fun t290 => (swagelaw07_DomChain.j2 k2 a0 a1 t264 t274 t277 t284 (!t290)))) else (swagelaw07_DomChain.j2 k2 a0 a1 t264 t274 t277 t284 true)) else (swagelaw07_DomChain.j2 k2 a0 a1 t264 t274 t277 t284 true)) else (swagelaw07_DomChain.j2 k2 a0 a1 t264 t274 t277 t284 true)))) else (none)) else (none)) = some r := by first | (rw [hji23] at H; exact H) | (simp only [hji23] at H ⊢; exact H)
              (try rw [hji23] at A21)
              (try rw [hji23] at A22)
              have hji23w : (IntKind.i64.wrap (a0 - 1)) = ji23 := (i64_w _).trans hji23
              by_cases c24 : 0 ≤ (ji23)
              · rw [if_pos c24] at H
                have c24b0 : decide (0 ≤ (ji23)) = true := decide_eq_true c24
                clear c24
                by_cases c25 : (ji23) < (x6_2.length : Int)
                · rw [if_pos c25] at H
                  have c25b0 : decide ((ji23) < (x6_2.length : Int)) = true := decide_eq_true c25
                  clear c25
                  obtain ⟨y283, hy283⟩ : ∃ y_ : List (List Int), y_ = (x6_2.set ((ji23) : Int).toNat y280) := ⟨_, rfl⟩
                  replace H : ((dom_Frontier.f k2 y283).bind fun t284 => (if (t274.length : Int) = a0 then (if (t284.length : Int) = a0 then (if (t277.length : Int) = a0 then ((dom_Idom.f k2 y283).bind fun t287 => ((swageref02_Ints.f k2 t287 t277).bind fun t290 => (swagelaw07_DomChain.j2 k2 a0 a1 t264 t274 t277 t284 (!t290)))) else (swagelaw07_DomChain.j2 k2 a0 a1 t264 t274 t277 t284 true)) else (swagelaw07_DomChain.j2 k2 a0 a1 t264 t274 t277 t284 true)) else (swagelaw07_DomChain.j2 k2 a0 a1 t264 t274 t277 t284 true))) = some r := by first | (rw [hy283]; with_reducible exact H) | (have H2_ := (Option.bind_some _ _).symm.trans H; rw [hy283]; with_reducible exact H2_) | (have H2_ := (Option.bind_some _ _).symm.trans H; with_reducible exact H2_) | with_reducible exact H | (rw [hy283]; exact H) | exact H
                  have Ny283 := Aside0.mk hy283
                  clear hy283
                  replace H := Option.bind_eq_some_iff.mp H
                  obtain ⟨t284, A270, H⟩ := H
                  replace H : (if (t274.length : Int) = a0 then (if (t284.length : Int) = a0 then (if (t277.length : Int) = a0 then ((dom_Idom.f k2 y283).bind fun t287 => ((swageref02_Ints.f k2 t287 t277).bind fun t290 => (swagelaw07_DomChain.j2 k2 a0 a1 t264 t274 t277 t284 (!t290)))) else (swagelaw07_DomChain.j2 k2 a0 a1 t264 t274 t277 t284 true)) else (swagelaw07_DomChain.j2 k2 a0 a1 t264 t274 t277 t284 true)) else (swagelaw07_DomChain.j2 k2 a0 a1 t264 t274 t277 t284 true)) = some r := H
                  have A27 := Aside0.mk A270
                  clear A270
                  have HC28 := Aside0.mk H
                  clear H
                  obtain ⟨Ao29, co29, eo29⟩ := Kd.S_slice HO_6.out
                  subst eo29
                  go_upto_region 16 with (first | ((with_reducible refine gate_callee (f := 44) rfl ?_); refine goesL_ (some 48) rfl rfl Try.func44 (by kernel_rfl) rfl #[.slice Ao29 x6_2.length co29] rfl (by (try simp only [List.map_toArray, List.map_cons, List.map_nil]); first | done | rfl | (simp only [List.length_drop, List.length_take]; rfl)) ?_; (with_reducible refine (dom_Frontier.calls k2 _ _ x6_2 t274 _ ?side1 ?side2 A21.out).mono ?_); (case side1 => repeat (first | exact (Kd.S_reads' HO_6.out).2.2 | (with_reducible refine Kd.C_alloc ?_ _) | (with_reducible refine Kd.C_drewN ?_ _) | (with_reducible refine Kd.C_drew ?_))); (case side2 => exact (Kd.S_reads' HO_6.out).2.1); rintro e w30 ⟨v275, rfl, ho0, hb⟩; refine ⟨_, rfl, ?_⟩; have n0_ := Aside0.mk (Kd.S_elder' (by (with_reducible repeat (first | apply Kd.S_alloc | apply Kd.S_drewN | apply Kd.S_drew)); exact HO_6.out) (Kd.S_base ho0) hb); have n1_ := Aside0.mk (Kd.S_lower (Kd.S_new' ho0 (Kd.S_lt (by (with_reducible repeat (first | apply Kd.S_alloc | apply Kd.S_drewN | apply Kd.S_drew)); exact HO_6.out))) (below_size (by repeat (first | (with_reducible first | exact HB.out | apply below_alloc | apply pw_below_drewN | apply below_drew1) | exact HB.out)))); have n2_ := Aside0.mk (below_step (by repeat (first | (with_reducible first | exact HB.out | apply below_alloc | apply pw_below_drewN | apply below_drew1) | exact HB.out)) hb); clear HO_6; clear HB; have HO_6 := n0_; have HO276 := n1_; have HB := n2_; clear n0_ n1_ n2_; (try clear hb); (try clear hb2); (try clear hk); (try clear hi); (try clear ho0)) | ((with_reducible refine gate_callee (f := 36) rfl ?_); refine goesL_ (some 50) rfl rfl Try.func36 (by kernel_rfl) rfl #[.slice Ao29 x6_2.length co29] rfl (by (try simp only [List.map_toArray, List.map_cons, List.map_nil]); first | done | rfl | (simp only [List.length_drop, List.length_take]; rfl)) ?_; (with_reducible refine (dom_Idom.calls k2 _ _ x6_2 t277 _ ?side1 ?side2 A22.out).mono ?_); (case side1 => repeat (first | exact (Kd.S_reads' HO_6.out).2.2 | (with_reducible refine Kd.C_alloc ?_ _) | (with_reducible refine Kd.C_drewN ?_ _) | (with_reducible refine Kd.C_drew ?_))); (case side2 => exact (Kd.S_reads' HO_6.out).2.1); rintro e w31 ⟨v278, rfl, ho0, hb⟩; refine ⟨_, rfl, ?_⟩; have n0_ := Aside0.mk (Kd.S_elder' (by (with_reducible repeat (first | apply Kd.S_alloc | apply Kd.S_drewN | apply Kd.S_drew)); exact HO_6.out) (Kd.R_base ho0) hb); have n1_ := Aside0.mk (Kd.S_elder' (by (with_reducible repeat (first | apply Kd.S_alloc | apply Kd.S_drewN | apply Kd.S_drew)); exact HO276.out) (Kd.R_base ho0) hb); have n2_ := Aside0.mk (Kd.R_lower ho0 (below_size (by repeat (first | (with_reducible first | exact HB.out | apply below_alloc | apply pw_below_drewN | apply below_drew1) | exact HB.out)))); have n3_ := Aside0.mk (below_step (by repeat (first | (with_reducible first | exact HB.out | apply below_alloc | apply pw_below_drewN | apply below_drew1) | exact HB.out)) hb); clear HO_6; clear HO276; clear HB; have HO_6 := n0_; have HO276 := n1_; have HO279 := n2_; have HB := n3_; clear n0_ n1_ n2_ n3_; (try clear hb); (try clear hb2); (try clear hk); (try clear hi); (try clear ho0)) | ((with_reducible refine gate_dst (N := 55) rfl ?_); (try (refine gate_guard (by rfl) ?_; dsimp only)); refine Kd.R_lit (Kd.int .i64) _ 3 ?hg (N := 55) ?hd (xs := ([a1] : List Int)) (inner := [.int .i64 a1]) (ok := fun _ => True) (okp := fun _ => True) ?hr ?hp (fun _ hk => hk) trivial (Below.refl _ _) (Nat.le_refl _) (by simp) ?_; (case hd => rfl); (case hg => rfl); (case hr => first | (go_simp; done) | (go_simp; rfl)); (case hp => exact (Reps.one (show Kd.M (Kd.int .i64) _ _ _ a1 [.int .i64 a1] from rfl) (Reps.none _ _))); intro v281 w32 ho33 hb hg_ hnew_; clear hg_ hnew_; (first | rw [← Ny280.out] at ho33 | (simp only [Int.reduceToNat] at ho33; rw [← Ny280.out] at ho33)); have n0_ := Aside0.mk (Kd.S_elder' (by (with_reducible repeat (first | apply Kd.S_alloc | apply Kd.S_drewN | apply Kd.S_drew)); exact HO_6.out) (Kd.R_base ho33) hb); have n1_ := Aside0.mk (Kd.S_elder' (by (with_reducible repeat (first | apply Kd.S_alloc | apply Kd.S_drewN | apply Kd.S_drew)); exact HO276.out) (Kd.R_base ho33) hb); have n2_ := Aside0.mk (Kd.R_elder' (by (with_reducible repeat (first | apply Kd.R_alloc | apply Kd.R_drewN | apply Kd.R_drew)); exact HO279.out) (Kd.R_base ho33) hb); have n3_ := Aside0.mk (Kd.R_lower (Kd.R_new' ho33 (Kd.R_lt (by (with_reducible repeat (first | apply Kd.R_alloc | apply Kd.R_drewN | apply Kd.R_drew)); exact HO279.out))) (below_size (by repeat (first | (with_reducible first | exact HB.out | apply below_alloc | apply pw_below_drewN | apply below_drew1) | exact HB.out)))); have n4_ := Aside0.mk (below_step (by repeat (first | (with_reducible first | exact HB.out | apply below_alloc | apply pw_below_drewN | apply below_drew1) | exact HB.out)) hb); clear HO_6; clear HO276; clear HO279; clear HB; have HO_6 := n0_; have HO276 := n1_; have HO279 := n2_; have HO282 := n3_; have HB := n4_; clear n0_ n1_ n2_ n3_ n4_; clear hb ho33; have p26 : 0 ≤ ((ji23) : Int) := of_decide_eq_true (by first | (with_reducible assumption) | assumption); have q26 : ((ji23) : Int) < ((x6_2.length : Int) : Int) := of_decide_eq_true (by first | (with_reducible assumption) | assumption); obtain ⟨go26, co26, eo26, gb26, gl26, cl26, HG26⟩ := Kd.S_form HO_6.out (by omega); (first | cases eo26 | (injection eo26 with ea_ en_ ec_; (first | subst ea_ | (injection ea_ with ea_; subst ea_)); subst ec_; clear en_)); have GB26 := Aside0.mk gb26; have GG26 := Aside0.mk HG26; clear gb26 gl26 HG26; obtain ⟨_, ce26, hcl26, hM26, hcc26, hfr26, _, _⟩ := Kd.S_elem HO_6.out [] ((ji23) : Int) p26 q26; obtain ⟨ve26_0, rfl, ge26_0⟩ := hM26; have hx26_0 := hcc26 0 _ rfl; have hf26_0 := hfr26 0; (try simp only [show ((Kd.slice 3 (Kd.int .i64))).sz = 1 from rfl, Nat.mul_one, Nat.add_zero] at hx26_0); (try simp only [show ((Kd.slice 3 (Kd.int .i64))).sz = 1 from rfl, Nat.mul_one, Nat.add_zero] at hf26_0); (try clear hcl26); (try clear hcc26); (try clear hfr26); (try clear hM26); replace p26 := eq_true p26; replace q26 := eq_true q26; have n_ := Aside0.mk (Kd.S_mono (ok' := (fun k_ => some k_ ≠ (v275 : Value).ownBlock ∧ some k_ ≠ (v278 : Value).ownBlock ∧ some k_ ≠ (v281 : Value).ownBlock)) HO_6.out (fun k_ hk => ⟨hk.1.1.2, ⟨hk.1.2, hk.2⟩⟩)); clear HO_6; have HO_6 := n_; clear n_; have HX34 := Aside0.mk (show Kd.S (Kd.slice 3 (Kd.int .i64)) 27 w32 w.heap.size (fun k_ => ((fun k_ => some k_ ≠ (v275 : Value).ownBlock ∧ some k_ ≠ (v278 : Value).ownBlock)) k_ ∧ ¬ ((fun k_ => some k_ = (v281 : Value).ownBlock)) k_) (.slice (some ⟨go26, 0, none⟩) x6_2.length co29) x6_2 from (by (with_reducible repeat (first | apply Kd.S_alloc | apply Kd.S_drewN | apply Kd.S_drew)); exact Kd.S_mono HO_6.out (fun k_ hk => ⟨⟨hk.1, hk.2.1⟩, fun e_ => hk.2.2 e_⟩))); obtain ⟨oki34, ce34, hcl34, hM34, hcc34, hfr34, hoki34, hH34⟩ := Kd.S_elem HX34.out [] ((ji23) : Int) (of_decide_eq_true (by first | (with_reducible assumption) | assumption)) (by have h_ : ((ji23) : Int) < ((x6_2.length : Int) : Int) := of_decide_eq_true (by first | (with_reducible assumption) | assumption); first | exact h_ | (have e_ := (Kd.S_reads' HO_6.out).1; omega) | simpa using h_); obtain ⟨ve34_0, rfl, ge34_0⟩ := hM34; have HP34 := Kd.S_seg hH34 (of_decide_eq_true (by first | (with_reducible assumption) | assumption)) (by have h_ : ((ji23) : Int) < ((x6_2.length : Int) : Int) := of_decide_eq_true (by first | (with_reducible assumption) | assumption); first | exact h_ | (have e_ := (Kd.S_reads' HO_6.out).1; omega) | simpa using h_) (seg := [v281]) (j := 0) (show 1 ≤ 1 from by decide) (x' := y280) (Kd.M_row (Kd.R_mono (Kd.R_tight rfl (Kd.R_mono (ok' := fun k_ => ((fun k_ => some k_ ≠ (v275 : Value).ownBlock ∧ some k_ ≠ (v278 : Value).ownBlock)) k_ ∧ k_ ≠ go26) (Kd.R_apart' (Kd.R_apart' (HO282.out) (Kd.S_typed HO276.out) (by decide)) (Kd.S_typed HO_6.out) (by decide)) (fun k_ hk => ⟨⟨hk.1.2, hk.1.1.2⟩, fun e_ => (hk.2) (by rw [e_]; rfl)⟩))) (fun _ h_ => Or.inr (h_)))) (fun _ hk => hk) (fun k_ hk_ => ((Kd.R_mono (ok' := fun k_ => ((fun k_ => some k_ ≠ (v275 : Value).ownBlock ∧ some k_ ≠ (v278 : Value).ownBlock)) k_ ∧ k_ ≠ go26) (Kd.R_apart' (Kd.R_apart' (HO282.out) (Kd.S_typed HO276.out) (by decide)) (Kd.S_typed HO_6.out) (by decide)) (fun k_ hk => ⟨⟨hk.1.2, hk.1.1.2⟩, fun e_ => (hk.2) (by rw [e_]; rfl)⟩))).1 k_ hk_.symm); have hx34_0 := hcc34 0 _ rfl; (try simp only [show ((Kd.slice 3 (Kd.int .i64))).sz = 1 from rfl, Nat.mul_one, Nat.add_zero] at hx34_0); have hf34_0 := hfr34 0; (try simp only [show ((Kd.slice 3 (Kd.int .i64))).sz = 1 from rfl, Nat.mul_one, Nat.add_zero] at hf34_0); (try clear hcl34); (try clear hcc34); (try clear hfr34); (try clear hM34); (try clear hoki34); (try clear hH34); (try simp only [show ((Kd.slice 3 (Kd.int .i64))).sz = 1 from rfl, Nat.mul_one, Nat.add_zero] at HP34)) | ((with_reducible refine gate_store (t := 27) (p := 56) rfl ?_); refine store_event (t := 27) (p := 56) (v := ?vo_w35) (w1 := (w32.setCell ⟨go26, ((ji23) : Int).toNat, none⟩ (v281))) ?hg ?ho ?hn ?hr ?_; (case ho => rfl); (case hg => rfl); (case hn => rfl); (case hr => obtain ⟨Av_, cv_, ev_⟩ := Kd.R_slice HO282.out; subst ev_; first | (go_simp; done) | (go_simp; rfl)); intro w35 hw; have hg : w32.grownBy w35 (some go26) := (by rw [hw]; exact HP34.2); have hp_ : Kd.S (Kd.slice 3 (Kd.int .i64)) 27 w35 w.heap.size (fun k_ => some k_ ≠ (v275 : Value).ownBlock ∧ some k_ ≠ (v278 : Value).ownBlock) (.slice (some ⟨go26, 0, none⟩) x6_2.length co29) y283 := (by rw [hw, Ny283.out]; exact HP34.1); clear HP34; have n0_ := Aside0.mk (hp_); have n1_ := Aside0.mk (Kd.S_after (v := (.slice (some ⟨go26, 0, none⟩) x6_2.length co29)) (v1 := (.slice (some ⟨go26, 0, none⟩) x6_2.length co29)) (ok := (fun k_ => some k_ ≠ (v278 : Value).ownBlock ∧ some k_ ≠ (v281 : Value).ownBlock)) (by (with_reducible repeat (first | apply Kd.S_alloc | apply Kd.S_drewN | apply Kd.S_drew)); exact Kd.S_mono HO276.out (fun _ hk => ⟨⟨hk.1.2, hk.2⟩, hk.1.1.2⟩)) hg (.inl rfl)); have n2_ := Aside0.mk (Kd.R_over' (v := (.slice (some ⟨go26, 0, none⟩) x6_2.length co29)) (by (with_reducible repeat (first | apply Kd.R_alloc | apply Kd.R_drewN | apply Kd.R_drew)); exact HO279.out) (Kd.S_typed HO_6.out) (by decide) hg); have n3_ := Aside0.mk ((by rw [hw]; exact below_set (HB.out) GB26.out : Below w.heap.size w w35)); clear HO_6; clear HO276; clear HO279; clear HB; clear HO282; have HO_6 := n0_; have HO276 := n1_; have HO279 := n2_; have HB := n3_; clear n0_ n1_ n2_ n3_; clear hg hw hp_) | ((with_reducible refine gate_callee (f := 44) rfl ?_); refine goesL_ (some 58) rfl rfl Try.func44 (by kernel_rfl) rfl #[.slice (some ⟨go26, 0, none⟩) y283.length co29] rfl (by (try simp only [List.map_toArray, List.map_cons, List.map_nil]); first | done | (rw [show y283.length = x6_2.length from (Kd.S_reads' HO_6.out).1.symm] <;> rfl) | rfl | (simp only [List.length_drop, List.length_take]; rfl)) ?_; (with_reducible refine (dom_Frontier.calls k2 _ _ y283 t284 _ ?side1 ?side2 A27.out).mono ?_); (case side1 => repeat (first | exact (Kd.S_reads' HO_6.out).2.2 | (with_reducible refine Kd.C_alloc ?_ _) | (with_reducible refine Kd.C_drewN ?_ _) | (with_reducible refine Kd.C_drew ?_))); (case side2 => rw [show y283.length = x6_2.length from (Kd.S_reads' HO_6.out).1.symm]; exact (Kd.S_reads' HO_6.out).2.1); rintro e w36 ⟨v285, rfl, ho0, hb⟩; refine ⟨_, rfl, ?_⟩; have n0_ := Aside0.mk (Kd.S_elder' (by (with_reducible repeat (first | apply Kd.S_alloc | apply Kd.S_drewN | apply Kd.S_drew)); exact HO_6.out) (Kd.S_base ho0) hb); have n1_ := Aside0.mk (Kd.S_elder' (by (with_reducible repeat (first | apply Kd.S_alloc | apply Kd.S_drewN | apply Kd.S_drew)); exact HO276.out) (Kd.S_base ho0) hb); have n2_ := Aside0.mk (Kd.R_below (by (with_reducible repeat (first | apply Kd.R_alloc | apply Kd.R_drewN | apply Kd.R_drew)); exact HO279.out) hb); have n3_ := Aside0.mk (Kd.S_lower (Kd.S_new' (Kd.S_new' (Kd.S_new' ho0 (Kd.S_lt (by (with_reducible repeat (first | apply Kd.S_alloc | apply Kd.S_drewN | apply Kd.S_drew)); exact HO_6.out))) (Kd.S_lt (by (with_reducible repeat (first | apply Kd.S_alloc | apply Kd.S_drewN | apply Kd.S_drew)); exact HO276.out))) (Kd.R_lt (by (with_reducible repeat (first | apply Kd.R_alloc | apply Kd.R_drewN | apply Kd.R_drew)); exact HO279.out))) (below_size (by repeat (first | (with_reducible first | exact HB.out | apply below_alloc | apply pw_below_drewN | apply below_drew1) | exact HB.out)))); have n4_ := Aside0.mk (below_step (by repeat (first | (with_reducible first | exact HB.out | apply below_alloc | apply pw_below_drewN | apply below_drew1) | exact HB.out)) hb); clear HO_6; clear HO276; clear HO279; clear HB; have HO_6 := n0_; have HO276 := n1_; have HO279 := n2_; have HO286 := n3_; have HB := n4_; clear n0_ n1_ n2_ n3_ n4_; (try clear hb); (try clear hb2); (try clear hk); (try clear hi); (try clear ho0)))
                  (try simp only [Act.put, List.setIfInBounds_toArray, List.set_cons_zero, List.set_cons_succ])
                  go_cut [81] (fun v81 wc => ∃ (kq : Nat) (x81_27 : Bool), v81 = .bool x81_27 ∧ Aside0 (swagelaw07_DomChain.j2 kq a0 a1 t264 t274 t277 t284 x81_27 = some r) ∧ Aside0 (kq ≤ k2) ∧ Aside0 (Kd.S (Kd.slice 3 (Kd.int .i64)) 27 wc w.heap.size (fun k_ => some k_ ≠ (v278 : Value).ownBlock ∧ some k_ ≠ (v285 : Value).ownBlock) v275 t274) ∧ Aside0 (Kd.R (Kd.int .i64) 3 wc w.heap.size (fun _ => True) v278 t277) ∧ Aside0 (Kd.S (Kd.slice 3 (Kd.int .i64)) 27 wc w.heap.size (fun k_ => some k_ ≠ (v275 : Value).ownBlock ∧ some k_ ≠ (v278 : Value).ownBlock) v285 t284) ∧ Aside0 (Below w.heap.size w wc))
                  case first =>
                    have H := HC28.out
                    clear HC28
                    by_cases c37 : (t274.length : Int) = a0
                    · rw [if_pos c37] at H
                      have c37b0 : ((t274.length : Int) == a0) = true := beq_iff_eq.mpr c37
                      have c37b1 : ((t274.length : Int) != a0) = false := bne_eq_false_iff_eq.mpr c37
                      clear c37
                      (first | rw [c37b0] | (simp only [i64_w, i32_w]; rw [c37b0]) | skip)
                      by_cases c38 : (t284.length : Int) = a0
                      · rw [if_pos c38] at H
                        have c38b0 : ((t284.length : Int) == a0) = true := beq_iff_eq.mpr c38
                        have c38b1 : ((t284.length : Int) != a0) = false := bne_eq_false_iff_eq.mpr c38
                        clear c38
                        by_cases c39 : (t277.length : Int) = a0
                        · rw [if_pos c39] at H
                          have c39b0 : ((t277.length : Int) == a0) = true := beq_iff_eq.mpr c39
                          have c39b1 : ((t277.length : Int) != a0) = false := bne_eq_false_iff_eq.mpr c39
                          clear c39
                          replace H := Option.bind_eq_some_iff.mp H
                          obtain ⟨t287, A400, H⟩ := H
                          replace H : ((swageref02_Ints.f k2 t287 t277).bind fun t290 => (swagelaw07_DomChain.j2 k2 a0 a1 t264 t274 t277 t284 (!t290))) = some r := H
                          have A40 := Aside0.mk A400
                          clear A400
                          replace H := Option.bind_eq_some_iff.mp H
                          obtain ⟨t290, A410, H⟩ := H
                          replace H : (swagelaw07_DomChain.j2 k2 a0 a1 t264 t274 t277 t284 (!t290)) = some r := H
                          have A41 := Aside0.mk A410
                          clear A410
                          have H' := Aside0.mk H
                          clear H
                          obtain ⟨Ao42, co42, eo42⟩ := Kd.S_slice HO276.out
                          subst eo42
                          obtain ⟨Ao43, co43, eo43⟩ := Kd.S_slice HO286.out
                          subst eo43
                          obtain ⟨Ao44, co44, eo44⟩ := Kd.R_slice HO279.out
                          subst eo44
                          go_wp2_with (first | (go_at_call 36; refine calls_of_args (args' := #[.slice (some ⟨go26, 0, none⟩) y283.length co29]) (by first | (rw [show y283.length = x6_2.length from (Kd.S_reads' HO_6.out).1.symm] <;> rfl) | rfl) ?_; (with_reducible refine (dom_Idom.calls k2 _ _ y283 t287 _ ?side1 ?side2 A40.out).mono ?_); (case side1 => repeat (first | exact (Kd.S_reads' HO_6.out).2.2 | (with_reducible refine Kd.C_alloc ?_ _) | (with_reducible refine Kd.C_drewN ?_ _) | (with_reducible refine Kd.C_drew ?_))); (case side2 => rw [show y283.length = x6_2.length from (Kd.S_reads' HO_6.out).1.symm]; exact (Kd.S_reads' HO_6.out).2.1); rintro e w45 ⟨v288, rfl, ho0, hb⟩; have n0_ := Aside0.mk (Kd.S_elder' (by (with_reducible repeat (first | apply Kd.S_alloc | apply Kd.S_drewN | apply Kd.S_drew)); exact HO_6.out) (Kd.R_base ho0) hb); have n1_ := Aside0.mk (Kd.S_elder' (by (with_reducible repeat (first | apply Kd.S_alloc | apply Kd.S_drewN | apply Kd.S_drew)); exact HO276.out) (Kd.R_base ho0) hb); have n2_ := Aside0.mk (Kd.R_elder' (by (with_reducible repeat (first | apply Kd.R_alloc | apply Kd.R_drewN | apply Kd.R_drew)); exact HO279.out) (Kd.R_base ho0) hb); have n3_ := Aside0.mk (Kd.S_elder' (by (with_reducible repeat (first | apply Kd.S_alloc | apply Kd.S_drewN | apply Kd.S_drew)); exact HO286.out) (Kd.R_base ho0) hb); have n4_ := Aside0.mk (Kd.R_lower (Kd.R_new' ho0 (Kd.R_lt (by (with_reducible repeat (first | apply Kd.R_alloc | apply Kd.R_drewN | apply Kd.R_drew)); exact HO279.out))) (below_size (by repeat (first | (with_reducible first | exact HB.out | apply below_alloc | apply pw_below_drewN | apply below_drew1) | exact HB.out)))); have n5_ := Aside0.mk (below_step (by repeat (first | (with_reducible first | exact HB.out | apply below_alloc | apply pw_below_drewN | apply below_drew1) | exact HB.out)) hb); clear HO_6; clear HO276; clear HO279; clear HO286; clear HB; have HO_6 := n0_; have HO276 := n1_; have HO279 := n2_; have HO286 := n3_; have HO289 := n4_; have HB := n5_; clear n0_ n1_ n2_ n3_ n4_ n5_; (try clear hb); (try clear hb2); (try clear hk); (try clear hi); (try clear ho0); obtain ⟨Ao46, co46, eo46⟩ := Kd.R_slice HO289.out; subst eo46) | (go_at_call 27; (with_reducible refine (swageref02_Ints.calls k2 _ _ t287 _ _ t277 t290 _ ?side1 ?side2 ?side3 ?side4 A41.out).mono ?_); (case side1 => repeat (first | exact (Kd.R_reads' HO289.out).2.2 | (with_reducible refine Kd.C_alloc ?_ _) | (with_reducible refine Kd.C_drewN ?_ _) | (with_reducible refine Kd.C_drew ?_))); (case side2 => exact (Kd.R_reads' HO289.out).2.1); (case side3 => repeat (first | exact (Kd.R_reads' HO279.out).2.2 | (with_reducible refine Kd.C_alloc ?_ _) | (with_reducible refine Kd.C_drewN ?_ _) | (with_reducible refine Kd.C_drew ?_))); (case side4 => exact (Kd.R_reads' HO279.out).2.1); rintro e w' ⟨rfl, ⟨nd, rfl⟩⟩))
                          go_meet
                          case rel => exact ⟨_, (!t290), (by first | rfl | (simp; done) | (simp [*]; done)), H', ⟨by have := HJ3.out; have := HK2.out; first | omega | exact Nat.le_refl _⟩, ⟨by (with_reducible repeat (first | apply Kd.S_alloc | apply Kd.S_drewN | apply Kd.S_drew)); exact Kd.S_mono HO276.out (fun _ hk => ⟨hk.1.1.1.1, hk.1.2⟩)⟩, ⟨by (with_reducible repeat (first | apply Kd.R_alloc | apply Kd.R_drewN | apply Kd.R_drew)); exact Kd.R_mono HO279.out (fun _ hk => trivial)⟩, ⟨by (with_reducible repeat (first | apply Kd.S_alloc | apply Kd.S_drewN | apply Kd.S_drew)); exact Kd.S_mono HO286.out (fun _ hk => ⟨hk.1.1.2, hk.1.2⟩)⟩, ⟨by repeat (first | (with_reducible first | exact HB.out | apply below_alloc | apply pw_below_drewN | apply below_drew1) | exact HB.out)⟩⟩
                        · rw [if_neg c39] at H
                          have c39b0 : ((t277.length : Int) == a0) = false := beq_eq_false_iff_ne.mpr c39
                          have c39b1 : ((t277.length : Int) != a0) = true := bne_iff_ne.mpr c39
                          have H' := Aside0.mk H
                          clear H
                          obtain ⟨Ao47, co47, eo47⟩ := Kd.S_slice HO276.out
                          subst eo47
                          obtain ⟨Ao48, co48, eo48⟩ := Kd.S_slice HO286.out
                          subst eo48
                          obtain ⟨Ao49, co49, eo49⟩ := Kd.R_slice HO279.out
                          subst eo49
                          go_wp2
                          go_meet
                          case rel => exact ⟨_, (true), (by first | rfl | (simp; done) | (simp [*]; done)), H', ⟨by have := HJ3.out; have := HK2.out; first | omega | exact Nat.le_refl _⟩, ⟨by (with_reducible repeat (first | apply Kd.S_alloc | apply Kd.S_drewN | apply Kd.S_drew)); exact Kd.S_mono HO276.out (fun _ hk => ⟨hk.1.1.1, hk.2⟩)⟩, ⟨by (with_reducible repeat (first | apply Kd.R_alloc | apply Kd.R_drewN | apply Kd.R_drew)); exact Kd.R_mono HO279.out (fun _ hk => trivial)⟩, ⟨by (with_reducible repeat (first | apply Kd.S_alloc | apply Kd.S_drewN | apply Kd.S_drew)); exact Kd.S_mono HO286.out (fun _ hk => ⟨hk.1.2, hk.2⟩)⟩, ⟨by repeat (first | (with_reducible first | exact HB.out | apply below_alloc | apply pw_below_drewN | apply below_drew1) | exact HB.out)⟩⟩
                      · rw [if_neg c38] at H
                        have c38b0 : ((t284.length : Int) == a0) = false := beq_eq_false_iff_ne.mpr c38
                        have c38b1 : ((t284.length : Int) != a0) = true := bne_iff_ne.mpr c38
                        have H' := Aside0.mk H
                        clear H
                        obtain ⟨Ao50, co50, eo50⟩ := Kd.S_slice HO276.out
                        subst eo50
                        obtain ⟨Ao51, co51, eo51⟩ := Kd.S_slice HO286.out
                        subst eo51
                        go_wp2
                        go_meet
                        case rel => exact ⟨_, (true), (by first | rfl | (simp; done) | (simp [*]; done)), H', ⟨by have := HJ3.out; have := HK2.out; first | omega | exact Nat.le_refl _⟩, ⟨by (with_reducible repeat (first | apply Kd.S_alloc | apply Kd.S_drewN | apply Kd.S_drew)); exact Kd.S_mono HO276.out (fun _ hk => ⟨hk.1.1.1, hk.2⟩)⟩, ⟨by (with_reducible repeat (first | apply Kd.R_alloc | apply Kd.R_drewN | apply Kd.R_drew)); exact Kd.R_mono HO279.out (fun _ hk => trivial)⟩, ⟨by (with_reducible repeat (first | apply Kd.S_alloc | apply Kd.S_drewN | apply Kd.S_drew)); exact Kd.S_mono HO286.out (fun _ hk => ⟨hk.1.2, hk.2⟩)⟩, ⟨by repeat (first | (with_reducible first | exact HB.out | apply below_alloc | apply pw_below_drewN | apply below_drew1) | exact HB.out)⟩⟩
                    · rw [if_neg c37] at H
                      have c37b0 : ((t274.length : Int) == a0) = false := beq_eq_false_iff_ne.mpr c37
                      have c37b1 : ((t274.length : Int) != a0) = true := bne_iff_ne.mpr c37
                      (first | rw [c37b0] | (simp only [i64_w, i32_w]; rw [c37b0]) | skip)
                      have H' := Aside0.mk H
                      clear H
                      obtain ⟨Ao52, co52, eo52⟩ := Kd.S_slice HO276.out
                      subst eo52
                      go_wp2
                      go_meet
                      case rel => exact ⟨_, (true), (by first | rfl | (simp; done) | (simp [*]; done)), H', ⟨by have := HJ3.out; have := HK2.out; first | omega | exact Nat.le_refl _⟩, ⟨by (with_reducible repeat (first | apply Kd.S_alloc | apply Kd.S_drewN | apply Kd.S_drew)); exact Kd.S_mono HO276.out (fun _ hk => ⟨hk.1.1.1, hk.2⟩)⟩, ⟨by (with_reducible repeat (first | apply Kd.R_alloc | apply Kd.R_drewN | apply Kd.R_drew)); exact Kd.R_mono HO279.out (fun _ hk => trivial)⟩, ⟨by (with_reducible repeat (first | apply Kd.S_alloc | apply Kd.S_drewN | apply Kd.S_drew)); exact Kd.S_mono HO286.out (fun _ hk => ⟨hk.1.2, hk.2⟩)⟩, ⟨by repeat (first | (with_reducible first | exact HB.out | apply below_alloc | apply pw_below_drewN | apply below_drew1) | exact HB.out)⟩⟩
                  case rest =>
                    clear HC28
                    try clear c1
                    try clear c2
                    try clear p2
                    try clear q2
                    try clear hx2
                    try clear hf2
                    try clear c3
                    try clear hx3
                    try clear hf3
                    try clear c4
                    try clear c6
                    try clear c6b0
                    try clear p6
                    try clear c7
                    try clear c7b0
                    try clear c8
                    try clear c8b0
                    try clear c9
                    try clear c10
                    try clear c10b0
                    try clear c11
                    try clear c11b0
                    try clear c11b1
                    try clear c12
                    try clear c16
                    try clear c24
                    try clear c24b0
                    try clear c25
                    try clear c25b0
                    try clear c26
                    try clear p26
                    try clear q26
                    try clear hx26
                    try clear hf26
                    try clear c34
                    try clear hx34
                    try clear hf34
                    try clear c36
                    try clear c37
                    try clear c37b0
                    try clear c37b1
                    try clear c38
                    try clear c38b0
                    try clear c38b1
                    try clear c39
                    try clear c39b0
                    try clear c39b1
                    try clear c44
                    try clear hx26_0
                    try clear hx34_0
                    try clear p2
                    try clear p26
                    try clear q26
                    obtain ⟨kq, x81_27, rfl, HA, HJ27, HO_9, HO_10, HO_11, HB⟩ := hcut
                    cases kq with
                    | zero => exact absurd HA.out (by simp [swagelaw07_DomChain.j2])
                    | succ kj27 =>
                      have H := HA.out
                      clear HA
                      simp only [swagelaw07_DomChain.j2] at H
                      by_cases c53 : x81_27 = true
                      · subst c53
                        have H1 : (some false) = some r := by rw [if_pos rfl] at H; exact H
                        clear H
                        have H := H1
                        clear H1
                        obtain rfl := Option.some.inj H
                        go_wp2
                        go_ret
                        exact ⟨by first | rfl | (simp [errW_none, errW_some] <;> rfl) | (simp only [← hji23]; first | rfl | (simp [errW_none, errW_some] <;> rfl)) | (simp [*, errW_none, errW_some] <;> rfl), by repeat (first | (with_reducible first | exact HB.out | apply below_alloc | apply pw_below_drewN | apply below_drew1) | exact HB.out)⟩
                      · replace c53 := Bool.eq_false_iff.mpr c53
                        subst c53
                        have H1 : (swagelaw07_DomChain.l1 kj27 a0 a1 t264 t274 t277 t284 0) = some r := by rw [if_neg (show ¬ (false = true) by decide)] at H; exact H
                        clear H
                        have H := H1
                        clear H1
                        have H' := Aside0.mk H
                        clear H
                        go_wp2
                        go_loopg [12] kj27 (fun kq v12 w' => ∃ (x12_4 : Int), v12 = .int .i64 x12_4 ∧ Aside0 (swagelaw07_DomChain.l1 kq a0 a1 t264 t274 t277 t284 x12_4 = some r) ∧ Aside0 (kq ≤ kj27) ∧ Aside0 (Kd.S (Kd.slice 3 (Kd.int .i64)) 27 w' w.heap.size (fun k_ => some k_ ≠ (v278 : Value).ownBlock ∧ some k_ ≠ (v285 : Value).ownBlock) v275 t274) ∧ Aside0 (Kd.R (Kd.int .i64) 3 w' w.heap.size (fun _ => True) v278 t277) ∧ Aside0 (Kd.S (Kd.slice 3 (Kd.int .i64)) 27 w' w.heap.size (fun k_ => some k_ ≠ (v275 : Value).ownBlock ∧ some k_ ≠ (v278 : Value).ownBlock) v285 t284) ∧ Aside0 (Below w.heap.size w w'))
                        case atStart => exact ⟨(0), (by first | rfl | (simp; done) | (simp [*]; done)), H', ⟨Nat.le_refl _⟩, ⟨by (with_reducible repeat (first | apply Kd.S_alloc | apply Kd.S_drewN | apply Kd.S_drew)); exact HO_9.out⟩, ⟨by (with_reducible repeat (first | apply Kd.R_alloc | apply Kd.R_drewN | apply Kd.R_drew)); exact HO_10.out⟩, ⟨by (with_reducible repeat (first | apply Kd.S_alloc | apply Kd.S_drewN | apply Kd.S_drew)); exact HO_11.out⟩, ⟨by repeat (first | (with_reducible first | exact HB.out | apply below_alloc | apply pw_below_drewN | apply below_drew1) | exact HB.out)⟩⟩
                        case round =>
                          clear H'
                          try clear c1
                          try clear c2
                          try clear p2
                          try clear q2
                          try clear hx2
                          try clear hf2
                          try clear c3
                          try clear hx3
                          try clear hf3
                          try clear c4
                          try clear c5
                          try clear c6
                          try clear c6b0
                          try clear p6
                          try clear c7
                          try clear c7b0
                          try clear c8
                          try clear c8b0
                          try clear c9
                          try clear c10
                          try clear c10b0
                          try clear c11
                          try clear c11b0
                          try clear c11b1
                          try clear c12
                          try clear c16
                          try clear c24
                          try clear c24b0
                          try clear c25
                          try clear c25b0
                          try clear c26
                          try clear p26
                          try clear q26
                          try clear hx26
                          try clear hf26
                          try clear c34
                          try clear hx34
                          try clear hf34
                          try clear c36
                          try clear c37
                          try clear c37b0
                          try clear c37b1
                          try clear c38
                          try clear c38b0
                          try clear c38b1
                          try clear c39
                          try clear c39b0
                          try clear c39b1
                          try clear c44
                          try clear c53
                          try clear hx26_0
                          try clear hx34_0
                          try clear p2
                          try clear p26
                          try clear p6
                          try clear q2
                          try clear q26
                          obtain ⟨x12_4, rfl, HA, HK4, HO_9, HO_10, HO_11, HB⟩ := hrel
                          cases gk with
                          | zero => exact absurd HA.out (by simp [swagelaw07_DomChain.l1])
                          | succ k4 =>
                            have H := HA.out
                            clear HA
                            simp only [swagelaw07_DomChain.l1] at H
                            by_cases c54 : x12_4 < a0
                            · rw [if_pos c54] at H
                              have c54b0 : decide (x12_4 < a0) = true := decide_eq_true c54
                              clear c54
                              obtain ⟨y291, hy291⟩ : ∃ y_ : List Int, y_ = (([a1] : List Int)) := ⟨_, rfl⟩
                              replace H : (if x12_4 < a1 then (swagelaw07_DomChain.j4 k4 a0 a1 t264 t274 t277 t284 x12_4 ([] : List Int)) else (swagelaw07_DomChain.j4 k4 a0 a1 t264 t274 t277 t284 x12_4 y291)) = some r := by first | (rw [hy291]; with_reducible exact H) | (have H2_ := (Option.bind_some _ _).symm.trans H; rw [hy291]; with_reducible exact H2_) | (have H2_ := (Option.bind_some _ _).symm.trans H; with_reducible exact H2_) | with_reducible exact H | (rw [hy291]; exact H) | exact H
                              have Ny291 := Aside0.mk hy291
                              clear hy291
                              have HC55 := Aside0.mk H
                              clear H
                              go_upto_if 91 with (first | ((with_reducible refine gate_dst (N := 88) rfl ?_); (try (refine gate_guard (by rfl) ?_; dsimp only)); refine Kd.R_lit (Kd.int .i64) _ 3 ?hg (N := 88) ?hd (xs := ([a1] : List Int)) (inner := [.int .i64 a1]) (ok := fun _ => True) (okp := fun _ => True) ?hr ?hp (fun _ hk => hk) trivial (Below.refl _ _) (Nat.le_refl _) (by simp) ?_; (case hd => rfl); (case hg => rfl); (case hr => first | (go_simp; done) | (go_simp; rfl)); (case hp => exact (Reps.one (show Kd.M (Kd.int .i64) _ _ _ a1 [.int .i64 a1] from rfl) (Reps.none _ _))); intro v292 w56 ho57 hb hg_ hnew_; clear hg_ hnew_; (first | rw [← Ny291.out] at ho57 | (simp only [Int.reduceToNat] at ho57; rw [← Ny291.out] at ho57)); have n0_ := Aside0.mk (Kd.S_elder' (by (with_reducible repeat (first | apply Kd.S_alloc | apply Kd.S_drewN | apply Kd.S_drew)); exact HO_9.out) (Kd.R_base ho57) hb); have n1_ := Aside0.mk (Kd.R_elder' (by (with_reducible repeat (first | apply Kd.R_alloc | apply Kd.R_drewN | apply Kd.R_drew)); exact HO_10.out) (Kd.R_base ho57) hb); have n2_ := Aside0.mk (Kd.S_elder' (by (with_reducible repeat (first | apply Kd.S_alloc | apply Kd.S_drewN | apply Kd.S_drew)); exact HO_11.out) (Kd.R_base ho57) hb); have n3_ := Aside0.mk (Kd.R_lower (Kd.R_new' ho57 (Kd.R_lt (by (with_reducible repeat (first | apply Kd.R_alloc | apply Kd.R_drewN | apply Kd.R_drew)); exact HO_10.out))) (below_size (by repeat (first | (with_reducible first | exact HB.out | apply below_alloc | apply pw_below_drewN | apply below_drew1) | exact HB.out)))); have n4_ := Aside0.mk (below_step (by repeat (first | (with_reducible first | exact HB.out | apply below_alloc | apply pw_below_drewN | apply below_drew1) | exact HB.out)) hb); clear HO_9; clear HO_10; clear HO_11; clear HB; have HO_9 := n0_; have HO_10 := n1_; have HO_11 := n2_; have HO293 := n3_; have HB := n4_; clear n0_ n1_ n2_ n3_ n4_; clear hb ho57))
                              (try simp only [Act.put, List.setIfInBounds_toArray, List.set_cons_zero, List.set_cons_succ])
                              go_cut [13] (fun v13 wc => ∃ (kq : Nat) (x13_54 : List Int), Aside0 (swagelaw07_DomChain.j4 kq a0 a1 t264 t274 t277 t284 x12_4 x13_54 = some r) ∧ Aside0 (kq ≤ k4) ∧ Aside0 (Kd.S (Kd.slice 3 (Kd.int .i64)) 27 wc w.heap.size (fun k_ => some k_ ≠ (v278 : Value).ownBlock ∧ some k_ ≠ (v285 : Value).ownBlock ∧ some k_ ≠ (v13 : Value).ownBlock) v275 t274) ∧ Aside0 (Kd.R (Kd.int .i64) 3 wc w.heap.size (fun k_ => some k_ ≠ (v13 : Value).ownBlock) v278 t277) ∧ Aside0 (Kd.S (Kd.slice 3 (Kd.int .i64)) 27 wc w.heap.size (fun k_ => some k_ ≠ (v275 : Value).ownBlock ∧ some k_ ≠ (v278 : Value).ownBlock ∧ some k_ ≠ (v13 : Value).ownBlock) v285 t284) ∧ Aside0 (Kd.R (Kd.int .i64) 3 wc w.heap.size (fun k_ => some k_ ≠ (v278 : Value).ownBlock) v13 x13_54) ∧ Aside0 (Below w.heap.size w wc))
                              case first =>
                                have H := HC55.out
                                clear HC55
                                by_cases c58 : x12_4 < a1
                                · rw [if_pos c58] at H
                                  have c58b0 : decide (x12_4 < a1) = true := decide_eq_true c58
                                  clear c58
                                  (first | rw [c58b0] | (simp only [i64_w, i32_w]; rw [c58b0]) | skip)
                                  have H' := Aside0.mk H
                                  clear H
                                  go_wp2
                                  go_meet
                                  case rel => exact ⟨_, (([] : List Int)), H', ⟨by have := HJ3.out; have := HK2.out; have := HJ27.out; have := HK4.out; first | omega | exact Nat.le_refl _⟩, ⟨by (with_reducible repeat (first | apply Kd.S_alloc | apply Kd.S_drewN | apply Kd.S_drew)); exact Kd.S_mono HO_9.out (fun _ hk => ⟨hk.1.1, ⟨hk.1.2, (by simp [Value.ownBlock])⟩⟩)⟩, ⟨by (with_reducible repeat (first | apply Kd.R_alloc | apply Kd.R_drewN | apply Kd.R_drew)); exact Kd.R_mono HO_10.out (fun _ hk => (by simp [Value.ownBlock]))⟩, ⟨by (with_reducible repeat (first | apply Kd.S_alloc | apply Kd.S_drewN | apply Kd.S_drew)); exact Kd.S_mono HO_11.out (fun _ hk => ⟨hk.1.1, ⟨hk.1.2, (by simp [Value.ownBlock])⟩⟩)⟩, ⟨by first | exact Kd.R_nil _ _ _ _ _ | exact Kd.N_nil _ _ _ _ _ | exact Kd.V_nil _ _ _ _ _ | exact Kd.Q_nil _ _ _ _ _ | exact Kd.S_nil _ _ _ _ _⟩, ⟨by repeat (first | (with_reducible first | exact HB.out | apply below_alloc | apply pw_below_drewN | apply below_drew1) | exact HB.out)⟩⟩
                                · rw [if_neg c58] at H
                                  have c58b0 : decide (x12_4 < a1) = false := decide_eq_false c58
                                  clear c58
                                  (first | rw [c58b0] | (simp only [i64_w, i32_w]; rw [c58b0]) | skip)
                                  have H' := Aside0.mk H
                                  clear H
                                  go_wp2
                                  go_meet
                                  case rel => exact ⟨_, (y291), H', ⟨by have := HJ3.out; have := HK2.out; have := HJ27.out; have := HK4.out; first | omega | exact Nat.le_refl _⟩, ⟨by (with_reducible repeat (first | apply Kd.S_alloc | apply Kd.S_drewN | apply Kd.S_drew)); exact Kd.S_mono HO_9.out (fun _ hk => ⟨hk.1.1, ⟨hk.1.2, hk.2⟩⟩)⟩, ⟨by (with_reducible repeat (first | apply Kd.R_alloc | apply Kd.R_drewN | apply Kd.R_drew)); exact Kd.R_mono HO_10.out (fun _ hk => hk.2)⟩, ⟨by (with_reducible repeat (first | apply Kd.S_alloc | apply Kd.S_drewN | apply Kd.S_drew)); exact Kd.S_mono HO_11.out (fun _ hk => ⟨hk.1.1, ⟨hk.1.2, hk.2⟩⟩)⟩, ⟨by (with_reducible repeat (first | apply Kd.R_alloc | apply Kd.R_drewN | apply Kd.R_drew)); exact Kd.R_mono HO293.out (fun _ hk => hk.2)⟩, ⟨by repeat (first | (with_reducible first | exact HB.out | apply below_alloc | apply pw_below_drewN | apply below_drew1) | exact HB.out)⟩⟩
                              case rest =>
                                clear HC55
                                try clear c1
                                try clear c2
                                try clear p2
                                try clear q2
                                try clear hx2
                                try clear hf2
                                try clear c3
                                try clear hx3
                                try clear hf3
                                try clear c4
                                try clear c5
                                try clear c6
                                try clear c6b0
                                try clear p6
                                try clear c7
                                try clear c7b0
                                try clear c8
                                try clear c8b0
                                try clear c9
                                try clear c10
                                try clear c10b0
                                try clear c11
                                try clear c11b0
                                try clear c11b1
                                try clear c12
                                try clear c16
                                try clear c24
                                try clear c24b0
                                try clear c25
                                try clear c25b0
                                try clear c26
                                try clear p26
                                try clear q26
                                try clear hx26
                                try clear hf26
                                try clear c34
                                try clear hx34
                                try clear hf34
                                try clear c36
                                try clear c37
                                try clear c37b0
                                try clear c37b1
                                try clear c38
                                try clear c38b0
                                try clear c38b1
                                try clear c39
                                try clear c39b0
                                try clear c39b1
                                try clear c44
                                try clear c53
                                try clear c54
                                try clear c54b0
                                try clear c58
                                try clear c58b0
                                try clear hx26_0
                                try clear hx34_0
                                try clear p2
                                try clear p26
                                try clear p6
                                try clear q2
                                try clear q26
                                obtain ⟨kq, x13_54, HA, HJ54, HO_9, HO_10, HO_11, HO_13, HB⟩ := hcut
                                cases kq with
                                | zero => exact absurd HA.out (by simp [swagelaw07_DomChain.j4])
                                | succ kj54 =>
                                  have H := HA.out
                                  clear HA
                                  simp only [swagelaw07_DomChain.j4] at H
                                  by_cases c59 : 0 ≤ x12_4
                                  · rw [if_pos c59] at H
                                    have c59b0 : decide (0 ≤ x12_4) = true := decide_eq_true c59
                                    clear c59
                                    by_cases c60 : x12_4 < (t277.length : Int)
                                    · rw [if_pos c60] at H
                                      have c60b0 : decide (x12_4 < (t277.length : Int)) = true := decide_eq_true c60
                                      clear c60
                                      by_cases c61 : (rd t277 x12_4) = (wrap64 (x12_4 - 1))
                                      · rw [if_pos c61] at H
                                        have c61b0 : ((rd t277 x12_4) == (wrap64 (x12_4 - 1))) = true := beq_iff_eq.mpr c61
                                        have c61b1 : ((rd t277 x12_4) != (wrap64 (x12_4 - 1))) = false := bne_eq_false_iff_eq.mpr c61
                                        clear c61
                                        by_cases c62 : x12_4 < (t274.length : Int)
                                        · rw [if_pos c62] at H
                                          have c62b0 : decide (x12_4 < (t274.length : Int)) = true := decide_eq_true c62
                                          clear c62
                                          by_cases c63 : ((rd_L1 t274 x12_4).length : Int) = 0
                                          · rw [if_pos c63] at H
                                            have c63b0 : (((rd_L1 t274 x12_4).length : Int) == 0) = true := beq_iff_eq.mpr c63
                                            have c63b1 : (((rd_L1 t274 x12_4).length : Int) != 0) = false := bne_eq_false_iff_eq.mpr c63
                                            clear c63
                                            by_cases c64 : x12_4 < (t284.length : Int)
                                            · rw [if_pos c64] at H
                                              have c64b0 : decide (x12_4 < (t284.length : Int)) = true := decide_eq_true c64
                                              clear c64
                                              replace H := Option.bind_eq_some_iff.mp H
                                              obtain ⟨t297, A650, H⟩ := H
                                              replace H : (if t297 = true then ((dom_Dominates.f t277 0 x12_4).bind fun t298 => (if t298 = true then ((dom_Dominates.f t277 (wrap64 (a0 - 1)) x12_4).bind fun t299 => (if (t299 != (x12_4 == (wrap64 (a0 - 1)))) = true then (some false) else (swagelaw07_DomChain.l1 kj54 a0 a1 t264 t274 t277 t284 (wrap64 (x12_4 + 1))))) else (some false))) else (some false)) = some r := H
                                              have A65 := Aside0.mk A650
                                              clear A650
                                              by_cases c66 : t297 = true
                                              · subst c66
                                                have H1 : ((dom_Dominates.f t277 0 x12_4).bind fun t298 => (if t298 = true then ((dom_Dominates.f t277 (wrap64 (a0 - 1)) x12_4).bind fun t299 => (if (t299 != (x12_4 == (wrap64 (a0 - 1)))) = true then (some false) else (swagelaw07_DomChain.l1 kj54 a0 a1 t264 t274 t277 t284 (wrap64 (x12_4 + 1))))) else (some false))) = some r := by rw [if_pos rfl] at H; exact H
                                                clear H
                                                have H := H1
                                                clear H1
                                                replace H := Option.bind_eq_some_iff.mp H
                                                obtain ⟨t298, A670, H⟩ := H
                                                replace H : (if t298 = true then ((dom_Dominates.f t277 (wrap64 (a0 - 1)) x12_4).bind fun t299 => (if (t299 != (x12_4 == (wrap64 (a0 - 1)))) = true then (some false) else (swagelaw07_DomChain.l1 kj54 a0 a1 t264 t274 t277 t284 (wrap64 (x12_4 + 1))))) else (some false)) = some r := H
                                                have A67 := Aside0.mk A670
                                                clear A670
                                                by_cases c68 : t298 = true
                                                · subst c68
                                                  have H1 : ((dom_Dominates.f t277 (wrap64 (a0 - 1)) x12_4).bind fun t299 => (if (t299 != (x12_4 == (wrap64 (a0 - 1)))) = true then (some false) else (swagelaw07_DomChain.l1 kj54 a0 a1 t264 t274 t277 t284 (wrap64 (x12_4 + 1))))) = some r := by rw [if_pos rfl] at H; exact H
                                                  clear H
                                                  have H := H1
                                                  clear H1
                                                  replace H := Option.bind_eq_some_iff.mp H
                                                  obtain ⟨t299, A690, H⟩ := H
                                                  rw [hji23] at A690
                                                  rw [hji23] at H
                                                  replace H : (if (t299 != (x12_4 == ji23)) = true then (some false) else (swagelaw07_DomChain.l1 kj54 a0 a1 t264 t274 t277 t284 (wrap64 (x12_4 + 1)))) = some r := H
                                                  have A69 := Aside0.mk A690
                                                  clear A690
                                                  by_cases c70 : (t299 != (x12_4 == ji23)) = true
                                                  · rw [if_pos c70] at H
                                                    have c70b0 : (t299 != (x12_4 == ji23)) = true := c70
                                                    (try (have c70b1 : decide (t299 = (x12_4 == ji23)) = false := by simpa using c70))
                                                    (try (have c70b2 : (t299 == (x12_4 == ji23)) = false := by simpa using c70))
                                                    (try (have c70b3 : ¬ (t299 = (x12_4 == ji23)) := by simpa using c70))
                                                    clear c70
                                                    obtain rfl := Option.some.inj H
                                                    obtain ⟨Ao71, co71, eo71⟩ := Kd.R_slice HO_10.out
                                                    subst eo71
                                                    have p294 : 0 ≤ (x12_4 : Int) := of_decide_eq_true (by first | (with_reducible assumption) | assumption)
                                                    have q294 : x12_4 < (t277.length : Int) := of_decide_eq_true (by first | (with_reducible assumption) | assumption)
                                                    obtain ⟨ad294, e294, hx294_0⟩ := Kd.at_int (Kd.R_reads' HO_10.out).2.2 x12_4 p294 q294
                                                    cases e294
                                                    replace p294 := eq_true p294
                                                    replace q294 := eq_true q294
                                                    obtain ⟨Ao72, co72, eo72⟩ := Kd.S_slice HO_9.out
                                                    subst eo72
                                                    have p295 : 0 ≤ (x12_4 : Int) := of_decide_eq_true (by first | (with_reducible assumption) | assumption)
                                                    have q295 : x12_4 < (t274.length : Int) := of_decide_eq_true (by first | (with_reducible assumption) | assumption)
                                                    obtain ⟨ad295, A295_0, c295_0, e295, hx295_0, hl295_0, hi295_0⟩ := at_L1 (Kd.S_reads' HO_9.out).2.2 x12_4 p295 q295
                                                    cases e295
                                                    obtain ⟨ce295, hce295, hMe295, hcc295⟩ := Kd.S_get HO_9.out [] x12_4 p295 (by first | exact q295 | exact of_decide_eq_true (by first | (with_reducible assumption) | assumption) | (have e_ := (Kd.S_reads' HO_9.out).1; omega))
                                                    obtain ⟨ve295_0, rfl, ge295_0⟩ := hMe295
                                                    have hv295_0 := hcc295 0 _ rfl
                                                    rw [Nat.add_zero, show ((Kd.slice 3 (Kd.int .i64))).sz = 1 from rfl, Nat.mul_one] at hv295_0
                                                    replace hv295_0 := Option.some.inj (hv295_0.symm.trans hx295_0)
                                                    rw [hv295_0] at ge295_0
                                                    have HL295_0 := Aside0.mk (show Kd.R (Kd.int .i64) 3 _ _ _ _ (rd_L1 t274 x12_4) from ge295_0)
                                                    clear hv295_0 ge295_0
                                                    clear hcc295 hce295
                                                    have HR295_0 := Aside0.mk hi295_0
                                                    have HC295_0 := Aside0.mk hl295_0
                                                    clear hi295_0 hl295_0
                                                    replace p295 := eq_true p295
                                                    replace q295 := eq_true q295
                                                    obtain ⟨Ao73, co73, eo73⟩ := Kd.S_slice HO_11.out
                                                    subst eo73
                                                    have p296 : 0 ≤ (x12_4 : Int) := of_decide_eq_true (by first | (with_reducible assumption) | assumption)
                                                    have q296 : x12_4 < (t284.length : Int) := of_decide_eq_true (by first | (with_reducible assumption) | assumption)
                                                    obtain ⟨ad296, A296_0, c296_0, e296, hx296_0, hl296_0, hi296_0⟩ := at_L1 (Kd.S_reads' HO_11.out).2.2 x12_4 p296 q296
                                                    cases e296
                                                    obtain ⟨ce296, hce296, hMe296, hcc296⟩ := Kd.S_get HO_11.out [] x12_4 p296 (by first | exact q296 | exact of_decide_eq_true (by first | (with_reducible assumption) | assumption) | (have e_ := (Kd.S_reads' HO_11.out).1; omega))
                                                    obtain ⟨ve296_0, rfl, ge296_0⟩ := hMe296
                                                    have hv296_0 := hcc296 0 _ rfl
                                                    rw [Nat.add_zero, show ((Kd.slice 3 (Kd.int .i64))).sz = 1 from rfl, Nat.mul_one] at hv296_0
                                                    replace hv296_0 := Option.some.inj (hv296_0.symm.trans hx296_0)
                                                    rw [hv296_0] at ge296_0
                                                    have HL296_0 := Aside0.mk (show Kd.R (Kd.int .i64) 3 _ _ _ _ (rd_L1 t284 x12_4) from ge296_0)
                                                    clear hv296_0 ge296_0
                                                    clear hcc296 hce296
                                                    have HR296_0 := Aside0.mk hi296_0
                                                    have HC296_0 := Aside0.mk hl296_0
                                                    clear hi296_0 hl296_0
                                                    replace p296 := eq_true p296
                                                    replace q296 := eq_true q296
                                                    obtain ⟨Ao74, co74, eo74⟩ := Kd.R_slice HO_13.out
                                                    subst eo74
                                                    go_wp2_with (first | (go_at_call 27; (with_reducible refine (swageref02_Ints.calls kj54 _ _ (rd_L1 t284 x12_4) _ _ x13_54 true _ ?side1 ?side2 ?side3 ?side4 A65.out).mono ?_); (case side1 => repeat (first | exact (by repeat (first | (with_reducible exact HR296_0.out) | (with_reducible refine Kd.C_alloc ?_ _) | (with_reducible refine Kd.C_drewN ?_ _) | (with_reducible refine Kd.C_drew ?_) | exact HR296_0.out)) | (with_reducible refine Kd.C_alloc ?_ _) | (with_reducible refine Kd.C_drewN ?_ _) | (with_reducible refine Kd.C_drew ?_))); (case side2 => exact HC296_0.out); (case side3 => repeat (first | exact (Kd.R_reads' HO_13.out).2.2 | (with_reducible refine Kd.C_alloc ?_ _) | (with_reducible refine Kd.C_drewN ?_ _) | (with_reducible refine Kd.C_drew ?_))); (case side4 => exact (Kd.R_reads' HO_13.out).2.1); rintro e w' ⟨rfl, ⟨nd, rfl⟩⟩) | (go_at_call 37; (with_reducible refine (dom_Dominates.calls _ _ t277 0 x12_4 true _ ?side1 ?side2 A67.out).mono ?_); (case side1 => repeat (first | exact (Kd.R_reads' HO_10.out).2.2 | (with_reducible refine Kd.C_alloc ?_ _) | (with_reducible refine Kd.C_drewN ?_ _) | (with_reducible refine Kd.C_drew ?_))); (case side2 => exact (Kd.R_reads' HO_10.out).2.1); rintro e w75 ⟨rfl, hb⟩; have n0_ := Aside0.mk (Kd.S_below (by (with_reducible repeat (first | apply Kd.S_alloc | apply Kd.S_drewN | apply Kd.S_drew)); exact HO_9.out) hb); have n1_ := Aside0.mk (Kd.R_below (by (with_reducible repeat (first | apply Kd.R_alloc | apply Kd.R_drewN | apply Kd.R_drew)); exact HO_10.out) hb); have n2_ := Aside0.mk (Kd.S_below (by (with_reducible repeat (first | apply Kd.S_alloc | apply Kd.S_drewN | apply Kd.S_drew)); exact HO_11.out) hb); have n3_ := Aside0.mk (below_step (by repeat (first | (with_reducible first | exact HB.out | apply below_alloc | apply pw_below_drewN | apply below_drew1) | exact HB.out)) hb); clear HO_9; clear HO_10; clear HO_11; (try clear HO_13); (try clear HL295_0); (try clear HL296_0); (try clear HR295_0); (try clear HR296_0); clear HB; have HO_9 := n0_; have HO_10 := n1_; have HO_11 := n2_; have HB := n3_; clear n0_ n1_ n2_ n3_; (try clear hb)) | (go_at_call 37; (with_reducible refine (dom_Dominates.calls _ _ t277 ji23 x12_4 t299 _ ?side1 ?side2 A69.out).mono ?_); (case side1 => repeat (first | exact (Kd.R_reads' HO_10.out).2.2 | (with_reducible refine Kd.C_alloc ?_ _) | (with_reducible refine Kd.C_drewN ?_ _) | (with_reducible refine Kd.C_drew ?_))); (case side2 => exact (Kd.R_reads' HO_10.out).2.1); rintro e w76 ⟨rfl, hb⟩; have n0_ := Aside0.mk (Kd.S_below (by (with_reducible repeat (first | apply Kd.S_alloc | apply Kd.S_drewN | apply Kd.S_drew)); exact HO_9.out) hb); have n1_ := Aside0.mk (Kd.R_below (by (with_reducible repeat (first | apply Kd.R_alloc | apply Kd.R_drewN | apply Kd.R_drew)); exact HO_10.out) hb); have n2_ := Aside0.mk (Kd.S_below (by (with_reducible repeat (first | apply Kd.S_alloc | apply Kd.S_drewN | apply Kd.S_drew)); exact HO_11.out) hb); have n3_ := Aside0.mk (below_step (by repeat (first | (with_reducible first | exact HB.out | apply below_alloc | apply pw_below_drewN | apply below_drew1) | exact HB.out)) hb); clear HO_9; clear HO_10; clear HO_11; (try clear HO_13); (try clear HL295_0); (try clear HL296_0); (try clear HR295_0); (try clear HR296_0); clear HB; have HO_9 := n0_; have HO_10 := n1_; have HO_11 := n2_; have HB := n3_; clear n0_ n1_ n2_ n3_; (try clear hb)))
                                                    go_ret
                                                    exact ⟨by first | rfl | (simp [errW_none, errW_some] <;> rfl) | (simp only [← hji23]; first | rfl | (simp [errW_none, errW_some] <;> rfl)) | (simp [*, errW_none, errW_some] <;> rfl), by repeat (first | (with_reducible first | exact HB.out | apply below_alloc | apply pw_below_drewN | apply below_drew1) | exact HB.out)⟩
                                                  · rw [if_neg c70] at H
                                                    have c70b0 : (t299 != (x12_4 == ji23)) = false := by simpa using c70
                                                    (try (have c70b1 : decide (t299 = (x12_4 == ji23)) = true := by simpa using c70))
                                                    (try (have c70b2 : (t299 == (x12_4 == ji23)) = true := by simpa using c70))
                                                    clear c70
                                                    have H' := Aside0.mk H
                                                    clear H
                                                    obtain ⟨Ao77, co77, eo77⟩ := Kd.R_slice HO_10.out
                                                    subst eo77
                                                    have p294 : 0 ≤ (x12_4 : Int) := of_decide_eq_true (by first | (with_reducible assumption) | assumption)
                                                    have q294 : x12_4 < (t277.length : Int) := of_decide_eq_true (by first | (with_reducible assumption) | assumption)
                                                    obtain ⟨ad294, e294, hx294_0⟩ := Kd.at_int (Kd.R_reads' HO_10.out).2.2 x12_4 p294 q294
                                                    cases e294
                                                    replace p294 := eq_true p294
                                                    replace q294 := eq_true q294
                                                    obtain ⟨Ao78, co78, eo78⟩ := Kd.S_slice HO_9.out
                                                    subst eo78
                                                    have p295 : 0 ≤ (x12_4 : Int) := of_decide_eq_true (by first | (with_reducible assumption) | assumption)
                                                    have q295 : x12_4 < (t274.length : Int) := of_decide_eq_true (by first | (with_reducible assumption) | assumption)
                                                    obtain ⟨ad295, A295_0, c295_0, e295, hx295_0, hl295_0, hi295_0⟩ := at_L1 (Kd.S_reads' HO_9.out).2.2 x12_4 p295 q295
                                                    cases e295
                                                    obtain ⟨ce295, hce295, hMe295, hcc295⟩ := Kd.S_get HO_9.out [] x12_4 p295 (by first | exact q295 | exact of_decide_eq_true (by first | (with_reducible assumption) | assumption) | (have e_ := (Kd.S_reads' HO_9.out).1; omega))
                                                    obtain ⟨ve295_0, rfl, ge295_0⟩ := hMe295
                                                    have hv295_0 := hcc295 0 _ rfl
                                                    rw [Nat.add_zero, show ((Kd.slice 3 (Kd.int .i64))).sz = 1 from rfl, Nat.mul_one] at hv295_0
                                                    replace hv295_0 := Option.some.inj (hv295_0.symm.trans hx295_0)
                                                    rw [hv295_0] at ge295_0
                                                    have HL295_0 := Aside0.mk (show Kd.R (Kd.int .i64) 3 _ _ _ _ (rd_L1 t274 x12_4) from ge295_0)
                                                    clear hv295_0 ge295_0
                                                    clear hcc295 hce295
                                                    have HR295_0 := Aside0.mk hi295_0
                                                    have HC295_0 := Aside0.mk hl295_0
                                                    clear hi295_0 hl295_0
                                                    replace p295 := eq_true p295
                                                    replace q295 := eq_true q295
                                                    obtain ⟨Ao79, co79, eo79⟩ := Kd.S_slice HO_11.out
                                                    subst eo79
                                                    have p296 : 0 ≤ (x12_4 : Int) := of_decide_eq_true (by first | (with_reducible assumption) | assumption)
                                                    have q296 : x12_4 < (t284.length : Int) := of_decide_eq_true (by first | (with_reducible assumption) | assumption)
                                                    obtain ⟨ad296, A296_0, c296_0, e296, hx296_0, hl296_0, hi296_0⟩ := at_L1 (Kd.S_reads' HO_11.out).2.2 x12_4 p296 q296
                                                    cases e296
                                                    obtain ⟨ce296, hce296, hMe296, hcc296⟩ := Kd.S_get HO_11.out [] x12_4 p296 (by first | exact q296 | exact of_decide_eq_true (by first | (with_reducible assumption) | assumption) | (have e_ := (Kd.S_reads' HO_11.out).1; omega))
                                                    obtain ⟨ve296_0, rfl, ge296_0⟩ := hMe296
                                                    have hv296_0 := hcc296 0 _ rfl
                                                    rw [Nat.add_zero, show ((Kd.slice 3 (Kd.int .i64))).sz = 1 from rfl, Nat.mul_one] at hv296_0
                                                    replace hv296_0 := Option.some.inj (hv296_0.symm.trans hx296_0)
                                                    rw [hv296_0] at ge296_0
                                                    have HL296_0 := Aside0.mk (show Kd.R (Kd.int .i64) 3 _ _ _ _ (rd_L1 t284 x12_4) from ge296_0)
                                                    clear hv296_0 ge296_0
                                                    clear hcc296 hce296
                                                    have HR296_0 := Aside0.mk hi296_0
                                                    have HC296_0 := Aside0.mk hl296_0
                                                    clear hi296_0 hl296_0
                                                    replace p296 := eq_true p296
                                                    replace q296 := eq_true q296
                                                    obtain ⟨Ao80, co80, eo80⟩ := Kd.R_slice HO_13.out
                                                    subst eo80
                                                    go_wp2_with (first | (go_at_call 27; (with_reducible refine (swageref02_Ints.calls kj54 _ _ (rd_L1 t284 x12_4) _ _ x13_54 true _ ?side1 ?side2 ?side3 ?side4 A65.out).mono ?_); (case side1 => repeat (first | exact (by repeat (first | (with_reducible exact HR296_0.out) | (with_reducible refine Kd.C_alloc ?_ _) | (with_reducible refine Kd.C_drewN ?_ _) | (with_reducible refine Kd.C_drew ?_) | exact HR296_0.out)) | (with_reducible refine Kd.C_alloc ?_ _) | (with_reducible refine Kd.C_drewN ?_ _) | (with_reducible refine Kd.C_drew ?_))); (case side2 => exact HC296_0.out); (case side3 => repeat (first | exact (Kd.R_reads' HO_13.out).2.2 | (with_reducible refine Kd.C_alloc ?_ _) | (with_reducible refine Kd.C_drewN ?_ _) | (with_reducible refine Kd.C_drew ?_))); (case side4 => exact (Kd.R_reads' HO_13.out).2.1); rintro e w' ⟨rfl, ⟨nd, rfl⟩⟩) | (go_at_call 37; (with_reducible refine (dom_Dominates.calls _ _ t277 0 x12_4 true _ ?side1 ?side2 A67.out).mono ?_); (case side1 => repeat (first | exact (Kd.R_reads' HO_10.out).2.2 | (with_reducible refine Kd.C_alloc ?_ _) | (with_reducible refine Kd.C_drewN ?_ _) | (with_reducible refine Kd.C_drew ?_))); (case side2 => exact (Kd.R_reads' HO_10.out).2.1); rintro e w81 ⟨rfl, hb⟩; have n0_ := Aside0.mk (Kd.S_below (by (with_reducible repeat (first | apply Kd.S_alloc | apply Kd.S_drewN | apply Kd.S_drew)); exact HO_9.out) hb); have n1_ := Aside0.mk (Kd.R_below (by (with_reducible repeat (first | apply Kd.R_alloc | apply Kd.R_drewN | apply Kd.R_drew)); exact HO_10.out) hb); have n2_ := Aside0.mk (Kd.S_below (by (with_reducible repeat (first | apply Kd.S_alloc | apply Kd.S_drewN | apply Kd.S_drew)); exact HO_11.out) hb); have n3_ := Aside0.mk (below_step (by repeat (first | (with_reducible first | exact HB.out | apply below_alloc | apply pw_below_drewN | apply below_drew1) | exact HB.out)) hb); clear HO_9; clear HO_10; clear HO_11; (try clear HO_13); (try clear HL295_0); (try clear HL296_0); (try clear HR295_0); (try clear HR296_0); clear HB; have HO_9 := n0_; have HO_10 := n1_; have HO_11 := n2_; have HB := n3_; clear n0_ n1_ n2_ n3_; (try clear hb)) | (go_at_call 37; (with_reducible refine (dom_Dominates.calls _ _ t277 ji23 x12_4 t299 _ ?side1 ?side2 A69.out).mono ?_); (case side1 => repeat (first | exact (Kd.R_reads' HO_10.out).2.2 | (with_reducible refine Kd.C_alloc ?_ _) | (with_reducible refine Kd.C_drewN ?_ _) | (with_reducible refine Kd.C_drew ?_))); (case side2 => exact (Kd.R_reads' HO_10.out).2.1); rintro e w82 ⟨rfl, hb⟩; have n0_ := Aside0.mk (Kd.S_below (by (with_reducible repeat (first | apply Kd.S_alloc | apply Kd.S_drewN | apply Kd.S_drew)); exact HO_9.out) hb); have n1_ := Aside0.mk (Kd.R_below (by (with_reducible repeat (first | apply Kd.R_alloc | apply Kd.R_drewN | apply Kd.R_drew)); exact HO_10.out) hb); have n2_ := Aside0.mk (Kd.S_below (by (with_reducible repeat (first | apply Kd.S_alloc | apply Kd.S_drewN | apply Kd.S_drew)); exact HO_11.out) hb); have n3_ := Aside0.mk (below_step (by repeat (first | (with_reducible first | exact HB.out | apply below_alloc | apply pw_below_drewN | apply below_drew1) | exact HB.out)) hb); clear HO_9; clear HO_10; clear HO_11; (try clear HO_13); (try clear HL295_0); (try clear HL296_0); (try clear HR295_0); (try clear HR296_0); clear HB; have HO_9 := n0_; have HO_10 := n1_; have HO_11 := n2_; have HB := n3_; clear n0_ n1_ n2_ n3_; (try clear hb)))
                                                    go_roundg kj54
                                                    case measure => have := HJ3.out; have := HK2.out; have := HJ27.out; have := HK4.out; have := HJ54.out; omega
                                                    case rel => exact ⟨(wrap64 (x12_4 + 1)), (by first | rfl | (simp; done) | (simp [*]; done)), H', ⟨by have := HJ3.out; have := HK2.out; have := HJ27.out; have := HK4.out; have := HJ54.out; omega⟩, ⟨by (with_reducible repeat (first | apply Kd.S_alloc | apply Kd.S_drewN | apply Kd.S_drew)); exact Kd.S_mono HO_9.out (fun _ hk => ⟨hk.1, hk.2.1⟩)⟩, ⟨by (with_reducible repeat (first | apply Kd.R_alloc | apply Kd.R_drewN | apply Kd.R_drew)); exact Kd.R_mono HO_10.out (fun _ hk => trivial)⟩, ⟨by (with_reducible repeat (first | apply Kd.S_alloc | apply Kd.S_drewN | apply Kd.S_drew)); exact Kd.S_mono HO_11.out (fun _ hk => ⟨hk.1, hk.2.1⟩)⟩, ⟨by repeat (first | (with_reducible first | exact HB.out | apply below_alloc | apply pw_below_drewN | apply below_drew1) | exact HB.out)⟩⟩
                                                · replace c68 := Bool.eq_false_iff.mpr c68
                                                  subst c68
                                                  have H1 : (some false) = some r := by rw [if_neg (show ¬ (false = true) by decide)] at H; exact H
                                                  clear H
                                                  have H := H1
                                                  clear H1
                                                  obtain rfl := Option.some.inj H
                                                  obtain ⟨Ao83, co83, eo83⟩ := Kd.R_slice HO_10.out
                                                  subst eo83
                                                  have p294 : 0 ≤ (x12_4 : Int) := of_decide_eq_true (by first | (with_reducible assumption) | assumption)
                                                  have q294 : x12_4 < (t277.length : Int) := of_decide_eq_true (by first | (with_reducible assumption) | assumption)
                                                  obtain ⟨ad294, e294, hx294_0⟩ := Kd.at_int (Kd.R_reads' HO_10.out).2.2 x12_4 p294 q294
                                                  cases e294
                                                  replace p294 := eq_true p294
                                                  replace q294 := eq_true q294
                                                  obtain ⟨Ao84, co84, eo84⟩ := Kd.S_slice HO_9.out
                                                  subst eo84
                                                  have p295 : 0 ≤ (x12_4 : Int) := of_decide_eq_true (by first | (with_reducible assumption) | assumption)
                                                  have q295 : x12_4 < (t274.length : Int) := of_decide_eq_true (by first | (with_reducible assumption) | assumption)
                                                  obtain ⟨ad295, A295_0, c295_0, e295, hx295_0, hl295_0, hi295_0⟩ := at_L1 (Kd.S_reads' HO_9.out).2.2 x12_4 p295 q295
                                                  cases e295
                                                  obtain ⟨ce295, hce295, hMe295, hcc295⟩ := Kd.S_get HO_9.out [] x12_4 p295 (by first | exact q295 | exact of_decide_eq_true (by first | (with_reducible assumption) | assumption) | (have e_ := (Kd.S_reads' HO_9.out).1; omega))
                                                  obtain ⟨ve295_0, rfl, ge295_0⟩ := hMe295
                                                  have hv295_0 := hcc295 0 _ rfl
                                                  rw [Nat.add_zero, show ((Kd.slice 3 (Kd.int .i64))).sz = 1 from rfl, Nat.mul_one] at hv295_0
                                                  replace hv295_0 := Option.some.inj (hv295_0.symm.trans hx295_0)
                                                  rw [hv295_0] at ge295_0
                                                  have HL295_0 := Aside0.mk (show Kd.R (Kd.int .i64) 3 _ _ _ _ (rd_L1 t274 x12_4) from ge295_0)
                                                  clear hv295_0 ge295_0
                                                  clear hcc295 hce295
                                                  have HR295_0 := Aside0.mk hi295_0
                                                  have HC295_0 := Aside0.mk hl295_0
                                                  clear hi295_0 hl295_0
                                                  replace p295 := eq_true p295
                                                  replace q295 := eq_true q295
                                                  obtain ⟨Ao85, co85, eo85⟩ := Kd.S_slice HO_11.out
                                                  subst eo85
                                                  have p296 : 0 ≤ (x12_4 : Int) := of_decide_eq_true (by first | (with_reducible assumption) | assumption)
                                                  have q296 : x12_4 < (t284.length : Int) := of_decide_eq_true (by first | (with_reducible assumption) | assumption)
                                                  obtain ⟨ad296, A296_0, c296_0, e296, hx296_0, hl296_0, hi296_0⟩ := at_L1 (Kd.S_reads' HO_11.out).2.2 x12_4 p296 q296
                                                  cases e296
                                                  obtain ⟨ce296, hce296, hMe296, hcc296⟩ := Kd.S_get HO_11.out [] x12_4 p296 (by first | exact q296 | exact of_decide_eq_true (by first | (with_reducible assumption) | assumption) | (have e_ := (Kd.S_reads' HO_11.out).1; omega))
                                                  obtain ⟨ve296_0, rfl, ge296_0⟩ := hMe296
                                                  have hv296_0 := hcc296 0 _ rfl
                                                  rw [Nat.add_zero, show ((Kd.slice 3 (Kd.int .i64))).sz = 1 from rfl, Nat.mul_one] at hv296_0
                                                  replace hv296_0 := Option.some.inj (hv296_0.symm.trans hx296_0)
                                                  rw [hv296_0] at ge296_0
                                                  have HL296_0 := Aside0.mk (show Kd.R (Kd.int .i64) 3 _ _ _ _ (rd_L1 t284 x12_4) from ge296_0)
                                                  clear hv296_0 ge296_0
                                                  clear hcc296 hce296
                                                  have HR296_0 := Aside0.mk hi296_0
                                                  have HC296_0 := Aside0.mk hl296_0
                                                  clear hi296_0 hl296_0
                                                  replace p296 := eq_true p296
                                                  replace q296 := eq_true q296
                                                  obtain ⟨Ao86, co86, eo86⟩ := Kd.R_slice HO_13.out
                                                  subst eo86
                                                  go_wp2_with (first | (go_at_call 27; (with_reducible refine (swageref02_Ints.calls kj54 _ _ (rd_L1 t284 x12_4) _ _ x13_54 true _ ?side1 ?side2 ?side3 ?side4 A65.out).mono ?_); (case side1 => repeat (first | exact (by repeat (first | (with_reducible exact HR296_0.out) | (with_reducible refine Kd.C_alloc ?_ _) | (with_reducible refine Kd.C_drewN ?_ _) | (with_reducible refine Kd.C_drew ?_) | exact HR296_0.out)) | (with_reducible refine Kd.C_alloc ?_ _) | (with_reducible refine Kd.C_drewN ?_ _) | (with_reducible refine Kd.C_drew ?_))); (case side2 => exact HC296_0.out); (case side3 => repeat (first | exact (Kd.R_reads' HO_13.out).2.2 | (with_reducible refine Kd.C_alloc ?_ _) | (with_reducible refine Kd.C_drewN ?_ _) | (with_reducible refine Kd.C_drew ?_))); (case side4 => exact (Kd.R_reads' HO_13.out).2.1); rintro e w' ⟨rfl, ⟨nd, rfl⟩⟩) | (go_at_call 37; (with_reducible refine (dom_Dominates.calls _ _ t277 0 x12_4 false _ ?side1 ?side2 A67.out).mono ?_); (case side1 => repeat (first | exact (Kd.R_reads' HO_10.out).2.2 | (with_reducible refine Kd.C_alloc ?_ _) | (with_reducible refine Kd.C_drewN ?_ _) | (with_reducible refine Kd.C_drew ?_))); (case side2 => exact (Kd.R_reads' HO_10.out).2.1); rintro e w87 ⟨rfl, hb⟩; have n0_ := Aside0.mk (Kd.S_below (by (with_reducible repeat (first | apply Kd.S_alloc | apply Kd.S_drewN | apply Kd.S_drew)); exact HO_9.out) hb); have n1_ := Aside0.mk (Kd.R_below (by (with_reducible repeat (first | apply Kd.R_alloc | apply Kd.R_drewN | apply Kd.R_drew)); exact HO_10.out) hb); have n2_ := Aside0.mk (Kd.S_below (by (with_reducible repeat (first | apply Kd.S_alloc | apply Kd.S_drewN | apply Kd.S_drew)); exact HO_11.out) hb); have n3_ := Aside0.mk (below_step (by repeat (first | (with_reducible first | exact HB.out | apply below_alloc | apply pw_below_drewN | apply below_drew1) | exact HB.out)) hb); clear HO_9; clear HO_10; clear HO_11; (try clear HO_13); (try clear HL295_0); (try clear HL296_0); (try clear HR295_0); (try clear HR296_0); clear HB; have HO_9 := n0_; have HO_10 := n1_; have HO_11 := n2_; have HB := n3_; clear n0_ n1_ n2_ n3_; (try clear hb)))
                                                  go_ret
                                                  exact ⟨by first | rfl | (simp [errW_none, errW_some] <;> rfl) | (simp only [← hji23]; first | rfl | (simp [errW_none, errW_some] <;> rfl)) | (simp [*, errW_none, errW_some] <;> rfl), by repeat (first | (with_reducible first | exact HB.out | apply below_alloc | apply pw_below_drewN | apply below_drew1) | exact HB.out)⟩
                                              · replace c66 := Bool.eq_false_iff.mpr c66
                                                subst c66
                                                have H1 : (some false) = some r := by rw [if_neg (show ¬ (false = true) by decide)] at H; exact H
                                                clear H
                                                have H := H1
                                                clear H1
                                                obtain rfl := Option.some.inj H
                                                obtain ⟨Ao88, co88, eo88⟩ := Kd.R_slice HO_10.out
                                                subst eo88
                                                have p294 : 0 ≤ (x12_4 : Int) := of_decide_eq_true (by first | (with_reducible assumption) | assumption)
                                                have q294 : x12_4 < (t277.length : Int) := of_decide_eq_true (by first | (with_reducible assumption) | assumption)
                                                obtain ⟨ad294, e294, hx294_0⟩ := Kd.at_int (Kd.R_reads' HO_10.out).2.2 x12_4 p294 q294
                                                cases e294
                                                replace p294 := eq_true p294
                                                replace q294 := eq_true q294
                                                obtain ⟨Ao89, co89, eo89⟩ := Kd.S_slice HO_9.out
                                                subst eo89
                                                have p295 : 0 ≤ (x12_4 : Int) := of_decide_eq_true (by first | (with_reducible assumption) | assumption)
                                                have q295 : x12_4 < (t274.length : Int) := of_decide_eq_true (by first | (with_reducible assumption) | assumption)
                                                obtain ⟨ad295, A295_0, c295_0, e295, hx295_0, hl295_0, hi295_0⟩ := at_L1 (Kd.S_reads' HO_9.out).2.2 x12_4 p295 q295
                                                cases e295
                                                obtain ⟨ce295, hce295, hMe295, hcc295⟩ := Kd.S_get HO_9.out [] x12_4 p295 (by first | exact q295 | exact of_decide_eq_true (by first | (with_reducible assumption) | assumption) | (have e_ := (Kd.S_reads' HO_9.out).1; omega))
                                                obtain ⟨ve295_0, rfl, ge295_0⟩ := hMe295
                                                have hv295_0 := hcc295 0 _ rfl
                                                rw [Nat.add_zero, show ((Kd.slice 3 (Kd.int .i64))).sz = 1 from rfl, Nat.mul_one] at hv295_0
                                                replace hv295_0 := Option.some.inj (hv295_0.symm.trans hx295_0)
                                                rw [hv295_0] at ge295_0
                                                have HL295_0 := Aside0.mk (show Kd.R (Kd.int .i64) 3 _ _ _ _ (rd_L1 t274 x12_4) from ge295_0)
                                                clear hv295_0 ge295_0
                                                clear hcc295 hce295
                                                have HR295_0 := Aside0.mk hi295_0
                                                have HC295_0 := Aside0.mk hl295_0
                                                clear hi295_0 hl295_0
                                                replace p295 := eq_true p295
                                                replace q295 := eq_true q295
                                                obtain ⟨Ao90, co90, eo90⟩ := Kd.S_slice HO_11.out
                                                subst eo90
                                                have p296 : 0 ≤ (x12_4 : Int) := of_decide_eq_true (by first | (with_reducible assumption) | assumption)
                                                have q296 : x12_4 < (t284.length : Int) := of_decide_eq_true (by first | (with_reducible assumption) | assumption)
                                                obtain ⟨ad296, A296_0, c296_0, e296, hx296_0, hl296_0, hi296_0⟩ := at_L1 (Kd.S_reads' HO_11.out).2.2 x12_4 p296 q296
                                                cases e296
                                                obtain ⟨ce296, hce296, hMe296, hcc296⟩ := Kd.S_get HO_11.out [] x12_4 p296 (by first | exact q296 | exact of_decide_eq_true (by first | (with_reducible assumption) | assumption) | (have e_ := (Kd.S_reads' HO_11.out).1; omega))
                                                obtain ⟨ve296_0, rfl, ge296_0⟩ := hMe296
                                                have hv296_0 := hcc296 0 _ rfl
                                                rw [Nat.add_zero, show ((Kd.slice 3 (Kd.int .i64))).sz = 1 from rfl, Nat.mul_one] at hv296_0
                                                replace hv296_0 := Option.some.inj (hv296_0.symm.trans hx296_0)
                                                rw [hv296_0] at ge296_0
                                                have HL296_0 := Aside0.mk (show Kd.R (Kd.int .i64) 3 _ _ _ _ (rd_L1 t284 x12_4) from ge296_0)
                                                clear hv296_0 ge296_0
                                                clear hcc296 hce296
                                                have HR296_0 := Aside0.mk hi296_0
                                                have HC296_0 := Aside0.mk hl296_0
                                                clear hi296_0 hl296_0
                                                replace p296 := eq_true p296
                                                replace q296 := eq_true q296
                                                obtain ⟨Ao91, co91, eo91⟩ := Kd.R_slice HO_13.out
                                                subst eo91
                                                go_wp2_with (first | (go_at_call 27; (with_reducible refine (swageref02_Ints.calls kj54 _ _ (rd_L1 t284 x12_4) _ _ x13_54 false _ ?side1 ?side2 ?side3 ?side4 A65.out).mono ?_); (case side1 => repeat (first | exact (by repeat (first | (with_reducible exact HR296_0.out) | (with_reducible refine Kd.C_alloc ?_ _) | (with_reducible refine Kd.C_drewN ?_ _) | (with_reducible refine Kd.C_drew ?_) | exact HR296_0.out)) | (with_reducible refine Kd.C_alloc ?_ _) | (with_reducible refine Kd.C_drewN ?_ _) | (with_reducible refine Kd.C_drew ?_))); (case side2 => exact HC296_0.out); (case side3 => repeat (first | exact (Kd.R_reads' HO_13.out).2.2 | (with_reducible refine Kd.C_alloc ?_ _) | (with_reducible refine Kd.C_drewN ?_ _) | (with_reducible refine Kd.C_drew ?_))); (case side4 => exact (Kd.R_reads' HO_13.out).2.1); rintro e w' ⟨rfl, ⟨nd, rfl⟩⟩))
                                                go_ret
                                                exact ⟨by first | rfl | (simp [errW_none, errW_some] <;> rfl) | (simp only [← hji23]; first | rfl | (simp [errW_none, errW_some] <;> rfl)) | (simp [*, errW_none, errW_some] <;> rfl), by repeat (first | (with_reducible first | exact HB.out | apply below_alloc | apply pw_below_drewN | apply below_drew1) | exact HB.out)⟩
                                            · rw [if_neg c64] at H
                                              exact absurd H (by simp)
                                          · rw [if_neg c63] at H
                                            have c63b0 : (((rd_L1 t274 x12_4).length : Int) == 0) = false := beq_eq_false_iff_ne.mpr c63
                                            have c63b1 : (((rd_L1 t274 x12_4).length : Int) != 0) = true := bne_iff_ne.mpr c63
                                            have c63b2 : ¬ ((rd_L1 t274 x12_4) = []) := fun h_ => c63 (by rw [h_]; rfl)
                                            obtain rfl := Option.some.inj H
                                            obtain ⟨Ao92, co92, eo92⟩ := Kd.R_slice HO_10.out
                                            subst eo92
                                            have p294 : 0 ≤ (x12_4 : Int) := of_decide_eq_true (by first | (with_reducible assumption) | assumption)
                                            have q294 : x12_4 < (t277.length : Int) := of_decide_eq_true (by first | (with_reducible assumption) | assumption)
                                            obtain ⟨ad294, e294, hx294_0⟩ := Kd.at_int (Kd.R_reads' HO_10.out).2.2 x12_4 p294 q294
                                            cases e294
                                            replace p294 := eq_true p294
                                            replace q294 := eq_true q294
                                            obtain ⟨Ao93, co93, eo93⟩ := Kd.S_slice HO_9.out
                                            subst eo93
                                            have p295 : 0 ≤ (x12_4 : Int) := of_decide_eq_true (by first | (with_reducible assumption) | assumption)
                                            have q295 : x12_4 < (t274.length : Int) := of_decide_eq_true (by first | (with_reducible assumption) | assumption)
                                            obtain ⟨ad295, A295_0, c295_0, e295, hx295_0, hl295_0, hi295_0⟩ := at_L1 (Kd.S_reads' HO_9.out).2.2 x12_4 p295 q295
                                            cases e295
                                            obtain ⟨ce295, hce295, hMe295, hcc295⟩ := Kd.S_get HO_9.out [] x12_4 p295 (by first | exact q295 | exact of_decide_eq_true (by first | (with_reducible assumption) | assumption) | (have e_ := (Kd.S_reads' HO_9.out).1; omega))
                                            obtain ⟨ve295_0, rfl, ge295_0⟩ := hMe295
                                            have hv295_0 := hcc295 0 _ rfl
                                            rw [Nat.add_zero, show ((Kd.slice 3 (Kd.int .i64))).sz = 1 from rfl, Nat.mul_one] at hv295_0
                                            replace hv295_0 := Option.some.inj (hv295_0.symm.trans hx295_0)
                                            rw [hv295_0] at ge295_0
                                            have HL295_0 := Aside0.mk (show Kd.R (Kd.int .i64) 3 _ _ _ _ (rd_L1 t274 x12_4) from ge295_0)
                                            clear hv295_0 ge295_0
                                            clear hcc295 hce295
                                            have HR295_0 := Aside0.mk hi295_0
                                            have HC295_0 := Aside0.mk hl295_0
                                            clear hi295_0 hl295_0
                                            replace p295 := eq_true p295
                                            replace q295 := eq_true q295
                                            go_wp2
                                            go_ret
                                            exact ⟨by first | rfl | (simp [errW_none, errW_some] <;> rfl) | (simp only [← hji23]; first | rfl | (simp [errW_none, errW_some] <;> rfl)) | (simp [*, errW_none, errW_some] <;> rfl), by repeat (first | (with_reducible first | exact HB.out | apply below_alloc | apply pw_below_drewN | apply below_drew1) | exact HB.out)⟩
                                        · rw [if_neg c62] at H
                                          exact absurd H (by simp)
                                      · rw [if_neg c61] at H
                                        have c61b0 : ((rd t277 x12_4) == (wrap64 (x12_4 - 1))) = false := beq_eq_false_iff_ne.mpr c61
                                        have c61b1 : ((rd t277 x12_4) != (wrap64 (x12_4 - 1))) = true := bne_iff_ne.mpr c61
                                        obtain rfl := Option.some.inj H
                                        obtain ⟨Ao94, co94, eo94⟩ := Kd.R_slice HO_10.out
                                        subst eo94
                                        have p294 : 0 ≤ (x12_4 : Int) := of_decide_eq_true (by first | (with_reducible assumption) | assumption)
                                        have q294 : x12_4 < (t277.length : Int) := of_decide_eq_true (by first | (with_reducible assumption) | assumption)
                                        obtain ⟨ad294, e294, hx294_0⟩ := Kd.at_int (Kd.R_reads' HO_10.out).2.2 x12_4 p294 q294
                                        cases e294
                                        replace p294 := eq_true p294
                                        replace q294 := eq_true q294
                                        go_wp2
                                        go_ret
                                        exact ⟨by first | rfl | (simp [errW_none, errW_some] <;> rfl) | (simp only [← hji23]; first | rfl | (simp [errW_none, errW_some] <;> rfl)) | (simp [*, errW_none, errW_some] <;> rfl), by repeat (first | (with_reducible first | exact HB.out | apply below_alloc | apply pw_below_drewN | apply below_drew1) | exact HB.out)⟩
                                    · rw [if_neg c60] at H
                                      exact absurd H (by simp)
                                  · rw [if_neg c59] at H
                                    exact absurd H (by simp)
                            · rw [if_neg c54] at H
                              have c54b0 : decide (x12_4 < a0) = false := decide_eq_false c54
                              clear c54
                              obtain rfl := Option.some.inj H
                              go_wp2
                              go_ret
                              exact ⟨by first | rfl | (simp [errW_none, errW_some] <;> rfl) | (simp only [← hji23]; first | rfl | (simp [errW_none, errW_some] <;> rfl)) | (simp [*, errW_none, errW_some] <;> rfl), by repeat (first | (with_reducible first | exact HB.out | apply below_alloc | apply pw_below_drewN | apply below_drew1) | exact HB.out)⟩
                · rw [if_neg c25] at H
                  exact absurd H (by simp)
              · rw [if_neg c24] at H
                exact absurd H (by simp)

end Go.Proofs.Ytkmbhknmjnbanaa.A


namespace Go.Proofs.Ytkmbhknmjnbanaa.A
open Go.RowKit Go.Proofs.YtkmbhknmjnbanaaW.PrintWords Go.Proofs.YtkmbhknmjnbanaaW.PrintLast Go.Shelf
set_option linter.unusedVariables false
set_option linter.unusedSimpArgs false

theorem Evt.mono {α : Type} {f : Nat → Option α} {r : α} (m : ∀ k, LeO (f k) (f (k + 1))) {K : Nat} (h : f K = some r) : Evt f r := by
  refine ⟨K, fun k hk => ?_⟩
  obtain ⟨d, rfl⟩ := Nat.le.dest hk
  induction d with
  | zero => exact h
  | succ d ih => exact m (K + d) r (ih (by omega))
theorem all_of {n i : Nat} {p : Nat → Bool} (h : (List.range n).all p = true) (hi : i < n) : p i = true := List.all_eq_true.1 h i (List.mem_range.2 hi)
theorem chk1_at {n : Nat} (h1 : 1 ≤ n) (h2 : n ≤ 20) : chk1 n = true := by
  have := all_of all1 (i := n - 1) (by omega)
  rwa [show n - 1 + 1 = n by omega] at this
theorem chk2_at {n m : Nat} (h2 : n ≤ 20) (hm : m < n) : chk2 n m = true := by
  have := all_of (all_of all2 (i := n - 1) (by omega)) (i := m) (by omega)
  rwa [show n - 1 + 1 = n by omega] at this
theorem chk3_at {n m : Nat} (h2 : n ≤ 20) (hm : m < n) : chk3 n m = true := by
  have := all_of (all_of all3 (i := n - 1) (by omega)) (i := m) (by omega)
  rwa [show n - 1 + 1 = n by omega] at this
def chP (n i : Nat) : List (List Int) := (List.range i).map fun j : Nat => if j + 1 = n then [] else [((j + 1 : Nat) : Int)]
theorem chP_succ (n i : Nat) : chP n (i + 1) = chP n i ++ [if i + 1 = n then [] else [((i + 1 : Nat) : Int)]] := by simp [chP, List.range_succ]
theorem chP_all (n : Nat) : chP n n = chG n := rfl
theorem ch_len (n : Nat) : (chG n).length = n := by simp [chG]
theorem chD_rd {n i : Nat} (h : i < n) : rd (chD n) (i : Int) = (i : Int) - 1 := by
  unfold rd chD; simp [h]
theorem chD_len (n : Nat) : (chD n).length = n := by simp [chD]
theorem chF_len (n m : Nat) : (chF n m).length = n := by simp [chF]
theorem chF_row {n m i : Nat} (h : i < n) : rowOf (chF n m) i = if i < m then [] else [(m : Int)] := by
  unfold rowOf chF; simp [h]
section
variable {n m : Nat}
theorem cc_l1 (h1 : 1 ≤ n) (h2 : n ≤ 20) (hm : m < n) : ∀ (d i : Nat), i + d = n → Evt (fun k => swagelaw07_DomChain.l1 k (n : Int) (m : Int) true (List.replicate n []) (chD n) (chF n m) (i : Int)) true := by
  intro d
  induction d with
  | zero =>
    intro i hi
    refine Evt.step (Evt.const rfl) fun k => ?_
    rw [swagelaw07_DomChain.l1, if_neg (by omega)]
  | succ d ih =>
    intro i hi
    have ih := ih (i + 1) (by omega)
    have hi' : i < n := by omega
    have hc3 := chk3_at h2 hi'
    unfold chk3 at hc3
    rw [Bool.and_eq_true, decide_eq_true_eq] at hc3
    obtain ⟨hd0, hd1⟩ := hc3
    have hDl := chD_len n
    have hFl := chF_len n m
    have hrl : (List.replicate n ([] : List Int)).length = n := List.length_replicate
    have hrr : rowOf (List.replicate n ([] : List Int)) i = [] := by unfold rowOf; simp [hi']
    have H : ∀ x : List Int, x.length ≤ 1 → x = rowOf (chF n m) i → Evt (fun k => swagelaw07_DomChain.j4 k (n : Int) (m : Int) true (List.replicate n []) (chD n) (chF n m) (i : Int) x) true := by
      intro x hx e
      have hin := ints_ev x (by omega)
      refine Evt.step (Evt.bind (h := fun k t297 => if t297 = true then ((dom_Dominates.f (chD n) 0 (i : Int)).bind fun t298 => (if t298 = true then ((dom_Dominates.f (chD n) (wrap64 ((n : Int) - 1)) (i : Int)).bind fun t299 => (if (t299 != ((i : Int) == (wrap64 ((n : Int) - 1)))) = true then (some false) else (swagelaw07_DomChain.l1 k (n : Int) (m : Int) true (List.replicate n []) (chD n) (chF n m) (wrap64 ((i : Int) + 1))))) else (some false))) else (some false)) hin ?_) fun k => ?_
      · refine Evt.congr ih fun k => ?_
        have e1 : wrap64 ((n : Int) - 1) = ((n - 1 : Nat) : Int) := by rw [w64 (by omega) (by omega)]; omega
        have e2 : ((i : Int) == ((n - 1 : Nat) : Int)) = decide (i + 1 = n) := by
          rw [Bool.eq_iff_iff, beq_iff_eq, decide_eq_true_eq]; omega
        unfold dom_Dominates.f
        rw [if_pos rfl, if_pos (by omega), Option.bind_some, if_pos hd0, if_pos (by omega), Option.bind_some, e1, hd1, e2, wsucc (by omega), if_neg (by simp)]
      · rw [swagelaw07_DomChain.j4, if_pos (by omega), if_pos (by omega), chD_rd hi', w64 (by omega) (by omega), if_pos rfl, if_pos (by omega), rdL, hrr, if_pos (by rfl), if_pos (by omega), rdL, ← e]
    by_cases hlt : i < m
    · refine Evt.step (H [] (by simp) (by rw [chF_row hi', if_pos hlt])) fun k => ?_
      rw [swagelaw07_DomChain.l1, if_pos (by omega), if_pos (by omega)]
    · refine Evt.step (H [(m : Int)] (by simp) (by rw [chF_row hi', if_neg hlt])) fun k => ?_
      rw [swagelaw07_DomChain.l1, if_pos (by omega), if_neg (by omega)]
theorem cc_l0 (h1 : 1 ≤ n) (h2 : n ≤ 20) (hm : m < n) : ∀ (d i : Nat), i + d = n → Evt (fun k => swagelaw07_DomChain.l0 k (n : Int) (m : Int) true (chP n i) (i : Int)) true := by
  intro d
  induction d with
  | zero =>
    intro i hi
    obtain rfl : i = n := by omega
    have hc1 := chk1_at h1 h2
    have hc2 := chk2_at h2 hm
    unfold chk1 at hc1
    unfold chk2 at hc2
    rw [Bool.and_eq_true, decide_eq_true_eq, decide_eq_true_eq] at hc1 hc2
    have f1 := Evt.mono (dom_Frontier.mono (chG i)) hc1.1
    have f2 := Evt.mono (dom_Idom.mono (chG i)) hc1.2
    have f3 := Evt.mono (dom_Frontier.mono (chH i m)) hc2.1
    have f4 := Evt.mono (dom_Idom.mono (chH i m)) hc2.2
    have hin := ints_ev (chD i) (by rw [chD_len]; omega)
    have hj2 : Evt (fun k => swagelaw07_DomChain.j2 k (i : Int) (m : Int) true (List.replicate i []) (chD i) (chF i m) false) true :=
      Evt.step (cc_l1 h1 h2 hm i 0 (by omega)) fun k => by rw [swagelaw07_DomChain.j2, if_neg (by simp)]; rfl
    have e1 : wrap64 ((i : Int) - 1) = ((i - 1 : Nat) : Int) := by rw [w64 (by omega) (by omega)]; omega
    have hl := ch_len i
    obtain ⟨K1, g1⟩ := f1
    obtain ⟨K2, g2⟩ := f2
    obtain ⟨K3, g3⟩ := f3
    obtain ⟨K4, g4⟩ := f4
    obtain ⟨K5, g5⟩ := hin
    obtain ⟨K6, g6⟩ := hj2
    refine ⟨K1 + K2 + K3 + K4 + K5 + K6 + 1, fun k hk => ?_⟩
    obtain ⟨k, rfl⟩ : ∃ l, k = l + 1 := ⟨k - 1, by omega⟩
    have q1 := g1 k (by omega)
    have q2 := g2 k (by omega)
    have q3 := g3 k (by omega)
    have q4 := g4 k (by omega)
    have q5 := g5 k (by omega)
    have q6 := g6 k (by omega)
    dsimp only at q1 q2 q3 q4 q5 q6
    show swagelaw07_DomChain.l0 (k + 1) (i : Int) (m : Int) true (chP i i) (i : Int) = some true
    have e2 : (chG i).set (i - 1) [(m : Int)] = chH i m := rfl
    rw [swagelaw07_DomChain.l0, if_neg (by omega), chP_all, q1, Option.bind_some, q2, Option.bind_some, e1, if_pos (by omega), if_pos (by omega), Option.bind_some, Int.toNat_natCast, e2, q3, Option.bind_some, List.length_replicate, if_pos rfl, chF_len, if_pos rfl, chD_len, if_pos rfl, q4, Option.bind_some, q5, Option.bind_some, Bool.not_true, q6]
  | succ d ih =>
    intro i hi
    have ih := ih (i + 1) (by omega)
    have hl : (chP n i).length = i := by simp [chP]
    rw [chP_succ] at ih
    by_cases e : i + 1 = n
    · rw [if_pos e] at ih
      refine Evt.step ih fun k => ?_
      rw [swagelaw07_DomChain.l0, if_pos (by omega), wsucc (by omega), if_pos (by omega), if_pos (by omega)]
    · rw [if_neg e] at ih
      refine Evt.step ih fun k => ?_
      rw [swagelaw07_DomChain.l0, if_pos (by omega), wsucc (by omega), if_neg (by omega), if_pos (by omega)]
end
theorem dchain_pure (n m : Int) : ∃ k, swagelaw07_DomChain.f k n m = some true := by
  suffices H : Evt (fun k => swagelaw07_DomChain.f k n m) true from H.get
  unfold swagelaw07_DomChain.f swagelaw07_small.f
  simp only [Option.bind_some]
  have hno : Evt (fun k => swagelaw07_DomChain.j0 k n m true true) true := Evt.step (Evt.const rfl) fun k => by rw [swagelaw07_DomChain.j0, if_pos rfl]
  by_cases h1 : n < 1
  · exact Evt.congr hno fun k => by rw [if_pos h1]
  · by_cases h2 : n > 20
    · exact Evt.congr hno fun k => by rw [if_neg h1, if_pos h2]
    · by_cases h3 : m < 0
      · exact Evt.congr hno fun k => by rw [if_neg h1, if_neg h2, if_pos h3]
      · by_cases h4 : m ≥ n
        · exact Evt.congr hno fun k => by rw [if_neg h1, if_neg h2, if_neg h3, decide_eq_true h4]
        · obtain ⟨a, rfl⟩ := Int.eq_ofNat_of_zero_le (show 0 ≤ n by omega)
          obtain ⟨b, rfl⟩ := Int.eq_ofNat_of_zero_le (show 0 ≤ m by omega)
          refine Evt.step (cc_l0 (n := a) (m := b) (by omega) (by omega) (by omega) a 0 (by omega)) fun k => ?_
          rw [if_neg h1, if_neg h2, if_neg h3, decide_eq_false h4, swagelaw07_DomChain.j0, if_neg (by simp)]
          rfl
theorem law_dchain (n m : Int) (w : World) (hn : (Lit.int .i64 n).wf = true) (hm : (Lit.int .i64 m).wf = true) :
    Calls Try.prog 10 #[.int .i64 n, .int .i64 m] w fun e w' => e = .returned (.bool true) ∧ Below w.heap.size w w' := by
  obtain ⟨k, hk⟩ := dchain_pure n m
  exact swagelaw07_DomChain.calls k n m true w hk
end Go.Proofs.Ytkmbhknmjnbanaa.A

