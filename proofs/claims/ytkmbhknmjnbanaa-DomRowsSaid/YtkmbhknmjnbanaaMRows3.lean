/- Parts of the proof, in the order in which they rest on one another. -/
import Derived.Test.YtkmbhknmjnbanaaMRows2
import Derived.Below
import Derived.Deep.Draws
import Derived.Deep.AppendLies
import Derived.Maps.AppendAt
import Derived.OwnWalk
import Derived.Laws.BytesArg
import Derived.Laws.MakeOwn
import Derived.Laws.OwnMore
import Derived.Deep.OwnRows
import Derived.Tactics
import Derived.Lib.ConvBytes
import Derived.Laws.Slices
import Derived.WalkKit
import Derived.KernelRfl
import Derived.RowKit3
import Derived.Deep.LoopGhost
import Derived.Deep.QuietTactic
import Derived.BigQuiet
import Derived.WideLaws
import Derived.Deep.DeepCutAuto
import Derived.Deep.CutBlock
import Derived.Deep.RegionHeld3
import Derived.Laws.Rows
import Derived.Lib.AppendStr
import Derived.ArgAppend
import Derived.Laws.IdiomCopy
import Derived.RowKit
import Derived.OrdersHeld
import Derived.Laws.BitsLemmas
import Derived.Laws.StructEq
import Derived.Test.YtkmbhknmjnbanaaProg
import Derived.Shelf.Abstract
import Derived.Lib.Walk
import Derived.RangeFuncWrites
import Derived.RangeFuncNested
import Derived.RangeFuncBound
import Derived.RangeFuncCalls
import Derived.RangeFuncLeaves
import Derived.Shelf.RegionOpen
import Derived.OwnWalkIn
import Derived.TacticsInMore
import Derived.LoopNIn
import Derived.LoopIn
import Derived.Laws.EntriesVeiled
import Derived.RangeFuncBox
import Derived.Laws.CopyOwn
import Derived.Deep.RegionLaw
import Derived.BigRegion
import Derived.WalkSpells
import Derived.Shelf.SlIterI.Nil
import Derived.Shelf.SortM.Plain
import Derived.Shelf.SortM.SortNone
import Derived.Ground.GgzProg
import Derived.Ground.SlgmProg
import Derived.Shelf.SlGeneric
import Derived.Maps.Own
import Derived.Maps.OwnOps
import Derived.Maps.OwnSet
import Derived.Maps.Views
import Derived.RangeFuncRecord
import Derived.Deep.RegionLawGrows
import Derived.Deep.Upon
import Derived.Maps.OwnRows
import Derived.Maps.GroupsBeside
import Derived.Deep.RegionWith
import Derived.Deep.CutRange
import Derived.Maps.OwnIn
import Derived.Lib.SliceRun
import Derived.Outline
namespace Go.Proofs.Ytkmbhknmjnbanaa.A
open Go.RowKit Go.Proofs.YtkmbhknmjnbanaaW.PrintWords Go.Proofs.YtkmbhknmjnbanaaW.PrintLast Go.Proofs.YtkmbhknmjnbanaaW.PrintMore
attribute [local go_sem] max2_int min2_int max_two min_two max_three min_three max_four min_four   -- for this text's walks alone
set_option linter.unusedVariables false
set_option linter.unusedSimpArgs false

mutual
def swageref06_Reach.j0 : Nat → List (List Int) → Int → Bool → Option (List Bool)
  | 0, _, _, _ => none
  | k + 1, x0, x1, x23 => if x23 = true then (some ([] : List Bool)) else (if 0 ≤ (x0.length : Int) then (if ((x0.length : Int) : Int).toNat ≤ 281474976710656 then ((some (List.replicate ((x0.length : Int) : Int).toNat false : List Bool)).bind fun y308 => (if 0 ≤ x1 then (if x1 < (y308.length : Int) then (swageref06_Reach.l0 k x0 (y308.set (x1 : Int).toNat true) true) else (none)) else (none))) else (none)) else (none))
def swageref06_Reach.l0 : Nat → List (List Int) → List Bool → Bool → Option (List Bool)
  | 0, _, _, _ => none
  | k + 1, x0, x6, x7 => if x7 = true then (swageref06_Reach.l1 k x0 x6 false 0) else (some x6)
def swageref06_Reach.l1 : Nat → List (List Int) → List Bool → Bool → Int → Option (List Bool)
  | 0, _, _, _, _ => none
  | k + 1, x0, x6, x7, x8 => if x8 < (x0.length : Int) then (swageref06_Reach.l2 k x0 x6 x7 x8 0) else (swageref06_Reach.l0 k x0 x6 x7)
def swageref06_Reach.l2 : Nat → List (List Int) → List Bool → Bool → Int → Int → Option (List Bool)
  | 0, _, _, _, _, _ => none
  | k + 1, x0, x6, x7, x8, x9 => if 0 ≤ x8 then (if x8 < (x0.length : Int) then (if x9 < ((rd_L1 x0 x8).length : Int) then (if x8 < (x6.length : Int) then (swageref06_Reach.j4 k x0 x6 x7 x8 x9 (rdOf false x6 x8)) else (none)) else (swageref06_Reach.j4 k x0 x6 x7 x8 x9 false)) else (none)) else (none)
def swageref06_Reach.j4 : Nat → List (List Int) → List Bool → Bool → Int → Int → Bool → Option (List Bool)
  | 0, _, _, _, _, _, _ => none
  | k + 1, x0, x6, x7, x8, x9, x49 => if x49 = true then (if 0 ≤ x8 then (if x8 < (x0.length : Int) then (if 0 ≤ x9 then (if x9 < ((rd_L1 x0 x8).length : Int) then (if 0 ≤ (rd (rd_L1 x0 x8) x9) then (if (rd (rd_L1 x0 x8) x9) < (x6.length : Int) then (if (rdOf false x6 (rd (rd_L1 x0 x8) x9) = true) then (swageref06_Reach.l2 k x0 x6 x7 x8 (wrap64 (x9 + 1))) else (swageref06_Reach.l2 k x0 (x6.set ((rd (rd_L1 x0 x8) x9) : Int).toNat true) true x8 (wrap64 (x9 + 1)))) else (none)) else (none)) else (none)) else (none)) else (none)) else (none)) else (swageref06_Reach.l1 k x0 x6 x7 (wrap64 (x8 + 1)))
end
def swageref06_Reach.f (k : Nat) (l0 : List (List Int)) (a1 : Int) : Option (List Bool) := (swageref06_Right.f k l0).bind fun t307 => (if t307 = true then (if a1 < 0 then (swageref06_Reach.j0 k l0 a1 true) else (swageref06_Reach.j0 k l0 a1 (decide (a1 ≥ (l0.length : Int))))) else (swageref06_Reach.j0 k l0 a1 true))
set_option maxHeartbeats 8000000 in
set_option maxRecDepth 100000 in
theorem swageref06_Reach.calls (k : Nat) (A0 : Option Addr) (c0 : Nat) (l0 : List (List Int)) (a1 : Int) (r : List Bool) (w : World) (hr0 : Kd.C (Kd.slice 3 (Kd.int .i64)) w A0 l0.length l0) (hc0 : l0.length ≤ c0) (h : swageref06_Reach.f k l0 a1 = some r) :
    Calls Try.prog 23 #[.slice A0 l0.length c0, .int .i64 a1] w fun e w' => ∃ v0_ : Value, e = .returned (v0_) ∧ Kd.R Kd.bool 4 w' w.heap.size (fun _ => True) v0_ r ∧ Below w.heap.size w w' := by
  have HR0 := Aside0.mk hr0
  have HC0 := Aside0.mk hc0
  clear hr0 hc0
  have HB := Aside0.mk (Below.refl w.heap.size w)
  have H : ((swageref06_Right.f k l0).bind fun t307 => (if t307 = true then (if a1 < 0 then (swageref06_Reach.j0 k l0 a1 true) else (swageref06_Reach.j0 k l0 a1 (decide (a1 ≥ (l0.length : Int))))) else (swageref06_Reach.j0 k l0 a1 true))) = some r := h
  clear h
  replace H := Option.bind_eq_some_iff.mp H
  obtain ⟨t307, A30, H⟩ := H
  replace H : (if t307 = true then (if a1 < 0 then (swageref06_Reach.j0 k l0 a1 true) else (swageref06_Reach.j0 k l0 a1 (decide (a1 ≥ (l0.length : Int))))) else (swageref06_Reach.j0 k l0 a1 true)) = some r := H
  have A3 := Aside0.mk A30
  clear A30
  have HC4 := Aside0.mk H
  clear H
  go_enter Try.func23, Try.ntmps23
  go_upto_region 2 with (first | ((with_reducible refine gate_callee (f := 20) rfl ?_); refine goesL_ (some 11) rfl rfl Try.func20 (by kernel_rfl) rfl #[.slice A0 l0.length c0] rfl (by (try simp only [List.map_toArray, List.map_cons, List.map_nil]); first | done | rfl | (simp only [List.length_drop, List.length_take]; rfl)) ?_; (with_reducible refine (swageref06_Right.calls k _ _ l0 t307 _ ?side1 ?side2 A3.out).mono ?_); (case side1 => repeat (first | exact HR0.out | (with_reducible refine Kd.C_alloc ?_ _) | (with_reducible refine Kd.C_drewN ?_ _) | (with_reducible refine Kd.C_drew ?_))); (case side2 => exact HC0.out); rintro e w' ⟨rfl, ⟨nd, rfl⟩⟩; refine ⟨_, rfl, ?_⟩))
  (try simp only [Act.put, List.setIfInBounds_toArray, List.set_cons_zero, List.set_cons_succ])
  go_cut [23] (fun v23 wc => ∃ (kq : Nat) (x23_3 : Bool), v23 = .bool x23_3 ∧ Aside0 (swageref06_Reach.j0 kq l0 a1 x23_3 = some r) ∧ Aside0 (kq ≤ k) ∧ Aside0 (Below w.heap.size w wc))
  case first =>
    have H := HC4.out
    clear HC4
    by_cases c5 : t307 = true
    · subst c5
      have H1 : (if a1 < 0 then (swageref06_Reach.j0 k l0 a1 true) else (swageref06_Reach.j0 k l0 a1 (decide (a1 ≥ (l0.length : Int))))) = some r := by rw [if_pos rfl] at H; exact H
      clear H
      have H := H1
      clear H1
      by_cases c6 : a1 < 0
      · rw [if_pos c6] at H
        have c6b0 : decide (a1 < 0) = true := decide_eq_true c6
        clear c6
        (first | rw [c6b0] | (simp only [i64_w, i32_w]; rw [c6b0]) | skip)
        have H' := Aside0.mk H
        clear H
        go_wp2
        go_meet
        case rel => exact ⟨_, (true), (by first | rfl | (simp; done) | (simp [*]; done)), H', ⟨by first | omega | exact Nat.le_refl _⟩, ⟨by repeat (first | (with_reducible first | exact HB.out | apply below_alloc | apply pw_below_drewN | apply below_drew1) | exact HB.out)⟩⟩
      · rw [if_neg c6] at H
        have c6b0 : decide (a1 < 0) = false := decide_eq_false c6
        clear c6
        (first | rw [c6b0] | (simp only [i64_w, i32_w]; rw [c6b0]) | skip)
        have H' := Aside0.mk H
        clear H
        go_wp2
        go_meet
        case rel => exact ⟨_, (decide (a1 ≥ (l0.length : Int))), (by first | rfl | (simp; done) | (simp [*]; done)), H', ⟨by first | omega | exact Nat.le_refl _⟩, ⟨by repeat (first | (with_reducible first | exact HB.out | apply below_alloc | apply pw_below_drewN | apply below_drew1) | exact HB.out)⟩⟩
    · replace c5 := Bool.eq_false_iff.mpr c5
      subst c5
      have H1 : (swageref06_Reach.j0 k l0 a1 true) = some r := by rw [if_neg (show ¬ (false = true) by decide)] at H; exact H
      clear H
      have H := H1
      clear H1
      have H' := Aside0.mk H
      clear H
      go_wp2
      go_meet
      case rel => exact ⟨_, (true), (by first | rfl | (simp; done) | (simp [*]; done)), H', ⟨by first | omega | exact Nat.le_refl _⟩, ⟨by repeat (first | (with_reducible first | exact HB.out | apply below_alloc | apply pw_below_drewN | apply below_drew1) | exact HB.out)⟩⟩
  case rest =>
    clear HC4
    try clear c2
    try clear p2
    try clear c5
    try clear c6
    try clear c6b0
    obtain ⟨kq, x23_3, rfl, HA, HJ3, HB⟩ := hcut
    cases kq with
    | zero => exact absurd HA.out (by simp [swageref06_Reach.j0])
    | succ kj3 =>
      have H := HA.out
      clear HA
      simp only [swageref06_Reach.j0] at H
      by_cases c7 : x23_3 = true
      · subst c7
        have H1 : (some ([] : List Bool)) = some r := by rw [if_pos rfl] at H; exact H
        clear H
        have H := H1
        clear H1
        obtain rfl := Option.some.inj H
        go_wp2
        go_ret
        exact ⟨_, by first | rfl | (simp [errW_none, errW_some] <;> rfl) | (simp [*, errW_none, errW_some] <;> rfl), by first | exact Kd.R_nil _ _ _ _ _ | exact Kd.N_nil _ _ _ _ _ | exact Kd.V_nil _ _ _ _ _ | exact Kd.Q_nil _ _ _ _ _ | exact Kd.S_nil _ _ _ _ _, by repeat (first | (with_reducible first | exact HB.out | apply below_alloc | apply pw_below_drewN | apply below_drew1) | exact HB.out)⟩
      · replace c7 := Bool.eq_false_iff.mpr c7
        subst c7
        have H1 : (if 0 ≤ (l0.length : Int) then (if ((l0.length : Int) : Int).toNat ≤ 281474976710656 then ((some (List.replicate ((l0.length : Int) : Int).toNat false : List Bool)).bind fun y308 => (if 0 ≤ a1 then (if a1 < (y308.length : Int) then (swageref06_Reach.l0 kj3 l0 (y308.set (a1 : Int).toNat true) true) else (none)) else (none))) else (none)) else (none)) = some r := by rw [if_neg (show ¬ (false = true) by decide)] at H; exact H
        clear H
        have H := H1
        clear H1
        by_cases c8 : 0 ≤ (l0.length : Int)
        · rw [if_pos c8] at H
          have c8b0 := eq_true c8
          have c8b1 : decide (0 ≤ (l0.length : Int)) = true := decide_eq_true c8
          clear c8
          by_cases c9 : ((l0.length : Int) : Int).toNat ≤ 281474976710656
          · rw [if_pos c9] at H
            have c9b0 := eq_true c9
            have c9b1 : decide (((l0.length : Int) : Int).toNat ≤ 281474976710656) = true := decide_eq_true c9
            clear c9
            obtain ⟨y308, hy308⟩ : ∃ y_ : List Bool, y_ = (List.replicate ((l0.length : Int) : Int).toNat false) := ⟨_, rfl⟩
            replace H : (if 0 ≤ a1 then (if a1 < (y308.length : Int) then (swageref06_Reach.l0 kj3 l0 (y308.set (a1 : Int).toNat true) true) else (none)) else (none)) = some r := by first | (rw [hy308]; with_reducible exact H) | (have H2_ := (Option.bind_some _ _).symm.trans H; rw [hy308]; with_reducible exact H2_) | (have H2_ := (Option.bind_some _ _).symm.trans H; with_reducible exact H2_) | with_reducible exact H | (rw [hy308]; exact H) | exact H
            have Ny308 := Aside0.mk hy308
            clear hy308
            by_cases c10 : 0 ≤ a1
            · rw [if_pos c10] at H
              have c10b0 : decide (0 ≤ a1) = true := decide_eq_true c10
              clear c10
              by_cases c11 : a1 < (y308.length : Int)
              · rw [if_pos c11] at H
                have c11b0 : decide (a1 < (y308.length : Int)) = true := decide_eq_true c11
                clear c11
                obtain ⟨y311, hy311⟩ : ∃ y_ : List Bool, y_ = (y308.set (a1 : Int).toNat true) := ⟨_, rfl⟩
                replace H : (swageref06_Reach.l0 kj3 l0 y311 true) = some r := by first | (rw [hy311]; with_reducible exact H) | (have H2_ := (Option.bind_some _ _).symm.trans H; rw [hy311]; with_reducible exact H2_) | (have H2_ := (Option.bind_some _ _).symm.trans H; with_reducible exact H2_) | with_reducible exact H | (rw [hy311]; exact H) | exact H
                have Ny311 := Aside0.mk hy311
                clear hy311
                have H' := Aside0.mk H
                clear H
                go_wp2_with (first | ((with_reducible refine gate_dst (N := 26) rfl ?_); (try (refine gate_guard (by rfl) ?_; dsimp only)); refine Kd.R_make Kd.bool _ 4 rfl (N := 26) rfl 29 _ _ rfl (l0.length : Int) rfl rfl Try.underlying29 (.bool false) 1 info4 rfl (by decide) (by omega) false (ok := fun _ => True) (okp := fun _ => True) rfl (fun _ hk => hk) trivial (of_decide_eq_true (by first | (with_reducible assumption) | assumption)) (Nat.le_trans (Nat.mul_le_mul_right _ (of_decide_eq_true (by first | (with_reducible assumption) | assumption) : (l0.length : Int).toNat ≤ 281474976710656)) (by omega)) (Below.refl _ _) (Nat.le_refl _) ?_; intro v309 w13 ho14 hb hg_ hnew_; clear hg_ hnew_; (first | rw [← Ny308.out] at ho14 | (simp only [Int.reduceToNat] at ho14; rw [← Ny308.out] at ho14)); have n0_ := Aside0.mk (Kd.R_lower ho14 (below_size (by repeat (first | (with_reducible first | exact HB.out | apply below_alloc | apply pw_below_drewN | apply below_drew1) | exact HB.out)))); have n1_ := Aside0.mk (below_step (by repeat (first | (with_reducible first | exact HB.out | apply below_alloc | apply pw_below_drewN | apply below_drew1) | exact HB.out)) hb); clear HB; have HO310 := n0_; have HB := n1_; clear n0_ n1_; clear hb ho14; have p12 : 0 ≤ (a1 : Int) := of_decide_eq_true (by first | (with_reducible assumption) | assumption); have q12 : (a1 : Int) < ((y308.length : Int) : Int) := of_decide_eq_true (by first | (with_reducible assumption) | assumption); obtain ⟨go12, co12, eo12, gb12, gl12, cl12, HG12⟩ := Kd.R_form HO310.out (by omega); (first | cases eo12 | (injection eo12 with ea_ en_ ec_; (first | subst ea_ | (injection ea_ with ea_; subst ea_)); subst ec_; clear en_)); have GB12 := Aside0.mk gb12; have GG12 := Aside0.mk HG12; clear gb12 gl12 HG12; obtain ⟨hx12_0, hf12_0⟩ := Kd.R_celln false HO310.out (a1 : Int) p12 q12; replace p12 := eq_true p12; replace q12 := eq_true q12; obtain ⟨hy15_, hz15_⟩ := Kd.R_celln false HO310.out (a1 : Int) (of_decide_eq_true (by first | (with_reducible assumption) | assumption)) (of_decide_eq_true (by first | (with_reducible assumption) | assumption)); have HP15 := Kd.R_putg HO310.out (a1 : Int) true) | ((with_reducible refine gate_store (t := 4) (p := 29) rfl ?_); refine store_event (t := 4) (p := 29) (v := ?vo_w16) (w1 := (w13.setCell ⟨go12, (a1 : Int).toNat, none⟩ (.bool true))) ?hg ?ho ?hn ?hr ?_; (case ho => rfl); (case hg => rfl); (case hn => rfl); (case hr => first | (go_simp; done) | (go_simp; rfl)); intro w16 hw; have hg : w13.grownBy w16 (some go12) := (by rw [hw]; exact HP15.2); have hp_ : Kd.R Kd.bool 4 w16 w.heap.size (fun _ => True) (.slice (some ⟨go12, 0, none⟩) y308.length co12) y311 := (by rw [hw, Ny311.out]; exact HP15.1); clear HP15; have n0_ := Aside0.mk (hp_); have n1_ := Aside0.mk ((by rw [hw]; exact below_set (HB.out) GB12.out : Below w.heap.size w w16)); clear HO310; clear HB; have HO310 := n0_; have HB := n1_; clear n0_ n1_; clear hg hw hp_))
                go_loopg [7] kj3 (fun kq v7 w' => ∃ (x6_2 : List Bool) (x7_2 : Bool), v7 = .bool x7_2 ∧ Aside0 (swageref06_Reach.l0 kq l0 x6_2 x7_2 = some r) ∧ Aside0 (kq ≤ kj3) ∧ Aside0 (Kd.R Kd.bool 4 w' w.heap.size (fun _ => True) (.slice (some ⟨go12, 0, none⟩) y308.length co12) x6_2) ∧ Aside0 (Below w.heap.size w w'))
                case atStart => exact ⟨(y311), (true), (by first | rfl | (simp; done) | (simp [*]; done)), H', ⟨Nat.le_refl _⟩, ⟨by (with_reducible repeat (first | apply Kd.R_alloc | apply Kd.R_drewN | apply Kd.R_drew)); exact HO310.out⟩, ⟨by repeat (first | (with_reducible first | exact HB.out | apply below_alloc | apply pw_below_drewN | apply below_drew1) | exact HB.out)⟩⟩
                case round =>
                  clear H'
                  try clear c1
                  try clear p1
                  try clear q1
                  try clear hx1
                  try clear c2
                  try clear p2
                  try clear c5
                  try clear c6
                  try clear c6b0
                  try clear c7
                  try clear c8
                  try clear c8b0
                  try clear c8b1
                  try clear c9
                  try clear c9b0
                  try clear c9b1
                  try clear c10
                  try clear c10b0
                  try clear c11
                  try clear c11b0
                  try clear p12
                  try clear q12
                  try clear hx12
                  try clear hf12
                  try clear hx12_0
                  try clear p12
                  try clear p2
                  try clear q12
                  obtain ⟨x6_2, x7_2, rfl, HA, HK2, HO_6, HB⟩ := hrel
                  have hl6_2 := (Kd.R_reads' HO_6.out).1
                  rw [hl6_2] at HO_6
                  (try simp only [hl6_2])
                  cases gk with
                  | zero => exact absurd HA.out (by simp [swageref06_Reach.l0])
                  | succ k2 =>
                    have H := HA.out
                    clear HA
                    simp only [swageref06_Reach.l0] at H
                    by_cases c17 : x7_2 = true
                    · subst c17
                      have H1 : (swageref06_Reach.l1 k2 l0 x6_2 false 0) = some r := by rw [if_pos rfl] at H; exact H
                      clear H
                      have H := H1
                      clear H1
                      have H' := Aside0.mk H
                      clear H
                      go_wp2
                      go_loopg [7, 8] k2 (fun kq v7 v8 w' => ∃ (x6_3 : List Bool) (x7_3 : Bool) (x8_3 : Int), v7 = .bool x7_3 ∧ v8 = .int .i64 x8_3 ∧ Aside0 (swageref06_Reach.l1 kq l0 x6_3 x7_3 x8_3 = some r) ∧ Aside0 (kq ≤ k2) ∧ Aside0 (Kd.R Kd.bool 4 w' w.heap.size (fun _ => True) (.slice (some ⟨go12, 0, none⟩) x6_2.length co12) x6_3) ∧ Aside0 (Below w.heap.size w w'))
                      case atStart => exact ⟨(x6_2), (false), (0), (by first | rfl | (simp; done) | (simp [*]; done)), (by first | rfl | (simp; done) | (simp [*]; done)), H', ⟨Nat.le_refl _⟩, ⟨by (try simp only [hl6_2]); (with_reducible repeat (first | apply Kd.R_alloc | apply Kd.R_drewN | apply Kd.R_drew)); exact HO_6.out⟩, ⟨by repeat (first | (with_reducible first | exact HB.out | apply below_alloc | apply pw_below_drewN | apply below_drew1) | exact HB.out)⟩⟩
                      case round =>
                        clear H'
                        try clear c1
                        try clear p1
                        try clear q1
                        try clear hx1
                        try clear c2
                        try clear p2
                        try clear c5
                        try clear c6
                        try clear c6b0
                        try clear c7
                        try clear c8
                        try clear c8b0
                        try clear c8b1
                        try clear c9
                        try clear c9b0
                        try clear c9b1
                        try clear c10
                        try clear c10b0
                        try clear c11
                        try clear c11b0
                        try clear p12
                        try clear q12
                        try clear hx12
                        try clear hf12
                        try clear c17
                        try clear hx12_0
                        try clear p1
                        try clear p12
                        try clear p2
                        try clear q1
                        try clear q12
                        obtain ⟨x6_3, x7_3, x8_3, rfl, rfl, HA, HK3, HO_6, HB⟩ := hrel
                        have hl6_3 := (Kd.R_reads' HO_6.out).1
                        rw [hl6_3] at HO_6
                        (try simp only [hl6_3])
                        cases gk with
                        | zero => exact absurd HA.out (by simp [swageref06_Reach.l1])
                        | succ k3 =>
                          have H := HA.out
                          clear HA
                          simp only [swageref06_Reach.l1] at H
                          by_cases c18 : x8_3 < (l0.length : Int)
                          · rw [if_pos c18] at H
                            have c18b0 : decide (x8_3 < (l0.length : Int)) = true := decide_eq_true c18
                            clear c18
                            have H' := Aside0.mk H
                            clear H
                            go_wp2
                            go_loopg [7, 9] k3 (fun kq v7 v9 w' => ∃ (x6_4 : List Bool) (x7_4 : Bool) (x9_4 : Int), v7 = .bool x7_4 ∧ v9 = .int .i64 x9_4 ∧ Aside0 (swageref06_Reach.l2 kq l0 x6_4 x7_4 x8_3 x9_4 = some r) ∧ Aside0 (kq ≤ k3) ∧ Aside0 (Kd.R Kd.bool 4 w' w.heap.size (fun _ => True) (.slice (some ⟨go12, 0, none⟩) x6_3.length co12) x6_4) ∧ Aside0 (Below w.heap.size w w'))
                            case atStart => exact ⟨(x6_3), (x7_3), (0), (by first | rfl | (simp; done) | (simp [*]; done)), (by first | rfl | (simp; done) | (simp [*]; done)), H', ⟨Nat.le_refl _⟩, ⟨by (try simp only [hl6_2]); (try simp only [hl6_3]); (with_reducible repeat (first | apply Kd.R_alloc | apply Kd.R_drewN | apply Kd.R_drew)); exact HO_6.out⟩, ⟨by repeat (first | (with_reducible first | exact HB.out | apply below_alloc | apply pw_below_drewN | apply below_drew1) | exact HB.out)⟩⟩
                            case round =>
                              clear H'
                              try clear c1
                              try clear p1
                              try clear q1
                              try clear hx1
                              try clear c2
                              try clear p2
                              try clear c5
                              try clear c6
                              try clear c6b0
                              try clear c7
                              try clear c8
                              try clear c8b0
                              try clear c8b1
                              try clear c9
                              try clear c9b0
                              try clear c9b1
                              try clear c10
                              try clear c10b0
                              try clear c11
                              try clear c11b0
                              try clear p12
                              try clear q12
                              try clear hx12
                              try clear hf12
                              try clear c17
                              try clear c18
                              try clear c18b0
                              try clear hx12_0
                              try clear p1
                              try clear p12
                              try clear p2
                              try clear q1
                              try clear q12
                              obtain ⟨x6_4, x7_4, x9_4, rfl, rfl, HA, HK4, HO_6, HB⟩ := hrel
                              have hl6_4 := (Kd.R_reads' HO_6.out).1
                              rw [hl6_4] at HO_6
                              (try simp only [hl6_4])
                              cases gk with
                              | zero => exact absurd HA.out (by simp [swageref06_Reach.l2])
                              | succ k4 =>
                                have H := HA.out
                                clear HA
                                simp only [swageref06_Reach.l2] at H
                                have HC19 := Aside0.mk H
                                clear H
                                go_upto_region 13 with (fail)
                                go_cut [49] (fun v49 wc => ∃ (kq : Nat) (x49_18 : Bool), v49 = .bool x49_18 ∧ Aside0 (swageref06_Reach.j4 kq l0 x6_4 x7_4 x8_3 x9_4 x49_18 = some r) ∧ Aside0 (kq ≤ k4) ∧ Aside0 (Kd.R Kd.bool 4 wc w.heap.size (fun _ => True) (.slice (some ⟨go12, 0, none⟩) x6_4.length co12) x6_4) ∧ Aside0 (Below w.heap.size w wc))
                                case first =>
                                  have H := HC19.out
                                  clear HC19
                                  by_cases c20 : 0 ≤ x8_3
                                  · rw [if_pos c20] at H
                                    have c20b0 : decide (0 ≤ x8_3) = true := decide_eq_true c20
                                    clear c20
                                    (first | rw [c20b0] | (simp only [i64_w, i32_w]; rw [c20b0]) | skip)
                                    by_cases c21 : x8_3 < (l0.length : Int)
                                    · rw [if_pos c21] at H
                                      have c21b0 : decide (x8_3 < (l0.length : Int)) = true := decide_eq_true c21
                                      clear c21
                                      by_cases c22 : x9_4 < ((rd_L1 l0 x8_3).length : Int)
                                      · rw [if_pos c22] at H
                                        have c22b0 : decide (x9_4 < ((rd_L1 l0 x8_3).length : Int)) = true := decide_eq_true c22
                                        clear c22
                                        by_cases c23 : x8_3 < (x6_4.length : Int)
                                        · rw [if_pos c23] at H
                                          have c23b0 : decide (x8_3 < (x6_4.length : Int)) = true := decide_eq_true c23
                                          clear c23
                                          have H' := Aside0.mk H
                                          clear H
                                          have p312 : 0 ≤ (x8_3 : Int) := of_decide_eq_true (by first | (with_reducible assumption) | assumption)
                                          have q312 : x8_3 < (l0.length : Int) := of_decide_eq_true (by first | (with_reducible assumption) | assumption)
                                          obtain ⟨ad312, A312_0, c312_0, e312, hx312_0, hl312_0, hi312_0⟩ := at_L1 HR0.out x8_3 p312 q312
                                          cases e312
                                          replace hx312_0 := (HB.out.cell (World.block_lt_of_cell? w _ hx312_0)).trans hx312_0
                                          have HR312_0 := Aside0.mk hi312_0
                                          have HC312_0 := Aside0.mk hl312_0
                                          clear hi312_0 hl312_0
                                          replace p312 := eq_true p312
                                          replace q312 := eq_true q312
                                          have p313 : 0 ≤ (x8_3 : Int) := of_decide_eq_true (by first | (with_reducible assumption) | assumption)
                                          have q313 : x8_3 < (x6_4.length : Int) := of_decide_eq_true (by first | (with_reducible assumption) | assumption)
                                          obtain ⟨ad313, e313, hx313_0⟩ := Kd.at_bool (Kd.R_reads' HO_6.out).2.2 x8_3 p313 q313
                                          obtain rfl : (⟨go12, 0, none⟩ : Addr) = ad313 := (by injection e313)
                                          (first | simp only [add_plain] at hx313_0 | simp only [add_at] at hx313_0 | simp only [Addr.add, Nat.zero_add] at hx313_0 | skip)
                                          replace p313 := eq_true p313
                                          replace q313 := eq_true q313
                                          go_wp2
                                          go_meet
                                          case rel => exact ⟨_, (rdOf false x6_4 x8_3), (by first | rfl | (simp; done) | (simp [*]; done)), H', ⟨by have := HJ3.out; have := HK2.out; have := HK3.out; have := HK4.out; first | omega | exact Nat.le_refl _⟩, ⟨by (try simp only [hl6_2]); (try simp only [hl6_3]); (try simp only [hl6_4]); (with_reducible repeat (first | apply Kd.R_alloc | apply Kd.R_drewN | apply Kd.R_drew)); exact HO_6.out⟩, ⟨by repeat (first | (with_reducible first | exact HB.out | apply below_alloc | apply pw_below_drewN | apply below_drew1) | exact HB.out)⟩⟩
                                        · rw [if_neg c23] at H
                                          exact absurd H (by simp)
                                      · rw [if_neg c22] at H
                                        have c22b0 : decide (x9_4 < ((rd_L1 l0 x8_3).length : Int)) = false := decide_eq_false c22
                                        clear c22
                                        have H' := Aside0.mk H
                                        clear H
                                        have p312 : 0 ≤ (x8_3 : Int) := of_decide_eq_true (by first | (with_reducible assumption) | assumption)
                                        have q312 : x8_3 < (l0.length : Int) := of_decide_eq_true (by first | (with_reducible assumption) | assumption)
                                        obtain ⟨ad312, A312_0, c312_0, e312, hx312_0, hl312_0, hi312_0⟩ := at_L1 HR0.out x8_3 p312 q312
                                        cases e312
                                        replace hx312_0 := (HB.out.cell (World.block_lt_of_cell? w _ hx312_0)).trans hx312_0
                                        have HR312_0 := Aside0.mk hi312_0
                                        have HC312_0 := Aside0.mk hl312_0
                                        clear hi312_0 hl312_0
                                        replace p312 := eq_true p312
                                        replace q312 := eq_true q312
                                        go_wp2
                                        go_meet
                                        case rel => exact ⟨_, (false), (by first | rfl | (simp; done) | (simp [*]; done)), H', ⟨by have := HJ3.out; have := HK2.out; have := HK3.out; have := HK4.out; first | omega | exact Nat.le_refl _⟩, ⟨by (try simp only [hl6_2]); (try simp only [hl6_3]); (try simp only [hl6_4]); (with_reducible repeat (first | apply Kd.R_alloc | apply Kd.R_drewN | apply Kd.R_drew)); exact HO_6.out⟩, ⟨by repeat (first | (with_reducible first | exact HB.out | apply below_alloc | apply pw_below_drewN | apply below_drew1) | exact HB.out)⟩⟩
                                    · rw [if_neg c21] at H
                                      exact absurd H (by simp)
                                  · rw [if_neg c20] at H
                                    exact absurd H (by simp)
                                case rest =>
                                  clear HC19
                                  try clear c1
                                  try clear p1
                                  try clear q1
                                  try clear hx1
                                  try clear c2
                                  try clear p2
                                  try clear c3
                                  try clear p3
                                  try clear q3
                                  try clear hx3
                                  try clear c5
                                  try clear c6
                                  try clear c6b0
                                  try clear c7
                                  try clear c8
                                  try clear c8b0
                                  try clear c8b1
                                  try clear c9
                                  try clear c9b0
                                  try clear c9b1
                                  try clear c10
                                  try clear c10b0
                                  try clear c11
                                  try clear c11b0
                                  try clear p12
                                  try clear q12
                                  try clear hx12
                                  try clear hf12
                                  try clear c17
                                  try clear c18
                                  try clear c18b0
                                  try clear c20
                                  try clear c20b0
                                  try clear c21
                                  try clear c21b0
                                  try clear c22
                                  try clear c22b0
                                  try clear c23
                                  try clear c23b0
                                  try clear hx12_0
                                  try clear hx312_0
                                  try clear hx313_0
                                  try clear p1
                                  try clear p12
                                  try clear p2
                                  try clear p312
                                  try clear p313
                                  try clear q1
                                  try clear q12
                                  try clear q312
                                  try clear q313
                                  obtain ⟨kq, x49_18, rfl, HA, HJ18, HO_6, HB⟩ := hcut
                                  cases kq with
                                  | zero => exact absurd HA.out (by simp [swageref06_Reach.j4])
                                  | succ kj18 =>
                                    have H := HA.out
                                    clear HA
                                    simp only [swageref06_Reach.j4] at H
                                    by_cases c24 : x49_18 = true
                                    · subst c24
                                      have H1 : (if 0 ≤ x8_3 then (if x8_3 < (l0.length : Int) then (if 0 ≤ x9_4 then (if x9_4 < ((rd_L1 l0 x8_3).length : Int) then (if 0 ≤ (rd (rd_L1 l0 x8_3) x9_4) then (if (rd (rd_L1 l0 x8_3) x9_4) < (x6_4.length : Int) then (if (rdOf false x6_4 (rd (rd_L1 l0 x8_3) x9_4) = true) then (swageref06_Reach.l2 kj18 l0 x6_4 x7_4 x8_3 (wrap64 (x9_4 + 1))) else (swageref06_Reach.l2 kj18 l0 (x6_4.set ((rd (rd_L1 l0 x8_3) x9_4) : Int).toNat true) true x8_3 (wrap64 (x9_4 + 1)))) else (none)) else (none)) else (none)) else (none)) else (none)) else (none)) = some r := by rw [if_pos rfl] at H; exact H
                                      clear H
                                      have H := H1
                                      clear H1
                                      by_cases c25 : 0 ≤ x8_3
                                      · rw [if_pos c25] at H
                                        have c25b0 : decide (0 ≤ x8_3) = true := decide_eq_true c25
                                        clear c25
                                        by_cases c26 : x8_3 < (l0.length : Int)
                                        · rw [if_pos c26] at H
                                          have c26b0 : decide (x8_3 < (l0.length : Int)) = true := decide_eq_true c26
                                          clear c26
                                          by_cases c27 : 0 ≤ x9_4
                                          · rw [if_pos c27] at H
                                            have c27b0 : decide (0 ≤ x9_4) = true := decide_eq_true c27
                                            clear c27
                                            by_cases c28 : x9_4 < ((rd_L1 l0 x8_3).length : Int)
                                            · rw [if_pos c28] at H
                                              have c28b0 : decide (x9_4 < ((rd_L1 l0 x8_3).length : Int)) = true := decide_eq_true c28
                                              clear c28
                                              by_cases c29 : 0 ≤ (rd (rd_L1 l0 x8_3) x9_4)
                                              · rw [if_pos c29] at H
                                                have c29b0 : decide (0 ≤ (rd (rd_L1 l0 x8_3) x9_4)) = true := decide_eq_true c29
                                                clear c29
                                                by_cases c30 : (rd (rd_L1 l0 x8_3) x9_4) < (x6_4.length : Int)
                                                · rw [if_pos c30] at H
                                                  have c30b0 : decide ((rd (rd_L1 l0 x8_3) x9_4) < (x6_4.length : Int)) = true := decide_eq_true c30
                                                  clear c30
                                                  obtain ⟨bq31, hbq31⟩ : ∃ b_ : Bool, b_ = (rdOf false x6_4 (rd (rd_L1 l0 x8_3) x9_4)) := ⟨_, rfl⟩
                                                  replace H : (if (bq31 = true) then (swageref06_Reach.l2 kj18 l0 x6_4 x7_4 x8_3 (wrap64 (x9_4 + 1))) else (swageref06_Reach.l2 kj18 l0 (x6_4.set ((rd (rd_L1 l0 x8_3) x9_4) : Int).toNat true) true x8_3 (wrap64 (x9_4 + 1)))) = some r := by rw [← hbq31] at H; exact H
                                                  have Nbq31 := Aside0.mk hbq31
                                                  clear hbq31
                                                  by_cases c32 : (bq31 = true)
                                                  · subst c32
                                                    have H1 : (swageref06_Reach.l2 kj18 l0 x6_4 x7_4 x8_3 (wrap64 (x9_4 + 1))) = some r := by rw [if_pos rfl] at H; exact H
                                                    clear H
                                                    have H := H1
                                                    clear H1
                                                    have H' := Aside0.mk H
                                                    clear H
                                                    have p314 : 0 ≤ (x8_3 : Int) := of_decide_eq_true (by first | (with_reducible assumption) | assumption)
                                                    have q314 : x8_3 < (l0.length : Int) := of_decide_eq_true (by first | (with_reducible assumption) | assumption)
                                                    obtain ⟨ad314, A314_0, c314_0, e314, hx314_0, hl314_0, hi314_0⟩ := at_L1 HR0.out x8_3 p314 q314
                                                    cases e314
                                                    replace hx314_0 := (HB.out.cell (World.block_lt_of_cell? w _ hx314_0)).trans hx314_0
                                                    have HR314_0 := Aside0.mk hi314_0
                                                    have HC314_0 := Aside0.mk hl314_0
                                                    clear hi314_0 hl314_0
                                                    replace p314 := eq_true p314
                                                    replace q314 := eq_true q314
                                                    have p315 : 0 ≤ (x9_4 : Int) := of_decide_eq_true (by first | (with_reducible assumption) | assumption)
                                                    have q315 : x9_4 < ((rd_L1 l0 x8_3).length : Int) := of_decide_eq_true (by first | (with_reducible assumption) | assumption)
                                                    obtain ⟨ad315, e315, hx315_0⟩ := Kd.at_int HR314_0.out x9_4 p315 q315
                                                    cases e315
                                                    replace hx315_0 := (HB.out.cell (World.block_lt_of_cell? w _ hx315_0)).trans hx315_0
                                                    replace p315 := eq_true p315
                                                    replace q315 := eq_true q315
                                                    have p316 : 0 ≤ ((rd (rd_L1 l0 x8_3) x9_4) : Int) := of_decide_eq_true (by first | (with_reducible assumption) | assumption)
                                                    have q316 : (rd (rd_L1 l0 x8_3) x9_4) < (x6_4.length : Int) := of_decide_eq_true (by first | (with_reducible assumption) | assumption)
                                                    obtain ⟨ad316, e316, hx316_0⟩ := Kd.at_bool (Kd.R_reads' HO_6.out).2.2 (rd (rd_L1 l0 x8_3) x9_4) p316 q316
                                                    (try rw [← Nbq31.out] at hx316_0)
                                                    obtain rfl : (⟨go12, 0, none⟩ : Addr) = ad316 := (by injection e316)
                                                    (first | simp only [add_plain] at hx316_0 | simp only [add_at] at hx316_0 | simp only [Addr.add, Nat.zero_add] at hx316_0 | skip)
                                                    replace p316 := eq_true p316
                                                    replace q316 := eq_true q316
                                                    go_wp2
                                                    (try simp only [← hl6_4])
                                                    go_roundg kj18
                                                    case measure => have := HJ3.out; have := HK2.out; have := HK3.out; have := HK4.out; have := HJ18.out; omega
                                                    case rel => exact ⟨(x6_4), (x7_4), (wrap64 (x9_4 + 1)), (by first | rfl | (simp; done) | (simp [*]; done)), (by first | rfl | (simp; done) | (simp [*]; done)), H', ⟨by have := HJ3.out; have := HK2.out; have := HK3.out; have := HK4.out; have := HJ18.out; omega⟩, ⟨by (try simp only [hl6_2]); (try simp only [hl6_3]); (try simp only [hl6_4]); (with_reducible repeat (first | apply Kd.R_alloc | apply Kd.R_drewN | apply Kd.R_drew)); exact HO_6.out⟩, ⟨by repeat (first | (with_reducible first | exact HB.out | apply below_alloc | apply pw_below_drewN | apply below_drew1) | exact HB.out)⟩⟩
                                                  · replace c32 := Bool.eq_false_iff.mpr c32
                                                    subst c32
                                                    have H1 : (swageref06_Reach.l2 kj18 l0 (x6_4.set ((rd (rd_L1 l0 x8_3) x9_4) : Int).toNat true) true x8_3 (wrap64 (x9_4 + 1))) = some r := by rw [if_neg (show ¬ (false = true) by decide)] at H; exact H
                                                    clear H
                                                    have H := H1
                                                    clear H1
                                                    obtain ⟨y319, hy319⟩ : ∃ y_ : List Bool, y_ = (x6_4.set ((rd (rd_L1 l0 x8_3) x9_4) : Int).toNat true) := ⟨_, rfl⟩
                                                    replace H : (swageref06_Reach.l2 kj18 l0 y319 true x8_3 (wrap64 (x9_4 + 1))) = some r := by first | (rw [hy319]; with_reducible exact H) | (have H2_ := (Option.bind_some _ _).symm.trans H; rw [hy319]; with_reducible exact H2_) | (have H2_ := (Option.bind_some _ _).symm.trans H; with_reducible exact H2_) | with_reducible exact H | (rw [hy319]; exact H) | exact H
                                                    have Ny319 := Aside0.mk hy319
                                                    clear hy319
                                                    have H' := Aside0.mk H
                                                    clear H
                                                    have p314 : 0 ≤ (x8_3 : Int) := of_decide_eq_true (by first | (with_reducible assumption) | assumption)
                                                    have q314 : x8_3 < (l0.length : Int) := of_decide_eq_true (by first | (with_reducible assumption) | assumption)
                                                    obtain ⟨ad314, A314_0, c314_0, e314, hx314_0, hl314_0, hi314_0⟩ := at_L1 HR0.out x8_3 p314 q314
                                                    cases e314
                                                    replace hx314_0 := (HB.out.cell (World.block_lt_of_cell? w _ hx314_0)).trans hx314_0
                                                    have HR314_0 := Aside0.mk hi314_0
                                                    have HC314_0 := Aside0.mk hl314_0
                                                    clear hi314_0 hl314_0
                                                    replace p314 := eq_true p314
                                                    replace q314 := eq_true q314
                                                    have p315 : 0 ≤ (x9_4 : Int) := of_decide_eq_true (by first | (with_reducible assumption) | assumption)
                                                    have q315 : x9_4 < ((rd_L1 l0 x8_3).length : Int) := of_decide_eq_true (by first | (with_reducible assumption) | assumption)
                                                    obtain ⟨ad315, e315, hx315_0⟩ := Kd.at_int HR314_0.out x9_4 p315 q315
                                                    cases e315
                                                    replace hx315_0 := (HB.out.cell (World.block_lt_of_cell? w _ hx315_0)).trans hx315_0
                                                    replace p315 := eq_true p315
                                                    replace q315 := eq_true q315
                                                    have p316 : 0 ≤ ((rd (rd_L1 l0 x8_3) x9_4) : Int) := of_decide_eq_true (by first | (with_reducible assumption) | assumption)
                                                    have q316 : (rd (rd_L1 l0 x8_3) x9_4) < (x6_4.length : Int) := of_decide_eq_true (by first | (with_reducible assumption) | assumption)
                                                    obtain ⟨ad316, e316, hx316_0⟩ := Kd.at_bool (Kd.R_reads' HO_6.out).2.2 (rd (rd_L1 l0 x8_3) x9_4) p316 q316
                                                    (try rw [← Nbq31.out] at hx316_0)
                                                    obtain rfl : (⟨go12, 0, none⟩ : Addr) = ad316 := (by injection e316)
                                                    (first | simp only [add_plain] at hx316_0 | simp only [add_at] at hx316_0 | simp only [Addr.add, Nat.zero_add] at hx316_0 | skip)
                                                    replace p316 := eq_true p316
                                                    replace q316 := eq_true q316
                                                    have p317 : 0 ≤ (x8_3 : Int) := of_decide_eq_true (by first | (with_reducible assumption) | assumption)
                                                    have q317 : x8_3 < (l0.length : Int) := of_decide_eq_true (by first | (with_reducible assumption) | assumption)
                                                    obtain ⟨ad317, A317_0, c317_0, e317, hx317_0, hl317_0, hi317_0⟩ := at_L1 HR0.out x8_3 p317 q317
                                                    obtain rfl : ad314 = ad317 := (by injection e317)
                                                    replace hx317_0 := (HB.out.cell (World.block_lt_of_cell? w _ hx317_0)).trans hx317_0
                                                    have HR317_0 := Aside0.mk hi317_0
                                                    have HC317_0 := Aside0.mk hl317_0
                                                    clear hi317_0 hl317_0
                                                    replace p317 := eq_true p317
                                                    replace q317 := eq_true q317
                                                    have ea_ := Option.some.inj (hx314_0.symm.trans hx317_0)
                                                    injection ea_ with ea_ en_ ec_
                                                    subst ea_
                                                    subst ec_
                                                    clear en_
                                                    have p318 : 0 ≤ (x9_4 : Int) := of_decide_eq_true (by first | (with_reducible assumption) | assumption)
                                                    have q318 : x9_4 < ((rd_L1 l0 x8_3).length : Int) := of_decide_eq_true (by first | (with_reducible assumption) | assumption)
                                                    obtain ⟨ad318, e318, hx318_0⟩ := Kd.at_int HR317_0.out x9_4 p318 q318
                                                    cases e318
                                                    replace hx318_0 := (HB.out.cell (World.block_lt_of_cell? w _ hx318_0)).trans hx318_0
                                                    replace p318 := eq_true p318
                                                    replace q318 := eq_true q318
                                                    have p33 : 0 ≤ ((rd (rd_L1 l0 x8_3) x9_4) : Int) := of_decide_eq_true (by first | (with_reducible assumption) | assumption)
                                                    have q33 : ((rd (rd_L1 l0 x8_3) x9_4) : Int) < ((x6_4.length : Int) : Int) := of_decide_eq_true (by first | (with_reducible assumption) | assumption)
                                                    obtain ⟨hx33_0, hf33_0⟩ := Kd.R_celln false HO_6.out ((rd (rd_L1 l0 x8_3) x9_4) : Int) p33 q33
                                                    replace p33 := eq_true p33
                                                    replace q33 := eq_true q33
                                                    have HP34 := Kd.R_putg HO_6.out ((rd (rd_L1 l0 x8_3) x9_4) : Int) true
                                                    go_wp2_with (first | ((with_reducible refine gate_store (t := 4) (p := 71) rfl ?_); refine store_event (t := 4) (p := 71) (v := ?vo_w35) (w1 := (wc.setCell ⟨go12, ((rd (rd_L1 l0 x8_3) x9_4) : Int).toNat, none⟩ (.bool true))) ?hg ?ho ?hn ?hr ?_; (case ho => rfl); (case hg => rfl); (case hn => rfl); (case hr => first | (go_simp; done) | (go_simp; rfl)); intro w35 hw; have hg : wc.grownBy w35 (some go12) := (by rw [hw]; exact HP34.2); have hp_ : Kd.R Kd.bool 4 w35 w.heap.size (fun _ => True) (.slice (some ⟨go12, 0, none⟩) x6_4.length co12) y319 := (by rw [hw, Ny319.out]; exact HP34.1); clear HP34; have n0_ := Aside0.mk (hp_); have n1_ := Aside0.mk ((by rw [hw]; exact below_set (HB.out) GB12.out : Below w.heap.size w w35)); clear HO_6; clear HB; have HO_6 := n0_; have HB := n1_; clear n0_ n1_; clear hg hw hp_))
                                                    (try simp only [← hl6_4])
                                                    go_roundg kj18
                                                    case measure => have := HJ3.out; have := HK2.out; have := HK3.out; have := HK4.out; have := HJ18.out; omega
                                                    case rel => exact ⟨(y319), (true), (wrap64 (x9_4 + 1)), (by first | rfl | (simp; done) | (simp [*]; done)), (by first | rfl | (simp; done) | (simp [*]; done)), H', ⟨by have := HJ3.out; have := HK2.out; have := HK3.out; have := HK4.out; have := HJ18.out; omega⟩, ⟨by (try simp only [hl6_2]); (try simp only [hl6_3]); (try simp only [hl6_4]); (with_reducible repeat (first | apply Kd.R_alloc | apply Kd.R_drewN | apply Kd.R_drew)); exact HO_6.out⟩, ⟨by repeat (first | (with_reducible first | exact HB.out | apply below_alloc | apply pw_below_drewN | apply below_drew1) | exact HB.out)⟩⟩
                                                · rw [if_neg c30] at H
                                                  exact absurd H (by simp)
                                              · rw [if_neg c29] at H
                                                exact absurd H (by simp)
                                            · rw [if_neg c28] at H
                                              exact absurd H (by simp)
                                          · rw [if_neg c27] at H
                                            exact absurd H (by simp)
                                        · rw [if_neg c26] at H
                                          exact absurd H (by simp)
                                      · rw [if_neg c25] at H
                                        exact absurd H (by simp)
                                    · replace c24 := Bool.eq_false_iff.mpr c24
                                      subst c24
                                      have H1 : (swageref06_Reach.l1 kj18 l0 x6_4 x7_4 (wrap64 (x8_3 + 1))) = some r := by rw [if_neg (show ¬ (false = true) by decide)] at H; exact H
                                      clear H
                                      have H := H1
                                      clear H1
                                      have H' := Aside0.mk H
                                      clear H
                                      go_wp2
                                      (try simp only [← hl6_3, ← hl6_4])
                                      go_roundg kj18
                                      case measure => have := HJ3.out; have := HK2.out; have := HK3.out; have := HK4.out; have := HJ18.out; omega
                                      case rel => exact ⟨(x6_4), (x7_4), (wrap64 (x8_3 + 1)), (by first | rfl | (simp; done) | (simp [*]; done)), (by first | rfl | (simp; done) | (simp [*]; done)), H', ⟨by have := HJ3.out; have := HK2.out; have := HK3.out; have := HK4.out; have := HJ18.out; omega⟩, ⟨by (try simp only [hl6_2]); (try simp only [hl6_3]); (try simp only [hl6_4]); (with_reducible repeat (first | apply Kd.R_alloc | apply Kd.R_drewN | apply Kd.R_drew)); exact HO_6.out⟩, ⟨by repeat (first | (with_reducible first | exact HB.out | apply below_alloc | apply pw_below_drewN | apply below_drew1) | exact HB.out)⟩⟩
                          · rw [if_neg c18] at H
                            have c18b0 : decide (x8_3 < (l0.length : Int)) = false := decide_eq_false c18
                            clear c18
                            have H' := Aside0.mk H
                            clear H
                            go_wp2
                            (try simp only [← hl6_2, ← hl6_3])
                            go_roundg k3
                            case measure => have := HJ3.out; have := HK2.out; have := HK3.out; omega
                            case rel => exact ⟨(x6_3), (x7_3), (by first | rfl | (simp; done) | (simp [*]; done)), H', ⟨by have := HJ3.out; have := HK2.out; have := HK3.out; omega⟩, ⟨by (try simp only [hl6_2]); (try simp only [hl6_3]); (with_reducible repeat (first | apply Kd.R_alloc | apply Kd.R_drewN | apply Kd.R_drew)); exact HO_6.out⟩, ⟨by repeat (first | (with_reducible first | exact HB.out | apply below_alloc | apply pw_below_drewN | apply below_drew1) | exact HB.out)⟩⟩
                    · replace c17 := Bool.eq_false_iff.mpr c17
                      subst c17
                      have H1 : (some x6_2) = some r := by rw [if_neg (show ¬ (false = true) by decide)] at H; exact H
                      clear H
                      have H := H1
                      clear H1
                      obtain rfl := Option.some.inj H
                      go_wp2
                      go_ret
                      exact ⟨_, by first | rfl | (simp [errW_none, errW_some] <;> rfl) | (simp [*, errW_none, errW_some] <;> rfl), by (with_reducible repeat (first | apply Kd.R_alloc | apply Kd.R_drewN | apply Kd.R_drew)); exact HO_6.out, by repeat (first | (with_reducible first | exact HB.out | apply below_alloc | apply pw_below_drewN | apply below_drew1) | exact HB.out)⟩
              · rw [if_neg c11] at H
                exact absurd H (by simp)
            · rw [if_neg c10] at H
              exact absurd H (by simp)
          · rw [if_neg c9] at H
            exact absurd H (by simp)
        · rw [if_neg c8] at H
          exact absurd H (by simp)

end Go.Proofs.Ytkmbhknmjnbanaa.A


namespace Go.Proofs.Ytkmbhknmjnbanaa.A
open Go.RowKit Go.Proofs.YtkmbhknmjnbanaaW.PrintWords Go.Proofs.YtkmbhknmjnbanaaW.PrintLast Go.Shelf
set_option linter.unusedVariables false
set_option linter.unusedSimpArgs false

theorem mk_met0 (g : List (List Int)) (i : Nat) (hi : i < g.length) : ¬ Mk (met0 g) i := by
  unfold Mk met0
  rw [List.getD_eq_getElem?_getD, List.getElem?_replicate, if_pos hi]
  simp
theorem walk_dfs {g : List (List Int)} (hg : InG g) {a : Nat} (ha : a < g.length) : Dfs g (met0 g) a (visit g g.length (met0 g) a).1 (walkOf g a) :=
  visit_dfs hg _ _ _ (by simp [met0]) ha (mk_met0 g a ha) (by rw [unmet_met0]; exact Nat.le_refl _)
theorem walk_last {g : List (List Int)} {a : Nat} (ha : a < g.length) : ∃ o, walkOf g a = o ++ [(a : Int)] := by
  unfold walkOf
  obtain ⟨n, hn⟩ : ∃ n, g.length = n + 1 := ⟨g.length - 1, by omega⟩
  rw [hn, visit_succ]
  exact ⟨_, rfl⟩
theorem walk_mem {g : List (List Int)} (hg : InG g) {a : Nat} (ha : a < g.length) (i : Nat) : (i : Int) ∈ walkOf g a ↔ Way g a i := by
  have h := walk_dfs hg ha
  refine ⟨h.way i, fun hw => ?_⟩
  induction hw with
  | refl => obtain ⟨o, e⟩ := walk_last ha; rw [e]; simp
  | step hw e ih =>
    rcases (h.mark _).1 (h.clo _ _ ih e) with h1 | h1
    · exact absurd h1 (mk_met0 g _ (e.lt hg))
    · exact h1
theorem walk_nodup {g : List (List Int)} (hg : InG g) {a : Nat} (ha : a < g.length) : (walkOf g a).Nodup := (walk_dfs hg ha).nodup

theorem mk_lt {m : List Bool} {i : Nat} (hi : i < m.length) : Mk m i ↔ m[i] = true := by unfold Mk; rw [List.getD_eq_getElem?_getD, List.getElem?_eq_getElem hi]; rfl
theorem mk_rd {m : List Bool} {i : Nat} (hi : i < m.length) : rdOf false m (i : Int) = true ↔ Mk m i := by
  unfold rdOf Mk
  rw [Int.toNat_natCast, List.getD_eq_getElem?_getD, List.getD_eq_getElem?_getD, List.getElem?_eq_getElem hi]
  rfl
theorem marks_ext {a b : List Bool} (hl : a.length = b.length) (h : ∀ i, i < a.length → (Mk a i ↔ Mk b i)) : a = b := by
  refine List.ext_getElem hl fun i h1 h2 => ?_
  have := h i h1
  rw [mk_lt h1, mk_lt h2] at this
  cases h3 : a[i] <;> cases h4 : b[i] <;> simp_all
theorem mk_marks {n : Nat} {pre : List Int} {i : Nat} (hi : i < n) : Mk (marks n pre) i ↔ (i : Int) ∈ pre := by
  rw [mk_lt (by rw [marks_len]; exact hi)]
  simp [marks]

/-- a state of the reference's marks: sound, and with the first -/
structure RefR (g : List (List Int)) (a : Nat) (m : List Bool) : Prop where
  len : m.length = g.length
  sound : ∀ i, i < g.length → Mk m i → Way g a i
  base : Mk m a
theorem unmet_set_lt {m : List Bool} {a : Nat} (ha : a < m.length) (h : ¬ Mk m a) : unmet (m.set a true) < unmet m := by
  have := unmet_set (m := m) ha (by simpa [Mk] using h); omega
/-- the row of block i from place j on -/
theorem reach_l2 {g : List (List Int)} (hg : InG g) (hn : g.length ≤ 4096) (h8 : ∀ l ∈ g, l.length ≤ 8) {a i : Nat} (hi : i < g.length) : ∀ (d j : Nat) (m : List Bool) (b : Bool), j + d = (rowOf g i).length → RefR g a m →
    ∃ (m' : List Bool) (b' : Bool), RefR g a m' ∧ (∀ x, Mk m x → Mk m' x) ∧ (b' = false → b = false ∧ m' = m ∧ (Mk m i → ∀ (x : Nat) , (x : Int) ∈ (rowOf g i).drop j → Mk m x)) ∧ (b' = true → b = true ∨ unmet m' < unmet m) ∧ unmet m' ≤ unmet m ∧
      ∀ r, Evt (fun k => swageref06_Reach.l1 k g m' b' ((i + 1 : Nat) : Int)) r → Evt (fun k => swageref06_Reach.l2 k g m b i j) r
  | 0, j, m, b, hj, hR => by
    refine ⟨m, b, hR, fun x h => h, fun h => ⟨h, rfl, fun _ x hx => by rw [List.drop_eq_nil_of_le (by omega)] at hx; cases hx⟩, fun h => .inl h, Nat.le_refl _, fun r h => ?_⟩
    refine Evt.step (Evt.step h (f := fun k => swageref06_Reach.j4 k g m b i j false) fun k => ?_) fun k => ?_
    · rw [swageref06_Reach.j4, if_neg (by simp), wsucc (by omega)]
    · rw [swageref06_Reach.l2, if_pos (by omega), if_pos (by omega), rdL, if_neg (by omega)]
  | d + 1, j, m, b, hj, hR => by
    have hlt : j < (rowOf g i).length := by omega
    have hj8 := h8 _ (rowOf_mem hi)
    have hx := hg _ (rowOf_mem hi) _ (List.getElem_mem hlt)
    have hml := hR.len
    by_cases hm : Mk m i
    · obtain ⟨x, ex⟩ := Int.eq_ofNat_of_zero_le hx.1
      have he : Edge g i x := by unfold Edge; rw [← ex]; exact List.getElem_mem hlt
      by_cases hmx : Mk m x
      · obtain ⟨m', b', h1, h2, h3, h4, h5, h6⟩ := reach_l2 hg hn h8 hi d (j + 1) m b (by omega) hR
        refine ⟨m', b', h1, h2, fun e => ?_, h4, h5, fun r h => ?_⟩
        · obtain ⟨p, q, s⟩ := h3 e
          refine ⟨p, q, fun hmi y hy => ?_⟩
          rw [List.drop_eq_getElem_cons hlt, ex] at hy
          rcases List.mem_cons.1 hy with hy | hy
          · obtain rfl : y = x := by omega
            exact hmx
          · exact s hmi y hy
        · refine Evt.step (Evt.step (h6 r h) (f := fun k => swageref06_Reach.j4 k g m b i j true) fun k => ?_) fun k => ?_
          · rw [swageref06_Reach.j4, if_pos rfl, if_pos (by omega), if_pos (by omega), if_pos (by omega), rdL, if_pos (by omega), rdI hlt, ex, if_pos (by omega), if_pos (by omega), if_pos ((mk_rd (by omega)).2 hmx), wsucc (by omega)]
          · rw [swageref06_Reach.l2, if_pos (by omega), if_pos (by omega), rdL, if_pos (by omega), if_pos (by omega), (mk_rd (by omega)).2 hm]
      · have hR2 : RefR g a (m.set x true) := ⟨by rw [List.length_set, hml], fun y hy h => by
            rcases (mk_set (by omega)).1 h with h | rfl
            · exact hR.sound y hy h
            · exact (hR.sound i hi hm).step he, (mk_set (by omega)).2 (.inl hR.base)⟩
        obtain ⟨m', b', h1, h2, h3, h4, h5, h6⟩ := reach_l2 hg hn h8 hi d (j + 1) (m.set x true) true (by omega) hR2
        have hu := unmet_set_lt (m := m) (a := x) (by omega) hmx
        refine ⟨m', b', h1, fun y hy => h2 y ((mk_set (by omega)).2 (.inl hy)), fun e => ?_, fun _ => .inr (by omega), by omega, fun r h => ?_⟩
        · have := (h3 e).1; cases this
        · refine Evt.step (Evt.step (h6 r h) (f := fun k => swageref06_Reach.j4 k g m b i j true) fun k => ?_) fun k => ?_
          · rw [swageref06_Reach.j4, if_pos rfl, if_pos (by omega), if_pos (by omega), if_pos (by omega), rdL, if_pos (by omega), rdI hlt, ex, if_pos (by omega), if_pos (by omega), if_neg (fun h => hmx ((mk_rd (by omega)).1 h)), wsucc (by omega)]
            rfl
          · rw [swageref06_Reach.l2, if_pos (by omega), if_pos (by omega), rdL, if_pos (by omega), if_pos (by omega), (mk_rd (by omega)).2 hm]
    · refine ⟨m, b, hR, fun x h => h, fun h => ⟨h, rfl, fun h => absurd h hm⟩, fun h => .inl h, Nat.le_refl _, fun r h => ?_⟩
      refine Evt.step (Evt.step h (f := fun k => swageref06_Reach.j4 k g m b i j false) fun k => ?_) fun k => ?_
      · rw [swageref06_Reach.j4, if_neg (by simp), wsucc (by omega)]
      · have : rdOf false m (i : Int) = false := by rw [← Bool.not_eq_true]; exact fun h => hm ((mk_rd (by omega)).1 h)
        rw [swageref06_Reach.l2, if_pos (by omega), if_pos (by omega), rdL, if_pos (by omega), if_pos (by omega), this]
/-- one round over all blocks from i on -/
theorem reach_l1 {g : List (List Int)} (hg : InG g) (hn : g.length ≤ 4096) (h8 : ∀ l ∈ g, l.length ≤ 8) {a : Nat} : ∀ (d i : Nat) (m : List Bool) (b : Bool), i + d = g.length → RefR g a m →
    ∃ (m' : List Bool) (b' : Bool), RefR g a m' ∧ (b' = false → b = false ∧ m' = m ∧ ∀ y, i ≤ y → y < g.length → Mk m y → ∀ (x : Nat), Edge g y x → Mk m x) ∧ (b' = true → b = true ∨ unmet m' < unmet m) ∧ unmet m' ≤ unmet m ∧
      ∀ r, Evt (fun k => swageref06_Reach.l0 k g m' b') r → Evt (fun k => swageref06_Reach.l1 k g m b i) r
  | 0, i, m, b, hi, hR => ⟨m, b, hR, fun h => ⟨h, rfl, fun y h1 h2 => by omega⟩, fun h => .inl h, Nat.le_refl _, fun r h => Evt.step h fun k => by rw [swageref06_Reach.l1, if_neg (by omega)]⟩
  | d + 1, i, m, b, hi, hR => by
    have hlt : i < g.length := by omega
    obtain ⟨m1, b1, p1, p2, p3, p4, p5, p6⟩ := reach_l2 hg hn h8 hlt (rowOf g i).length 0 m b (by omega) hR
    obtain ⟨m2, b2, q1, q3, q4, q5, q6⟩ := reach_l1 hg hn h8 d (i + 1) m1 b1 (by omega) p1
    refine ⟨m2, b2, q1, fun e => ?_, fun e => ?_, by omega, fun r h => ?_⟩
    · obtain ⟨e1, e2, e3⟩ := q3 e
      obtain ⟨f1, f2, f3⟩ := p3 e1
      subst e2; subst f2
      refine ⟨f1, rfl, fun y h1 h2 hm x he => ?_⟩
      by_cases hy : y = i
      · subst hy
        exact f3 hm x (by rw [List.drop_zero]; exact he)
      · exact e3 y (by omega) h2 hm x he
    · rcases q4 e with e1 | e1
      · rcases p4 e1 with e2 | e2
        · exact .inl e2
        · exact .inr (by omega)
      · exact .inr (by omega)
    · refine Evt.step (p6 r (q6 r h)) fun k => ?_
      rw [swageref06_Reach.l1, if_pos (by omega)]
      rfl
theorem reach_l0 {g : List (List Int)} (hg : InG g) (hn : g.length ≤ 4096) (h8 : ∀ l ∈ g, l.length ≤ 8) {a : Nat} (ha : a < g.length) : ∀ (n : Nat) (m : List Bool), unmet m ≤ n → RefR g a m → ∃ m', Evt (fun k => swageref06_Reach.l0 k g m true) m' ∧ m'.length = g.length ∧ ∀ i, i < g.length → (Mk m' i ↔ Way g a i) := by
  intro n
  induction n with
  | zero =>
    intro m hm hR
    obtain ⟨m1, b1, p1, p3, p4, p5, p6⟩ := reach_l1 hg hn h8 g.length 0 m false (by omega) hR
    have hb : b1 = false := by
      cases b1
      · rfl
      · rcases p4 rfl with h | h
        · cases h
        · omega
    subst hb
    obtain ⟨_, rfl, h3⟩ := p3 rfl
    refine ⟨m1, ?_, p1.len, fun i hi => ⟨p1.sound i hi, fun hw => ?_⟩⟩
    · refine Evt.step (p6 m1 (Evt.step (Evt.const rfl) fun k => ?_)) fun k => ?_
      · rw [swageref06_Reach.l0, if_neg (by simp)]
      · rw [swageref06_Reach.l0, if_pos rfl]; rfl
    · clear hi
      induction hw with
      | refl => exact p1.base
      | step hw e ih => exact h3 _ (Nat.zero_le _) e.lt1 ih _ e
  | succ n ih =>
    intro m hm hR
    obtain ⟨m1, b1, p1, p3, p4, p5, p6⟩ := reach_l1 hg hn h8 g.length 0 m false (by omega) hR
    cases b1 with
    | false =>
      obtain ⟨_, rfl, h3⟩ := p3 rfl
      refine ⟨m1, ?_, p1.len, fun i hi => ⟨p1.sound i hi, fun hw => ?_⟩⟩
      · refine Evt.step (p6 m1 (Evt.step (Evt.const rfl) fun k => ?_)) fun k => ?_
        · rw [swageref06_Reach.l0, if_neg (by simp)]
        · rw [swageref06_Reach.l0, if_pos rfl]; rfl
      · clear hi
        induction hw with
        | refl => exact p1.base
        | step hw e ih => exact h3 _ (Nat.zero_le _) e.lt1 ih _ e
    | true =>
      have hu : unmet m1 < unmet m := by
        rcases p4 rfl with h | h
        · cases h
        · exact h
      obtain ⟨m', q1, q2, q3⟩ := ih m1 (by omega) p1
      refine ⟨m', Evt.step (p6 m' q1) fun k => ?_, q2, q3⟩
      rw [swageref06_Reach.l0, if_pos rfl]; rfl
theorem reachref_ev {g : List (List Int)} (hn : g.length ≤ 4096) (a : Int) : Evt (fun k => swageref06_Reach.f k g a) (reachRes g a) := by
  unfold swageref06_Reach.f
  refine Evt.bind (h := fun k t307 => (if t307 = true then (if a < 0 then (swageref06_Reach.j0 k g a true) else (swageref06_Reach.j0 k g a (decide (a ≥ (g.length : Int))))) else (swageref06_Reach.j0 k g a true))) (rref_ev hn) ?_
  have hno : Evt (fun k => swageref06_Reach.j0 k g a true) [] := Evt.step (Evt.const rfl) fun k => by rw [swageref06_Reach.j0, if_pos rfl]
  unfold reachRes
  cases hr : rightB g
  · rw [if_neg (by simp)]
    exact Evt.congr hno fun k => by rw [if_neg (by simp)]
  · by_cases h0 : a < 0
    · rw [if_neg (by omega)]
      exact Evt.congr hno fun k => by rw [if_pos rfl, if_pos h0]
    · by_cases h1 : a ≥ (g.length : Int)
      · rw [if_neg (by omega)]
        exact Evt.congr hno fun k => by rw [if_pos rfl, if_neg h0, decide_eq_true h1]
      · obtain ⟨n, rfl⟩ := Int.eq_ofNat_of_zero_le (show 0 ≤ a by omega)
        obtain ⟨e1, e2, hg⟩ := right_rows hr
        rw [if_pos ⟨rfl, by omega, by omega⟩, Int.toNat_natCast]
        have hna : n < g.length := by omega
        have hnl : n < (met0 g).length := by simp [met0]; exact hna
        have hR : RefR g n ((met0 g).set n true) := ⟨by simp [met0], fun i hi h => by
          rcases (mk_set hnl).1 h with h | rfl
          · exact absurd h (mk_met0 g i hi)
          · exact .refl _, (mk_set hnl).2 (.inr rfl)⟩
        obtain ⟨m', q1, q2, q3⟩ := reach_l0 hg hn (right_8 hr) hna _ _ (Nat.le_refl _) hR
        have em : m' = marks g.length (walkOf g n) := by
          refine marks_ext (by rw [q2, marks_len]) fun i hi => ?_
          rw [q3 i (by omega), mk_marks (by omega), walk_mem hg hna]
        rw [← em]
        refine Evt.congr (Evt.step q1 (f := fun k => swageref06_Reach.j0 k g (n : Int) false) fun k => ?_) fun k => by rw [if_pos rfl, if_neg h0, decide_eq_false h1]
        rw [swageref06_Reach.j0, if_neg (by simp), if_pos (by omega), if_pos (by omega)]
        simp only [Option.bind_some]
        rw [if_pos (by omega), if_pos (by simp; omega), Int.toNat_natCast, Int.toNat_natCast]
        rfl
end Go.Proofs.Ytkmbhknmjnbanaa.A


namespace Go.Proofs.Ytkmbhknmjnbanaa.A
open Go.RowKit Go.Proofs.YtkmbhknmjnbanaaW.PrintWords Go.Proofs.YtkmbhknmjnbanaaW.PrintLast Go.Shelf
set_option linter.unusedVariables false
set_option linter.unusedSimpArgs false

theorem orderOf_in (g : List (List Int)) : ∀ x ∈ orderOf g, 0 ≤ x ∧ x < (g.length : Int) := by
  cases hr : rightB g
  · intro x hx; unfold orderOf at hx; rw [hr] at hx; simp at hx
  · exact order_in_range hr
theorem orderOf_len (g : List (List Int)) : (orderOf g).length ≤ g.length := by
  cases hr : rightB g
  · unfold orderOf; rw [hr]; simp
  · exact order_len hr
end Go.Proofs.Ytkmbhknmjnbanaa.A


namespace Go.Proofs
open Go.Shelf
def Try.keys68_ren : Go.Shelf.Ren := ⟨fun | 7 => 68 | 10 => 82 | n => n, fun | 23 => 69 | 26 => 3 | 3 => 4 | 28 => 49 | 0 => 0 | 27 => 48 | 33 => 45 | 4 => 4 | n => n, fun | n => n⟩
theorem Try.keys68 : Go.Proofs.SlLaysZI.n7 Try.prog Try.keys68_ren := {
  mixed := by kernel_rfl
  f7 := ⟨Try.f68.name, by decide, Try.func68.trans (congrArg some (by kernel_rfl))⟩
  f10 := ⟨Try.f82.name, by decide, Try.func82.trans (congrArg some (by kernel_rfl))⟩
  t0 := Try.underlying0
  a0 := Try.isAgg0
  z0 := Try.sizeOf0
  v0 := Try.zeroValue0
  t4 := Try.underlying4
  a4 := Try.isAgg4
  z4 := Try.sizeOf4
  v4 := Try.zeroValue4
  t23 := Try.underlying69
  a23 := Try.isAgg69
  z23 := Try.sizeOf69
  v23 := Try.zeroValue69
  t26 := Try.underlying3
  a26 := Try.isAgg3
  z26 := Try.sizeOf3
  v26 := Try.zeroValue3
  t27 := Try.underlying48
  a27 := Try.isAgg48
  z27 := Try.sizeOf48
  v27 := Try.zeroValue48
  t28 := Try.underlying49
  a28 := Try.isAgg49
  z28 := Try.sizeOf49
  v28 := Try.zeroValue49
  t33 := Try.underlying45
  a33 := Try.isAgg45
  z33 := Try.sizeOf45
  v33 := Try.zeroValue45 }
def Try.sorted57_ren : Go.Shelf.Ren := ⟨fun | 6 => 57 | 8 => 50 | 9 => 75 | 11 => 73 | 13 => 84 | 12 => 83 | 23 => 96 | 24 => 97 | 14 => 87 | 15 => 88 | 16 => 89 | 17 => 90 | 18 => 91 | 19 => 92 | 20 => 93 | 21 => 94 | 22 => 95 | 25 => 98 | 26 => 99 | 27 => 100 | 28 => 101 | 29 => 102 | 30 => 103 | 31 => 104 | n => n, fun | 26 => 3 | 28 => 49 | 24 => 27 | 0 => 0 | 3 => 3 | 37 => 75 | 48 => 81 | 50 => 84 | 4 => 4 | 40 => 89 | 39 => 88 | 45 => 92 | 5 => 5 | 9 => 9 | 51 => 96 | 55 => 100 | 57 => 102 | 58 => 103 | 33 => 45 | n => n, fun | n => n⟩
theorem Try.sorted57 : Go.Proofs.SlLaysZI.n6 Try.prog Try.sorted57_ren := {
  mixed := by kernel_rfl
  f6 := ⟨Try.f57.name, by decide, Try.func57.trans (congrArg some (by kernel_rfl))⟩
  f8 := ⟨Try.f50.name, by decide, Try.func50.trans (congrArg some (by kernel_rfl))⟩
  f11 := ⟨Try.f73.name, by decide, Try.func73.trans (congrArg some (by kernel_rfl))⟩
  t0 := Try.underlying0
  a0 := Try.isAgg0
  z0 := Try.sizeOf0
  v0 := Try.zeroValue0
  t24 := Try.underlying27
  a24 := Try.isAgg27
  z24 := Try.sizeOf27
  v24 := Try.zeroValue27
  t26 := Try.underlying3
  a26 := Try.isAgg3
  z26 := Try.sizeOf3
  v26 := Try.zeroValue3
  t28 := Try.underlying49
  a28 := Try.isAgg49
  z28 := Try.sizeOf49
  v28 := Try.zeroValue49
  i26 := by kernel_rfl }
def Try.sort75_ren : Go.Shelf.Ren := ⟨fun | 5 => 75 | 8 => 84 | 7 => 83 | 19 => 96 | 20 => 97 | 10 => 87 | 11 => 88 | 12 => 89 | 13 => 90 | 14 => 91 | 15 => 92 | 16 => 93 | 17 => 94 | 18 => 95 | 30 => 98 | 31 => 99 | 32 => 100 | 33 => 101 | 34 => 102 | 35 => 103 | 40 => 104 | n => n, fun | 23 => 27 | 25 => 3 | 3 => 3 | 32 => 75 | 22 => 27 | 0 => 0 | 44 => 81 | 46 => 84 | 4 => 4 | 36 => 89 | 35 => 88 | 41 => 92 | 5 => 5 | 9 => 9 | 53 => 96 | 57 => 100 | 63 => 102 | 64 => 103 | n => n, fun | n => n⟩
theorem Try.sort75 : Go.Proofs.SlLaysM.n5 Try.prog Try.sort75_ren := {
  mixed := by kernel_rfl
  f5 := ⟨Try.f75.name, by decide, Try.func75.trans (congrArg some (by kernel_rfl))⟩
  f7 := ⟨Try.f83.name, by decide, Try.func83.trans (congrArg some (by kernel_rfl))⟩
  f8 := Try.func84.trans (congrArg some (by kernel_rfl))
  f10 := ⟨Try.f87.name, by decide, Try.func87.trans (congrArg some (by kernel_rfl))⟩
  f11 := ⟨Try.f88.name, by decide, Try.func88.trans (congrArg some (by kernel_rfl))⟩
  f12 := ⟨Try.f89.name, by decide, Try.func89.trans (congrArg some (by kernel_rfl))⟩
  f13 := ⟨Try.f90.name, by decide, Try.func90.trans (congrArg some (by kernel_rfl))⟩
  f14 := ⟨Try.f91.name, by decide, Try.func91.trans (congrArg some (by kernel_rfl))⟩
  f15 := ⟨Try.f92.name, by decide, Try.func92.trans (congrArg some (by kernel_rfl))⟩
  f16 := ⟨Try.f93.name, by decide, Try.func93.trans (congrArg some (by kernel_rfl))⟩
  f17 := ⟨Try.f94.name, by decide, Try.func94.trans (congrArg some (by kernel_rfl))⟩
  f18 := ⟨Try.f95.name, by decide, Try.func95.trans (congrArg some (by kernel_rfl))⟩
  f19 := Try.func96.trans (congrArg some (by kernel_rfl))
  f20 := Try.func97.trans (congrArg some (by kernel_rfl))
  f30 := ⟨Try.f98.name, by decide, Try.func98.trans (congrArg some (by kernel_rfl))⟩
  f31 := Try.func99.trans (congrArg some (by kernel_rfl))
  f32 := Try.func100.trans (congrArg some (by kernel_rfl))
  f33 := ⟨Try.f101.name, by decide, Try.func101.trans (congrArg some (by kernel_rfl))⟩
  f34 := ⟨Try.f102.name, by decide, Try.func102.trans (congrArg some (by kernel_rfl))⟩
  f35 := ⟨Try.f103.name, by decide, Try.func103.trans (congrArg some (by kernel_rfl))⟩
  f40 := ⟨Try.f104.name, by decide, Try.func104.trans (congrArg some (by kernel_rfl))⟩
  t0 := Try.underlying0
  a0 := Try.isAgg0
  z0 := Try.sizeOf0
  v0 := Try.zeroValue0
  t3 := Try.underlying3
  a3 := Try.isAgg3
  z3 := Try.sizeOf3
  v3 := Try.zeroValue3
  t4 := Try.underlying4
  a4 := Try.isAgg4
  z4 := Try.sizeOf4
  v4 := Try.zeroValue4
  t5 := Try.underlying5
  a5 := Try.isAgg5
  z5 := Try.sizeOf5
  v5 := Try.zeroValue5
  t9 := Try.underlying9
  a9 := Try.isAgg9
  z9 := Try.sizeOf9
  v9 := Try.zeroValue9
  t22 := Try.underlying27
  a22 := Try.isAgg27
  z22 := Try.sizeOf27
  v22 := Try.zeroValue27
  t23 := Try.underlying27
  a23 := Try.isAgg27
  z23 := Try.sizeOf27
  v23 := Try.zeroValue27
  t25 := Try.underlying3
  a25 := Try.isAgg3
  z25 := Try.sizeOf3
  v25 := Try.zeroValue3
  t32 := Try.underlying75
  a32 := Try.isAgg75
  z32 := Try.sizeOf75
  v32 := Try.zeroValue75
  t35 := Try.underlying88
  a35 := Try.isAgg88
  z35 := Try.sizeOf88
  v35 := Try.zeroValue88
  t36 := Try.underlying89
  a36 := Try.isAgg89
  z36 := Try.sizeOf89
  v36 := Try.zeroValue89
  t41 := Try.underlying92
  a41 := Try.isAgg92
  z41 := Try.sizeOf92
  v41 := Try.zeroValue92
  t44 := Try.underlying81
  a44 := Try.isAgg81
  z44 := Try.sizeOf81
  v44 := Try.zeroValue81
  t46 := Try.underlying84
  a46 := Try.isAgg84
  z46 := Try.sizeOf84
  v46 := Try.zeroValue84
  t53 := Try.underlying96
  a53 := Try.isAgg96
  z53 := Try.sizeOf96
  v53 := Try.zeroValue96
  t57 := Try.underlying100
  a57 := Try.isAgg100
  z57 := Try.sizeOf100
  v57 := Try.zeroValue100
  t63 := Try.underlying102
  a63 := Try.isAgg102
  z63 := Try.sizeOf102
  v63 := Try.zeroValue102
  t64 := Try.underlying103
  a64 := Try.isAgg103
  z64 := Try.sizeOf103
  v64 := Try.zeroValue103 }
end Go.Proofs


namespace Go.Proofs.Ytkmbhknmjnbanaa.A
open Go.RowKit Go.Maps Go.Proofs.YtkmbhknmjnbanaaW.PrintWords Go.Proofs.YtkmbhknmjnbanaaW.PrintLast Go.Shelf
set_option linter.unusedVariables false
set_option linter.unusedSimpArgs false

theorem law3 : Keyed Try.prog 3 := int_keyed Try.underlying3
theorem zero4 (w : World) : (zeroValue 4).run Try.prog w = .ok (.bool false) w := by kernel_rfl
def Wf (n : Int) : Prop := (Lit.int .i64 n).wf = true
theorem wf_small {n : Int} (h0 : 0 ≤ n) (h1 : n ≤ 1000000) : Wf n := by
  unfold Wf; simp [Lit.wf, IntKind.min, IntKind.max, IntKind.signed, IntKind.bits]; omega
theorem key3 {n : Int} (h : Wf n) : keyOf Try.prog 3 (.int .i64 n) = some (.int .i64 n) := keyOf_int_mk Try.underlying3 h
abbrev DU := DataW Unit
theorem isKey (k : Int) : WideAt.IsKeyLit (.int .i64 k) := by simp [WideAt.IsKeyLit]
def ins (s : Int → Bool) (k : Int) : Int → Bool := fun j => decide (j = k) || s j
def rem (s : Int → Bool) (k : Int) : Int → Bool := fun j => !decide (j = k) && s j

theorem plainElem_bool_inv {P : Program} {e : TypeId} (he : P.underlying e = some .bool) {v : Value} {z : DataW Unit × List MemPlace} (h : plainElem P e v = some z) : ∃ x, v = .bool x ∧ z = (.lit (.bool x), []) := by
  unfold plainElem at h
  rw [he] at h
  cases v <;> simp at h
  exact ⟨_, rfl, h.symm⟩
structure ReadsB (D : DU) (s : Int → Bool) : Prop where
  tidy : Tidy D
  has : ∀ k, Maps.has D (.int .i64 k) = s k
  at_ : ∀ k, D.atKey (.int .i64 k) (.lit (.bool false)) = .lit (.bool (s k))
theorem ReadsB.empty : ReadsB (.map []) (fun _ => false) := ⟨tidy_empty, fun k => rfl, fun k => rfl⟩
theorem ReadsB.put {D : DU} {s : Int → Bool} (h : ReadsB D s) (k : Int) : ReadsB (D.put (.int .i64 k) (.lit (.bool true))) (ins s k) := by
  refine ⟨h.tidy.put (isKey k) _, fun j => ?_, fun j => ?_⟩
  · by_cases hj : j = k
    · subst hj
      rw [has_put_same h.tidy.isMap (isKey j)]
      simp [ins]
    · rw [has_put_other (by simpa using hj), h.has j]
      simp [ins, hj]
  · by_cases hj : j = k
    · subst hj
      rw [atKey_put_same h.tidy.isMap (isKey j)]
      simp [ins]
    · rw [atKey_put_other (by simpa using hj), h.at_ j]
      simp [ins, hj]
theorem ReadsB.del {D : DU} {s : Int → Bool} (h : ReadsB D s) (k : Int) : ReadsB (D.del (.int .i64 k)) (rem s k) := by
  refine ⟨h.tidy.del _, fun j => ?_, fun j => ?_⟩
  · by_cases hj : j = k
    · subst hj
      rw [has_del_same]
      simp [rem]
    · rw [has_del_other (by simpa using hj), h.has j]
      simp [rem, hj]
  · by_cases hj : j = k
    · subst hj
      rw [atKey_del_same]
      simp [rem]
    · rw [atKey_del_other (by simpa using hj), h.at_ j]
      simp [rem, hj]

/-- block b is a set of at most n numbers that reads as s -/
def SetAt (w : World) (b n : Nat) (s : Int → Bool) : Prop := ∃ D : DU, w.ownsMap Try.prog 3 (plainElem Try.prog 4) b n D ∧ ReadsB D s
theorem SetAt.lt {w : World} {b n : Nat} {s : Int → Bool} (h : SetAt w b n s) : b < w.heap.size := by
  obtain ⟨D, h1, _⟩ := h; exact h1.lt
theorem SetAt.below {w w1 : World} {b n : Nat} {s : Int → Bool} (h : SetAt w b n s) (hb : Below w.heap.size w w1) : SetAt w1 b n s := by
  have hl := h.lt
  obtain ⟨D, ⟨es, clock, h1, h2⟩, h3⟩ := h
  exact ⟨D, ⟨es, clock, (hb.block _ hl).trans h1, h2⟩, h3⟩
theorem SetAt.grown {w w1 : World} {b n : Nat} {s : Int → Bool} (h : SetAt w b n s) {row : Option Nat} (hg : w.grownBy w1 row) (hne : some b ≠ row) : SetAt w1 b n s := by
  obtain ⟨D, h1, h3⟩ := h
  exact ⟨D, h1.kept hg hne, h3⟩
theorem SetAt.made (w : World) : SetAt (w.alloc (.map #[] 0)) w.heap.size 0 (fun _ => false) := ⟨.map [], World.ownsMap_made _ _ _ _, ReadsB.empty⟩
theorem SetAt.look {w : World} {b n : Nat} {s : Int → Bool} (h : SetAt w b n s) {k : Int} (hk : Wf k) : (Instr.lookup 69 (.map (some b)) (.int .i64 k) false).run Try.prog w = .ok (.bool (s k)) w := by
  obtain ⟨D, h1, h3⟩ := h
  obtain ⟨v, ps, hrun, hv⟩ := h1.lookup law3 Try.underlying69 (zero4 w) (plainElem_bool Try.underlying4 false) (key3 hk)
  obtain ⟨x, rfl, hz⟩ := plainElem_bool_inv (P := Try.prog) (e := 4) Try.underlying4 hv
  have hx : D.atKey (.int .i64 k) (.lit (.bool false)) = .lit (.bool x) := congrArg Prod.fst hz
  rw [h3.at_ k] at hx
  simp only [DataW.lit.injEq, Lit.bool.injEq] at hx
  rw [hrun, hx]
theorem SetAt.store {w : World} {b n : Nat} {s : Int → Bool} (h : SetAt w b n s) (hn : n < maxLen) {k : Int} (hk : Wf k) :
    ∃ w1, (Instr.mapUpdate 69 (.map (some b)) (.int .i64 k) (.bool true)).run Try.prog w = .ok () w1 ∧ SetAt w1 b (n + 1) (ins s k) ∧ w.grownBy w1 (some b) := by
  obtain ⟨D, h1, h3⟩ := h
  obtain ⟨w1, r1, r2, r3⟩ := h1.update law3 Try.underlying69 hn (key3 hk) (plainElem_bool Try.underlying4 true)
  exact ⟨w1, r1, ⟨_, r2, h3.put k⟩, r3⟩
theorem SetAt.drop {w : World} {b n : Nat} {s : Int → Bool} (h : SetAt w b n s) {k : Int} (hk : Wf k) (ty : TypeId) :
    ∃ w1, (Builtin.delete_ #[69, 3] ty #[.map (some b), .int .i64 k]).run Try.prog w = .ok (.tuple #[]) w1 ∧ SetAt w1 b n (rem s k) ∧ w.grownBy w1 (some b) := by
  obtain ⟨D, h1, h3⟩ := h
  obtain ⟨w1, r1, r2, r3⟩ := h1.drop law3 Try.underlying69 (key3 hk) ty
  exact ⟨w1, r1, ⟨_, r2, h3.del k⟩, r3.grown⟩
end Go.Proofs.Ytkmbhknmjnbanaa.A


namespace Go.Proofs.Ytkmbhknmjnbanaa.A
open Go.RowKit Go.Maps Go.Proofs.YtkmbhknmjnbanaaW.PrintWords Go.Proofs.YtkmbhknmjnbanaaW.PrintLast Go.Shelf
set_option linter.unusedVariables false
set_option linter.unusedSimpArgs false

theorem perm_of_sub {α : Type} [DecidableEq α] : ∀ {l m : List α}, l.Nodup → l ⊆ m → m.length ≤ l.length → m.Perm l
  | [], m, _, _, h => by
    have : m = [] := List.eq_nil_of_length_eq_zero (by simpa using h)
    subst this; exact List.Perm.refl _
  | a :: l, m, hn, hs, h => by
    have ha : a ∈ m := hs (by simp)
    have hn' := List.nodup_cons.1 hn
    have h1 := List.perm_cons_erase ha
    have h2 : l ⊆ m.erase a := fun x hx => by
      have hxa : x ≠ a := fun e => hn'.1 (e ▸ hx)
      rw [List.mem_erase_of_ne hxa]; exact hs (by simp [hx])
    have h3 : (m.erase a).length ≤ l.length := by rw [List.length_erase_of_mem ha]; simp at h; omega
    exact h1.trans ((perm_of_sub hn'.2 h2 h3).cons a)

def Rising (ks : List Int) : Prop := ks.Pairwise (· < ·)
theorem rising_eq {a b : List Int} (ha : Rising a) (hb : Rising b) (h : ∀ k, k ∈ a ↔ k ∈ b) : a = b := by
  have hna : a.Nodup := ha.imp (fun h e => by omega)
  have hnb : b.Nodup := hb.imp (fun h e => by omega)
  have hp : a.Perm b := by
    refine perm_of_sub hnb (fun x hx => (h x).2 hx) ?_ |>.trans (List.Perm.refl _)
    exact List.Nodup.length_le_of_subset hna (fun x hx => (h x).1 hx)
  exact List.Perm.eq_of_pairwise (le := (· < ·)) (fun x y _ _ h1 h2 => by omega) ha hb hp
theorem merge_rising {ss : List Int} (h : ss.Nodup) : Rising (ss.mergeSort fun x y => decide (x ≤ y)) := by
  have h1 : (ss.mergeSort fun x y => decide (x ≤ y)).Pairwise (fun x y => decide (x ≤ y) = true) := List.pairwise_mergeSort (by intro a b c; simp; omega) (by intro a b; simp; omega) ss
  have h2 : (ss.mergeSort fun x y => decide (x ≤ y)).Nodup := (List.mergeSort_perm ss _).nodup_iff.2 h
  exact (h1.and h2).imp (fun {a b} ⟨h3, h4⟩ => by have := of_decide_eq_true h3; omega)
theorem intKeys_nodup {D : DU} {s : Int → Bool} (hR : ∀ k, Maps.has D (.int .i64 k) = s k) {R : Value → Option (DU × List MemPlace)} {w : World} {b n : Nat} (hown : w.ownsMap Try.prog 3 R b n D) : (intKeys D).Nodup ∧ ∀ k, k ∈ intKeys D ↔ s k = true := by
  obtain ⟨es, hD, hpw, _⟩ := hown.entries law3
  obtain ⟨es', hD', hko⟩ := hown.keysOf
  obtain rfl : es = es' := by rw [hD] at hD'; simpa using hD'
  subst hD
  have hk : ∀ p ∈ es, ∃ x, p.1 = Lit.int .i64 x := fun p hp => by
    obtain ⟨v, hv⟩ := hko p hp
    obtain ⟨x, _, hx, _⟩ := Maps.keyOf_i64 Try.underlying3 hv
    exact ⟨x, hx⟩
  refine ⟨?_, fun k => ?_⟩
  · show (es.map fun p => Go.intOf p.1).Nodup
    refine List.pairwise_map.2 (hpw.imp_of_mem fun {p q} hp' hq' hne e => hne ?_)
    obtain ⟨a, ha⟩ := hk p hp'
    obtain ⟨b, hb⟩ := hk q hq'
    rw [ha, hb] at e ⊢
    exact congrArg _ e
  · rw [← hR k, has_eq, List.any_eq_true]
    show k ∈ (es.map fun p => Go.intOf p.1) ↔ _
    rw [List.mem_map]
    constructor
    · rintro ⟨p, hp', rfl⟩
      obtain ⟨a, ha⟩ := hk p hp'
      exact ⟨p, hp', by rw [ha]; simp [Lit.sameKey, Go.intOf]⟩
    · rintro ⟨p, hp', hs⟩
      obtain ⟨a, ha⟩ := hk p hp'
      rw [ha] at hs
      exact ⟨p, hp', by rw [ha]; simpa [Lit.sameKey, Go.intOf] using hs⟩

theorem sorts57 (m : Nat) : AnyZI.SortsIn Try.prog Try.sorted57_ren Fence.wide m :=
  ⟨fun blk off cap ss W hH hblk hsz => callsIn_wide.2 (AnyM.slices_Sort_int Try.sort75 blk off cap ss W hH hblk hsz),
   fun p cap W => callsIn_wide.2 (AnyM.slices_Sort_int_none Try.sort75 p cap W)⟩

theorem keys68_calls (mb : Option Nat) (W : World) : Calls Try.prog 68 #[.map mb] W fun e w' => e = .returned (.func (.func 82) #[] #[.pointer (some ⟨W.heap.size, 0, none⟩)]) ∧ w' = W.alloc (.cells #[.map mb] 69) :=
  (callsIn_wide (n := 5)).1 (AnyZI.keys_in Try.keys68 Fence.wide 5 trivial rfl mb W)
theorem sorted68_calls (b n : Nat) (s : Int → Bool) (w : World) {R : Value → Option (DU × List MemPlace)} {D : DU} (hown : w.ownsMap Try.prog 3 R b n D) (hR : ∀ k, Maps.has D (.int .i64 k) = s k) (hn : n ≤ 1000000) :
    Calls Try.prog 57 #[.func (.func 82) #[] #[.pointer (some ⟨w.heap.size, 0, none⟩)]] (w.alloc (.cells #[.map (some b)] 69)) fun e w' => ∃ (v : Value) (ks : List Int), e = .returned v ∧ Rising ks ∧ (∀ k, k ∈ ks ↔ s k = true) ∧ ks.length ≤ n ∧
      Kd.R (Kd.int .i64) 3 w' w.heap.size (fun _ => True) v ks ∧ Below w.heap.size w w' := by
  have hbl := hown.lt
  have hsz := hown.size_le
  obtain ⟨hnd, hmem⟩ := intKeys_nodup hR hown
  have hseq : SeqGives Fence.wide 2 Try.prog 82 #[.pointer (some ⟨w.heap.size, 0, none⟩)] Go.encZ (fun ss => ss.Perm (intKeys D)) (Maps.size D) (w.alloc (.cells #[.map (some b)] 69)) :=
    AnyZI.keys_gives (ρ := Try.keys68_ren) { Try.keys68 with } Fence.wide _ trivial rfl (by omega) w.heap.size b n D _ (by simp) (by simp) (by
      obtain ⟨es, clock, hb, Ft, hs, hD⟩ := hown
      exact ⟨es, clock, (Below.heap_alloc _ _ b hbl).trans hb, Ft, hs, hD⟩)
  have cS := AnyZI.sorted_in Try.sorted57 Fence.wide 5 trivial trivial trivial trivial rfl (by omega) (sorts57 _) (enters_of Try.func75 (by kernel_rfl) rfl) 82 #[.pointer (some ⟨w.heap.size, 0, none⟩)] trivial (enters_of Try.func82 (by kernel_rfl) rfl) _ _ (by unfold maxLen; omega) (by omega) _ hseq
  refine ((callsIn_wide (n := 5)).1 cS).mono ?_
  rintro e w' ⟨v, ss, rfl, hS, hrow, hnil, hb⟩
  have hlen : ss.length = (ss.mergeSort fun x y => decide (x ≤ y)).length := by simp
  refine ⟨v, _, rfl, merge_rising (hS.nodup_iff.2 hnd), fun k => ?_, ?_, ?_, ((Below.refl _ w).alloc (Nat.le_refl _) _).trans (hb.mono (by simp))⟩
  · rw [List.mem_mergeSort, hS.mem_iff, hmem]
  · rw [← hlen, hS.length_eq]
    have : (intKeys D).length = size D := by
      obtain ⟨es, rfl, _⟩ := hown.keysOf
      simp [intKeys, size]
    omega
  · refine Kd.R_of_own ?_ (fun _ _ => trivial)
    rw [← hlen]
    exact ownsRow_base_a hrow (by simp)

end Go.Proofs.Ytkmbhknmjnbanaa.A


namespace Go.Proofs.Ytkmbhknmjnbanaa.A
open Go.RowKit Go.Maps Go.Proofs.YtkmbhknmjnbanaaW.PrintWords Go.Proofs.YtkmbhknmjnbanaaW.PrintLast Go.Shelf
set_option linter.unusedVariables false
set_option linter.unusedSimpArgs false

/-- numbers that one can read there -/
def IntsAt (w : World) (A : Option Addr) (ws : List Int) : Prop := ∀ j (h : j < ws.length), ∃ ad, A = some ad ∧ w.cell? (ad.add j) = some (.int .i64 ws[j])
theorem IntsAt.cells {w : World} {ad : Addr} {ws : List Int} (h : IntsAt w (some ad) ws) : ∀ j u, (ws.map (Value.int .i64))[j]? = some u → w.cell? (ad.add j) = some u := by
  intro j u hu
  obtain ⟨hj, rfl⟩ := List.getElem?_eq_some_iff.1 hu
  rw [List.length_map] at hj
  obtain ⟨ad', e, hc⟩ := h j hj
  cases e
  rw [hc, List.getElem_map]
end Go.Proofs.Ytkmbhknmjnbanaa.A


namespace Go.Proofs.Ytkmbhknmjnbanaa.A
open Go.RowKit Go.Maps Go.Proofs.YtkmbhknmjnbanaaW.PrintWords Go.Proofs.YtkmbhknmjnbanaaW.PrintLast Go.Shelf
set_option linter.unusedVariables false
set_option linter.unusedSimpArgs false

theorem IntsAt.below {w w' : World} {A : Option Addr} {ws : List Int} (h : IntsAt w A ws) (hb : Below w.heap.size w w') : IntsAt w' A ws := by
  intro j hj
  obtain ⟨ad, e, hc⟩ := h j hj
  exact ⟨ad, e, (hb.cell (World.block_lt_of_cell? _ _ hc)).trans hc⟩
theorem IntsAt.grown {w w' : World} {A : Option Addr} {ws : List Int} (h : IntsAt w A ws) {b : Nat} (hg : w.grownBy w' (some b)) (hm : ∀ c t f, w.heap[b]? ≠ some (.cells c t f)) : IntsAt w' A ws := by
  intro j hj
  obtain ⟨ad, e, hc⟩ := h j hj
  refine ⟨ad, e, ?_⟩
  have hl := World.block_lt_of_cell? _ _ hc
  have hne : (ad.add j).block ≠ b := by
    intro e
    unfold World.cell? at hc
    rw [e] at hc
    split at hc
    · rename_i h; exact hm _ _ _ h
    all_goals first | cases hc | skip
  have hb := hg.block _ hl (fun e => hne (by injection e))
  unfold World.cell? at hc ⊢
  rw [hb]; exact hc
theorem R_new_lit {α : Type} (d : Kd α) (W : World) (base e : Nat) {xs : List α} {inner : List Value} {ok okp : Nat → Prop}
    (hrep : Reps (d.M W base okp) d.sz xs inner) (hok : ∀ k, okp k → ok k) (hfresh : ok W.heap.size) (hbase : base ≤ W.heap.size) (hm : xs.length ≤ 9223372036854775807) :
    d.R e (W.alloc (.cells inner.toArray e)) base ok (.slice (some ⟨W.heap.size, 0, none⟩) xs.length xs.length) xs := by
  refine ⟨fun k hk => ?_, inner, ?_, ?_⟩
  · have : W.heap.size = k := by simpa [Value.ownBlock] using hk
    subst this
    exact hfresh
  · have h2 := World.ownsRow_lit (base := base) (e := e) (size := d.sz) W inner.toArray xs.length hbase (by simpa [maxLen] using hm) (by simpa using hrep.1)
    simpa using h2
  · refine hrep.imp_ (fun p c hp => d.M_mono (fun k hk => ⟨hok k hk.1, fun he => ?_⟩) (Kd.M_below (d.M_bound hp) (below_alloc (Below.refl _ _) _)))
    have : W.heap.size = k := by simpa [Value.ownBlock] using he.symm
    have := hk.2.2.1
    omega

end Go.Proofs.Ytkmbhknmjnbanaa.A


namespace Go.Proofs.Ytkmbhknmjnbanaa.A
open Go.ChangeShapes Go.RowKit Go.Maps Go.Proofs.YtkmbhknmjnbanaaW.PrintWords Go.Proofs.YtkmbhknmjnbanaaW.PrintLast Go.Shelf
set_option linter.unusedVariables false
set_option linter.unusedSimpArgs false

def gupd (H : Int → List Int) (k x : Int) : Int → List Int := fun j => if j = k then H k ++ [x] else H j
structure ReadsG (D : DU) (H : Int → List Int) : Prop where
  tidy : Tidy D
  has : ∀ k, Maps.has D (.int .i64 k) = !(H k).isEmpty
  at_ : ∀ k, D.atKey (.int .i64 k) .nil = if H k = [] then .nil else .slice (lits .i64 (H k)) []
theorem ReadsG.empty : ReadsG (.map []) (fun _ => []) := ⟨tidy_empty, fun k => rfl, fun k => rfl⟩
theorem ReadsG.put {D : DU} {H : Int → List Int} (h : ReadsG D H) (k x : Int) : ReadsG (D.put (.int .i64 k) (.slice (lits .i64 (H k ++ [x])) [])) (gupd H k x) := by
  refine ⟨h.tidy.put (isKey k) _, fun j => ?_, fun j => ?_⟩
  · by_cases hj : j = k
    · subst hj
      rw [has_put_same h.tidy.isMap (isKey j)]
      simp [gupd]
    · rw [has_put_other (by simpa using hj), h.has j]
      simp [gupd, hj]
  · by_cases hj : j = k
    · subst hj
      rw [atKey_put_same h.tidy.isMap (isKey j)]
      simp [gupd]
    · rw [atKey_put_other (by simpa using hj), h.at_ j]
      simp [gupd, hj]
theorem lits_inj {a b : List Int} (h : (lits .i64 a : List (DataW Unit)) = lits .i64 b) : a = b := by
  unfold lits at h
  exact List.map_inj_right (f := fun z : Int => (DataW.lit (Lit.int .i64 z) : DataW Unit)) (fun x y e => by simpa using e) |>.1 h
theorem zeroL (w : World) : (zeroValue 27).run Try.prog w = .ok (.slice none 0 0) w := by kernel_rfl
/-- block b is such a map of at most n entries -/
def GrpAt (w : World) (b n : Nat) (H : Int → List Int) : Prop := ∃ D : DU, w.ownsGroups Try.prog 3 (b + 1) 3 .i64 b n D ∧ ReadsG D H
theorem GrpAt.made (w : World) : GrpAt (w.alloc (.map #[] 0)) w.heap.size 0 (fun _ => []) := ⟨.map [], World.ownsGroups_made _ _ _ _ _, ReadsG.empty⟩
/-- m[k]: a row that one may append to and store again -/
theorem GrpAt.look {w : World} {b n : Nat} {H : Int → List Int} (h : GrpAt w b n H) (hn : n < maxLen) {k : Int} (hk : Wf k) :
    ∃ v, (Instr.lookup 56 (.map (some b)) (.int .i64 k) false).run Try.prog w = .ok v w ∧ w.ownsInts (b + 1) 3 .i64 v (H k) ∧ (H k).length ≤ n ∧
      ∀ (w1 : World) (v' : Value) (x : Int), w.grownBy w1 v.ownBlock → w1.ownsInts (b + 1) 3 .i64 v' (H k ++ [x]) → (v'.ownBlock = v.ownBlock ∨ ∃ g, v'.ownBlock = some g ∧ w.heap.size ≤ g) →
        ∃ w2, (Instr.mapUpdate 56 (.map (some b)) (.int .i64 k) v').run Try.prog w1 = .ok () w2 ∧ GrpAt w2 b (n + 1) (gupd H k x) ∧ w1.grownBy w2 (some b) := by
  obtain ⟨D, hg, hR⟩ := h
  obtain ⟨v, zs, h1, h2, h3, h4, h5⟩ := hg.at law3 Try.underlying56 (zeroL w) hn (key3 hk)
  have hz : zs = H k := by
    rw [hR.at_ k] at h2
    rcases h3.datum (H := Unit) with ⟨e1, e2⟩ | e1
    · rw [e1] at h2
      by_cases e : H k = []
      · rw [e2, e]
      · rw [if_neg e] at h2; simp at h2
    · rw [e1] at h2
      by_cases e : H k = []
      · rw [if_pos e] at h2; simp at h2
      · rw [if_neg e] at h2
        simp only [DataW.slice.injEq, and_true] at h2
        exact (lits_inj h2).symm
  subst hz
  refine ⟨v, h1, h3, h4, fun w1 v' x hg1 ho hl => ?_⟩
  obtain ⟨w2, r1, r2, r3⟩ := h5 w1 v' (H k ++ [x]) hg1 ho (by simp; omega) hl
  rw [ho.datum_pos (by simp)] at r2
  exact ⟨w2, r1, ⟨_, r2, hR.put k x⟩, r3⟩
theorem GrpAt.keys {w : World} {b n : Nat} {H : Int → List Int} (h : GrpAt w b n H) : ∃ (D : DU) (R : Value → Option (DU × List MemPlace)), w.ownsMap Try.prog 3 R b n D ∧ ∀ k, Maps.has D (.int .i64 k) = !(H k).isEmpty := by
  obtain ⟨D, ⟨es, clock, hb, F, hs, hD, _⟩, hR⟩ := h
  exact ⟨D, _, ⟨es, clock, hb, F, hs, hD⟩, hR.has⟩
theorem GrpAt.lt {w : World} {b n : Nat} {H : Int → List Int} (h : GrpAt w b n H) : b < w.heap.size := by
  obtain ⟨D, R, h1, _⟩ := h.keys; exact h1.lt
theorem GrpAt.grown {w w1 : World} {b n : Nat} {H : Int → List Int} (h : GrpAt w b n H) (hg : w.grownBy w1 none) : GrpAt w1 b n H := by
  obtain ⟨D, h1, h3⟩ := h
  exact ⟨D, h1.kept hg (by simp) (fun es clock _ x _ => by cases x.val.ownBlock <;> simp), h3⟩
end Go.Proofs.Ytkmbhknmjnbanaa.A


namespace Go.Proofs.Ytkmbhknmjnbanaa.A
open Go.RowKit Go.Maps Go.Proofs.YtkmbhknmjnbanaaW.PrintWords Go.Proofs.YtkmbhknmjnbanaaW.PrintLast Go.Shelf
set_option linter.unusedVariables false
set_option linter.unusedSimpArgs false

/-- where edges come back from, by head -/
def hfold (l : List S37) : Int → List Int := l.foldl (fun H e => gupd H e.f1 e.f0) (fun _ => [])
end Go.Proofs.Ytkmbhknmjnbanaa.A


namespace Go.Proofs.Ytkmbhknmjnbanaa.A
open Go.RowKit Go.Proofs.YtkmbhknmjnbanaaW.PrintWords Go.Proofs.YtkmbhknmjnbanaaW.PrintLast Go.Shelf
set_option linter.unusedVariables false
set_option linter.unusedSimpArgs false

theorem plfold_spec {o : List Int} {n : Nat} (hnd : o.Nodup) (ho : ∀ x ∈ o, 0 ≤ x ∧ x < (n : Int)) : ∀ m, m ≤ o.length → (∀ j (hj : j < m) (hj2 : j < o.length), (plfold o n m).getD o[j].toNat 0 = (j : Int)) ∧ ∀ i, i < n → (i : Int) ∉ o.take m → (plfold o n m).getD i 0 = -1
  | 0, _ => ⟨fun j hj => by omega, fun i hi _ => by
      unfold plfold
      rw [List.range_zero, List.foldl_nil, List.getD_eq_getElem?_getD, List.getElem?_replicate, if_pos hi]; rfl⟩
  | m + 1, hm => by
    have hlt : m < o.length := by omega
    obtain ⟨h1, h2⟩ := plfold_spec hnd ho m (by omega)
    have hom : o.getD m 0 = o[m] := by simp [List.getD_eq_getElem?_getD, hlt]
    have hx := ho o[m] (List.getElem_mem hlt)
    have hl := plfold_len o n m
    have hset : ∀ i, (plfold o n (m + 1)).getD i 0 = if o[m].toNat = i then (m : Int) else (plfold o n m).getD i 0 := by
      intro i
      rw [plfold_succ, hom, List.getD_eq_getElem?_getD, List.getElem?_set]
      by_cases e : o[m].toNat = i
      · rw [if_pos e, if_pos e, if_pos (by omega)]; rfl
      · rw [if_neg e, if_neg e, List.getD_eq_getElem?_getD]
    refine ⟨fun j hj hj2 => ?_, fun i hi hni => ?_⟩
    · rw [hset]
      by_cases e : j = m
      · subst e; rw [if_pos rfl]
      · rw [if_neg ?_, h1 j (by omega) hj2]
        intro e2
        have hxj := ho o[j] (List.getElem_mem hj2)
        have : o[m] = o[j] := by omega
        exact e ((List.getElem_inj hnd).1 this).symm
    · rw [List.take_succ_eq_append_getElem hlt] at hni
      rw [hset, if_neg ?_, h2 i hi (fun h => hni (List.mem_append_left _ h))]
      intro e
      exact hni (List.mem_append_right _ (by rw [List.mem_singleton]; omega))
theorem order_nodup (g : List (List Int)) : (orderOf g).Nodup := by
  unfold orderOf
  cases hr : rightB g
  · simp
  · obtain ⟨h1, h2, h3⟩ := right_rows hr
    rw [if_pos rfl]
    exact List.pairwise_reverse.2 ((walk_nodup h3 (by omega)).imp fun h e => h e.symm)
theorem place_at (g : List (List Int)) {j : Nat} (hj : j < (orderOf g).length) : (placesOf g).getD (orderOf g)[j].toNat 0 = (j : Int) :=
  (plfold_spec (order_nodup g) (orderOf_in g) _ (Nat.le_refl _)).1 j hj hj
theorem order_mem {g : List (List Int)} (hr : rightB g = true) (i : Nat) : (i : Int) ∈ orderOf g ↔ Way g 0 i := by
  obtain ⟨h1, h2, h3⟩ := right_rows hr
  unfold orderOf
  rw [if_pos hr, List.mem_reverse]
  exact walk_mem h3 (by omega) i
end Go.Proofs.Ytkmbhknmjnbanaa.A


namespace Go.Proofs.Ytkmbhknmjnbanaa.A
set_option linter.unusedVariables false
set_option linter.unusedSimpArgs false

theorem visit_parent (g : List (List Int)) : ∀ (n : Nat) (met : List Bool) (a : Nat) (pre post : List Int) (x : Int), (∀ l ∈ g, ∀ y ∈ l, 0 ≤ y) → (visit g n met a).2 = pre ++ x :: post → (post = [] ∧ x = (a : Int)) ∨ ∃ q : Nat, (q : Int) ∈ post ∧ x ∈ rowOf g q
  | 0, met, a, pre, post, x, hg, h => by simp [visit] at h
  | n + 1, met, a, pre, post, x, hg, h => by
    rw [visit_succ] at h
    have H : ∀ (l : List Int), (∀ y ∈ l, y ∈ rowOf g a) → ∀ (s : List Bool × List Int), (∀ (pre post : List Int) (x : Int), s.2 = pre ++ x :: post → (∃ q : Nat, (q : Int) ∈ post ∧ x ∈ rowOf g q) ∨ x ∈ rowOf g a) →
        ∀ (pre post : List Int) (x : Int), (l.foldl (vstep g n) s).2 = pre ++ x :: post → (∃ q : Nat, (q : Int) ∈ post ∧ x ∈ rowOf g q) ∨ x ∈ rowOf g a := by
      intro l
      induction l with
      | nil => intro _ s hs; exact hs
      | cons y l ih =>
        intro hl s hs
        rw [List.foldl_cons]
        refine ih (fun z hz => hl z (by simp [hz])) _ ?_
        unfold vstep
        split
        · exact hs
        · intro pre post x hx
          rcases split_append hx with ⟨p2, h2⟩ | ⟨p1, h1, h2⟩
          · have : (visit g n s.1 y.toNat).2 = post.drop p2.length ∧ post = p2 ++ (visit g n s.1 y.toNat).2 := by
              dsimp only at hx
              rw [h2, List.append_assoc, List.append_cancel_left_eq, List.cons_append, List.cons.injEq] at hx
              rw [← hx.2]; simp
            rcases hs pre p2 x h2 with ⟨q, hq1, hq2⟩ | hq
            · exact .inl ⟨q, by rw [this.2]; exact List.mem_append_left _ hq1, hq2⟩
            · exact .inr hq
          · rcases visit_parent g n s.1 y.toNat p1 post x hg h2 with ⟨rfl, rfl⟩ | ⟨q, hq1, hq2⟩
            · refine .inr ?_
              have hy := hl y (by simp)
              have hy0 : 0 ≤ y := by
                unfold rowOf at hy
                by_cases ha : a < g.length
                · rw [List.getD_eq_getElem?_getD, List.getElem?_eq_getElem ha] at hy
                  exact hg _ (List.getElem_mem ha) y hy
                · rw [List.getD_eq_getElem?_getD, List.getElem?_eq_none (by omega)] at hy
                  simp at hy
              rw [Int.toNat_of_nonneg hy0]
              exact hy
            · exact .inl ⟨q, hq1, hq2⟩
    have h1 := H (rowOf g a) (fun y hy => hy) (met.set a true, []) (by intro p q x hx; simp at hx)
    rcases split_append h with ⟨p2, h2⟩ | ⟨p1, h3, h4⟩
    · have hp : post = p2 ++ [(a : Int)] := by
        have e : (vrow g n (met.set a true) (rowOf g a)).2 = pre ++ x :: p2 := h2
        rw [e, List.append_assoc, List.append_cancel_left_eq, List.cons_append, List.cons.injEq] at h
        exact h.2.symm
      rcases h1 pre p2 x h2 with ⟨q, hq1, hq2⟩ | hq
      · exact .inr ⟨q, by rw [hp]; exact List.mem_append_left _ hq1, hq2⟩
      · exact .inr ⟨a, by rw [hp]; simp, hq⟩
    · cases p1 with
      | nil =>
        simp only [List.nil_append, List.cons.injEq] at h4
        exact .inl ⟨h4.2.symm, h4.1.symm⟩
      | cons y p1 => simp at h4

def pos (g : List (List Int)) (v : Nat) : Nat := ((placesOf g).getD v 0).toNat
section
variable {g : List (List Int)} (hr : rightB g = true)
theorem pos_lt (hr : rightB g = true) {v : Nat} (hv : Way g 0 v) : pos g v < (orderOf g).length ∧ (orderOf g)[pos g v]? = some (v : Int) := by
  obtain ⟨j, hj, e⟩ := List.getElem_of_mem ((order_mem hr v).2 hv)
  have := place_at g hj
  rw [e, Int.toNat_natCast] at this
  have hp : pos g v = j := by unfold pos; rw [this]; omega
  rw [hp]
  exact ⟨hj, by rw [List.getElem?_eq_getElem hj, e]⟩
theorem pos_at (hr : rightB g = true) {j : Nat} (hj : j < (orderOf g).length) : ∃ v : Nat, (orderOf g)[j] = (v : Int) ∧ Way g 0 v ∧ pos g v = j := by
  have hx := orderOf_in g _ (List.getElem_mem hj)
  obtain ⟨v, ev⟩ := Int.eq_ofNat_of_zero_le hx.1
  have := place_at g hj
  rw [ev, Int.toNat_natCast] at this
  refine ⟨v, ev, (order_mem hr v).1 (by rw [← ev]; exact List.getElem_mem hj), ?_⟩
  unfold pos; rw [this]; omega
theorem pos_inj (hr : rightB g = true) {u v : Nat} (hu : Way g 0 u) (hv : Way g 0 v) (h : pos g u = pos g v) : u = v := by
  have h1 := (pos_lt hr hu).2
  have h2 := (pos_lt hr hv).2
  rw [h, h2] at h1
  have := Option.some.inj h1; omega
theorem pos_zero (hr : rightB g = true) : pos g 0 = 0 := by
  obtain ⟨h1, h2, hg⟩ := right_rows hr
  obtain ⟨o, e⟩ := walk_last (g := g) (a := 0) (by omega)
  have ho : orderOf g = (0 : Int) :: o.reverse := by unfold orderOf; rw [if_pos hr, e, List.reverse_append]; rfl
  have := place_at g (j := 0) (by rw [ho]; simp)
  have e0 : (orderOf g)[0]'(by rw [ho]; simp) = 0 := by simp [ho]
  rw [e0] at this
  unfold pos
  rw [show (0 : Nat) = (0 : Int).toNat from rfl, this]; rfl
/-- each block that is reached, but the entry, has one ahead of it in the order that leads to it -/
theorem pos_parent (hr : rightB g = true) {v : Nat} (hv : Way g 0 v) (h0 : v ≠ 0) : ∃ q, Way g 0 q ∧ Edge g q v ∧ pos g q < pos g v := by
  obtain ⟨h1, h2, hg⟩ := right_rows hr
  have hg0 : 0 < g.length := by omega
  obtain ⟨pre, post, hs⟩ := List.append_of_mem ((walk_mem hg hg0 v).2 hv)
  rcases visit_parent g g.length (met0 g) 0 pre post v (fun l hl y hy => (hg l hl y hy).1) hs with ⟨_, h⟩ | ⟨q, hq1, hq2⟩
  · exact absurd (by omega : v = 0) h0
  · have hqw : Way g 0 q := (walk_mem hg hg0 q).1 (by rw [hs]; simp [hq1])
    refine ⟨q, hqw, hq2, ?_⟩
    have ho : orderOf g = post.reverse ++ (v : Int) :: pre.reverse := by
      unfold orderOf
      rw [if_pos hr, hs, List.reverse_append, List.reverse_cons, List.append_assoc]
      rfl
    obtain ⟨t, ht, et⟩ := List.getElem_of_mem (List.mem_reverse.2 hq1)
    have hj1 : post.reverse.length < (orderOf g).length := by rw [ho]; simp
    have ev : (orderOf g)[post.reverse.length] = (v : Int) := by simp [ho]
    have hj2 : t < (orderOf g).length := by omega
    have eq : (orderOf g)[t] = (q : Int) := by
      have : (orderOf g)[t]? = some (q : Int) := by rw [ho, List.getElem?_append_left ht, List.getElem?_eq_getElem ht, et]
      rw [List.getElem?_eq_getElem hj2] at this
      exact Option.some.inj this
    have p1 := place_at g hj1
    have p2 := place_at g hj2
    rw [ev, Int.toNat_natCast] at p1
    rw [eq, Int.toNat_natCast] at p2
    unfold pos
    omega
end

/-- from the entry to a block by at most k edges, past u -/
inductive AWN (g : List (List Int)) (u : Nat) : Nat → Nat → Prop
  | zero {k : Nat} : u ≠ 0 → AWN g u k 0
  | step {k v w : Nat} : AWN g u k v → Edge g v w → w ≠ u → AWN g u (k + 1) w
theorem AWN.mono1 {g : List (List Int)} {u k v : Nat} (h : AWN g u k v) : AWN g u (k + 1) v := by
  induction h with
  | zero h => exact .zero h
  | step _ e hn ih => exact .step ih e hn
theorem AWN.mono {g : List (List Int)} {u v : Nat} {k l : Nat} (h : AWN g u k v) (hl : k ≤ l) : AWN g u l v := by
  induction hl with
  | refl => exact h
  | step _ ih => exact ih.mono1
theorem AWN.ne {g : List (List Int)} {u v k : Nat} (h : AWN g u k v) : v ≠ u := by
  cases h with
  | zero h => exact fun e => h e.symm
  | step _ _ hn => exact hn
theorem AWN.split {g : List (List Int)} {u v w k : Nat} (h : AWN g u k w) : AWN g v k w ∨ AWN g u k v := by
  induction h with
  | zero h =>
    by_cases e : v = 0
    · subst e; exact .inr (.zero h)
    · exact .inl (.zero e)
  | @step k a w ha he hn ih =>
    rcases ih with ih | ih
    · by_cases e : w = v
      · subst e; exact .inr (ha.step he hn)
      · exact .inl (ih.step he e)
    · exact .inr ih.mono1
theorem AWN.way {g : List (List Int)} {u v k : Nat} (h : AWN g u k v) : Way g 0 v := by
  induction h with
  | zero => exact .refl _
  | step _ e _ ih => exact ih.step e
/-- d must be passed on the way to v -/
def Dom (g : List (List Int)) (d v : Nat) : Prop := ∀ k, ¬ AWN g d k v
theorem Dom.self (g : List (List Int)) (v : Nat) : Dom g v v := fun k h => h.ne rfl
theorem Dom.pred {g : List (List Int)} {d v p : Nat} (h : Dom g d v) (he : Edge g p v) (hn : d ≠ v) : Dom g d p := fun k hk => h (k + 1) (hk.step he (fun e => hn e.symm))
theorem Dom.of_zero {g : List (List Int)} {d : Nat} (h : Dom g d 0) : d = 0 := Classical.byContradiction fun hn => h 0 (.zero hn)
theorem Dom.zero (g : List (List Int)) (v : Nat) : Dom g 0 v := by
  intro k h
  induction h with
  | zero h => exact h rfl
  | step _ _ _ ih => exact ih
theorem Dom.trans {g : List (List Int)} {a b c : Nat} (h1 : Dom g a b) (h2 : Dom g b c) : Dom g a c := by
  intro k h
  rcases h.split (v := b) with h | h
  · exact h2 k h
  · exact h1 k h
theorem dom_le {g : List (List Int)} (hr : rightB g = true) {d : Nat} : ∀ (n v : Nat), pos g v ≤ n → Way g 0 v → Dom g d v → pos g d ≤ pos g v := by
  suffices H : ∀ (n v : Nat), pos g v ≤ n → Way g 0 v → pos g v < pos g d → ∃ k, AWN g d k v from fun n v hn hv h => Nat.le_of_not_lt fun hlt => by
    obtain ⟨k, hk⟩ := H n v hn hv hlt
    exact h k hk
  intro n
  induction n with
  | zero =>
    intro v hn hv hlt
    have : v = 0 := pos_inj hr hv (.refl _) (by rw [pos_zero hr]; omega)
    subst this
    refine ⟨0, .zero fun e => ?_⟩
    subst e; omega
  | succ n ih =>
    intro v hn hv hlt
    by_cases h0 : v = 0
    · subst h0
      refine ⟨0, .zero fun e => ?_⟩
      subst e; omega
    · obtain ⟨q, hq, he, hp⟩ := pos_parent hr hv h0
      obtain ⟨k, hk⟩ := ih q (by omega) hq (by omega)
      exact ⟨k + 1, hk.step he (fun e => by subst e; omega)⟩
theorem Dom.le {g : List (List Int)} (hr : rightB g = true) {d v : Nat} (hv : Way g 0 v) (h : Dom g d v) : pos g d ≤ pos g v := dom_le hr _ v (Nat.le_refl _) hv h
theorem Dom.way {g : List (List Int)} {d v : Nat} (hv : Way g 0 v) (h : Dom g d v) : Way g 0 d := by
  by_cases h0 : d = 0
  · subst h0; exact .refl _
  · have : ∀ v, Way g 0 v → Way g 0 d ∨ ∃ k, AWN g d k v := by
      intro v hv
      induction hv with
      | refl => exact .inr ⟨0, .zero h0⟩
      | @step b c hb e ih =>
        rcases ih with ih | ⟨k, ih⟩
        · exact .inl ih
        · by_cases hc : c = d
          · subst hc; exact .inl (hb.step e)
          · exact .inr ⟨k + 1, ih.step e hc⟩
    rcases this v hv with h1 | ⟨k, h1⟩
    · exact h1
    · exact absurd h1 (h k)
theorem Dom.antisymm {g : List (List Int)} (hr : rightB g = true) {a b : Nat} (ha : Way g 0 a) (hb : Way g 0 b) (h1 : Dom g a b) (h2 : Dom g b a) : a = b :=
  pos_inj hr ha hb (Nat.le_antisymm (h1.le hr hb) (h2.le hr ha))

structure TreeS (S : Nat → Prop) (par p : Nat → Nat) : Prop where
  root : S 0
  zero : p 0 = 0
  up : ∀ v, S v → v ≠ 0 → S (par v) ∧ p (par v) < p v
  inj : ∀ u v, S u → S v → p u = p v → u = v
inductive Anc (par : Nat → Nat) : Nat → Nat → Prop
  | refl (v : Nat) : Anc par v v
  | up {u v : Nat} : v ≠ 0 → Anc par u (par v) → Anc par u v
theorem Anc.trans {par : Nat → Nat} {a b c : Nat} (h1 : Anc par a b) (h2 : Anc par b c) : Anc par a c := by
  induction h2 with
  | refl => exact h1
  | up h _ ih => exact .up h ih
theorem Anc.s {S : Nat → Prop} {par p : Nat → Nat} (ht : TreeS S par p) {u v : Nat} (h : Anc par u v) : S v → S u ∧ p u ≤ p v := by
  induction h with
  | refl => exact fun h => ⟨h, Nat.le_refl _⟩
  | @up v h0 _ ih =>
    intro hv
    obtain ⟨h1, h2⟩ := ht.up v hv h0
    obtain ⟨h3, h4⟩ := ih h1
    exact ⟨h3, by omega⟩
theorem Anc.of_zero {par : Nat → Nat} {u v : Nat} (h : Anc par u v) (h0 : v = 0) : u = 0 := by
  cases h with
  | refl => exact h0
  | up h _ => exact absurd h0 h
/-- the nearest that is over both -/
def meetN (par p : Nat → Nat) : Nat → Nat → Nat → Nat
  | 0, a, b => a
  | k + 1, a, b => if a = b then a else if p b < p a then meetN par p k (par a) b else meetN par p k a (par b)
theorem meetN_spec {S : Nat → Prop} {par p : Nat → Nat} (ht : TreeS S par p) : ∀ (k a b : Nat), S a → S b → p a + p b ≤ k → Anc par (meetN par p k a b) a ∧ Anc par (meetN par p k a b) b
  | 0, a, b, ha, hb, hk => by
    have : a = b := ht.inj a b ha hb (by omega)
    subst this
    exact ⟨.refl _, .refl _⟩
  | k + 1, a, b, ha, hb, hk => by
    unfold meetN
    by_cases e : a = b
    · rw [if_pos e]; subst e; exact ⟨.refl _, .refl _⟩
    · rw [if_neg e]
      by_cases hp : p b < p a
      · rw [if_pos hp]
        have h0 : a ≠ 0 := fun h => by rw [h, ht.zero] at hp; omega
        obtain ⟨h1, h2⟩ := ht.up a ha h0
        obtain ⟨h3, h4⟩ := meetN_spec ht k (par a) b h1 hb (by omega)
        exact ⟨.up h0 h3, h4⟩
      · rw [if_neg hp]
        have hp2 : p a ≠ p b := fun h => e (ht.inj a b ha hb h)
        have h0 : b ≠ 0 := fun h => by rw [h, ht.zero] at hp hp2; omega
        obtain ⟨h1, h2⟩ := ht.up b hb h0
        obtain ⟨h3, h4⟩ := meetN_spec ht k a (par b) ha h1 (by omega)
        exact ⟨h3, .up h0 h4⟩
/-- more rounds than needed change nothing -/
theorem meetN_fuel {S : Nat → Prop} {par p : Nat → Nat} (ht : TreeS S par p) : ∀ (k l a b : Nat), S a → S b → p a + p b ≤ k → p a + p b ≤ l → meetN par p k a b = meetN par p l a b
  | 0, 0, a, b, _, _, _, _ => rfl
  | 0, l + 1, a, b, ha, hb, hk, _ => by
    have : a = b := ht.inj a b ha hb (by omega)
    subst this
    unfold meetN; rw [if_pos rfl]
  | k + 1, 0, a, b, ha, hb, _, hl => by
    have : a = b := ht.inj a b ha hb (by omega)
    subst this
    unfold meetN; rw [if_pos rfl]
  | k + 1, l + 1, a, b, ha, hb, hk, hl => by
    unfold meetN
    by_cases e : a = b
    · rw [if_pos e, if_pos e]
    · rw [if_neg e, if_neg e]
      by_cases hp : p b < p a
      · have h0 : a ≠ 0 := fun h => by rw [h, ht.zero] at hp; omega
        obtain ⟨h1, h2⟩ := ht.up a ha h0
        rw [if_pos hp, if_pos hp]
        exact meetN_fuel ht k l _ b h1 hb (by omega) (by omega)
      · have hp2 : p a ≠ p b := fun h => e (ht.inj a b ha hb h)
        have h0 : b ≠ 0 := fun h => by rw [h, ht.zero] at hp hp2; omega
        obtain ⟨h1, h2⟩ := ht.up b hb h0
        rw [if_neg hp, if_neg hp]
        exact meetN_fuel ht k l a _ ha h1 (by omega) (by omega)
def Keeps2 (g : List (List Int)) (S : Nat → Prop) (par : Nat → Nat) : Prop := ∀ v, S v → v ≠ 0 → ∀ d, d ≠ v → Dom g d v → Dom g d (par v)
theorem meetN_dom {g : List (List Int)} (hr : rightB g = true) {S : Nat → Prop} {par : Nat → Nat} (ht : TreeS S par (pos g)) (hs : ∀ v, S v → Way g 0 v) (h2 : Keeps2 g S par) {d : Nat} :
    ∀ (k a b : Nat), S a → S b → Dom g d a → Dom g d b → Dom g d (meetN par (pos g) k a b)
  | 0, a, b, ha, hb, da, db => da
  | k + 1, a, b, ha, hb, da, db => by
    unfold meetN
    by_cases e : a = b
    · rw [if_pos e]; exact da
    · rw [if_neg e]
      by_cases hp : pos g b < pos g a
      · rw [if_pos hp]
        have h0 : a ≠ 0 := fun h => by rw [h, ht.zero] at hp; omega
        obtain ⟨h1, _⟩ := ht.up a ha h0
        refine meetN_dom hr ht hs h2 k (par a) b h1 hb (h2 a ha h0 d (fun e2 => ?_) da) db
        subst e2
        have := db.le hr (hs b hb); omega
      · rw [if_neg hp]
        have hp2 : pos g a ≠ pos g b := fun h => e (ht.inj a b ha hb h)
        have h0 : b ≠ 0 := fun h => by rw [h, ht.zero] at hp hp2; omega
        obtain ⟨h1, _⟩ := ht.up b hb h0
        refine meetN_dom hr ht hs h2 k a (par b) ha h1 da (h2 b hb h0 d (fun e2 => ?_) db)
        subst e2
        have := da.le hr (hs a ha); omega

def upd (par : Nat → Nat) (v b : Nat) : Nat → Nat := fun w => if w = v then b else par w
theorem upd_same (par : Nat → Nat) (v b : Nat) : upd par v b v = b := by unfold upd; rw [if_pos rfl]
theorem upd_other {par : Nat → Nat} {v b w : Nat} (h : w ≠ v) : upd par v b w = par w := by unfold upd; rw [if_neg h]
theorem anc_upd {par : Nat → Nat} {v b u w : Nat} (h : Anc (upd par v b) u w) : Anc par u w ∨ (Anc par v w ∧ Anc (upd par v b) u v) := by
  induction h with
  | refl => exact .inl (.refl _)
  | @up w h0 h ih =>
    by_cases e : w = v
    · subst e; exact .inr ⟨.refl _, .up h0 h⟩
    · rw [upd_other e] at ih
      rcases ih with ih | ⟨i1, i2⟩
      · exact .inl (.up h0 ih)
      · exact .inr ⟨.up h0 i1, i2⟩
structure PassInv (g : List (List Int)) (k j : Nat) (S : Nat → Prop) (par : Nat → Nat) : Prop where
  tree : TreeS S par (pos g)
  sub : ∀ v, S v → Way g 0 v
  had : ∀ v, Way g 0 v → pos g v < j → S v
  all : 2 ≤ k → ∀ v, Way g 0 v → S v
  i2 : Keeps2 g S par
  a : ∀ w, S w → pos g w < j → ∀ u, Anc par u w → ¬ AWN g u k w
  b : ∀ w, S w → j ≤ pos g w → ∀ u, Anc par u w → ¬ AWN g u (k - 1) w
theorem PassInv.init {g : List (List Int)} (hr : rightB g = true) (par : Nat → Nat) : PassInv g 1 1 (fun v => v = 0) par := by
  have h0 := pos_zero hr
  refine ⟨⟨rfl, h0, fun v hv hn => absurd hv hn, fun u v hu hv _ => by rw [hu, hv]⟩, fun v hv => by subst hv; exact .refl _, fun v hv hp => ?_, fun h => by omega, fun v hv hn => absurd hv hn, fun w hw hp u hu => ?_, fun w hw hp => ?_⟩
  · exact pos_inj hr hv (.refl _) (by rw [h0]; omega)
  · subst hw
    have := hu.of_zero rfl
    subst this
    exact fun h => h.ne rfl
  · subst hw; omega
theorem PassInv.next {g : List (List Int)} (hr : rightB g = true) {k m : Nat} {S : Nat → Prop} {par : Nat → Nat} (hk : 1 ≤ k) (h : PassInv g k m S par) (hm : ∀ v, Way g 0 v → pos g v < m) : PassInv g (k + 1) 1 S par := by
  refine ⟨h.tree, h.sub, fun v hv _ => h.had v hv (hm v hv), fun _ v hv => h.had v hv (hm v hv), h.i2, fun w hw hp u hu => ?_, fun w hw _ u hu => h.a w hw (hm w (h.sub w hw)) u hu⟩
  have : w = 0 := h.tree.inj w 0 hw h.tree.root (by rw [h.tree.zero]; omega)
  subst this
  have := hu.of_zero rfl
  subst this
  exact fun h => h.ne rfl
/-- what the nearest of some is -/
structure Near (g : List (List Int)) (S : Nat → Prop) (par : Nat → Nat) (v b : Nat) : Prop where
  s : S b
  lt : pos g b < pos g v
  anc : ∀ p, Edge g p v → S p → Anc par b p
  dom : ∀ d, d ≠ v → Dom g d v → Dom g d b
theorem PassInv.step {g : List (List Int)} (hr : rightB g = true) {k v : Nat} {S : Nat → Prop} {par : Nat → Nat} (hk : 1 ≤ k) (hv : Way g 0 v) (hv0 : v ≠ 0) (h : PassInv g k (pos g v) S par) {b : Nat} (hb : Near g S par v b) :
    PassInv g k (pos g v + 1) (fun w => S w ∨ w = v) (upd par v b) := by
  have hvb : b ≠ v := fun e => by have := hb.lt; rw [e] at this; omega
  have below : ∀ u w, S w → pos g w < pos g v → Anc (upd par v b) u w → Anc par u w := by
    intro u w hw hp ha
    rcases anc_upd ha with h1 | ⟨h1, _⟩
    · exact h1
    · have := (h1.s h.tree hw).2; omega
  have hav : ∀ u, Anc (upd par v b) u v → ¬ AWN g u k v := by
    intro u hu hw
    have hu2 : u = v ∨ Anc (upd par v b) u b := by
      cases hu with
      | refl => exact .inl rfl
      | up _ hx => rw [upd_same] at hx; exact .inr hx
    rcases hu2 with rfl | hu2
    · exact hw.ne rfl
    · have hub := below u b hb.s hb.lt hu2
      cases hw with
      | zero => exact hv0 rfl
      | @step k' p _ hwp he hne =>
        have hpw : Way g 0 p := hwp.way
        by_cases hSp : S p
        · have hup := hub.trans (hb.anc p he hSp)
          by_cases hpp : pos g p < pos g v
          · exact h.a p hSp hpp u hup hwp.mono1
          · exact h.b p hSp (by omega) u hup (by simpa using hwp)
        · by_cases h2 : 2 ≤ k' + 1
          · exact hSp (h.all h2 p hpw)
          · obtain rfl : k' = 0 := by omega
            cases hwp with
            | zero => exact hSp h.tree.root
  refine ⟨⟨.inl h.tree.root, h.tree.zero, fun w hw hw0 => ?_, fun u w hu hw hp => ?_⟩, fun w hw => ?_, fun w hw hp => ?_, fun h2 w hw => .inl (h.all h2 w hw), fun w hw hw0 d hd hdom => ?_, fun w hw hp u hu => ?_, fun w hw hp u hu => ?_⟩
  · by_cases e : w = v
    · subst e; rw [upd_same]; exact ⟨.inl hb.s, hb.lt⟩
    · rw [upd_other e]
      have := h.tree.up w (hw.resolve_right e) hw0
      exact ⟨.inl this.1, this.2⟩
  · have hu' : Way g 0 u := hu.elim (h.sub u) (fun e => e ▸ hv)
    have hw' : Way g 0 w := hw.elim (h.sub w) (fun e => e ▸ hv)
    exact pos_inj hr hu' hw' hp
  · exact hw.elim (h.sub w) (fun e => e ▸ hv)
  · by_cases e : pos g w < pos g v
    · exact .inl (h.had w hw e)
    · exact .inr (pos_inj hr hw hv (by omega))
  · by_cases e : w = v
    · subst e; rw [upd_same]; exact hb.dom d hd hdom
    · rw [upd_other e]; exact h.i2 w (hw.resolve_right e) hw0 d hd hdom
  · by_cases e : w = v
    · subst e; exact hav u hu
    · have hSw := hw.resolve_right e
      have hpw : pos g w < pos g v := by
        have : pos g w ≠ pos g v := fun e2 => e (pos_inj hr (h.sub w hSw) hv e2)
        omega
      exact h.a w hSw hpw u (below u w hSw hpw hu)
  · have e : w ≠ v := fun e => by subst e; omega
    have hSw := hw.resolve_right e
    rcases anc_upd hu with h1 | ⟨h1, h2⟩
    · exact h.b w hSw (by omega) u h1
    · intro haw
      rcases haw.split (v := v) with h3 | h3
      · exact h.b w hSw (by omega) v h1 h3
      · exact hav u h2 (h3.mono (by omega))

theorem bound_all {P : Nat → Nat → Prop} (hm : ∀ i k l, P i k → k ≤ l → P i l) : ∀ n : Nat, (∀ i, i < n → ∃ k, P i k) → ∃ K, ∀ i, i < n → P i K
  | 0, _ => ⟨0, fun i h => by omega⟩
  | n + 1, h => by
    obtain ⟨K, hK⟩ := bound_all hm n (fun i hi => h i (by omega))
    obtain ⟨k, hk⟩ := h n (by omega)
    refine ⟨K + k, fun i hi => ?_⟩
    by_cases e : i = n
    · subst e; exact hm _ _ _ hk (by omega)
    · exact hm _ _ _ (hK i (by omega)) (by omega)
/-- there is a number of edges by which all that can be reached past a block is reached -/
theorem awn_bound (g : List (List Int)) (n : Nat) : ∃ K, ∀ u, u < n → ∀ v, v < n → ∀ k, AWN g u k v → AWN g u K v := by
  have h1 : ∀ u, u < n → ∃ K, ∀ v, v < n → ∀ k, AWN g u k v → AWN g u K v := by
    intro u hu
    refine bound_all (P := fun v K => ∀ k, AWN g u k v → AWN g u K v) (fun v k l h hkl m hm => (h m hm).mono hkl) n fun v hv => ?_
    by_cases h : ∃ k, AWN g u k v
    · obtain ⟨k, hk⟩ := h
      exact ⟨k, fun _ _ => hk⟩
    · exact ⟨0, fun m hm => absurd ⟨m, hm⟩ h⟩
  exact bound_all (P := fun u K => ∀ v, v < n → ∀ k, AWN g u k v → AWN g u K v) (fun u k l h hkl v hv m hm => (h v hv m hm).mono hkl) n h1

/-- a block's nearest dominator -/
structure IsIdom (g : List (List Int)) (v b : Nat) : Prop where
  way : Way g 0 b
  ne : b ≠ v
  dom : Dom g b v
  near : ∀ d, d ≠ v → Dom g d v → Dom g d b
theorem IsIdom.unique {g : List (List Int)} (hr : rightB g = true) {v a b : Nat} (h1 : IsIdom g v a) (h2 : IsIdom g v b) : a = b :=
  Dom.antisymm hr h1.way h2.way (h2.near a h1.ne h1.dom) (h1.near b h2.ne h2.dom)
theorem PassInv.idom {g : List (List Int)} (hr : rightB g = true) {n K k j : Nat} (hn : ∀ v, Way g 0 v → v < n) (hK : ∀ u, u < n → ∀ v, v < n → ∀ k, AWN g u k v → AWN g u K v) {S : Nat → Prop} {par : Nat → Nat} (hk : K ≤ k) (h : PassInv g k j S par) {v : Nat} (hv : S v) (hp : pos g v < j) (h0 : v ≠ 0) : IsIdom g v (par v) := by
  obtain ⟨h1, h2⟩ := h.tree.up v hv h0
  refine ⟨h.sub _ h1, fun e => by rw [e] at h2; omega, fun m hm => ?_, h.i2 v hv h0⟩
  exact h.a v hv hp (par v) (.up h0 (.refl _)) ((hK _ (hn _ (h.sub _ h1)) _ (hn _ (h.sub _ hv)) m hm).mono hk)
end Go.Proofs.Ytkmbhknmjnbanaa.A


namespace Go.Proofs.Ytkmbhknmjnbanaa.A
set_option linter.unusedVariables false
set_option linter.unusedSimpArgs false

def parL (D : List Int) (v : Nat) : Nat := (D.getD v 0).toNat
def nstep (g : List (List Int)) (D : List Int) (best x : Int) : Int :=
  if D.getD x.toNat 0 = -1 then best else if best = -1 then x else (meetN (parL D) (pos g) (2 * g.length) best.toNat x.toNat : Nat)
def nearestL (g : List (List Int)) (D : List Int) (l : List Int) : Int := l.foldl (nstep g D) (-1)
theorem nearestL_snoc (g : List (List Int)) (D : List Int) (l : List Int) (x : Int) : nearestL g D (l ++ [x]) = nstep g D (nearestL g D l) x := by simp [nearestL]
def pstep (g : List (List Int)) (s : List Int × Bool) (x : Int) : List Int × Bool :=
  let b := nearestL g s.1 (rowOf (predsOf g) x.toNat)
  if b = s.1.getD x.toNat 0 then s else (s.1.set x.toNat b, true)
def passL (g : List (List Int)) (l : List Int) (s : List Int × Bool) : List Int × Bool := l.foldl (pstep g) s
def passA (g : List (List Int)) (D : List Int) : List Int × Bool := passL g (orderOf g).tail (D, false)
def runO (g : List (List Int)) : Nat → List Int → Option (List Int)
  | 0, _ => none
  | k + 1, D => if (passA g D).2 = true then runO g k (passA g D).1 else some (passA g D).1
def dom0 (g : List (List Int)) : List Int := (List.replicate g.length (-1)).set 0 0
/-- what dom.Idom answers, if so many rounds suffice -/
def idomO (g : List (List Int)) (k : Nat) : Option (List Int) := if rightB g = true then (runO g k (dom0 g)).map fun R => R.set 0 (-1) else some []

/-- a row of parents stands for a tree -/
structure ListInv (g : List (List Int)) (k j : Nat) (S : Nat → Prop) (D : List Int) : Prop where
  len : D.length = g.length
  root : D.getD 0 0 = 0
  yes : ∀ v, S v → 0 ≤ D.getD v 0
  no : ∀ v, v < g.length → ¬ S v → D.getD v 0 = -1
  inv : PassInv g k j S (parL D)
theorem ListInv.cast {g : List (List Int)} {k j : Nat} {S : Nat → Prop} {D : List Int} (h : ListInv g k j S D) {v : Nat} (hv : S v) : D.getD v 0 = (parL D v : Int) := by
  have := h.yes v hv
  unfold parL; omega

theorem snoc_of {α : Type} (l : List α) (h : l ≠ []) : ∃ l' x, l = l' ++ [x] := by
  cases hr : l.reverse with
  | nil => exact absurd (by simpa using hr) h
  | cons x t => exact ⟨t.reverse, x, by have e := congrArg List.reverse hr; rw [List.reverse_reverse, List.reverse_cons] at e; exact e⟩
section
variable {g : List (List Int)}
theorem reach_lt (hr : rightB g = true) {v : Nat} (hv : Way g 0 v) : v < g.length := by
  obtain ⟨h1, h2, hg⟩ := right_rows hr
  exact hv.lt hg (by omega)
theorem pos_bound (hr : rightB g = true) {v : Nat} (hv : Way g 0 v) : pos g v < g.length := by
  have := (pos_lt hr hv).1
  have := orderOf_len g
  omega
theorem near_fold (hr : rightB g = true) {k j : Nat} {S : Nat → Prop} {D : List Int} (h : ListInv g k j S D) {v : Nat} :
    ∀ l : List Int, (∀ x ∈ l, ∃ p : Nat, x = p ∧ p < g.length ∧ Edge g p v) →
      (nearestL g D l = -1 ∧ ∀ p : Nat, (p : Int) ∈ l → ¬ S p) ∨ ∃ b : Nat, nearestL g D l = b ∧ S b ∧ (∃ p : Nat, (p : Int) ∈ l ∧ S p) ∧ (∀ p : Nat, (p : Int) ∈ l → S p → Anc (parL D) b p) ∧ ∀ d, (∀ p : Nat, (p : Int) ∈ l → S p → Dom g d p) → Dom g d b := by
  intro l
  induction hl : l.length generalizing l with
  | zero =>
    intro _
    have : l = [] := List.eq_nil_of_length_eq_zero hl
    subst this
    exact .inl ⟨rfl, fun p hp => by simp at hp⟩
  | succ n ih =>
    intro hall
    obtain ⟨l', x, rfl⟩ := snoc_of l (by intro e; subst e; simp at hl)
    obtain ⟨p, rfl, hpl, hpe⟩ := hall x (by simp)
    have ih' := ih l' (by simpa using hl) (fun y hy => hall y (List.mem_append_left _ hy))
    rw [nearestL_snoc]
    unfold nstep
    rw [Int.toNat_natCast]
    by_cases hS : S p
    · have hD : D.getD p 0 ≠ -1 := by have := h.yes p hS; omega
      rw [if_neg hD]
      rcases ih' with ⟨e, hno⟩ | ⟨b, e, hb, _, hanc, hdom⟩
      · rw [e, if_pos rfl]
        refine .inr ⟨p, rfl, hS, ⟨p, by simp, hS⟩, fun q hq hqS => ?_, fun d hd => hd p (by simp) hS⟩
        rcases List.mem_append.1 hq with hq | hq
        · exact absurd hqS (hno q hq)
        · simp only [List.mem_singleton] at hq
          obtain rfl : q = p := by omega
          exact .refl _
      · rw [e, if_neg (by omega), Int.toNat_natCast]
        have hk : pos g b + pos g p ≤ 2 * g.length := by
          have := pos_bound hr (h.inv.sub b hb)
          have := pos_bound hr (h.inv.sub p hS)
          omega
        obtain ⟨m1, m2⟩ := meetN_spec h.inv.tree _ b p hb hS hk
        refine .inr ⟨_, rfl, (m1.s h.inv.tree hb).1, ⟨p, by simp, hS⟩, fun q hq hqS => ?_, fun d hd => ?_⟩
        · rcases List.mem_append.1 hq with hq | hq
          · exact m1.trans (hanc q hq hqS)
          · simp only [List.mem_singleton] at hq
            obtain rfl : q = p := by omega
            exact m2
        · exact meetN_dom hr h.inv.tree h.inv.sub h.inv.i2 _ b p hb hS (hdom d fun q hq hqS => hd q (List.mem_append_left _ hq) hqS) (hd p (by simp) hS)
    · rw [if_pos (h.no p hpl hS)]
      rcases ih' with ⟨e, hno⟩ | ⟨b, e, hb, ⟨p0, hp0, hp0S⟩, hanc, hdom⟩
      · refine .inl ⟨e, fun q hq => ?_⟩
        rcases List.mem_append.1 hq with hq | hq
        · exact hno q hq
        · simp only [List.mem_singleton] at hq
          obtain rfl : q = p := by omega
          exact hS
      · refine .inr ⟨b, e, hb, ⟨p0, List.mem_append_left _ hp0, hp0S⟩, fun q hq hqS => ?_, fun d hd => hdom d fun q hq hqS => hd q (List.mem_append_left _ hq) hqS⟩
        rcases List.mem_append.1 hq with hq | hq
        · exact hanc q hq hqS
        · simp only [List.mem_singleton] at hq
          obtain rfl : q = p := by omega
          exact absurd hqS hS
theorem near_spec (hr : rightB g = true) {k : Nat} {S : Nat → Prop} {D : List Int} {v : Nat} (hv : Way g 0 v) (hv0 : v ≠ 0) (h : ListInv g k (pos g v) S D) :
    ∃ b : Nat, nearestL g D (rowOf (predsOf g) v) = b ∧ Near g S (parL D) v b := by
  obtain ⟨h1, h2, hg⟩ := right_rows hr
  have hmem : ∀ p : Nat, (p : Int) ∈ rowOf (predsOf g) v ↔ Edge g p v := by
    intro p
    rw [predsOf_mem hg]
    constructor
    · rintro ⟨i, _, e, he⟩
      obtain rfl : p = i := by omega
      exact he
    · intro he; exact ⟨p, he.lt1, rfl, he⟩
  obtain ⟨q, hq, hqe, hqp⟩ := pos_parent hr hv hv0
  have hqS := h.inv.had q hq hqp
  rcases near_fold hr h (v := v) (rowOf (predsOf g) v) (fun x hx => by
    obtain ⟨i, hi, rfl, he⟩ := (predsOf_mem hg v x).1 hx
    exact ⟨i, rfl, hi, he⟩) with ⟨_, hno⟩ | ⟨b, e, hb, _, hanc, hdom⟩
  · exact absurd hqS (hno q ((hmem q).2 hqe))
  · refine ⟨b, e, hb, ?_, fun p hp hS => hanc p ((hmem p).2 hp) hS, fun d hd hdv => hdom d fun p hp _ => hdv.pred ((hmem p).1 hp) hd⟩
    have := ((hanc q ((hmem q).2 hqe) hqS).s h.inv.tree hqS).2
    omega
theorem getD_set {D : List Int} {v : Nat} (hv : v < D.length) (b : Int) (w : Nat) : (D.set v b).getD w 0 = if w = v then b else D.getD w 0 := by
  rw [List.getD_eq_getElem?_getD, List.getElem?_set, List.getD_eq_getElem?_getD]
  by_cases e : v = w
  · subst e; simp [hv]
  · rw [if_neg e, if_neg (fun h => e h.symm)]
theorem parL_set {D : List Int} {v b : Nat} (hv : v < D.length) : parL (D.set v b) = upd (parL D) v b := by
  funext w
  unfold parL upd
  rw [getD_set hv]
  by_cases e : w = v
  · rw [if_pos e, if_pos e, Int.toNat_natCast]
  · rw [if_neg e, if_neg e]
theorem upd_self {par : Nat → Nat} {v b : Nat} (h : par v = b) : upd par v b = par := by
  funext w
  unfold upd
  by_cases e : w = v
  · rw [if_pos e, e, h]
  · rw [if_neg e]
/-- one block of a round -/
theorem pstep_spec (hr : rightB g = true) {k : Nat} (hk : 1 ≤ k) {S : Nat → Prop} {D : List Int} {more : Bool} {v : Nat} (hv : Way g 0 v) (hv0 : v ≠ 0) (h : ListInv g k (pos g v) S D) :
    ∃ D' more', pstep g (D, more) (v : Int) = (D', more') ∧ ListInv g k (pos g v + 1) (fun w => S w ∨ w = v) D' ∧ ((D' = D ∧ more' = more) ∨ (more' = true ∧ D'.getD v 0 ≠ D.getD v 0)) ∧ ∀ w, w ≠ v → D'.getD w 0 = D.getD w 0 := by
  obtain ⟨b, e, hb⟩ := near_spec hr hv hv0 h
  have hvl := reach_lt hr hv
  have hD : v < D.length := by rw [h.len]; exact hvl
  have hp := h.inv.step hr hk hv hv0 hb
  unfold pstep
  rw [Int.toNat_natCast, e]
  by_cases hc : (b : Int) = D.getD v 0
  · refine ⟨D, more, by dsimp only; rw [if_pos hc], ?_, .inl ⟨rfl, rfl⟩, fun _ _ => rfl⟩
    have hpar : parL D v = b := by unfold parL; rw [← hc, Int.toNat_natCast]
    rw [upd_self hpar] at hp
    refine ⟨h.len, h.root, fun w hw => ?_, fun w hw hn => h.no w hw fun hS => hn (.inl hS), hp⟩
    rcases hw with hw | rfl
    · exact h.yes w hw
    · rw [← hc]; omega
  · refine ⟨D.set v b, true, by dsimp only; rw [if_neg hc], ?_, .inr ⟨rfl, by rw [getD_set hD, if_pos rfl]; exact hc⟩, fun w hw => by rw [getD_set hD, if_neg hw]⟩
    refine ⟨by rw [List.length_set, h.len], ?_, fun w hw => ?_, fun w hw hn => ?_, by rw [parL_set hD]; exact hp⟩
    · rw [getD_set hD, if_neg (fun e => hv0 e.symm), h.root]
    · rw [getD_set hD]
      by_cases ew : w = v
      · rw [if_pos ew]; omega
      · rw [if_neg ew]; exact h.yes w (hw.resolve_right ew)
    · rw [getD_set hD, if_neg (fun ew => hn (.inr ew)), h.no w hw (fun hS => hn (.inl hS))]
/-- a round from place j on -/
theorem pass_from (hr : rightB g = true) {k : Nat} (hk : 1 ≤ k) : ∀ (d j : Nat) (S : Nat → Prop) (D : List Int) (more : Bool), 1 ≤ j → j + d = (orderOf g).length → ListInv g k j S D →
    ∃ S' D' more', passL g ((orderOf g).drop j) (D, more) = (D', more') ∧ ListInv g k (orderOf g).length S' D' ∧ (more' = false → D' = D ∧ more = false) ∧ (D' = D → more' = more) ∧ ∀ w, Way g 0 w → pos g w < j → D'.getD w 0 = D.getD w 0 := by
  intro d
  induction d with
  | zero =>
    intro j S D more hj hd h
    obtain rfl : j = (orderOf g).length := by omega
    exact ⟨S, D, more, by rw [List.drop_length]; rfl, h, fun e => ⟨rfl, e⟩, fun _ => rfl, fun _ _ _ => rfl⟩
  | succ d ih =>
    intro j S D more hj hd h
    have hlt : j < (orderOf g).length := by omega
    obtain ⟨v, ev, hv, hp⟩ := pos_at hr hlt
    have hv0 : v ≠ 0 := fun e => by rw [e, pos_zero hr] at hp; omega
    subst hp
    obtain ⟨D1, more1, e1, h1, h2, h0⟩ := pstep_spec hr hk (more := more) hv hv0 h
    obtain ⟨S2, D2, more2, e2, h3, h5, h6, h7⟩ := ih (pos g v + 1) _ D1 more1 (by omega) (by omega) h1
    refine ⟨S2, D2, more2, ?_, h3, fun e => ?_, fun e => ?_, fun w hw hp => ?_⟩
    · rw [List.drop_eq_getElem_cons hlt, ev]
      show passL g _ (pstep g (D, more) (v : Int)) = _
      rw [e1, e2]
    · obtain ⟨e3, e4⟩ := h5 e
      rcases h2 with ⟨e5, e6⟩ | ⟨e5, _⟩
      · exact ⟨e3.trans e5, e6 ▸ e4⟩
      · rw [e5] at e4; cases e4
    · rcases h2 with ⟨e5, e6⟩ | ⟨_, e5⟩
      · rw [h6 (e.trans e5.symm), e6]
      · exfalso
        apply e5
        rw [← h7 v hv (by omega), e]
    · rw [h7 w hw (by omega), h0 w (fun e => by subst e; omega)]
theorem tail_drop (l : List Int) : l.tail = l.drop 1 := by cases l <;> simp
theorem pass_spec (hr : rightB g = true) {k : Nat} (hk : 1 ≤ k) {S : Nat → Prop} {D : List Int} (h : ListInv g k 1 S D) :
    ∃ S' D' more', passA g D = (D', more') ∧ ListInv g k (orderOf g).length S' D' ∧ (more' = false → D' = D) ∧ (D' = D → more' = false) := by
  have hl : 1 ≤ (orderOf g).length := by
    have h1 := (pos_lt hr (.refl 0)).1; omega
  obtain ⟨S', D', m', e, h1, h3, h4, _⟩ := pass_from hr hk ((orderOf g).length - 1) 1 S D false (Nat.le_refl _) (by omega) h
  exact ⟨S', D', m', by unfold passA; rw [tail_drop]; exact e, h1, fun e => (h3 e).1, h4⟩
theorem ListInv.next (hr : rightB g = true) {k : Nat} (hk : 1 ≤ k) {S : Nat → Prop} {D : List Int} (h : ListInv g k (orderOf g).length S D) : ListInv g (k + 1) 1 S D :=
  ⟨h.len, h.root, h.yes, h.no, h.inv.next hr hk fun v hv => (pos_lt hr hv).1⟩
/-- nothing changes any more: so it stays however often one goes on -/
theorem stay (hr : rightB g = true) {D : List Int} (hD : passA g D = (D, false)) : ∀ (d k : Nat) (S : Nat → Prop), 1 ≤ k → ListInv g k (orderOf g).length S D → ∃ S', ListInv g (k + d) (orderOf g).length S' D
  | 0, k, S, hk, h => ⟨S, h⟩
  | d + 1, k, S, hk, h => by
    obtain ⟨S', D', m', e, h1, _⟩ := pass_spec hr (by omega) (h.next hr hk)
    rw [hD, Prod.mk.injEq] at e
    obtain ⟨rfl, _⟩ := e
    obtain ⟨S2, h2⟩ := stay hr hD d (k + 1) S' (by omega) h1
    exact ⟨S2, by rwa [show k + (d + 1) = k + 1 + d by omega]⟩
/-- the row of all nearest dominators; the entry's own is itself -/
structure IdomRow (g : List (List Int)) (R : List Int) : Prop where
  len : R.length = g.length
  root : R.getD 0 0 = 0
  yes : ∀ v, Way g 0 v → v ≠ 0 → ∃ b : Nat, R.getD v 0 = b ∧ IsIdom g v b
  no : ∀ v, v < g.length → ¬ Way g 0 v → R.getD v 0 = -1
theorem ListInv.row (hr : rightB g = true) {K k : Nat} (hK : ∀ u, u < g.length → ∀ v, v < g.length → ∀ k, AWN g u k v → AWN g u K v) (hk : K ≤ k) {S : Nat → Prop} {R : List Int} (h : ListInv g k (orderOf g).length S R) : IdomRow g R :=
  ⟨h.len, h.root, fun v hv h0 => by
    have hp := (pos_lt hr hv).1
    have hS := h.inv.had v hv hp
    exact ⟨parL R v, h.cast hS, h.inv.idom hr (fun v hv => reach_lt hr hv) hK hk hS hp h0⟩, fun v hv hn => h.no v hv fun hS => hn (h.inv.sub v hS)⟩
theorem IdomRow.same (hr : rightB g = true) {A B : List Int} (hA : IdomRow g A) (hB : IdomRow g B) : A = B := by
  refine List.ext_getElem (hA.len.trans hB.len.symm) fun i h1 h2 => ?_
  have e : A.getD i 0 = B.getD i 0 := by
    by_cases h0 : i = 0
    · subst h0; rw [hA.root, hB.root]
    · by_cases hw : Way g 0 i
      · obtain ⟨a, ea, ia⟩ := hA.yes i hw h0
        obtain ⟨b, eb, ib⟩ := hB.yes i hw h0
        rw [ea, eb, ia.unique hr ib]
      · have := hA.len
        rw [hA.no i (by omega) hw, hB.no i (by omega) hw]
  rwa [List.getD_eq_getElem?_getD, List.getD_eq_getElem?_getD, List.getElem?_eq_getElem h1, List.getElem?_eq_getElem h2] at e
theorem runs_end (hr : rightB g = true) {K : Nat} (hK : ∀ u, u < g.length → ∀ v, v < g.length → ∀ k, AWN g u k v → AWN g u K v) : ∀ (f k : Nat) (S : Nat → Prop) (D : List Int), 1 ≤ k → K ≤ k + f → ListInv g k (orderOf g).length S D → ∃ R, (∀ n, f + 1 ≤ n → runO g n D = some R) ∧ IdomRow g R
  | 0, k, S, D, hk, hf, h => by
    obtain ⟨S1, D1, m1, e1, h1, h2, h3⟩ := pass_spec hr (by omega) (h.next hr hk)
    have r0 := h.row hr hK (by omega)
    have e : D1 = D := (h1.row hr hK (by omega)).same hr r0
    have hm := h3 e
    subst hm; subst e
    refine ⟨D1, fun n hn => ?_, r0⟩
    obtain ⟨n, rfl⟩ : ∃ m, n = m + 1 := ⟨n - 1, by omega⟩
    unfold runO
    rw [e1]; rfl
  | f + 1, k, S, D, hk, hf, h => by
    obtain ⟨S1, D1, m1, e1, h1, h2, h3⟩ := pass_spec hr (by omega) (h.next hr hk)
    cases hm : m1 with
    | false =>
      have hD := h2 hm
      subst hD
      rw [hm] at e1
      obtain ⟨S2, h4⟩ := stay hr e1 K k S hk h
      refine ⟨D1, fun n hn => ?_, h4.row hr hK (by omega)⟩
      obtain ⟨n, rfl⟩ : ∃ m, n = m + 1 := ⟨n - 1, by omega⟩
      unfold runO
      rw [e1]; rfl
    | true =>
      obtain ⟨R, hR, hrow⟩ := runs_end hr hK f (k + 1) S1 D1 (by omega) (by omega) h1
      refine ⟨R, fun n hn => ?_, hrow⟩
      obtain ⟨n, rfl⟩ : ∃ m, n = m + 1 := ⟨n - 1, by omega⟩
      unfold runO
      rw [e1, hm]
      exact hR n (by omega)
theorem dom0_inv (hr : rightB g = true) : ListInv g 1 1 (fun v => v = 0) (dom0 g) := by
  obtain ⟨h1, h2, hg⟩ := right_rows hr
  have hl : 0 < (List.replicate g.length (-1 : Int)).length := by simp; omega
  refine ⟨by simp [dom0], by unfold dom0; rw [getD_set hl, if_pos rfl], fun v hv => by subst hv; unfold dom0; rw [getD_set hl, if_pos rfl]; omega, fun v hv hn => ?_, PassInv.init hr _⟩
  unfold dom0
  rw [getD_set hl, if_neg hn, List.getD_eq_getElem?_getD, List.getElem?_replicate, if_pos hv]
  rfl
/-- with enough rounds: the row of all nearest dominators -/
theorem idom_ev (hr : rightB g = true) : ∃ R, Evt (fun k => idomO g k) (R.set 0 (-1)) ∧ IdomRow g R := by
  obtain ⟨K, hK⟩ := awn_bound g g.length
  obtain ⟨S1, D1, m1, e1, h1, h2, h3⟩ := pass_spec hr (Nat.le_refl 1) (dom0_inv hr)
  have wrap : ∀ R, (∃ N, ∀ n, N ≤ n → runO g n (dom0 g) = some R) → Evt (fun k => idomO g k) (R.set 0 (-1)) := fun R ⟨N, hN⟩ => ⟨N, fun k hk => by show idomO g k = _; unfold idomO; rw [if_pos hr, hN k hk]; rfl⟩
  cases hm : m1 with
  | false =>
    have hD := h2 hm
    subst hD
    rw [hm] at e1
    obtain ⟨S2, h4⟩ := stay hr e1 K 1 S1 (Nat.le_refl 1) h1
    refine ⟨_, wrap _ ⟨1, fun n hn => ?_⟩, h4.row hr hK (by omega)⟩
    obtain ⟨n, rfl⟩ : ∃ m, n = m + 1 := ⟨n - 1, by omega⟩
    unfold runO
    rw [e1]; rfl
  | true =>
    obtain ⟨R, hR, hrow⟩ := runs_end hr hK K 1 S1 D1 (Nat.le_refl 1) (by omega) h1
    refine ⟨R, wrap R ⟨K + 2, fun n hn => ?_⟩, hrow⟩
    obtain ⟨n, rfl⟩ : ∃ m, n = m + 1 := ⟨n - 1, by omega⟩
    unfold runO
    rw [e1, hm]
    exact hR n (by omega)
end
end Go.Proofs.Ytkmbhknmjnbanaa.A


namespace Go.Proofs.Ytkmbhknmjnbanaa.A
open Go.RowKit Go.Proofs.YtkmbhknmjnbanaaW.PrintWords Go.Proofs.YtkmbhknmjnbanaaW.PrintLast Go.Shelf
set_option linter.unusedVariables false
set_option linter.unusedSimpArgs false

/-- the nearest that is over both, with rounds enough -/
def meetG (g : List (List Int)) (D : List Int) (a b : Nat) : Nat := meetN (parL D) (pos g) (2 * g.length) a b
section
variable {g : List (List Int)}
theorem meetG_self (D : List Int) (a : Nat) : meetG g D a a = a := by
  unfold meetG
  cases 2 * g.length with
  | zero => rfl
  | succ n => unfold meetN; rw [if_pos rfl]
theorem meetG_a (hr : rightB g = true) {k j : Nat} {S : Nat → Prop} {D : List Int} (h : ListInv g k j S D) {a b : Nat} (ha : S a) (hb : S b) (hp : pos g b < pos g a) : S (parL D a) ∧ pos g (parL D a) < pos g a ∧ meetG g D a b = meetG g D (parL D a) b := by
  have h0 : a ≠ 0 := fun e => by rw [e, h.inv.tree.zero] at hp; omega
  obtain ⟨h1, h2⟩ := h.inv.tree.up a ha h0
  have ba := pos_bound hr (h.inv.sub a ha)
  have bb := pos_bound hr (h.inv.sub b hb)
  refine ⟨h1, h2, ?_⟩
  unfold meetG
  obtain ⟨n, hn⟩ : ∃ n, 2 * g.length = n + 1 := ⟨2 * g.length - 1, by omega⟩
  have e1 : meetN (parL D) (pos g) (2 * g.length) a b = meetN (parL D) (pos g) n (parL D a) b := by
    rw [hn, meetN, if_neg (fun e => by rw [e] at hp; omega), if_pos hp]
  rw [e1]
  exact meetN_fuel h.inv.tree _ _ _ _ h1 hb (by omega) (by omega)
theorem meetG_b (hr : rightB g = true) {k j : Nat} {S : Nat → Prop} {D : List Int} (h : ListInv g k j S D) {a b : Nat} (ha : S a) (hb : S b) (hp : pos g a < pos g b) : S (parL D b) ∧ pos g (parL D b) < pos g b ∧ meetG g D a b = meetG g D a (parL D b) := by
  have h0 : b ≠ 0 := fun e => by rw [e, h.inv.tree.zero] at hp; omega
  obtain ⟨h1, h2⟩ := h.inv.tree.up b hb h0
  have ba := pos_bound hr (h.inv.sub a ha)
  have bb := pos_bound hr (h.inv.sub b hb)
  refine ⟨h1, h2, ?_⟩
  unfold meetG
  obtain ⟨n, hn⟩ : ∃ n, 2 * g.length = n + 1 := ⟨2 * g.length - 1, by omega⟩
  have e1 : meetN (parL D) (pos g) (2 * g.length) a b = meetN (parL D) (pos g) n a (parL D b) := by
    rw [hn, meetN, if_neg (fun e => by rw [e] at hp; omega), if_neg (by omega)]
  rw [e1]
  exact meetN_fuel h.inv.tree _ _ _ _ ha h1 (by omega) (by omega)
end

set_option maxRecDepth 100000 in
set_option maxHeartbeats 4000000 in
theorem meet_calls {g : List (List Int)} (hr : rightB g = true) {k j : Nat} {S : Nat → Prop} {D pl : List Int} (h : ListInv g k j S D) (hpl : pl.length = g.length) (hpp : ∀ v, Way g 0 v → pl.getD v 0 = (pos g v : Int)) (tb : Nat) (Ai Ap : Option Addr) (ci cp : Nat) (a b : Nat) (ha : S a) (hb : S b) (w : World)
    (c0 : w.cell? ⟨tb, 0, none⟩ = some (.slice Ai g.length ci)) (c1 : w.cell? ⟨tb, 1, none⟩ = some (.slice Ap g.length cp)) (hD : Kd.C (Kd.int .i64) w Ai g.length D) (hP : Kd.C (Kd.int .i64) w Ap g.length pl) :
    Calls Try.prog 79 #[.pointer (some ⟨tb, 0, none⟩), .int .i64 a, .int .i64 b] w fun e w' => e = .returned (.int .i64 (meetG g D a b : Nat)) ∧ Drawn0 w w' := by
  have cell : ∀ q p v, w.cell? p = some v → (w.drewN q).cell? p = some v := fun q p v hv => hv
  have hsl : ∀ v, S v → v < g.length := fun v hv => reach_lt hr (h.inv.sub v hv)
  have hrd : ∀ v, S v → ∃ ad, Ap = some ad ∧ w.cell? (ad.add v) = some (.int .i64 (pos g v : Int)) := fun v hv => by
    have hvl := hsl v hv
    obtain ⟨ad, e, hc⟩ := Kd.at_int hP (v : Int) (by omega) (by omega)
    rw [Int.toNat_natCast, rdD, hpp v (h.inv.sub v hv)] at hc
    exact ⟨ad, e, hc⟩
  have hrp : ∀ v, S v → ∃ ad, Ai = some ad ∧ w.cell? (ad.add v) = some (.int .i64 (parL D v : Int)) := fun v hv => by
    have hvl := hsl v hv
    obtain ⟨ad, e, hc⟩ := Kd.at_int hD (v : Int) (by omega) (by omega)
    rw [Int.toNat_natCast, rdD, h.cast hv] at hc
    exact ⟨ad, e, hc⟩
  have hinj : ∀ u v, S u → S v → pos g u = pos g v → u = v := h.inv.tree.inj
  have hma : ∀ a b, S a → S b → pos g b < pos g a → S (parL D a) ∧ pos g (parL D a) < pos g a ∧ meetG g D a b = meetG g D (parL D a) b := fun a b ha hb hp => meetG_a hr h ha hb hp
  have hmb : ∀ a b, S a → S b → pos g a < pos g b → S (parL D b) ∧ pos g (parL D b) < pos g b ∧ meetG g D a b = meetG g D a (parL D b) := fun a b ha hb hp => meetG_b hr h ha hb hp
  have hms : ∀ a, meetG g D a a = a := meetG_self D
  have hbd : ∀ v, S v → pos g v < g.length := fun v hv => pos_bound hr (h.inv.sub v hv)
  generalize hR : meetG g D a b = R
  have hR' := Aside0.mk hR
  obtain ⟨ap, rfl, _⟩ := hrd a ha
  obtain ⟨ai, rfl, _⟩ := hrp a ha
  have hrd' : ∀ v, S v → w.cell? (ap.add v) = some (.int .i64 (pos g v : Int)) := fun v hv => by
    obtain ⟨ad, e, hc⟩ := hrd v hv; cases e; exact hc
  have hrp' : ∀ v, S v → w.cell? (ai.add v) = some (.int .i64 (parL D v : Int)) := fun v hv => by
    obtain ⟨ad, e, hc⟩ := hrp v hv; cases e; exact hc
  clear hrd hrp hR hD hP hpp
  go_enter Try.func79, Try.ntmps79
  go_wp2_with fail
  go_loopw [1, 2] (fun s1 s2 wr => ∃ (a b q : Nat), s1 = .int .i64 a ∧ s2 = .int .i64 b ∧ S a ∧ S b ∧ Aside0 (meetG g D a b = R) ∧ Aside0 (wr = w.drewN q))
    (fun s1 s2 _ => pos g (RowKit.intOf s1).toNat + pos g (RowKit.intOf s2).toNat)
  case atStart => exact ⟨a, b, 0, rfl, rfl, ha, hb, hR', ⟨by rw [World.drewN_zero]⟩⟩
  case round =>
    clear ha hb hR'
    obtain ⟨a, b, q, rfl, rfl, ha, hb, hR', hW⟩ := hrel
    by_cases hab : (a : Int) = (b : Int)
    · obtain rfl : a = b := by omega
      have hRa : meetG g D a a = R := hR'.out
      rw [hms] at hRa
      subst hRa
      go_wp2_with fail
      go_ret
      exact ⟨rfl, q, hW.out⟩
    · go_wp2_with fail
      go_loopw [1] (fun s1 wq => ∃ (a' q : Nat), s1 = .int .i64 a' ∧ S a' ∧ pos g a' ≤ pos g a ∧ (a' = a ∨ pos g a' < pos g a) ∧ Aside0 (meetG g D a' b = R) ∧ Aside0 (wq = w.drewN q))
        (fun s1 _ => pos g (RowKit.intOf s1).toNat)
      case atStart => exact ⟨a, q, rfl, ha, Nat.le_refl _, .inl rfl, hR', hW⟩
      case round =>
        clear hR' hW
        obtain ⟨a', q', rfl, ha', hle, hor, hR', hW⟩ := hrel
        have x0 : wr.cell? ⟨tb, 0, none⟩ = some (.slice (some ai) g.length ci) := by rw [hW.out]; exact c0
        have x1 : wr.cell? ⟨tb, 1, none⟩ = some (.slice (some ap) g.length cp) := by rw [hW.out]; exact c1
        have y0 : wr.cell? (ap.add a') = some (.int .i64 (pos g a' : Int)) := by rw [hW.out]; exact hrd' a' ha'
        have y1 : wr.cell? (ap.add b) = some (.int .i64 (pos g b : Int)) := by rw [hW.out]; exact hrd' b hb
        have y2 : wr.cell? (ai.add a') = some (.int .i64 (parL D a' : Int)) := by rw [hW.out]; exact hrp' a' ha'
        have l0 : (a' : Int) < (g.length : Int) := by have := hsl a' ha'; omega
        have l1 : (b : Int) < (g.length : Int) := by have := hsl b hb; omega
        by_cases hgt : (pos g a' : Int) > (pos g b : Int)
        · obtain ⟨n1, n2, n3⟩ := hma a' b ha' hb (by omega)
          go_wp2_with fail
          go_quiet (fail)
          go_wp2_with fail
          go_roundw
          case rel => exact ⟨parL D a', q' + nq, rfl, n1, by omega, .inr (by omega), ⟨by rw [← n3]; exact hR'.out⟩, ⟨by rw [hW.out, World.drewN_drewN]⟩⟩
          case measure => simp [RowKit.intOf]; omega
        · go_wp2_with fail
          go_quiet (fail)
          go_wp2_with fail
          have hW2 : Aside0 (wr.drewN nq = w.drewN (q' + nq)) := ⟨by rw [hW.out, World.drewN_drewN]⟩
          generalize wr.drewN nq = W2 at hW2 ⊢
          clear x0 x1 y0 y1 y2 hW
          go_loopw [2] (fun s2 wq => ∃ (b' q : Nat), s2 = .int .i64 b' ∧ S b' ∧ pos g b' ≤ pos g b ∧ (b' = b ∨ pos g b' < pos g b) ∧ Aside0 (meetG g D a' b' = R) ∧ Aside0 (wq = w.drewN q))
            (fun s2 _ => pos g (RowKit.intOf s2).toNat)
          case atStart => exact ⟨b, q' + nq, rfl, hb, Nat.le_refl _, .inl rfl, hR', hW2⟩
          case round =>
            clear hR' hW2
            obtain ⟨b', q2, rfl, hb', hle2, hor2, hR', hW⟩ := hrel
            have x0 : wr.cell? ⟨tb, 0, none⟩ = some (.slice (some ai) g.length ci) := by rw [hW.out]; exact c0
            have x1 : wr.cell? ⟨tb, 1, none⟩ = some (.slice (some ap) g.length cp) := by rw [hW.out]; exact c1
            have y0 : wr.cell? (ap.add a') = some (.int .i64 (pos g a' : Int)) := by rw [hW.out]; exact hrd' a' ha'
            have y1 : wr.cell? (ap.add b') = some (.int .i64 (pos g b' : Int)) := by rw [hW.out]; exact hrd' b' hb'
            have y2 : wr.cell? (ai.add b') = some (.int .i64 (parL D b' : Int)) := by rw [hW.out]; exact hrp' b' hb'
            have l0 : (a' : Int) < (g.length : Int) := by have := hsl a' ha'; omega
            have l1 : (b' : Int) < (g.length : Int) := by have := hsl b' hb'; omega
            by_cases hgt2 : (pos g b' : Int) > (pos g a' : Int)
            · obtain ⟨n1, n2, n3⟩ := hmb a' b' ha' hb' (by omega)
              go_wp2_with fail
              go_quiet (fail)
              go_wp2_with fail
              go_roundw
              case rel => exact ⟨parL D b', q2 + nq, rfl, n1, by omega, .inr (by omega), ⟨by rw [← n3]; exact hR'.out⟩, ⟨by rw [hW.out, World.drewN_drewN]⟩⟩
              case measure => simp [RowKit.intOf]; omega
            · go_wp2_with fail
              go_quiet (fail)
              go_wp2_with fail
              go_roundw
              case rel => exact ⟨a', b', q2 + nq, rfl, rfl, ha', hb', hR', ⟨by rw [hW.out, World.drewN_drewN]⟩⟩
              case measure =>
                simp only [RowKit.intOf, Int.toNat_natCast]
                have hne : ¬ (a' = a ∧ b' = b) := by
                  rintro ⟨rfl, rfl⟩
                  have := hinj a' b' ha' hb' (by omega)
                  omega
                omega
end Go.Proofs.Ytkmbhknmjnbanaa.A


namespace Go.Proofs.Ytkmbhknmjnbanaa.A
open Go.RowKit Go.Proofs.YtkmbhknmjnbanaaW.PrintWords Go.Proofs.YtkmbhknmjnbanaaW.PrintLast Go.Shelf
set_option linter.unusedVariables false
set_option linter.unusedSimpArgs false

set_option maxRecDepth 100000 in
set_option maxHeartbeats 4000000 in
theorem nearest_calls {g : List (List Int)} (hr : rightB g = true) {k j : Nat} {S : Nat → Prop} {D pl : List Int} (h : ListInv g k j S D) (hpl : pl.length = g.length) (hpp : ∀ v, Way g 0 v → pl.getD v 0 = (pos g v : Int)) (tb : Nat) (Ai Ap : Option Addr) (ci cp : Nat) {v : Nat} (l : List Int) (A : Option Addr) (c : Nat) (w : World)
    (hl : ∀ x ∈ l, ∃ p : Nat, x = p ∧ p < g.length ∧ Edge g p v) (hll : l.length ≤ 1000000)
    (c0 : w.cell? ⟨tb, 0, none⟩ = some (.slice Ai g.length ci)) (c1 : w.cell? ⟨tb, 1, none⟩ = some (.slice Ap g.length cp)) (hD : Kd.C (Kd.int .i64) w Ai g.length D) (hP : Kd.C (Kd.int .i64) w Ap g.length pl) (hA : Kd.C (Kd.int .i64) w A l.length l) :
    Calls Try.prog 62 #[.pointer (some ⟨tb, 0, none⟩), .slice A l.length c] w fun e w' => e = .returned (.int .i64 (nearestL g D l)) ∧ Drawn0 w w' := by
  have hm : ∀ q (b p : Nat), S b → S p → Calls Try.prog 79 #[.pointer (some ⟨tb, 0, none⟩), .int .i64 b, .int .i64 p] (w.drewN q) fun e w' => e = .returned (.int .i64 (meetG g D b p : Nat)) ∧ Drawn0 (w.drewN q) w' := fun q b p hb hp =>
    meet_calls hr h hpl hpp tb Ai Ap ci cp b p hb hp (w.drewN q) c0 c1 (Kd.C_below hD (pw_below_drewN (Below.refl _ _) q)) (Kd.C_below hP (pw_below_drewN (Below.refl _ _) q))
  have hfold : ∀ m, nearestL g D (l.take m) = -1 ∨ ∃ b : Nat, nearestL g D (l.take m) = b ∧ S b := fun m => by
    rcases near_fold hr h (v := v) (l.take m) (fun x hx => hl x (List.mem_of_mem_take hx)) with ⟨e, _⟩ | ⟨b, e, hb, _⟩
    · exact .inl e
    · exact .inr ⟨b, e, hb⟩
  have hcast : ∀ p, S p → D.getD p 0 = (parL D p : Int) := fun p hp => h.cast hp
  have hno : ∀ p, p < g.length → ¬ S p → D.getD p 0 = -1 := h.no
  go_enter Try.func62, Try.ntmps62
  go_wp2_with fail
  go_loopw [5, 10] (fun s5 s10 wr => ∃ (m q : Nat), m ≤ l.length ∧ s10 = .int .i64 m ∧ s5 = .int .i64 (nearestL g D (l.take m)) ∧ Aside0 (wr = w.drewN q))
    (fun _ s10 _ => l.length - (RowKit.intOf s10).toNat)
  case atStart => exact ⟨0, 0, Nat.zero_le _, rfl, rfl, ⟨by rw [World.drewN_zero]⟩⟩
  case round =>
    obtain ⟨m, q, hml, rfl, rfl, hW⟩ := hrel
    by_cases hlt : m < l.length
    · have hmn : (m : Int) < (l.length : Int) := by omega
      have hm0 : (0 : Int) ≤ (m : Int) := by omega
      obtain ⟨p, ep, hpl', hpe⟩ := hl _ (List.getElem_mem hlt)
      obtain ⟨aa, rfl, z0⟩ := Kd.at_int hA (m : Int) hm0 hmn
      rw [Int.toNat_natCast, rdI hlt, ep] at z0
      have hsn := nearestL_snoc g D (l.take m) l[m]
      rw [← List.take_succ_eq_append_getElem hlt, ep] at hsn
      unfold nstep at hsn
      rw [Int.toNat_natCast] at hsn
      have hsn' := Aside0.mk hsn
      obtain ⟨ai, rfl, z1⟩ := Kd.at_int hD (p : Int) (by omega) (by omega)
      rw [Int.toNat_natCast, rdD] at z1
      have y0 : wr.cell? (aa.add m) = some (.int .i64 p) := by rw [hW.out]; exact z0
      have y1 : wr.cell? (ai.add p) = some (.int .i64 (D.getD p 0)) := by rw [hW.out]; exact z1
      have x0 : wr.cell? ⟨tb, 0, none⟩ = some (.slice (some ai) g.length ci) := by rw [hW.out]; exact c0
      have lp : (p : Int) < (g.length : Int) := by omega
      have hfm := hfold m
      generalize nearestL g D (l.take m) = best at hsn' hfm ⊢
      clear hsn z0 z1
      by_cases hS : S p
      · have hd1 := hcast p hS
        have hmm := hm q
        rw [hd1] at y1 hsn'
        rcases hfm with rfl | ⟨b, rfl, hb⟩
        · have hv : nearestL g D (l.take (m + 1)) = (p : Int) := by rw [hsn'.out, if_neg (by omega), if_pos rfl]
          clear hsn'
          have hne : ¬ ((parL D p : Nat) : Int) = -1 := by omega
          go_wp2_with fail
          go_roundw
          case rel => exact ⟨m + 1, q, by omega, by go_num, by rw [hv], hW⟩
          case measure => simp [RowKit.intOf]; omega
        · have hmc := hm q b p hb hS
          rw [← hW.out] at hmc
          have hv : nearestL g D (l.take (m + 1)) = ((meetG g D b p : Nat) : Int) := by rw [hsn'.out, if_neg (by omega), if_neg (by omega), Int.toNat_natCast]; rfl
          have hv' := Aside0.mk hv
          clear hsn' hv hmm
          have hne : ¬ ((parL D p : Nat) : Int) = -1 := by omega
          have hnb : ¬ ((b : Nat) : Int) = -1 := by omega
          go_wp2_with fail
          refine hmc.mono ?_
          rintro e w2 ⟨rfl, ⟨q2, rfl⟩⟩
          go_wp2_with fail
          go_roundw
          case rel => exact ⟨m + 1, q + q2, by omega, by go_num, by rw [hv'.out], ⟨by rw [hW.out, World.drewN_drewN]⟩⟩
          case measure => simp [RowKit.intOf]; omega
      · have hd1 := hno p hpl' hS
        rw [hd1] at y1 hsn'
        have hv : nearestL g D (l.take (m + 1)) = best := by rw [hsn'.out, if_pos rfl]
        have hv' := Aside0.mk hv
        clear hsn' hv hfm
        go_wp2_with fail
        go_roundw
        case rel => exact ⟨m + 1, q, by omega, by go_num, by rw [hv'.out], hW⟩
        case measure => simp [RowKit.intOf]; omega
    · obtain rfl : m = l.length := by omega
      rw [List.take_length]
      go_wp2_with fail
      go_ret
      exact ⟨rfl, q, hW.out⟩
end Go.Proofs.Ytkmbhknmjnbanaa.A


namespace Go.Proofs.Ytkmbhknmjnbanaa.A
open Go.RowKit Go.Maps Go.Proofs.YtkmbhknmjnbanaaW.PrintWords Go.Proofs.YtkmbhknmjnbanaaW.PrintLast Go.Shelf
set_option linter.unusedVariables false
set_option linter.unusedSimpArgs false

def g4 : List (List Int) := [[1, 2], [3], [3], [0]]
/-- a literal row of numbers -/
abbrev cellsI (l : List Int) : Obj := .cells (l.map (Value.int .i64)).toArray 3
theorem reps_ints {W : World} {base : Nat} {ok : Nat → Prop} (l : List Int) : Reps ((Kd.int .i64).M W base ok) (Kd.int .i64).sz l (l.map (Value.int .i64)) := by
  refine ⟨by rw [List.length_map]; show _ = l.length * 1; omega, fun j p hj => ?_⟩
  obtain ⟨h, rfl⟩ := List.getElem?_eq_some_iff.1 hj
  show ((l.map (Value.int .i64)).drop (j * 1)).take 1 = [Value.int .i64 l[j]]
  rw [Nat.mul_one, List.take_one, List.head?_drop, List.getElem?_map, hj]
  rfl
theorem lit_row (W : World) (l : List Int) (hl : l.length ≤ 1000) : Kd.R (Kd.int .i64) 3 (W.alloc (cellsI l)) W.heap.size (fun _ => True) (.slice (some ⟨W.heap.size, 0, none⟩) l.length l.length) l :=
  R_new_lit (Kd.int .i64) W W.heap.size 3 (ok := fun _ => True) (okp := fun _ => True) (reps_ints l) (fun _ h => h) trivial (Nat.le_refl _) (by omega)
inductive RowsR (W : World) (base : Nat) (ok : Nat → Prop) : List (List Int) → List Value → Prop
  | nil : RowsR W base ok [] []
  | cons {l : List Int} {v : Value} {ls : List (List Int)} {vs : List Value} : Kd.R (Kd.int .i64) 3 W base ok v l → RowsR W base ok ls vs → RowsR W base ok (l :: ls) (v :: vs)
theorem reps_rows {W : World} {base : Nat} {ok : Nat → Prop} : ∀ {ls : List (List Int)} {vs : List Value}, RowsR W base ok ls vs → Reps ((Kd.slice 3 (Kd.int .i64)).M W base ok) (Kd.slice 3 (Kd.int .i64)).sz ls vs := by
  intro ls vs h
  refine ⟨?_, ?_⟩
  · have : vs.length = ls.length := by induction h <;> simp_all
    rw [this]; show _ = ls.length * 1; omega
  · intro j p hj
    show (Kd.slice 3 (Kd.int .i64)).M W base ok p ((vs.drop (j * 1)).take 1)
    rw [Nat.mul_one]
    induction h generalizing j with
    | nil => simp at hj
    | cons h1 h2 ih =>
      cases j with
      | zero => simp at hj; subst hj; exact Kd.M_row h1
      | succ j => simp at hj; simpa using ih j hj
theorem lit_rows4 (W : World) (a b c d : List Int) (ha : a.length ≤ 1000) (hb : b.length ≤ 1000) (hc : c.length ≤ 1000) (hd : d.length ≤ 1000) :
    Kd.C (Kd.slice 3 (Kd.int .i64)) (((((W.alloc (cellsI a)).alloc (cellsI b)).alloc (cellsI c)).alloc (cellsI d)).alloc (.cells #[.slice (some ⟨W.heap.size, 0, none⟩) a.length a.length, .slice (some ⟨W.heap.size + 1, 0, none⟩) b.length b.length, .slice (some ⟨W.heap.size + 2, 0, none⟩) c.length c.length, .slice (some ⟨W.heap.size + 3, 0, none⟩) d.length d.length] 27)) (some ⟨W.heap.size + 4, 0, none⟩) 4 [a, b, c, d] := by
  have al : ∀ (w : World) (o : Obj), Below w.heap.size w (w.alloc o) := fun w o => below_alloc (Below.refl _ _) _
  have h1 := Kd.R_below (Kd.R_below (Kd.R_below (lit_row W a ha) (al _ (cellsI b))) (al _ (cellsI c))) (al _ (cellsI d))
  have h2 := Kd.R_lower (Kd.R_below (Kd.R_below (lit_row (W.alloc (cellsI a)) b hb) (al _ (cellsI c))) (al _ (cellsI d))) (base' := W.heap.size) (by simp)
  have h3 := Kd.R_lower (Kd.R_below (lit_row ((W.alloc (cellsI a)).alloc (cellsI b)) c hc) (al _ (cellsI d))) (base' := W.heap.size) (by simp; omega)
  have h4 := Kd.R_lower (lit_row (((W.alloc (cellsI a)).alloc (cellsI b)).alloc (cellsI c)) d hd) (base' := W.heap.size) (by simp; omega)
  simp only [World.size_alloc, Nat.add_assoc, Nat.reduceAdd] at h2 h3 h4
  have h5 := R_new_lit (Kd.slice 3 (Kd.int .i64)) ((((W.alloc (cellsI a)).alloc (cellsI b)).alloc (cellsI c)).alloc (cellsI d)) W.heap.size 27 (xs := [a, b, c, d]) (ok := fun _ => True) (okp := fun _ => True) (reps_rows (.cons h1 (.cons h2 (.cons h3 (.cons h4 .nil))))) (fun _ h => h) trivial (by simp; omega) (by simp)
  simp only [World.size_alloc, Nat.add_assoc, Nat.reduceAdd] at h5
  exact (Kd.R_reads' h5).2.2
end Go.Proofs.Ytkmbhknmjnbanaa.A


namespace Go.Proofs.Ytkmbhknmjnbanaa.A
open Go.RowKit Go.Proofs.YtkmbhknmjnbanaaW.PrintWords Go.Proofs.YtkmbhknmjnbanaaW.PrintLast Go.Shelf
set_option linter.unusedVariables false
set_option linter.unusedSimpArgs false

/-- the tree's block and its two rows -/
structure TA (n : Nat) (W0 : World) (T gi ci gp cp : Nat) (D pl : List Int) (W : World) : Prop where
  hB : Below W0.heap.size W0 W
  hT : W.heap[T]? = some (.cells #[.slice (some ⟨gi, 0, none⟩) n ci, .slice (some ⟨gp, 0, none⟩) n cp] 63 (0, 0))
  hT0 : W0.heap.size ≤ T
  hD : Kd.R (Kd.int .i64) 3 W W0.heap.size (fun k => k = gi) (.slice (some ⟨gi, 0, none⟩) n ci) D
  hP : Kd.R (Kd.int .i64) 3 W W0.heap.size (fun k => k = gp) (.slice (some ⟨gp, 0, none⟩) n cp) pl
  ne : gi ≠ gp
theorem R_only {e n c g : Nat} {W : World} {base : Nat} {ok : Nat → Prop} {xs : List Int} (h : Kd.R (Kd.int .i64) e W base ok (.slice (some ⟨g, 0, none⟩) n c) xs) : Kd.R (Kd.int .i64) e W base (fun k => k = g) (.slice (some ⟨g, 0, none⟩) n c) xs :=
  ⟨fun k hk => by simp [Value.ownBlock] at hk; exact hk.symm, h.2⟩
section
variable {n T gi ci gp cp : Nat} {W0 W W1 : World} {D pl : List Int}
theorem TA.c0 (h : TA n W0 T gi ci gp cp D pl W) : W.cell? ⟨T, 0, none⟩ = some (.slice (some ⟨gi, 0, none⟩) n ci) := (blk_cell h.hT 0).trans rfl
theorem TA.c1 (h : TA n W0 T gi ci gp cp D pl W) : W.cell? ⟨T, 1, none⟩ = some (.slice (some ⟨gp, 0, none⟩) n cp) := (blk_cell h.hT 1).trans rfl
theorem TA.drewN (h : TA n W0 T gi ci gp cp D pl W) (q : Nat) : TA n W0 T gi ci gp cp D pl (W.drewN q) :=
  ⟨h.hB.trans (pw_below_drewN (Below.refl _ _) q), h.hT, h.hT0, Kd.R_below h.hD (pw_below_drewN (Below.refl _ _) q), Kd.R_below h.hP (pw_below_drewN (Below.refl _ _) q), h.ne⟩
theorem TA.cD (h : TA n W0 T gi ci gp cp D pl W) : Kd.C (Kd.int .i64) W (some ⟨gi, 0, none⟩) n D := by
  obtain ⟨e, _, hc⟩ := Kd.R_reads' h.hD
  rwa [← e] at hc
theorem TA.cP (h : TA n W0 T gi ci gp cp D pl W) : Kd.C (Kd.int .i64) W (some ⟨gp, 0, none⟩) n pl := by
  obtain ⟨e, _, hc⟩ := Kd.R_reads' h.hP
  rwa [← e] at hc
theorem TA.ti (h : TA n W0 T gi ci gp cp D pl W) : T ≠ gi := fun e => by
  obtain ⟨cells, hc⟩ := Kd.R_typed h.hD gi (by simp [Value.ownBlock])
  have := h.hT
  rw [e, hc] at this
  simp at this
theorem TA.tp (h : TA n W0 T gi ci gp cp D pl W) : T ≠ gp := fun e => by
  obtain ⟨cells, hc⟩ := Kd.R_typed h.hP gp (by simp [Value.ownBlock])
  have := h.hT
  rw [e, hc] at this
  simp at this
theorem TA.putD (h : TA n W0 T gi ci gp cp D pl W) (i : Nat) (x : Int) : TA n W0 T gi ci gp cp (D.set i x) pl (W.setCell ⟨gi, i, none⟩ (.int .i64 x)) := by
  have h1 := Kd.R_putg h.hD (i : Int) x
  rw [Int.toNat_natCast] at h1
  have hb : W0.heap.size ≤ gi := Kd.R_base h.hD gi (by simp [Value.ownBlock])
  exact ⟨h.hB.grown h1.2 h.hB.size (fun j ej => by cases ej; exact hb), blk_grown h.hT h1.2 (fun e => h.ti (Option.some.inj e)), h.hT0, h1.1, Kd.R_grown h.hP h1.2 (fun k hk e => h.ne (by rw [← Option.some.inj e]; exact hk)), h.ne⟩
theorem TA.putP (h : TA n W0 T gi ci gp cp D pl W) (i : Nat) (x : Int) : TA n W0 T gi ci gp cp D (pl.set i x) (W.setCell ⟨gp, i, none⟩ (.int .i64 x)) := by
  have h1 := Kd.R_putg h.hP (i : Int) x
  rw [Int.toNat_natCast] at h1
  have hb : W0.heap.size ≤ gp := Kd.R_base h.hP gp (by simp [Value.ownBlock])
  exact ⟨h.hB.grown h1.2 h.hB.size (fun j ej => by cases ej; exact hb), blk_grown h.hT h1.2 (fun e => h.tp (Option.some.inj e)), h.hT0, Kd.R_grown h.hD h1.2 (fun k hk e => h.ne (by rw [← Option.some.inj e]; exact hk.symm)), h1.1, h.ne⟩
end
theorem made3 (n : Nat) : madeCells #[.int .i64 0] n = ((List.replicate n (0 : Int)).map (Value.int .i64)).toArray := by
  unfold madeCells
  apply Array.ext
  · simp
  · intro i h1 h2; simp [Nat.mod_one]
theorem zero_row (V : World) (base n : Nat) (hb : base ≤ V.heap.size) (hn : n ≤ 4096) : Kd.R (Kd.int .i64) 3 (V.alloc (.cells (madeCells #[.int .i64 0] n) 3)) base (fun _ => True) (.slice (some ⟨V.heap.size, 0, none⟩) n n) (List.replicate n 0) := by
  have h := R_new_lit (Kd.int .i64) V base 3 (xs := List.replicate n (0 : Int)) (ok := fun _ => True) (okp := fun _ => True) (reps_ints _) (fun _ h => h) trivial hb (by simp; omega)
  rw [← made3, List.length_replicate] at h
  exact h
theorem TA.new {n gi ci gp cp : Nat} {W0 V : World} {D pl : List Int} {okd okp : Nat → Prop} (hB : Below W0.heap.size W0 V) (hD : Kd.R (Kd.int .i64) 3 V W0.heap.size okd (.slice (some ⟨gi, 0, none⟩) n ci) D) (hP : Kd.R (Kd.int .i64) 3 V W0.heap.size okp (.slice (some ⟨gp, 0, none⟩) n cp) pl) (ne : gi ≠ gp) :
    TA n W0 V.heap.size gi ci gp cp D pl (V.alloc (.cells #[.slice (some ⟨gi, 0, none⟩) n ci, .slice (some ⟨gp, 0, none⟩) n cp] 63)) :=
  ⟨below_alloc hB _, World.alloc_heap_new _ _, hB.size, Kd.R_alloc (R_only hD) _, Kd.R_alloc (R_only hP) _, ne⟩
/-- places as dom keeps them: none is 0 -/
def zpl (o : List Int) (n m : Nat) : List Int := (List.range m).foldl (fun p (i : Nat) => p.set (o.getD i 0).toNat (i : Int)) (List.replicate n 0)
theorem zpl_succ (o : List Int) (n m : Nat) : zpl o n (m + 1) = (zpl o n m).set (o.getD m 0).toNat m := by simp [zpl, List.range_succ]
theorem zpl_len (o : List Int) (n : Nat) : ∀ m, (zpl o n m).length = n
  | 0 => by simp [zpl]
  | m + 1 => by rw [zpl_succ, List.length_set, zpl_len o n m]
theorem zpl_pos {g : List (List Int)} (hr : rightB g = true) : ∀ m, m ≤ (orderOf g).length → ∀ v, Way g 0 v → pos g v < m → (zpl (orderOf g) g.length m).getD v 0 = (pos g v : Int)
  | 0, _, v, _, hp => by omega
  | m + 1, hm, v, hv, hp => by
    have hlt : m < (orderOf g).length := by omega
    obtain ⟨u, eu, hu, hpu⟩ := pos_at hr hlt
    have hul := reach_lt hr hu
    have hz := zpl_len (orderOf g) g.length m
    have hom : (orderOf g).getD m 0 = (u : Int) := by rw [← eu]; simp [List.getD_eq_getElem?_getD, hlt]
    rw [zpl_succ, hom, Int.toNat_natCast, getD_set (by omega)]
    by_cases e : v = u
    · subst e; rw [if_pos rfl, hpu]
    · rw [if_neg e]
      have : pos g v ≠ pos g u := fun e2 => e (pos_inj hr hv hu e2)
      exact zpl_pos hr m (by omega) v hv (by omega)

set_option maxRecDepth 100000 in
set_option maxHeartbeats 4000000 in
theorem idom_calls (k : Nat) (A : Option Addr) (c : Nat) (g : List (List Int)) (r : List Int) (w : World) (hC : Kd.C (Kd.slice 3 (Kd.int .i64)) w A g.length g) (hc : g.length ≤ c) (h : idomO g k = some r) :
    Calls Try.prog 36 #[.slice A g.length c] w fun e w' => ∃ v, e = .returned v ∧ Kd.R (Kd.int .i64) 3 w' w.heap.size (fun _ => True) v r ∧ Below w.heap.size w w' := by
  have hu63 := Try.underlying63
  have hrc := right_calls A c g w hC
  unfold idomO at h
  cases hr : rightB g with
  | false =>
    rw [hr] at hrc h
    obtain rfl := Option.some.inj h
    go_enter Try.func36, Try.ntmps36
    go_wp2_with fail
    refine hrc.mono ?_
    rintro e w1 ⟨rfl, hb⟩
    go_wp2_with fail
    go_ret
    exact ⟨_, rfl, Kd.R_nil _ _ _ _ _, hb⟩
  | true =>
    rw [hr] at hrc h
    rw [if_pos rfl, Option.map_eq_some_iff] at h
    obtain ⟨R, hR, rfl⟩ := h
    have hR' := Aside0.mk hR
    obtain ⟨hn1, hn0, hg⟩ := right_rows hr
    have hg' := Aside0.mk hg
    clear hR hg
    go_enter Try.func36, Try.ntmps36
    go_wp2_with fail
    refine hrc.mono ?_
    rintro e w1 ⟨rfl, hb1⟩
    have hC1 := Aside0.mk (Kd.C_below hC hb1)
    have hB1 := Aside0.mk hb1
    have ho := order_calls A c g w1 hC1.out
    rw [hr, if_pos rfl] at ho
    clear hrc hb1
    go_wp2_with fail
    refine ho.mono ?_
    rintro e w2 ⟨v2, rfl, hv2, hb2⟩
    have hC2 := Aside0.mk (Kd.C_below hC1.out hb2)
    have hB2 := Aside0.mk (below_step hB1.out hb2)
    obtain ⟨kp, hkp⟩ := (preds_ev g).get
    rw [hr, if_pos rfl] at hkp
    have hpr := graph_Preds.calls kp A c g _ w2 hC2.out hc hkp
    have eo : (walkOf g 0).reverse = orderOf g := by unfold orderOf; rw [if_pos hr]
    rw [eo] at hv2
    obtain ⟨Ao, co, rfl⟩ := Kd.R_slice hv2
    have hv2' := Aside0.mk hv2
    clear ho hb2 hC1 hB1 hkp hv2
    go_wp2_with fail
    refine hpr.mono ?_
    rintro e w3 ⟨v3, rfl, hv3, hb3⟩
    obtain ⟨Ap, cp, rfl⟩ := Kd.S_slice hv3
    have hB3 := Aside0.mk (below_step hB2.out hb3)
    have hO3 := Aside0.mk (Kd.C_below (Kd.R_reads' hv2'.out).2.2 hb3)
    have hol := orderOf_len g
    have hoc : (orderOf g).length ≤ co := (Kd.R_reads' hv2'.out).2.1
    have hP3 := Aside0.mk (Kd.S_reads' hv3).2.2
    clear hpr hv3 hb3 hC2 hB2 hv2' hC
    have hmk : ∀ V : World, (Instr.makeSlice 27 (.int .i64 (g.length : Int)) (.int .i64 (g.length : Int))).run Try.prog V = .ok (.slice (some ⟨V.heap.size, 0, none⟩) g.length g.length) (V.alloc (.cells (madeCells #[.int .i64 0] g.length) 3)) := by
      intro V
      obtain ⟨i0, hi, hz0, hz1, hz2⟩ := info_parts info3
      have := run_make V 27 3 i0 _ Try.underlying27 hi hz0 .i64 .i64 (g.length : Int) (g.length : Int) (by omega) (by omega) (by rw [hz2]; omega) (by omega)
      rw [Int.toNat_natCast, hz1, Nat.mul_one] at this
      exact this
    go_upto_region 4 with fail
    go_cut [5] (fun s5 wx => ∃ T gi ci gp cp', s5 = .pointer (some ⟨T, 0, none⟩) ∧ Aside0 (TA g.length w3 T gi ci gp cp' (List.replicate g.length (-1)) (List.replicate g.length 0) wx))
    case first =>
      have hrp : ∀ (V : World) (ad : Addr), V.cell? (ad.add 0) = some (.int .i64 (-1)) → Calls Try.prog 61 #[.slice (some ad) 1 1, .int .i64 g.length] V fun e w' => ∃ v, e = .returned v ∧ Kd.R (Kd.int .i64) 3 w' V.heap.size (fun _ => True) v (List.replicate g.length (-1)) ∧ Below V.heap.size V w' := fun V ad hv => repeat_calls ad 1 g.length V hn0 hn1 hv
      clear hO3 hP3
      go_region_with (go_at_call 61; refine (hrp _ _ (by go_simp)).mono ?_; rintro e w5 ⟨v5, rfl, hv5, hb5⟩; obtain ⟨gi, ci, rfl, hgi0, hgi1, hgi2⟩ := Kd.R_form hv5 (by rw [List.length_replicate]; omega); rw [List.length_replicate] at hv5)
      all_goals
        go_wp2_with fail
        go_meet
      case rel =>
        have hBv : Below w3.heap.size w3 (w3.alloc (.cells #[.int .i64 (-1)] 3)).drew := below_drew (below_alloc (Below.refl _ _) _)
        have hB5 := hBv.trans (hb5.mono hBv.size)
        exact ⟨_, gi, ci, _, _, by rw [World.size_alloc], ⟨TA.new (V := w5.alloc (.cells (madeCells #[.int .i64 0] g.length) 3)) (below_alloc hB5 _) (Kd.R_alloc (Kd.R_lower hv5 hBv.size) _) (zero_row w5 _ _ hB5.size hn1) (by omega)⟩⟩
      case rel =>
        have hBv : Below w3.heap.size w3 ((w3.alloc (.cells #[.int .i64 (-1)] 3)).alloc (.cells (madeCells #[.int .i64 0] g.length) 3)).drew := below_drew (below_alloc (below_alloc (Below.refl _ _) _) _)
        have hB5 := hBv.trans (hb5.mono hBv.size)
        have hz := Kd.R_below (Kd.R_below (zero_row (w3.alloc (.cells #[.int .i64 (-1)] 3)) w3.heap.size g.length (by simp) hn1) (below_drew (Below.refl _ _))) hb5
        rw [World.size_alloc] at hz
        exact ⟨_, gi, ci, _, _, rfl, ⟨TA.new (V := w5) hB5 (Kd.R_lower hv5 hBv.size) hz (by
          have e0 : (w3.alloc (.cells #[.int .i64 (-1)] 3)).heap.size = w3.heap.size + 1 := World.size_alloc _ _
          have e : ((w3.alloc (.cells #[.int .i64 (-1)] 3)).alloc (.cells (madeCells #[.int .i64 0] g.length) 3)).drew.heap.size = (w3.alloc (.cells #[.int .i64 (-1)] 3)).heap.size + 1 := by
            show ((w3.alloc (.cells #[.int .i64 (-1)] 3)).alloc (.cells (madeCells #[.int .i64 0] g.length) 3)).heap.size = _
            rw [World.size_alloc]
          omega)⟩⟩
      case rel =>
        have hBv : Below w3.heap.size w3 ((w3.alloc (.cells (madeCells #[.int .i64 0] g.length) 3)).alloc (.cells #[.int .i64 (-1)] 3)).drew := below_drew (below_alloc (below_alloc (Below.refl _ _) _) _)
        have hB5 := hBv.trans (hb5.mono hBv.size)
        have hz := Kd.R_below (Kd.R_below (Kd.R_alloc (zero_row w3 w3.heap.size g.length (Nat.le_refl _) hn1) (.cells #[.int .i64 (-1)] 3)) (below_drew (Below.refl _ _))) hb5
        exact ⟨_, gi, ci, _, _, rfl, ⟨TA.new (V := w5) hB5 (Kd.R_lower hv5 hBv.size) hz (by
          have e : ((w3.alloc (.cells (madeCells #[.int .i64 0] g.length) 3)).alloc (.cells #[.int .i64 (-1)] 3)).drew.heap.size = w3.heap.size + 2 := by
            show ((w3.alloc (.cells (madeCells #[.int .i64 0] g.length) 3)).alloc (.cells #[.int .i64 (-1)] 3)).heap.size = _
            rw [World.size_alloc, World.size_alloc]
          omega)⟩⟩
    case rest =>
      obtain ⟨T, gi, ci, gp, cp', rfl, hTA⟩ := hcut
      clear hmk
      go_wp2_with fail
      go_loopw [30] (fun s wr => ∃ m : Nat, m ≤ (orderOf g).length ∧ s = .int .i64 m ∧ Aside0 (TA g.length w3 T gi ci gp cp' (List.replicate g.length (-1)) (zpl (orderOf g) g.length m) wr))
        (fun s _ => (orderOf g).length - (RowKit.intOf s).toNat)
      case atStart => exact ⟨0, Nat.zero_le _, rfl, hTA⟩
      case round =>
        clear hTA
        obtain ⟨m, hm, rfl, hTA⟩ := hrel
        by_cases hlt : m < (orderOf g).length
        · have hmn : (m : Int) < ((orderOf g).length : Int) := by omega
          have hm0 : (0 : Int) ≤ (m : Int) := by omega
          obtain ⟨ao, rfl, q0⟩ := Kd.at_int (Kd.C_below hO3.out hTA.out.hB) (m : Int) hm0 hmn
          obtain ⟨u, eu, hu, hpu⟩ := pos_at hr hlt
          rw [Int.toNat_natCast, rdI hlt, eu] at q0
          have hul := reach_lt hr hu
          have x1 := hTA.out.c1
          obtain ⟨hce, hfr⟩ := Kd.R_celln (0 : Int) hTA.out.hP (u : Int) (by omega) (by omega)
          rw [Int.toNat_natCast] at hce hfr
          have hset := hTA.out.putP u m
          have hom : (orderOf g).getD m 0 = (u : Int) := by rw [← eu]; simp [List.getD_eq_getElem?_getD, hlt]
          have hz := zpl_succ (orderOf g) g.length m
          rw [hom, Int.toNat_natCast] at hz
          rw [← hz] at hset
          have hset' := Aside0.mk hset
          have hun : (u : Int) < (g.length : Int) := by omega
          clear hset hz hom
          go_wp2_with fail
          go_roundw
          case rel => exact ⟨m + 1, by omega, by go_num, hset'⟩
          case measure => simp [RowKit.intOf]; omega
        · obtain rfl : m = (orderOf g).length := by omega
          have hzp := zpl_pos hr (orderOf g).length (Nat.le_refl _)
          have hzp' : ∀ v, Way g 0 v → (zpl (orderOf g) g.length (orderOf g).length).getD v 0 = (pos g v : Int) := fun v hv => hzp v hv (pos_lt hr hv).1
          have hzl := zpl_len (orderOf g) g.length (orderOf g).length
          generalize zpl (orderOf g) g.length (orderOf g).length = pl at hTA hzp' hzl
          clear hzp
          have x0 := hTA.out.c0
          obtain ⟨hce, hfr⟩ := Kd.R_celln (0 : Int) hTA.out.hD (0 : Int) (by omega) (by omega)
          have hset := hTA.out.putD 0 0
          have hset' : Aside0 (TA g.length w3 T gi ci gp cp' (dom0 g) pl _) := ⟨hset⟩
          have h0n : (0 : Int) < (g.length : Int) := by omega
          rw [Int.toNat_zero] at hce hfr
          clear hset hTA
          go_wp2_with fail
          generalize wr.setCell ⟨gi, 0, none⟩ (.int .i64 0) = W6 at hset' ⊢
          clear x0 hce hfr
          have hm1 : 1 ≤ (orderOf g).length := by have := (pos_lt hr (.refl 0)).1; omega
          go_loopg [8] k (fun gk s8 wr => ∃ (more : Bool) (D : List Int), s8 = .bool more ∧ Aside0 (TA g.length w3 T gi ci gp cp' D pl wr) ∧ Aside0 (if more = true then (∃ kk S, 1 ≤ kk ∧ ListInv g kk 1 S D) ∧ runO g gk D = some R else D = R))
          case atStart => exact ⟨true, dom0 g, rfl, hset', ⟨⟨1, _, Nat.le_refl 1, dom0_inv hr⟩, hR'.out⟩⟩
          case round =>
            clear hset'
            obtain ⟨more, D, rfl, hTA, hst⟩ := hrel
            cases more with
            | false =>
              obtain rfl : D = R := hst.out
              have x0 := hTA.out.c0
              obtain ⟨hce, hfr⟩ := Kd.R_celln (0 : Int) hTA.out.hD (0 : Int) (by omega) (by omega)
              rw [Int.toNat_zero] at hce hfr
              have hset := hTA.out.putD 0 (-1)
              have x2 := hset.c0
              have hset' := Aside0.mk hset
              clear hset hTA
              go_wp2_with fail
              go_ret
              exact ⟨_, rfl, Kd.R_mono (Kd.R_lower hset'.out.hD hB3.out.size) (fun _ _ => trivial), below_step hB3.out hset'.out.hB⟩
            | true =>
              obtain ⟨⟨kk, S, hkk, hinv⟩, hrun⟩ := (show (∃ kk S, 1 ≤ kk ∧ ListInv g kk 1 S D) ∧ runO g gk D = some R from hst.out)
              obtain ⟨gk, rfl⟩ : ∃ m, gk = m + 1 := by
                cases gk with
                | zero => cases hrun
                | succ m => exact ⟨m, rfl⟩
              obtain ⟨ao, rfl, _⟩ := Kd.at_int hO3.out (0 : Int) (by omega) (by omega)
              have hpa : passA g D = passL g ((orderOf g).drop 1) (D, false) := by unfold passA; rw [tail_drop]
              have hrun' := Aside0.mk hrun
              have hmc : ((orderOf g).length : Int) ≥ 1 := by omega
              have hm2 : ¬ (1 : Int) > ((orderOf g).length : Int) := by omega
              clear hst hrun
              by_cases hc1 : co = 1
              · subst hc1
                have hone : (orderOf g).length = 1 := by omega
                have hp0 : passA g D = (D, false) := by rw [hpa, List.drop_eq_nil_of_le (by omega)]; rfl
                have hDR : D = R := by
                  have h := hrun'.out
                  unfold runO at h
                  rw [hp0] at h
                  exact Option.some.inj h
                have hDR' := Aside0.mk hDR
                have hz0 : ¬ (0 : Int) < (((orderOf g).length - 1 : Nat) : Int) := by omega
                clear hpa hp0 hDR hone
                go_wp2_with fail
                go_loopw [8, 52] (fun s8 s wq => s8 = .bool false ∧ s = .int .i64 0 ∧ Aside0 (TA g.length w3 T gi ci gp cp' D pl wq))
                  (fun _ _ _ => 0)
                case atStart => exact ⟨rfl, rfl, hTA⟩
                case round =>
                  clear hTA
                  obtain ⟨rfl, rfl, hTA⟩ := hrel
                  go_wp2_with fail
                  go_roundg gk
                  case measure => omega
                  case rel => exact ⟨false, D, rfl, hTA, ⟨by rw [if_neg (by simp)]; exact hDR'.out⟩⟩
              · have hco : (orderOf g).length - 1 ≤ co - 1 := by omega
                go_wp2_with fail
                go_loopw [8, 52] (fun s8 s52 wq => ∃ (j : Nat) (D1 : List Int) (more : Bool) (S1 : Nat → Prop), j + 1 ≤ (orderOf g).length ∧ s52 = .int .i64 j ∧ s8 = .bool more ∧ ListInv g kk (j + 1) S1 D1 ∧ Aside0 (TA g.length w3 T gi ci gp cp' D1 pl wq) ∧ Aside0 (passA g D = passL g ((orderOf g).drop (j + 1)) (D1, more)))
                  (fun _ s52 _ => (orderOf g).length - (RowKit.intOf s52).toNat)
                case atStart => exact ⟨0, D, false, S, hm1, rfl, rfl, hinv, hTA, ⟨hpa⟩⟩
                case round =>
                  clear hTA hpa hinv
                  obtain ⟨j, D1, more, S1, hj, rfl, rfl, hinv, hTA, hpa⟩ := hrel
                  by_cases hlt : j + 1 < (orderOf g).length
                  · obtain ⟨v, ev, hv, hpv⟩ := pos_at hr hlt
                    have hvl := reach_lt hr hv
                    have hv0 : v ≠ 0 := fun e => by rw [e, pos_zero hr] at hpv; omega
                    obtain ⟨ad, e1, q0⟩ := Kd.at_int (Kd.C_below hO3.out hTA.out.hB) ((j + 1 : Nat) : Int) (by omega) (by omega)
                    cases e1
                    rw [Int.toNat_natCast, rdI hlt, ev, Addr.add_succ', show ao.off + (j + 1) = ao.off + 1 + j by omega] at q0
                    obtain ⟨ap, Ar, cr, rfl, y0, y1, y2⟩ := at_L1 (Kd.C_below hP3.out hTA.out.hB) (v : Int) (by omega) (by rw [predsOf_len]; omega)
                    rw [Int.toNat_natCast, rdL] at y0
                    rw [rdL] at y1 y2
                    have hjn : (j : Int) < (((orderOf g).length - 1 : Nat) : Int) := by omega
                    have hj0 : (0 : Int) ≤ (j : Int) := by omega
                    rw [← hpv] at hinv
                    have hrl : (rowOf (predsOf g) v).length ≤ 1000000 := by
                      have h4 := row_le_tot (predsOf g) v
                      have h5 := tot_pfold hg'.out g.length (Nat.le_refl _)
                      rw [List.take_length] at h5
                      have h6 := tot_le (right_8 hr)
                      unfold predsOf at h4 ⊢; omega
                    have hnc := nearest_calls hr hinv hzl hzp' T (some ⟨gi, 0, none⟩) (some ⟨gp, 0, none⟩) ci cp' (v := v) (rowOf (predsOf g) v) Ar cr wr (fun x hx => by
                      obtain ⟨i, hi, rfl, he⟩ := (predsOf_mem hg'.out v x).1 hx
                      exact ⟨i, rfl, hi, he⟩) hrl hTA.out.c0 hTA.out.c1 hTA.out.cD hTA.out.cP y2
                    obtain ⟨D2, more2, es, hinv2, _, _⟩ := pstep_spec hr hkk (more := more) hv hv0 hinv
                    have hpa2 : passA g D = passL g ((orderOf g).drop (j + 1 + 1)) (D2, more2) := by
                      rw [hpa.out, List.drop_eq_getElem_cons hlt, ev]
                      show passL g _ (pstep g (D1, more) (v : Int)) = _
                      rw [es]
                    unfold pstep at es
                    rw [Int.toNat_natCast] at es
                    dsimp only at es
                    have es' := Aside0.mk es
                    have hpa' := Aside0.mk hpa2
                    have hinv' := Aside0.mk hinv2
                    have hvn : (v : Int) < ((predsOf g).length : Int) := by rw [predsOf_len]; omega
                    have hvg : (v : Int) < (g.length : Int) := by omega
                    clear es hpa2 hinv2 hpa hinv y1 y2
                    generalize nearestL g D1 (rowOf (predsOf g) v) = b at hnc es'
                    go_wp2_with fail
                    refine hnc.mono ?_
                    rintro e w7 ⟨rfl, ⟨q7, rfl⟩⟩
                    have hTA7 := Aside0.mk (hTA.out.drewN q7)
                    generalize wr.drewN q7 = w7 at hTA7 ⊢
                    have x0 := hTA7.out.c0
                    obtain ⟨hce, hfr⟩ := Kd.R_celln (0 : Int) hTA7.out.hD (v : Int) (by omega) (by omega)
                    rw [Int.toNat_natCast] at hce hfr
                    change w7.cell? ⟨gi, v, none⟩ = some (.int .i64 (rd D1 (v : Int))) at hce
                    rw [rdD] at hce
                    have hset := Aside0.mk (hTA7.out.putD v b)
                    clear hTA hnc q0 y0
                    generalize D1.getD v 0 = dv at hce es'
                    by_cases hbe : b = dv
                    · have e3 := es'.out
                      rw [if_pos hbe, Prod.mk.injEq] at e3
                      obtain ⟨rfl, rfl⟩ := e3
                      subst hbe
                      go_wp2_with fail
                      go_roundw
                      case rel => exact ⟨j + 1, D1, more, _, by omega, by go_num, rfl, by rw [← hpv]; exact hinv'.out, hTA7, hpa'⟩
                      case measure => simp [RowKit.intOf]; omega
                    · have e3 := es'.out
                      rw [if_neg hbe, Prod.mk.injEq] at e3
                      obtain ⟨rfl, rfl⟩ := e3
                      go_wp2_with fail
                      go_roundw
                      case rel => exact ⟨j + 1, _, true, _, by omega, by go_num, rfl, by rw [← hpv]; exact hinv'.out, hset, hpa'⟩
                      case measure => simp [RowKit.intOf]; omega
                  · have hjn : ¬ (j : Int) < (((orderOf g).length - 1 : Nat) : Int) := by omega
                    have hje : j + 1 = (orderOf g).length := by omega
                    have hpe : passA g D = (D1, more) := by rw [hpa.out, hje, List.drop_length]; rfl
                    have hrr := hrun'.out
                    unfold runO at hrr
                    rw [hpe] at hrr
                    rw [hje] at hinv
                    have hrr' := Aside0.mk hrr
                    have hinv' := Aside0.mk (hinv.next hr hkk)
                    clear hrr hinv hpe hpa
                    go_wp2_with fail
                    go_roundg gk
                    case measure => omega
                    case rel =>
                      refine ⟨more, D1, rfl, hTA, ⟨?_⟩⟩
                      have h := hrr'.out
                      cases more with
                      | true => exact ⟨⟨kk + 1, S1, by omega, hinv'.out⟩, by simpa using h⟩
                      | false => rw [if_neg (by simp)]; exact Option.some.inj (by simpa using h)
end Go.Proofs.Ytkmbhknmjnbanaa.A


namespace Go.Proofs.Ytkmbhknmjnbanaa.A
open Go.RowKit Go.Proofs.YtkmbhknmjnbanaaW.PrintWords Go.Proofs.YtkmbhknmjnbanaaW.PrintLast Go.Shelf Go.Lib
attribute [local go_sem] Oper.semAt_some
set_option linter.unusedVariables false
set_option linter.unusedSimpArgs false

/-- a block and those over it, so many at most -/
def upL (D : List Int) : Nat → Int → List Int
  | 0, _ => []
  | k + 1, a => if 0 ≤ a ∧ a < (D.length : Int) then a :: upL D k (D.getD a.toNat 0) else []
/-- what a round may touch -/
def KU (n₀ Bg Bf : Nat) (k : Nat) : Prop := ¬ (k < n₀ ∨ k = Bg ∨ k = Bf)
structure US (A : Option Addr) (c n : Nat) (w0 : World) (Bg Bf : Nat) (a : Int) (W : World) : Prop where
  hB : Below w0.heap.size w0 W
  cg : W.cell? ⟨Bg, 0, none⟩ = some (.slice A n c)
  cf : W.cell? ⟨Bf, 0, none⟩ = some (.int .i64 a)
  fr : W.frozen? ⟨Bf, 0, none⟩ = false
theorem US.keep {A : Option Addr} {c n : Nat} {w0 : World} {Bg Bf : Nat} {a : Int} {W W' : World} (h : US A c n w0 Bg Bf a W) (k : KeepsBut (KU w0.heap.size Bg Bf) W W') : US A c n w0 Bg Bf a W' :=
  ⟨h.hB.trans (k.below h.hB.size (fun j hj hx => hx (.inl hj))), k.cell h.cg (fun hx => hx (.inr (.inl rfl))), k.cell h.cf (fun hx => hx (.inr (.inr rfl))), k.frozen h.cf (fun hx => hx (.inr (.inr rfl))) h.fr⟩
theorem US.set {A : Option Addr} {c n : Nat} {w0 : World} {Bg Bf : Nat} {a : Int} {W : World} (h : US A c n w0 Bg Bf a W) (hne : Bg ≠ Bf) (hf : w0.heap.size ≤ Bf) (b : Int) : US A c n w0 Bg Bf b (W.setCell ⟨Bf, 0, none⟩ (.int .i64 b)) :=
  ⟨h.hB.trans ((Below.refl _ _).setCell hf _), (World.cell?_setCell_far _ _ _ _ (fun e => hne e.symm)).trans h.cg, World.cell?_setCell_same' _ _ _ (by rw [h.cf]; rfl), by rw [World.frozen?_setCell]; exact h.fr⟩

set_option maxRecDepth 100000 in
set_option maxHeartbeats 4000000 in
theorem up1_in (F : Fence) (hd : F.depth = none) (n : Nat) (h80 : F.fn 80) (hro : F.round = none) (l Bg Bf : Nat) (a0 : Int) (A : Option Addr) (c : Nat) (D : List Int) (w0 : World)
    (hC0 : Kd.C (Kd.int .i64) w0 A D.length D) (hDl : D.length ≤ 1000000) (hne : Bg ≠ Bf) (hf0 : w0.heap.size ≤ Bf)
    (J Jx : List Int → World → Prop) (W : World) (hU : US A c D.length w0 Bg Bf a0 W) (hJ : AbX (fun k => k = Bf) J)
    (hY : ∀ pre x W', 0 ≤ x → x < (D.length : Int) → J pre W' → W.heap.size ≤ W'.heap.size → pre.length < D.length + 1 → YieldAt F (n - 1) Try.prog l #[.int .i64 x] W' fun e W'' =>
      (e = .returned (.bool true) ∧ J (pre ++ [x]) W'' ∧ KeepsBut (KU w0.heap.size Bg Bf) W' W'') ∨ (e = .returned (.bool false) ∧ Jx (pre ++ [x]) W''))
    (h0 : J [] W) :
    CallsIn F n Try.prog 80 #[.func (.yield l) #[] #[], .pointer (some ⟨Bg, 0, none⟩), .pointer (some ⟨Bf, 0, none⟩)] W fun e W' => (∃ v, e = .returned v) ∧
      ((∃ ys, ys = upL D (D.length + 1) a0 ∧ J ys W') ∨ (∃ pre, pre <+: upL D (D.length + 1) a0 ∧ Jx pre W')) := by
  have hdd : ∀ k : Nat, (F.depth.isSome = true → 1 ≤ k) := fun k h => by rw [hd] at h; cases h
  have c1 := hU.cg
  have hU' := Aside0.mk hU
  have h0' := Aside0.mk h0
  have hlen1 : wrap64 ((D.length : Int) + 1) = ((D.length + 1 : Nat) : Int) := by unfold wrap64; omega
  clear hU h0
  refine callsIn_of_wp Try.func80 rfl h80 ?_ hro
  simp only [Try.ntmps80, List.size_toArray, List.length_cons, List.length_nil, Nat.reduceAdd, Nat.reduceSub, Array.replicate_succ, Array.replicate_zero, List.push_toArray, List.append_toArray, List.nil_append, List.cons_append]
  gi_wp2
  gi_loopw [7] (fun s wr => ∃ (m : Nat) (pre : List Int) (a : Int), m ≤ D.length + 1 ∧ s = .int .i64 m ∧ pre.length = m ∧ Aside0 (pre ++ upL D (D.length + 1 - m) a = upL D (D.length + 1) a0) ∧ Aside0 (US A c D.length w0 Bg Bf a wr) ∧ Aside0 (J pre wr) ∧ Aside0 (W.heap.size ≤ wr.heap.size))
    (fun s wr => D.length + 1 - (RowKit.intOf s).toNat)
  case atStart => exact ⟨0, [], a0, Nat.zero_le _, rfl, rfl, ⟨rfl⟩, hU', h0', ⟨Nat.le_refl _⟩⟩
  case round =>
    clear hU' h0' c1
    obtain ⟨m, pre, a, hm, rfl, hpl, hup, hU, hJ0, hsz⟩ := hrel
    by_cases hlt : m < D.length + 1
    · have hmn : (m : Int) < (D.length : Int) + 1 := by omega
      have k1 := hU.out.cg
      have k2 := hU.out.cf
      have k3 := hU.out.fr
      have hupn : upL D (D.length + 1 - m) a = if 0 ≤ a ∧ a < (D.length : Int) then a :: upL D (D.length + 1 - (m + 1)) (D.getD a.toNat 0) else [] := by
        rw [show D.length + 1 - m = (D.length + 1 - (m + 1)) + 1 by omega]
        rfl
      by_cases ha0 : a < 0
      · have hend : pre = upL D (D.length + 1) a0 := by
          have := hup.out
          rw [hupn, if_neg (by omega), List.append_nil] at this
          exact this
        have hend' := Aside0.mk hend
        clear hupn hend hY
        gi_wp2
        refine ⟨fun _ h => (by cases h), ?_⟩
        gi_wp2
        refine bodyPost_ret (results_none rfl _ _ _) rfl ?_
        exact ⟨⟨_, rfl⟩, .inl ⟨_, hend'.out, hJ0.out⟩⟩
      · by_cases ha1 : a ≥ (D.length : Int)
        · have hend : pre = upL D (D.length + 1) a0 := by
            have := hup.out
            rw [hupn, if_neg (by omega), List.append_nil] at this
            exact this
          have hend' := Aside0.mk hend
          clear hupn hend hY
          gi_wp2
          refine ⟨fun _ h => (by cases h), ?_⟩
          gi_wp2
          refine bodyPost_ret (results_none rfl _ _ _) rfl ?_
          exact ⟨⟨_, rfl⟩, .inl ⟨_, hend'.out, hJ0.out⟩⟩
        · have hap : 0 ≤ a := by omega
          have hal : a < (D.length : Int) := by omega
          have hnx : (pre ++ [a]) ++ upL D (D.length + 1 - (m + 1)) (D.getD a.toNat 0) = upL D (D.length + 1) a0 := by
            have := hup.out
            rw [hupn, if_pos ⟨hap, hal⟩] at this
            rw [List.append_assoc]
            exact this
          have hnx' := Aside0.mk hnx
          obtain ⟨an, rfl⟩ := Int.eq_ofNat_of_zero_le hap
          obtain ⟨ad, rfl, q0⟩ := Kd.at_int hC0 (an : Int) hap hal
          rw [Int.toNat_natCast, rdD] at q0
          have q0' := Aside0.mk q0
          obtain ⟨fn, tmps, assign, body, hy, hR⟩ := hY pre (an : Int) wr hap hal hJ0.out hsz.out (by omega)
          clear hupn hnx hup q0
          gi_wp2_with ((try refine ⟨hdd _, ?_⟩); refine hR.mono ?_; clear hR; rintro e W2 (⟨rfl, hJ2, hk2⟩ | ⟨rfl, hx2⟩); have hU2 := hU.out.keep hk2; have k4 := hU2.cg; have k5 := hU2.cf; have k6 := hU2.fr; have q1 := (hU2.hB.cell (World.block_lt_of_cell? _ _ q0'.out)).trans q0'.out; clear hy)
          · have hU3 := Aside0.mk (hU2.set hne hf0 (D.getD an 0))
            have hJ3 := Aside0.mk (hJ _ _ _ hJ2 (KeepsBut.setCell W2 ⟨Bf, 0, none⟩ (.int .i64 (D.getD an 0)) rfl))
            have hsz3 : Aside0 (W.heap.size ≤ (W2.setCell ⟨Bf, 0, none⟩ (.int .i64 (D.getD an 0))).heap.size) := ⟨Nat.le_trans hsz.out (Nat.le_trans hk2.size (by show W2.heap.size ≤ (W2.heap.modify _ _).size; rw [Array.size_modify]; exact Nat.le_refl _))⟩
            clear hU2 hJ2 hk2
            go_roundw
            case rel => exact ⟨m + 1, pre ++ [(an : Int)], _, by omega, by go_num, by rw [List.length_append, hpl]; rfl, hnx', hU3, hJ3, hsz3⟩
            case measure => simp [RowKit.intOf]; omega
          · refine bodyPost_ret (results_none rfl _ _ _) rfl ?_
            exact ⟨⟨_, rfl⟩, .inr ⟨_, ⟨_, hnx'.out⟩, hx2⟩⟩
    · obtain rfl : m = D.length + 1 := by omega
      have hend : pre = upL D (D.length + 1) a0 := by
        have := hup.out
        rw [Nat.sub_self] at this
        simpa [upL] using this
      have hend' := Aside0.mk hend
      clear hend hY
      gi_wp2
      go_end0
      exact ⟨⟨_, rfl⟩, .inl ⟨_, hend'.out, hJ0.out⟩⟩
/-- a block of a row of so many -/
abbrev BlkN (n : Nat) := { x : Int // 0 ≤ x ∧ x < (n : Int) }
theorem up_stops (F : Fence) (hd : F.depth = none) (n : Nat) (h80 : F.fn 80) (hro : F.round = none) (Bg Bf : Nat) (a : Int) (A : Option Addr) (c : Nat) (D : List Int) (w0 w : World)
    (hC0 : Kd.C (Kd.int .i64) w0 A D.length D) (hDl : D.length ≤ 1000000) (hne : Bg ≠ Bf) (hf0 : w0.heap.size ≤ Bf) (hU : US A c D.length w0 Bg Bf a w) :
    SeqX F n Try.prog 80 #[.pointer (some ⟨Bg, 0, none⟩), .pointer (some ⟨Bf, 0, none⟩)] (fun x : BlkN D.length => #[.int .i64 x.1]) (fun _ k => k = Bf) (fun _ => KeepsBut (KU w0.heap.size Bg Bf)) (fun ys => ys.map (·.1) = upL D (D.length + 1) a) (fun pre => pre.map (·.1) <+: upL D (D.length + 1) a) (D.length + 1) 0 w := by
  intro l J Jx W hW hJ hJx hY h0
  have hU1 : US A c D.length w0 Bg Bf a W :=
    ⟨hU.hB.trans (hW.mono hU.hB.size), (hW.cell (World.block_lt_of_cell? _ _ hU.cg)).trans hU.cg, (hW.cell (World.block_lt_of_cell? _ _ hU.cf)).trans hU.cf, by
      have hb := hW.block Bf (World.block_lt_of_cell? _ _ hU.cf)
      have := hU.fr
      unfold World.frozen? at this ⊢
      rw [show (⟨Bf, 0, none⟩ : Addr).block = Bf from rfl] at this ⊢
      rw [hb]; exact this⟩
  refine (up1_in F hd n h80 hro l Bg Bf a A c D w0 hC0 hDl hne hf0 (fun pre W => ∃ p : List (BlkN D.length), p.map (·.1) = pre ∧ J p W) (fun pre W => ∃ p : List (BlkN D.length), p.map (·.1) = pre ∧ Jx p W) W
    hU1 (fun s W1 W2 ⟨p, hp, hj⟩ hk => ⟨p, hp, hJ p W1 W2 hj hk⟩) ?_ ⟨[], rfl, h0⟩).mono ?_
  · rintro pre x W' x0 x1 ⟨p, rfl, hj⟩ h4 hlen
    refine (hY p ⟨x, x0, x1⟩ W' hj (by omega) (by simpa using hlen)).mono ?_
    rintro e W'' (⟨rfl, h1, h2⟩ | ⟨rfl, h1⟩)
    · exact .inl ⟨rfl, ⟨p ++ [⟨x, x0, x1⟩], by simp, h1⟩, h2⟩
    · exact .inr ⟨rfl, p ++ [⟨x, x0, x1⟩], by simp, h1⟩
  · rintro e W' ⟨hv, (⟨ys, rfl, p, hp, hj⟩ | ⟨_, hpre, p, hp, hj⟩)⟩
    · exact ⟨hv, .inl ⟨p, hp, hj⟩⟩
    · exact ⟨hv, .inr ⟨p, by show p.map (·.1) <+: _; rw [hp]; exact hpre, hj⟩⟩
theorem up_in (F : Fence) (n : Nat) (h64 : F.fn 64) (hro : F.round = none) (A : Option Addr) (m c : Nat) (a : Int) (w : World) :
    CallsIn F n Try.prog 64 #[.slice A m c, .int .i64 a] w fun e w' => e = .returned (.func (.func 80) #[] #[.pointer (some ⟨w.heap.size, 0, none⟩), .pointer (some ⟨w.heap.size + 1, 0, none⟩)]) ∧ w' = (w.alloc (.cells #[.slice A m c] 27)).alloc (.cells #[.int .i64 a] 3) := by
  refine callsIn_of_wp Try.func64 rfl h64 ?_ hro
  simp only [Try.ntmps64, List.size_toArray, List.length_cons, List.length_nil, Nat.reduceAdd, Nat.reduceSub, Array.replicate_succ, Array.replicate_zero, List.push_toArray, List.append_toArray, List.nil_append, List.cons_append]
  gi_wp2
  go_ret
  exact ⟨rfl, rfl⟩
/-- behind the making of the two boxes -/
theorem up_state {A : Option Addr} {c : Nat} {a : Int} {D : List Int} {w0 w : World} (hB : Below w0.heap.size w0 w) : US A c D.length w0 w.heap.size (w.heap.size + 1) a ((w.alloc (.cells #[.slice A D.length c] 27)).alloc (.cells #[.int .i64 a] 3)) :=
  ⟨below_alloc (below_alloc hB _) _, by simp [go_sem], by simp [go_sem], by simp [go_sem]⟩
end Go.Proofs.Ytkmbhknmjnbanaa.A


namespace Go.Proofs.Ytkmbhknmjnbanaa.A
open Go.RowKit Go.Proofs.YtkmbhknmjnbanaaW.PrintWords Go.Proofs.YtkmbhknmjnbanaaW.PrintLast Go.Proofs.YtkmbhknmjnbanaaW.PrintMore
attribute [local go_sem] max2_int min2_int max_two min_two max_three min_three max_four min_four   -- for this text's walks alone
set_option linter.unusedVariables false
set_option linter.unusedSimpArgs false

def dom_counts.f (l0 : List Int) (a1 : Int) : Option (Bool) := if a1 ≥ 0 then (if a1 < (l0.length : Int) then (if a1 = 0 then (some true) else (if 0 ≤ a1 then (some (decide ((rd l0 a1) ≥ 0))) else (none))) else (some false)) else (some false)
set_option maxHeartbeats 8000000 in
set_option maxRecDepth 100000 in
theorem dom_counts.calls (A0 : Option Addr) (c0 : Nat) (l0 : List Int) (a1 : Int) (r : Bool) (w : World) (hr0 : Kd.C (Kd.int .i64) w A0 l0.length l0) (hc0 : l0.length ≤ c0) (h : dom_counts.f l0 a1 = some r) :
    Calls Try.prog 63 #[.slice A0 l0.length c0, .int .i64 a1] w fun e w' => e = .returned (.bool r) ∧ Drawn0 w w' := by
  have HR0 := Aside0.mk hr0
  have HC0 := Aside0.mk hc0
  clear hr0 hc0
  have H : (if a1 ≥ 0 then (if a1 < (l0.length : Int) then (if a1 = 0 then (some true) else (if 0 ≤ a1 then (some (decide ((rd l0 a1) ≥ 0))) else (none))) else (some false)) else (some false)) = some r := h
  clear h
  by_cases c3 : a1 ≥ 0
  · rw [if_pos c3] at H
    have c3b0 : decide (0 ≤ a1) = true := decide_eq_true c3
    clear c3
    by_cases c4 : a1 < (l0.length : Int)
    · rw [if_pos c4] at H
      have c4b0 : decide (a1 < (l0.length : Int)) = true := decide_eq_true c4
      clear c4
      by_cases c5 : a1 = 0
      · rw [if_pos c5] at H
        have c5b0 : (a1 == 0) = true := beq_iff_eq.mpr c5
        have c5b1 : (a1 != 0) = false := bne_eq_false_iff_eq.mpr c5
        clear c5
        obtain rfl := Option.some.inj H
        go_enter Try.func63, Try.ntmps63
        go_wp2
        go_ret
        exact ⟨by first | rfl | (simp; done) | (simp [*]; done), by repeat (first | exact Drawn0.refl _ | apply Drawn0.step)⟩
      · rw [if_neg c5] at H
        have c5b0 : (a1 == 0) = false := beq_eq_false_iff_ne.mpr c5
        have c5b1 : (a1 != 0) = true := bne_iff_ne.mpr c5
        by_cases c6 : 0 ≤ a1
        · rw [if_pos c6] at H
          have c6b0 : decide (0 ≤ a1) = true := decide_eq_true c6
          clear c6
          obtain rfl := Option.some.inj H
          have p616 : 0 ≤ (a1 : Int) := of_decide_eq_true (by first | (with_reducible assumption) | assumption)
          have q616 : a1 < (l0.length : Int) := of_decide_eq_true (by first | (with_reducible assumption) | assumption)
          obtain ⟨ad616, e616, hx616_0⟩ := Kd.at_int HR0.out a1 p616 q616
          cases e616
          replace p616 := eq_true p616
          replace q616 := eq_true q616
          go_enter Try.func63, Try.ntmps63
          go_wp2
          go_ret
          exact ⟨by first | rfl | (simp; done) | (simp [*]; done), by repeat (first | exact Drawn0.refl _ | apply Drawn0.step)⟩
        · rw [if_neg c6] at H
          exact absurd H (by simp)
    · rw [if_neg c4] at H
      have c4b0 : decide (a1 < (l0.length : Int)) = false := decide_eq_false c4
      clear c4
      obtain rfl := Option.some.inj H
      go_enter Try.func63, Try.ntmps63
      go_wp2
      go_ret
      exact ⟨by first | rfl | (simp; done) | (simp [*]; done), by repeat (first | exact Drawn0.refl _ | apply Drawn0.step)⟩
  · rw [if_neg c3] at H
    have c3b0 : decide (0 ≤ a1) = false := decide_eq_false c3
    clear c3
    obtain rfl := Option.some.inj H
    go_enter Try.func63, Try.ntmps63
    go_wp2
    go_ret
    exact ⟨by first | rfl | (simp; done) | (simp [*]; done), by repeat (first | exact Drawn0.refl _ | apply Drawn0.step)⟩

end Go.Proofs.Ytkmbhknmjnbanaa.A


namespace Go.Proofs.Ytkmbhknmjnbanaa.A
open Go.RowKit Go.Proofs.YtkmbhknmjnbanaaW.PrintWords Go.Proofs.YtkmbhknmjnbanaaW.PrintLast Go.Shelf Go.Lib
attribute [local go_sem] Oper.semAt_some
set_option linter.unusedVariables false
set_option linter.unusedSimpArgs false

def countsB (D : List Int) (a : Int) : Bool := decide (0 ≤ a) && decide (a < (D.length : Int)) && (decide (a = 0) || decide (0 ≤ D.getD a.toNat 0))
theorem counts_f (D : List Int) (a : Int) : dom_counts.f D a = some (countsB D a) := by
  unfold dom_counts.f countsB
  by_cases h0 : 0 ≤ a
  · rw [if_pos h0, decide_eq_true h0]
    by_cases h1 : a < (D.length : Int)
    · rw [if_pos h1, decide_eq_true h1]
      by_cases h2 : a = 0
      · rw [if_pos h2, decide_eq_true h2]; rfl
      · rw [if_neg h2, if_pos h0, decide_eq_false h2, rdD' h0]; rfl
    · rw [if_neg h1, decide_eq_false h1]; rfl
  · rw [if_neg h0, decide_eq_false h0]; rfl
theorem counts_calls (A : Option Addr) (c : Nat) (D : List Int) (a : Int) (w : World) (h : Kd.C (Kd.int .i64) w A D.length D) (hc : D.length ≤ c) :
    Calls Try.prog 63 #[.slice A D.length c, .int .i64 a] w fun e w' => e = .returned (.bool (countsB D a)) ∧ Drawn0 w w' := dom_counts.calls A c D a _ w h hc (counts_f D a)
/-- is a among them? -/
def HasV {n : Nat} (a : Int) (pre : List (BlkN n)) : Prop := a ∈ pre.map (·.1)
theorem HasV.snoc {n : Nat} {a : Int} {pre : List (BlkN n)} {x : BlkN n} : HasV a (pre ++ [x]) ↔ HasV a pre ∨ a = x.1 := by
  unfold HasV; rw [List.map_append, List.mem_append]; simp
/-- does a stand over b? -/
def domB (D : List Int) (a b : Int) : Bool := countsB D a && (countsB D b && decide (a ∈ upL D (D.length + 1) b))

set_option maxRecDepth 100000 in
set_option maxHeartbeats 4000000 in
theorem dominates_calls (A : Option Addr) (c : Nat) (D : List Int) (a b : Int) (w : World) (h : Kd.C (Kd.int .i64) w A D.length D) (hc : D.length ≤ c) (hDl : D.length ≤ 1000000) :
    Calls Try.prog 37 #[.slice A D.length c, .int .i64 a, .int .i64 b] w fun e w' => e = .returned (.bool (domB D a b)) ∧ Below w.heap.size w w' := by
  rw [← callsIn_wide (n := 5)]
  have hro : (Fence.wide).round = none := rfl
  have hd : (Fence.wide).depth = none := rfl
  have hca : ∀ V : World, Below w.heap.size w V → CallsIn Fence.wide (5 - 1) Try.prog 63 #[.slice A D.length c, .int .i64 a] V fun e w' => e = .returned (.bool (countsB D a)) ∧ Drawn0 V w' := fun V hV => callsIn_wide.2 (counts_calls A c D a V (Kd.C_below h hV) hc)
  have hcb : ∀ V : World, Below w.heap.size w V → CallsIn Fence.wide (5 - 1) Try.prog 63 #[.slice A D.length c, .int .i64 b] V fun e w' => e = .returned (.bool (countsB D b)) ∧ Drawn0 V w' := fun V hV => callsIn_wide.2 (counts_calls A c D b V (Kd.C_below h hV) hc)
  have hB2 : Below w.heap.size w ((w.alloc (.cells #[.int .i64 a] 3)).alloc (.cells #[.bool false] 4)) := below_alloc (below_alloc (Below.refl _ _) _) _
  have hca1 := hca _ hB2
  have e0 : ((w.alloc (.cells #[.int .i64 a] 3)).alloc (.cells #[.bool false] 4)).cell? ⟨w.heap.size, 0, none⟩ = some (.int .i64 a) := by simp [go_sem]
  have e1 : ((w.alloc (.cells #[.int .i64 a] 3)).alloc (.cells #[.bool false] 4)).cell? ⟨w.heap.size + 1, 0, none⟩ = some (.bool false) := by simp [go_sem]
  have e2 : ((w.alloc (.cells #[.int .i64 a] 3)).alloc (.cells #[.bool false] 4)).frozen? ⟨w.heap.size + 1, 0, none⟩ = false := by simp [go_sem]
  have e3 : ((w.alloc (.cells #[.int .i64 a] 3)).alloc (.cells #[.bool false] 4)).heap.size = w.heap.size + 2 := by simp
  refine callsIn_of_wp_marks Try.func37 rfl trivial ?_ hro
  simp only [Try.ntmps37, List.size_toArray, List.length_cons, List.length_nil, Nat.reduceAdd, Nat.reduceSub, Array.replicate_succ, Array.replicate_zero, List.push_toArray, List.append_toArray, List.nil_append, List.cons_append]
  unfold domB
  cases hka : countsB D a with
  | false =>
    rw [hka] at hca1
    gi_wp2_with ((try refine ⟨trivial, ?_⟩); gi_at_call 63; refine hca1.mono ?_; clear hca1; rintro e w1 ⟨rfl, ⟨q1, rfl⟩⟩)
    refine ⟨trivial, ?_⟩
    gi_wp2
    refine ⟨.bool false, ?_, rfl, (((hB2.trans (pw_below_drewN (Below.refl _ _) q1)).setCell (by show w.heap.size ≤ w.heap.size + 1; omega) _))⟩
    simp [results, Try.f37, go_sem]
  | true =>
    rw [hka] at hca1
    have hcb1 : ∀ q, CallsIn Fence.wide (5 - 1) Try.prog 63 #[.slice A D.length c, .int .i64 b] (((w.alloc (.cells #[.int .i64 a] 3)).alloc (.cells #[.bool false] 4)).drewN q) _ := fun q => hcb _ (hB2.trans (pw_below_drewN (Below.refl _ _) q))
    cases hkb : countsB D b with
    | false =>
      rw [hkb] at hcb1
      gi_wp2_with (first
        | ((try refine ⟨trivial, ?_⟩); gi_at_call 63; refine hca1.mono ?_; clear hca1; rintro e w1 ⟨rfl, ⟨q1, rfl⟩⟩)
        | ((try refine ⟨trivial, ?_⟩); gi_at_call 63; refine (hcb1 _).mono ?_; clear hcb1; rintro e w1 ⟨rfl, ⟨q2, rfl⟩⟩))
      refine ⟨.bool false, ?_, rfl, (((hB2.trans (pw_below_drewN (Below.refl _ _) (q1 + q2))).setCell (by show w.heap.size ≤ w.heap.size + 1; omega) _))⟩
      simp [results, Try.f37, go_sem]
    | true =>
      rw [hkb] at hcb1
      gi_wp2_with (first
        | ((try refine ⟨trivial, ?_⟩); gi_at_call 63; refine hca1.mono ?_; clear hca1; rintro e w1 ⟨rfl, ⟨q1, rfl⟩⟩)
        | ((try refine ⟨trivial, ?_⟩); gi_at_call 63; refine (hcb1 _).mono ?_; clear hcb1; rintro e w1 ⟨rfl, ⟨q2, rfl⟩⟩)
        | ((try refine ⟨trivial, ?_⟩); gi_at_call 64; refine (up_in Fence.wide _ trivial hro A D.length c b _).mono ?_; rintro e w2 ⟨rfl, rfl⟩))
      obtain ⟨V, hV⟩ : ∃ V, ((w.alloc (.cells #[.int .i64 a] 3)).alloc (.cells #[.bool false] 4)).drewN (q1 + q2) = V := ⟨_, rfl⟩
      have hVs : V.heap.size = w.heap.size + 2 := by rw [← hV]; exact e3
      have hVB : Below w.heap.size w V := by rw [← hV]; exact hB2.trans (pw_below_drewN (Below.refl _ _) _)
      have hU := up_state (A := A) (c := c) (a := b) (D := D) hVB
      obtain ⟨WL, hWL⟩ : ∃ WL, (V.alloc (.cells #[.slice A D.length c] 27)).alloc (.cells #[.int .i64 b] 3) = WL := ⟨_, rfl⟩
      rw [hWL, hVs] at hU
      have f0 : WL.cell? ⟨w.heap.size, 0, none⟩ = some (.int .i64 a) := by rw [← hWL, ← hV]; simp [go_sem]
      have f1 : WL.cell? ⟨w.heap.size + 1, 0, none⟩ = some (.bool false) := by rw [← hWL, ← hV]; simp [go_sem]
      have f2 : WL.frozen? ⟨w.heap.size + 1, 0, none⟩ = false := by rw [← hWL, ← hV]; simp [go_sem]
      have hsz : WL.heap.size = w.heap.size + 4 := by rw [← hWL]; simp [hVs]
      simp only [hV, hVs]
      rw [hWL]
      clear hca hcb e0 e1 e2 e3 hV hWL hVB hB2
      have hst := up_stops Fence.wide hd 4 trivial hro (w.heap.size + 2) (w.heap.size + 2 + 1) b A c D w WL h hDl (by omega) (by omega) hU
      refine wpIn_rangeFunc_X hro (by omega) (gf := 80) (lb := #[.pointer (some ⟨w.heap.size + 2, 0, none⟩), .pointer (some ⟨w.heap.size + 2 + 1, 0, none⟩)]) rfl trivial (enters_of Try.func80 (by kernel_rfl) rfl) hst
        (fun k hk => by have : k = w.heap.size + 2 + 1 := hk; omega) (fun h k => h.trans k) (fun W l o o' h1 h2 _ _ _ => KeepsBut.putObj W o' (by rintro (h | h | h) <;> omega)) (Below.refl _ _) (fun _ => rfl)
        (fun pre W => Aside0 (Below w.heap.size w W ∧ W.cell? ⟨w.heap.size, 0, none⟩ = some (.int .i64 a) ∧ W.cell? ⟨w.heap.size + 1, 0, none⟩ = some (.bool false) ∧ W.frozen? ⟨w.heap.size + 1, 0, none⟩ = false ∧ ¬ HasV a pre))
        (fun cc pre W => Aside0 (cc = .ret ∧ Below w.heap.size w W ∧ W.cell? ⟨w.heap.size + 1, 0, none⟩ = some (.bool true) ∧ HasV a pre)) ?hI ?hIx ⟨⟨hU.hB, f0, f1, f2, by simp [HasV]⟩⟩ ?a1 ?assign ?body ?done ?stop
      case hI =>
        rintro pre W W' ⟨⟨h1, h2, h3, h4, h5⟩⟩ hk
        have hx : ∀ k, XX (fun _ k => k = w.heap.size + 2 + 1) WL.heap.size k → w.heap.size + 2 ≤ k := by
          rintro k (h | h)
          · have : k = w.heap.size + 2 + 1 := h; omega
          · omega
        exact ⟨⟨h1.trans (hk.below h1.size (fun k hk hX => by have := hx k hX; omega)), hk.cell h2 (fun hX => by have : w.heap.size + 2 ≤ w.heap.size := hx _ hX; omega), hk.cell h3 (fun hX => by have : w.heap.size + 2 ≤ w.heap.size + 1 := hx _ hX; omega), hk.frozen h3 (fun hX => by have : w.heap.size + 2 ≤ w.heap.size + 1 := hx _ hX; omega) h4, h5⟩⟩
      case hIx =>
        rintro cc pre W W' ⟨⟨rfl, h1, h3, h5⟩⟩ hk
        have hx : ∀ k, XX (fun _ k => k = w.heap.size + 2 + 1) WL.heap.size k → w.heap.size + 2 ≤ k := by
          rintro k (h | h)
          · have : k = w.heap.size + 2 + 1 := h; omega
          · omega
        exact ⟨⟨rfl, h1.trans (hk.below h1.size (fun k hk hX => by have := hx k hX; omega)), hk.cell h3 (fun hX => by have : w.heap.size + 2 ≤ w.heap.size + 1 := hx _ hX; omega), h5⟩⟩
      case assign =>
        intro l x W K hK
        gi_wp2
        exact hK
      case body =>
        rintro l pre ⟨x, x0, x1⟩ W ⟨⟨h1, h2, h3, h4, h5⟩⟩ _ _
        dsimp only
        by_cases hxa : x = a
        · subst hxa
          gi_wp2
          exact ⟨(KeepsOthers.setCell _ _ _).from _, ⟨rfl, h1.setCell (by show w.heap.size ≤ w.heap.size + 1; omega) _, World.cell?_setCell_same' _ _ _ (by rw [h3]; rfl), HasV.snoc.2 (.inr rfl)⟩⟩
        · gi_wp2
          refine ⟨(KeepsOthers.refl _).from _, KeepsBut.refl _ _, ⟨h1, h2, h3, h4, fun hy => ?_⟩⟩
          rcases HasV.snoc.1 hy with hy | hy
          · exact h5 hy
          · exact hxa hy.symm
      case done =>
        rintro Dd ys W hD hys ⟨⟨h1, h2, h3, h4, h5⟩⟩ hK
        gi_wp2
        have hK' := (KeepsOthers.setCell W ⟨w.heap.size + 1, 0, none⟩ (.bool false)).same Dd _ hK rfl
        refine ⟨by simp, .inl ⟨_, _, rfl, run_takeDeferred hK', ?_⟩⟩
        have hc5 := cell_kept (World.cell?_setCell_same' W ⟨w.heap.size + 1, 0, none⟩ (.bool false) (by rw [h3]; rfl)) (grownBy_putObj' _ Dd (.deferred none)) (fun r e => by cases e; exact ⟨_, hK', rfl⟩)
        have hno : a ∉ upL D (D.length + 1) b := by
          rw [← hys]
          exact h5
        refine ⟨.bool false, ?_, by rw [decide_eq_false hno], ?_⟩
        · simp [results, Try.f37, go_sem, hc5]
        · exact (h1.setCell (by show w.heap.size ≤ w.heap.size + 1; omega) _).trans (belowK_b (w := w) (Nat.le_refl _) _ Dd _ (.deferred none) (by omega) hK' rfl rfl)
      case stop =>
        rintro Dd cc pre W hD hpre ⟨⟨rfl, h1, h3, hy⟩⟩ hK
        gi_wp2
        refine ⟨by simp, .inl ⟨_, _, rfl, run_takeDeferred hK, ?_⟩⟩
        have hc5 := cell_kept h3 (grownBy_putObj' _ Dd (.deferred none)) (fun r e => by cases e; exact ⟨_, hK, rfl⟩)
        refine ⟨.bool true, ?_, ?_, ?_⟩
        · simp [results, Try.f37, go_sem, hc5]
        · have hm : a ∈ upL D (D.length + 1) b := hpre.subset hy
          rw [decide_eq_true hm]
        · exact h1.trans (belowK_b (w := w) (Nat.le_refl _) _ Dd _ (.deferred none) (by omega) hK rfl rfl)
end Go.Proofs.Ytkmbhknmjnbanaa.A


namespace Go.Proofs.Ytkmbhknmjnbanaa.A
open Go.RowKit Go.Maps Go.Proofs.YtkmbhknmjnbanaaW.PrintWords Go.Proofs.YtkmbhknmjnbanaaW.PrintLast Go.Shelf Go.Lib
attribute [local go_sem] Oper.semAt_some
set_option linter.unusedVariables false
set_option linter.unusedSimpArgs false

/-- those over a block, as far as the one over another -/
def cutL (D : List Int) (at_ : Nat) (p : Int) : List Int := (upL D (D.length + 1) p).takeWhile fun a => !decide (a = D.getD at_ 0)
/-- is a block in the frontier of another? -/
def inF (D : List Int) (P : List (List Int)) (at_ a : Nat) : Bool := (rowOf P at_).any fun p => countsB D p && decide ((a : Int) ∈ cutL D at_ p)
def frRow (D : List Int) (P : List (List Int)) (n a : Nat) : List Int := ((List.range n).filter fun at_ => inF D P at_ a).map fun k : Nat => (k : Int)
def frRows (D : List Int) (P : List (List Int)) (n : Nat) : List (List Int) := (List.range n).map (frRow D P n)

theorem SetAt.at {w w1 : World} {b n : Nat} {s : Int → Bool} (h : SetAt w b n s) (hb : w1.heap[b]? = w.heap[b]?) : SetAt w1 b n s := by
  obtain ⟨D, ⟨es, clock, h1, h2⟩, h3⟩ := h
  exact ⟨D, ⟨es, clock, hb.trans h1, h2⟩, h3⟩

theorem info69 : (Try.prog.info? 69).map (fun i => (i.zero, i.size, i.bytes)) = some (some (.map none), 1, 8) := by kernel_rfl
theorem made69 (n : Nat) : madeCells #[.map none] n = (Array.range n).map (fun _ => Value.map none) := by
  unfold madeCells
  apply Array.ext
  · simp
  · intro i h1 h2; simp [Nat.mod_one]
/-- the row of sets while they are made -/
structure FA (n : Nat) (w3 : World) (A : Option Addr) (ci m : Nat) (W : World) : Prop where
  hB : Below w3.heap.size w3 W
  bi : W.cell? ⟨w3.heap.size, 0, none⟩ = some (.slice A n ci)
  bs : W.cell? ⟨w3.heap.size + 1 + 1, 0, none⟩ = some (.slice (some ⟨w3.heap.size + 1, 0, none⟩) n n)
  row : ∀ j, j < n → W.cell? ⟨w3.heap.size + 1, j, none⟩ = some (if j < m then .map (some (w3.heap.size + 3 + j)) else .map none)
  fr : ∀ j, W.frozen? ⟨w3.heap.size + 1, j, none⟩ = false
  sets : ∀ j, j < m → SetAt W (w3.heap.size + 3 + j) 0 (fun _ => false)
  size : W.heap.size = w3.heap.size + 3 + m
theorem FA.step {n : Nat} {w3 : World} {A : Option Addr} {ci m : Nat} {W : World} (h : FA n w3 A ci m W) (hm : m < n) : FA n w3 A ci (m + 1) ((W.alloc (.map #[] 0)).setCell ⟨w3.heap.size + 1, m, none⟩ (.map (some W.heap.size))) := by
  have hl : ∀ k, k < W.heap.size → (W.alloc (.map #[] 0)).heap[k]? = W.heap[k]? := fun k hk => Below.heap_alloc _ _ _ hk
  have hc : ∀ (q : Addr) (v : Value), W.cell? q = some v → (W.alloc (.map #[] 0)).cell? q = some v := fun q v hv => (World.cell?_alloc_lt _ _ _ (World.block_lt_of_cell? _ _ hv)).trans hv
  refine ⟨(below_alloc h.hB _).setCell (by show w3.heap.size ≤ w3.heap.size + 1; omega) _, (World.cell?_setCell_far _ _ _ _ (by show w3.heap.size + 1 ≠ w3.heap.size; omega)).trans (hc _ _ h.bi), (World.cell?_setCell_far _ _ _ _ (by show w3.heap.size + 1 ≠ w3.heap.size + 1 + 1; omega)).trans (hc _ _ h.bs), fun j hj => ?_, fun j => ?_, fun j hj => ?_, ?_⟩
  · by_cases e : j = m
    · subst e
      rw [World.cell?_setCell_same' _ _ _ (by rw [hc _ _ (h.row j hj)]; rfl), if_pos (by omega), h.size]
    · rw [World.cell?_setCell_other _ _ _ _ (by intro h; cases h; exact e rfl), hc _ _ (h.row j hj)]
      by_cases e2 : j < m
      · rw [if_pos e2, if_pos (by omega)]
      · rw [if_neg e2, if_neg (by omega)]
  · rw [World.frozen?_setCell]
    have hb := hl (w3.heap.size + 1) (World.block_lt_of_cell? _ _ (h.row m hm))
    have := h.fr j
    unfold World.frozen? at this ⊢
    rw [show (⟨w3.heap.size + 1, j, none⟩ : Addr).block = w3.heap.size + 1 from rfl] at this ⊢
    rw [hb]; exact this
  · have hsame : ∀ k, k ≠ w3.heap.size + 1 → ((W.alloc (.map #[] 0)).setCell ⟨w3.heap.size + 1, m, none⟩ (.map (some W.heap.size))).heap[k]? = (W.alloc (.map #[] 0)).heap[k]? := fun k hk => Below.heap_setCell _ _ _ k hk
    by_cases e : j < m
    · exact ((h.sets j e).at ((hsame _ (by omega)).trans (hl _ (h.sets j e).lt)))
    · obtain rfl : j = m := by omega
      rw [← h.size]
      exact (SetAt.made W).at (hsame _ (by have := h.size; omega))
  · show ((W.alloc (.map #[] 0)).heap.modify _ _).size = _
    rw [Array.size_modify]
    show (W.alloc (.map #[] 0)).heap.size = _
    rw [World.size_alloc, h.size]
    omega

/-- what lies in memory in Frontier, when the sets are made -/
structure FM (n : Nat) (w3 : World) (A : Option Addr) (ci cnt : Nat) (S : Nat → Int → Bool) (W : World) : Prop where
  hB : Below w3.heap.size w3 W
  bi : W.cell? ⟨w3.heap.size, 0, none⟩ = some (.slice A n ci)
  bs : W.cell? ⟨w3.heap.size + 1 + 1, 0, none⟩ = some (.slice (some ⟨w3.heap.size + 1, 0, none⟩) n n)
  row : ∀ j, j < n → W.cell? ⟨w3.heap.size + 1, j, none⟩ = some (.map (some (w3.heap.size + 3 + j)))
  sets : ∀ j, j < n → ∃ c, c ≤ cnt ∧ SetAt W (w3.heap.size + 3 + j) c (S j)
  size : w3.heap.size + 3 + n ≤ W.heap.size
theorem FA.done {n : Nat} {w3 : World} {A : Option Addr} {ci : Nat} {W : World} (h : FA n w3 A ci n W) : FM n w3 A ci 0 (fun _ _ => false) W :=
  ⟨h.hB, h.bi, h.bs, fun j hj => by have := h.row j hj; rwa [if_pos hj] at this, fun j hj => ⟨0, Nat.le_refl _, h.sets j hj⟩, by rw [h.size]; exact Nat.le_refl _⟩
section
variable {n : Nat} {w3 : World} {A : Option Addr} {ci cnt : Nat} {S : Nat → Int → Bool} {W W1 : World}
theorem FM.keep (h : FM n w3 A ci cnt S W) {X : Nat → Prop} (hk : KeepsBut X W W1) (hX : ∀ k, k < w3.heap.size + 3 + n → ¬ X k) : FM n w3 A ci cnt S W1 :=
  ⟨h.hB.trans (hk.below h.hB.size (fun k hk => hX k (by omega))), hk.cell h.bi (hX _ (by show w3.heap.size < _; omega)), hk.cell h.bs (hX _ (by show w3.heap.size + 1 + 1 < _; omega)), fun j hj => hk.cell (h.row j hj) (hX _ (by show w3.heap.size + 1 < _; omega)),
    fun j hj => by obtain ⟨c, hc, hs⟩ := h.sets j hj; exact ⟨c, hc, hs.at (hk.block _ hs.lt (hX _ (by omega)))⟩, Nat.le_trans h.size hk.size⟩
theorem FM.alloc (h : FM n w3 A ci cnt S W) (o : Obj) : FM n w3 A ci cnt S (W.alloc o) := h.keep (KeepsBut.alloc (fun _ => False) W o) (fun _ _ h => h)
theorem FM.drewN (h : FM n w3 A ci cnt S W) (q : Nat) : FM n w3 A ci cnt S (W.drewN q) := h.keep (X := fun _ => False) ⟨rfl, rfl, rfl, Nat.le_refl _, fun _ _ _ => rfl⟩ (fun _ _ h => h)
theorem FM.more (h : FM n w3 A ci cnt S W) {cnt' : Nat} (hc : cnt ≤ cnt') : FM n w3 A ci cnt' S W :=
  ⟨h.hB, h.bi, h.bs, h.row, fun j hj => by obtain ⟨c, h1, h2⟩ := h.sets j hj; exact ⟨c, by omega, h2⟩, h.size⟩
/-- one more in one set -/
theorem FM.store (h : FM n w3 A ci cnt S W) (hc : cnt ≤ 1000000) {j : Nat} (hj : j < n) {k : Int} (hk : Wf k) :
    ∃ W1, (Instr.mapUpdate 69 (.map (some (w3.heap.size + 3 + j))) (.int .i64 k) (.bool true)).run Try.prog W = .ok () W1 ∧ FM n w3 A ci (cnt + 1) (fun i => if i = j then ins (S j) k else S i) W1 ∧ W.grownBy W1 (some (w3.heap.size + 3 + j)) := by
  obtain ⟨c, h1, h2⟩ := h.sets j hj
  obtain ⟨W1, r1, r2, r3⟩ := h2.store (by unfold maxLen; omega) hk
  refine ⟨W1, r1, ?_, r3⟩
  have hcell : ∀ (q : Addr) (v : Value), q.block < w3.heap.size + 3 → W.cell? q = some v → W1.cell? q = some v := fun q v hq hv => by
    have hb := r3.block q.block (World.block_lt_of_cell? _ _ hv) (fun e => by have := Option.some.inj e; omega)
    unfold World.cell? at hv ⊢
    rw [hb]; exact hv
  refine ⟨h.hB.grown r3 h.hB.size (fun i e => by have := Option.some.inj e; omega), hcell _ _ (by show w3.heap.size < _; omega) h.bi, hcell _ _ (by show w3.heap.size + 1 + 1 < _; omega) h.bs, fun i hi => hcell _ _ (by show w3.heap.size + 1 < _; omega) (h.row i hi), fun i hi => ?_, Nat.le_trans h.size r3.size⟩
  by_cases e : i = j
  · subst e
    exact ⟨c + 1, by omega, by simpa using r2⟩
  · obtain ⟨c', h3, h4⟩ := h.sets i hi
    refine ⟨c', by omega, ?_⟩
    rw [if_neg e]
    exact h4.grown r3 (fun e2 => by have := Option.some.inj e2; omega)
end
/-- a mark of a range over a function -/
def mkD (D : Nat) : Deferred := { target := .collected D, args := #[] }
/-- marks that lie there, the newest first -/
structure Marks (b : Nat) (Ds : List Nat) (W : World) : Prop where
  ord : Ds.Pairwise (fun x y => y < x)
  at_ : ∀ D ∈ Ds, b ≤ D ∧ W.heap[D]? = some (.deferred (some []))
theorem Marks.lt {b : Nat} {Ds : List Nat} {W : World} (h : Marks b Ds W) : ∀ D ∈ Ds, D < W.heap.size := fun D hD => (Array.getElem?_eq_some_iff.1 (h.at_ D hD).2).1
theorem Marks.keep {b : Nat} {Ds : List Nat} {W W1 : World} (h : Marks b Ds W) {X : Nat → Prop} (hk : KeepsBut X W W1) (hX : ∀ D ∈ Ds, ¬ X D) : Marks b Ds W1 :=
  ⟨h.ord, fun D hD => ⟨(h.at_ D hD).1, (hk.block D (h.lt D hD) (hX D hD)).trans (h.at_ D hD).2⟩⟩
theorem Marks.cons {b : Nat} {Ds : List Nat} {W : World} (h : Marks b Ds W) {D : Nat} (hb : b ≤ D) (hD : ∀ x ∈ Ds, x < D) (hW : W.heap[D]? = some (.deferred (some []))) : Marks b (D :: Ds) W :=
  ⟨List.pairwise_cons.2 ⟨fun x hx => hD x hx, h.ord⟩, fun x hx => by
    rcases List.mem_cons.1 hx with rfl | hx
    · exact ⟨hb, hW⟩
    · exact h.at_ x hx⟩
theorem leaves_all {F : Fence} {n b : Nat} {P : Program} {fn : Func} {tmps : Array Value} {R : Ending → World → Prop} : ∀ (Ds : List Nat) (W : World), Marks b Ds W →
    (∀ W', KeepsBut (fun k => k ∈ Ds) W W' → ∃ v, (results fn tmps).run P W' = .ok v W' ∧ R (.returned v) W') → LeavesInM F n P fn tmps R (Ds.map mkD) .returning W
  | [], W, _, h => h W (KeepsBut.refl _ _)
  | D :: Ds, W, hm, h => by
    have hD := hm.at_ D (by simp)
    have ho := List.pairwise_cons.1 hm.ord
    refine ⟨by simp, .inl ⟨D, W.putObj D (.deferred none), rfl, run_takeDeferred hD.2, leaves_all (b := b) Ds _ ?_ fun W' hk => h W' ?_⟩⟩
    · exact Marks.keep ⟨ho.2, fun x hx => hm.at_ x (by simp [hx])⟩ (KeepsBut.putObj (X := fun k => k = D) W _ rfl) (fun x hx e => by have := ho.1 x hx; omega)
    · exact (KeepsBut.putObj (X := fun k => k ∈ D :: Ds) W _ (by simp)).trans (hk.mono fun k hk => by simp [hk])
/-- what stands in the sets when the blocks ahead of m are done, and of m's own the first q -/
def Cnd (D : List Int) (P : List (List Int)) (m q j : Nat) (k : Int) : Prop :=
  ∃ at_ i : Nat, k = (at_ : Int) ∧ (at_ < m ∧ i < (rowOf P at_).length ∨ at_ = m ∧ i < q) ∧ countsB D ((rowOf P at_).getD i 0) = true ∧ (j : Int) ∈ cutL D at_ ((rowOf P at_).getD i 0)
theorem cnd_zero (D : List Int) (P : List (List Int)) (j : Nat) (k : Int) : ¬ Cnd D P 0 0 j k := by
  rintro ⟨a, i, _, h, _⟩; omega
theorem cnd_next (D : List Int) (P : List (List Int)) (m j : Nat) (k : Int) : Cnd D P (m + 1) 0 j k ↔ Cnd D P m (rowOf P m).length j k := by
  constructor
  · rintro ⟨a, i, e, h, h2⟩
    refine ⟨a, i, e, ?_, h2⟩
    rcases h with h | h
    · by_cases ea : a = m
      · subst ea; exact .inr ⟨rfl, h.2⟩
      · exact .inl ⟨by omega, h.2⟩
    · omega
  · rintro ⟨a, i, e, h, h2⟩
    refine ⟨a, i, e, ?_, h2⟩
    rcases h with h | ⟨rfl, h⟩
    · exact .inl ⟨by omega, h.2⟩
    · exact .inl ⟨by omega, h⟩
theorem cnd_succ (D : List Int) (P : List (List Int)) (m q j : Nat) (k : Int) : Cnd D P m (q + 1) j k ↔ Cnd D P m q j k ∨ (k = (m : Int) ∧ countsB D ((rowOf P m).getD q 0) = true ∧ (j : Int) ∈ cutL D m ((rowOf P m).getD q 0)) := by
  constructor
  · rintro ⟨a, i, e, h, h2⟩
    rcases h with h | ⟨rfl, h⟩
    · exact .inl ⟨a, i, e, .inl h, h2⟩
    · by_cases ei : i = q
      · subst ei; exact .inr ⟨e, h2⟩
      · exact .inl ⟨a, i, e, .inr ⟨rfl, by omega⟩, h2⟩
  · rintro (⟨a, i, e, h, h2⟩ | ⟨e, h2⟩)
    · exact ⟨a, i, e, h.imp id fun h => ⟨h.1, by omega⟩, h2⟩
    · exact ⟨m, q, e, .inr ⟨rfl, by omega⟩, h2⟩
theorem cnd_all (D : List Int) (P : List (List Int)) (n j : Nat) (k : Int) : Cnd D P n 0 j k ↔ ∃ at_ : Nat, k = (at_ : Int) ∧ at_ < n ∧ inF D P at_ j = true := by
  unfold inF
  constructor
  · rintro ⟨a, i, e, h, h1, h2⟩
    rcases h with h | h
    · refine ⟨a, e, h.1, ?_⟩
      rw [List.any_eq_true]
      refine ⟨(rowOf P a).getD i 0, ?_, by rw [h1, decide_eq_true h2]; rfl⟩
      rw [List.getD_eq_getElem?_getD, List.getElem?_eq_getElem h.2]
      exact List.getElem_mem h.2
    · omega
  · rintro ⟨a, e, ha, h⟩
    rw [List.any_eq_true] at h
    obtain ⟨p, hp, hb⟩ := h
    obtain ⟨i, hi, rfl⟩ := List.getElem_of_mem hp
    rw [Bool.and_eq_true, decide_eq_true_eq] at hb
    have e2 : (rowOf P a).getD i 0 = (rowOf P a)[i] := by simp [List.getD_eq_getElem?_getD, hi]
    exact ⟨a, i, e, .inl ⟨ha, hi⟩, by rw [e2]; exact hb.1, by rw [e2]; exact hb.2⟩
/-- the frame of the loop over the blocks -/
def RB (A Ap : Option Addr) (c cp Lp n O : Nat) (R : Nat → List Nat → World → Prop) (a : Act) (W : World) : Prop := ∃ (m : Nat) (Ds : List Nat), R m Ds W ∧ ∃ s1 s2 s6 s7 s8 s9 s10 s11 s12 s13 s14 s15 s16 s17 s18 s19 s20 s21 s22 s23 s24 s25 s26 s27 s28 s29 s30 s31 s32 s33 s34 s37 s38 s39 s40 s41 s42 s43 s44 s45 s46 s47 s48 s49 s50 s51 s52 s53 s54 s55 s56 s57 s58 s59 s60 s61 s62 s63 s64 s65 s66 s67 s68 s69 s70 s71 s72 s73 s74 s75 s76 s77 s78 s79 s80 s81 s82 s83 s84 s85 s86 : Value, a = { tmps := #[.slice A n c, s1, s2, .pointer (some ⟨O, 0, none⟩), .slice Ap Lp cp, .pointer (some ⟨O + 1 + 1, 0, none⟩), s6, s7, s8, s9, s10, s11, s12, s13, s14, s15, s16, s17, s18, s19, s20, s21, s22, s23, s24, s25, s26, s27, s28, s29, s30, s31, s32, s33, s34, .int .i64 (n : Int), .int .i64 (m : Int), s37, s38, s39, s40, s41, s42, s43, s44, s45, s46, s47, s48, s49, s50, s51, s52, s53, s54, s55, s56, s57, s58, s59, s60, s61, s62, s63, s64, s65, s66, s67, s68, s69, s70, s71, s72, s73, s74, s75, s76, s77, s78, s79, s80, s81, s82, s83, s84, s85, s86], defers := Ds.map mkD }
/-- the frame of the loop over those ahead of one -/
def RP (A Ap Ar : Option Addr) (c cp Lp n O m Oa cr Lr : Nat) (R : Nat → List Nat → World → Prop) (a : Act) (W : World) : Prop := ∃ (q : Nat) (Ds : List Nat), R q Ds W ∧ ∃ s1 s2 s6 s8 s9 s10 s11 s12 s13 s14 s15 s16 s17 s18 s19 s20 s21 s22 s23 s24 s25 s26 s27 s28 s29 s30 s31 s32 s33 s34 s37 s38 s39 s40 s41 s45 s46 s47 s48 s49 s50 s51 s52 s53 s54 s55 s56 s57 s58 s59 s60 s61 s62 s63 s64 s65 s66 s67 s68 s69 s70 s71 s72 s73 s74 s75 s76 s77 s78 s79 s80 s81 s82 s83 s84 s85 s86 : Value, a = { tmps := #[.slice A n c, s1, s2, .pointer (some ⟨O, 0, none⟩), .slice Ap Lp cp, .pointer (some ⟨O + 1 + 1, 0, none⟩), s6, .pointer (some ⟨Oa, 0, none⟩), s8, s9, s10, s11, s12, s13, s14, s15, s16, s17, s18, s19, s20, s21, s22, s23, s24, s25, s26, s27, s28, s29, s30, s31, s32, s33, s34, .int .i64 (n : Int), .int .i64 (m : Int), s37, s38, s39, s40, s41, .slice Ar Lr cr, .int .i64 (Lr : Int), .int .i64 (q : Int), s45, s46, s47, s48, s49, s50, s51, s52, s53, s54, s55, s56, s57, s58, s59, s60, s61, s62, s63, s64, s65, s66, s67, s68, s69, s70, s71, s72, s73, s74, s75, s76, s77, s78, s79, s80, s81, s82, s83, s84, s85, s86], defers := Ds.map mkD }

theorem pstep_len (g : List (List Int)) (s : List Int × Bool) (x : Int) : (pstep g s x).1.length = s.1.length := by
  unfold pstep
  dsimp only
  by_cases e : nearestL g s.1 (rowOf (predsOf g) x.toNat) = s.1.getD x.toNat 0
  · rw [if_pos e]
  · rw [if_neg e]; exact List.length_set
theorem passL_len (g : List (List Int)) : ∀ (l : List Int) (s : List Int × Bool), (passL g l s).1.length = s.1.length
  | [], _ => rfl
  | x :: l, s => (passL_len g l (pstep g s x)).trans (pstep_len g s x)
theorem runO_len (g : List (List Int)) : ∀ (k : Nat) (D R : List Int), runO g k D = some R → R.length = D.length
  | 0, _, _, h => by cases h
  | k + 1, D, R, h => by
    have hl : (passA g D).1.length = D.length := passL_len g _ _
    unfold runO at h
    by_cases e : (passA g D).2 = true
    · rw [if_pos e] at h
      exact (runO_len g k _ R h).trans hl
    · rw [if_neg e] at h
      rw [← Option.some.inj h, hl]
theorem idomO_len {g : List (List Int)} (hr : rightB g = true) {k : Nat} {D : List Int} (h : idomO g k = some D) : D.length = g.length := by
  unfold idomO at h
  rw [if_pos hr] at h
  obtain ⟨R, hR, rfl⟩ := Option.map_eq_some_iff.1 h
  rw [List.length_set, runO_len g k _ R hR]
  simp [dom0]
theorem preds_row {g : List (List Int)} (hr : rightB g = true) (hn : g.length ≤ 40) (v : Nat) : (rowOf (predsOf g) v).length ≤ 320 := by
  obtain ⟨_, _, hg⟩ := right_rows hr
  have h4 := row_le_tot (predsOf g) v
  have h5 := tot_pfold hg g.length (Nat.le_refl _)
  rw [List.take_length] at h5
  have h6 := tot_le (right_8 hr)
  unfold predsOf at h4 ⊢; omega
theorem cut_all {D : List Int} {m : Nat} {p : Int} (h : D.getD m 0 ∉ upL D (D.length + 1) p) : cutL D m p = upL D (D.length + 1) p := by
  unfold cutL
  have := List.takeWhile_append_of_pos (p := fun a => !decide (a = D.getD m 0)) (l₁ := upL D (D.length + 1) p) (l₂ := []) fun a ha => by
    have : a ≠ D.getD m 0 := fun e => h (e ▸ ha)
    rw [decide_eq_false this]; rfl
  simpa only [List.append_nil, List.takeWhile_nil] using this
theorem cut_stop {D : List Int} {m : Nat} {p : Int} {pre : List Int} {x : Int} (hx : x = D.getD m 0) (hp : D.getD m 0 ∉ pre) (h : pre ++ [x] <+: upL D (D.length + 1) p) : cutL D m p = pre := by
  obtain ⟨t, ht⟩ := h
  unfold cutL
  rw [← ht, List.append_assoc, List.takeWhile_append_of_pos (fun a ha => by
    have : a ≠ D.getD m 0 := fun e => hp (e ▸ ha)
    rw [decide_eq_false this]; rfl)]
  rw [List.singleton_append, List.takeWhile_cons, hx, decide_eq_true rfl]
  simp

theorem upL_len (D : List Int) : ∀ (n : Nat) (a : Int), (upL D n a).length ≤ n
  | 0, _ => Nat.le_refl _
  | n + 1, a => by
    unfold upL
    by_cases h : 0 ≤ a ∧ a < (D.length : Int)
    · rw [if_pos h, List.length_cons]
      have := upL_len D n (D.getD a.toNat 0)
      omega
    · rw [if_neg h]; exact Nat.zero_le _
/-- the answer so far: the first m rows -/
def frUp (D : List Int) (P : List (List Int)) (n m : Nat) : List (List Int) := (List.range m).map (frRow D P n) ++ List.replicate (n - m) []
theorem frUp_set (D : List Int) (P : List (List Int)) {n m : Nat} (h : m < n) : (frUp D P n m).set m (frRow D P n m) = frUp D P n (m + 1) := by
  unfold frUp
  have e : n - m = (n - (m + 1)) + 1 := by omega
  have hl : ((List.range m).map (frRow D P n)).length = m := by simp
  rw [e, List.replicate_succ, List.range_succ, List.map_append, List.append_assoc]
  rw [List.set_append_right _ _ (by omega), hl, Nat.sub_self]
  rfl
theorem frUp_all (D : List Int) (P : List (List Int)) (n : Nat) : frUp D P n n = frRows D P n := by simp [frUp, frRows]
theorem frRow_rising (D : List Int) (P : List (List Int)) (n a : Nat) : Rising (frRow D P n a) := by
  unfold Rising frRow
  rw [List.pairwise_map]
  exact (List.pairwise_lt_range.filter _).imp (fun h => by omega)
theorem frRow_mem (D : List Int) (P : List (List Int)) (n a : Nat) (k : Int) : k ∈ frRow D P n a ↔ ∃ at_ : Nat, k = (at_ : Int) ∧ at_ < n ∧ inF D P at_ a = true := by
  unfold frRow
  rw [List.mem_map]
  constructor
  · rintro ⟨x, hx, rfl⟩
    have := List.mem_filter.1 hx
    exact ⟨x, rfl, List.mem_range.1 this.1, this.2⟩
  · rintro ⟨x, rfl, h1, h2⟩
    exact ⟨x, List.mem_filter.2 ⟨List.mem_range.2 h1, h2⟩, rfl⟩
/-- a fresh row, laid into a row of rows -/
theorem fr_store {wr w9 : World} {base G n m : Nat} {X : List (List Int)} {v : Value} {ks : List Int} (hS : Kd.S (Kd.slice 3 (Kd.int .i64)) 27 wr base (fun _ => True) (.slice (some ⟨G, 0, none⟩) n n) X) (h0 : (0 : Int) ≤ (m : Int)) (h1 : (m : Int) < (n : Int)) (hG : G < wr.heap.size) (hb : base ≤ wr.heap.size)
    (hR : Kd.R (Kd.int .i64) 3 w9 wr.heap.size (fun _ => True) v ks) (hB : Below wr.heap.size wr w9) :
    ∃ u, w9.cell? ⟨G, m, none⟩ = some u ∧ w9.frozen? ⟨G, m, none⟩ = false ∧ Kd.S (Kd.slice 3 (Kd.int .i64)) 27 (w9.setCell ⟨G, m, none⟩ v) base (fun _ => True) (.slice (some ⟨G, 0, none⟩) n n) (X.set m ks) := by
  have hS9 := Kd.S_below (Kd.S_mono (Kd.S_bound hS) (ok' := fun k => True ∧ ¬ wr.heap.size ≤ k) (fun k hk => ⟨trivial, by have := hk.2.2.1; omega⟩)) hB
  obtain ⟨oki, cc, hcl, hM, hcc, hfr, hoki, hH⟩ := Kd.S_elem hS9 ([] : List Int) (m : Int) h0 h1
  obtain ⟨u, rfl⟩ : ∃ u, cc = [u] := List.length_eq_one_iff.1 hcl
  have x1 := hcc 0 u rfl
  have x2 := hfr 0
  have e : (m : Int).toNat * (Kd.slice 3 (Kd.int .i64)).sz + 0 = m := by show (m : Int).toNat * 1 + 0 = m; omega
  rw [e] at x1 x2
  obtain ⟨y1, y2⟩ := Kd.S_seg (okp := fun k => wr.heap.size ≤ k) (x' := ks) (seg := [v]) (j := 0) hH h0 h1 (Nat.le_refl 1) ⟨v, rfl, Kd.R_lower (Kd.R_mono (Kd.R_bound hR) (fun k hk => hk.2.1)) hb⟩ (fun k hk => .inr hk) (fun k hk => ⟨trivial, by omega⟩)
  rw [e, Int.toNat_natCast] at y1
  exact ⟨u, x1, x2, y1⟩
theorem rows_made (V : World) (base n : Nat) (hb : base ≤ V.heap.size) (hn : n ≤ 4096) : Kd.S (Kd.slice 3 (Kd.int .i64)) 27 (V.alloc (.cells (madeCells #[.slice none 0 0] n) 27)) base (fun _ => True) (.slice (some ⟨V.heap.size, 0, none⟩) n n) (List.replicate n []) := by
  have h := R_new_lit (Kd.bare (Kd.slice 3 (Kd.int .i64))) V base 27 (xs := List.replicate n ([] : List Int)) (inner := (madeCells #[.slice none 0 0] (n * 1)).toList) (ok := fun _ => True) (okp := fun _ => False) (Kd.reps_made (z := .slice none 0 0) rfl (by decide) (show (Kd.slice 3 (Kd.int .i64)).M _ _ (fun _ => False) _ _ from ⟨_, rfl, Kd.R_nil _ _ _ _ _⟩) n) (fun _ h => h.elim) trivial hb (by simp; omega)
  rw [List.length_replicate, Nat.mul_one, Array.toArray_toList] at h
  exact Kd.S_bare h

set_option maxRecDepth 100000 in
set_option maxHeartbeats 4000000 in
theorem frontier_calls (k : Nat) (A : Option Addr) (c : Nat) (g : List (List Int)) (D : List Int) (w : World) (hC : Kd.C (Kd.slice 3 (Kd.int .i64)) w A g.length g) (hc : g.length ≤ c) (hn : g.length ≤ 40) (h : idomO g k = some D) (hr : rightB g = true) :
    Calls Try.prog 44 #[.slice A g.length c] w fun e w' => ∃ v, e = .returned v ∧ Kd.S (Kd.slice 3 (Kd.int .i64)) 27 w' w.heap.size (fun _ => True) v (frRows D (predsOf g) g.length) ∧ Below w.heap.size w w' := by
  have hmm := @run_makeMap Try.prog
  rw [← callsIn_wide (n := 5)]
  have hro : (Fence.wide).round = none := rfl
  have hd : (Fence.wide).depth = none := rfl
  obtain ⟨hn1, hn0, hg⟩ := right_rows hr
  have hDl : D.length = g.length := idomO_len hr h
  have hrc : CallsIn Fence.wide (5 - 1) Try.prog 19 #[.slice A g.length c] w _ := callsIn_wide.2 (right_calls A c g w hC)
  rw [hr] at hrc
  have hid : ∀ V, Below w.heap.size w V → CallsIn Fence.wide (5 - 1) Try.prog 36 #[.slice A g.length c] V _ := fun V hV => callsIn_wide.2 (idom_calls k A c g D V (Kd.C_below hC hV) hc h)
  obtain ⟨kp, hkp⟩ := (preds_ev g).get
  rw [hr, if_pos rfl] at hkp
  have hpr : ∀ V, Below w.heap.size w V → CallsIn Fence.wide (5 - 1) Try.prog 16 #[.slice A g.length c] V _ := fun V hV => callsIn_wide.2 (graph_Preds.calls kp A c g _ V (Kd.C_below hC hV) hc hkp)
  have hmk68 : ∀ V : World, (Instr.makeSlice 68 (.int .i64 (g.length : Int)) (.int .i64 (g.length : Int))).run Try.prog V = .ok (.slice (some ⟨V.heap.size, 0, none⟩) g.length g.length) (V.alloc (.cells (madeCells #[.map none] g.length) 69)) := by
    intro V
    obtain ⟨i0, hi, hz0, hz1, hz2⟩ := info_parts info69
    have := run_make V 68 69 i0 _ Try.underlying68 hi hz0 .i64 .i64 (g.length : Int) (g.length : Int) (by omega) (by omega) (by rw [hz2]; omega) (by omega)
    rw [Int.toNat_natCast, hz1, Nat.mul_one] at this
    exact this
  refine callsIn_of_wp_marks Try.func44 rfl trivial ?_ hro
  simp only [Try.ntmps44, List.size_toArray, List.length_cons, List.length_nil, Nat.reduceAdd, Nat.reduceSub, Array.replicate_succ, Array.replicate_zero, List.push_toArray, List.append_toArray, List.nil_append, List.cons_append]
  clear hkp h
  gi_wp2_with (first
    | ((try refine ⟨trivial, ?_⟩); gi_at_call 19; refine hrc.mono ?_; clear hrc; rintro e w1 ⟨rfl, hb1⟩)
    | ((try refine ⟨trivial, ?_⟩); gi_at_call 36; refine (hid _ hb1).mono ?_; clear hid; rintro e w2 ⟨v2, rfl, hv2, hb2⟩; obtain ⟨Ai, ci, rfl⟩ := Kd.R_slice hv2; have hv2' := Aside0.mk hv2; have hB2 := below_step hb1 hb2; clear hv2 hb2)
    | ((try refine ⟨trivial, ?_⟩); gi_at_call 16; refine (hpr _ hB2).mono ?_; clear hpr; rintro e w3 ⟨v3, rfl, hv3, hb3⟩; obtain ⟨Ap, cp, rfl⟩ := Kd.S_slice hv3; have hv3' := Aside0.mk hv3; have hb3' := Aside0.mk hb3; clear hv3 hb3))
  have hFA : FA g.length w3 Ai ci 0 (((w3.alloc (.cells #[.slice Ai g.length ci] 27)).alloc (.cells (madeCells #[.map none] g.length) 69)).alloc (.cells #[.slice (some ⟨w3.heap.size + 1, 0, none⟩) g.length g.length] 68)) :=
    ⟨below_alloc (below_alloc (below_alloc (Below.refl _ _) _) _) _, by simp [go_sem], by simp [go_sem], fun j hj => by simp [go_sem, made69, hj], fun j => by simp [go_sem], fun j hj => absurd hj (Nat.not_lt_zero j), by simp⟩
  have hFA' := Aside0.mk hFA
  clear hFA hmk68
  gi_loopw [26] (fun s wr => ∃ m : Nat, m ≤ g.length ∧ s = .int .i64 m ∧ Aside0 (FA g.length w3 Ai ci m wr))
    (fun s _ => g.length - (RowKit.intOf s).toNat)
  case atStart => exact ⟨0, Nat.zero_le _, rfl, hFA'⟩
  case round =>
    clear hFA'
    obtain ⟨m, hm, rfl, hF⟩ := hrel
    by_cases hlt : m < g.length
    · have hmn : (m : Int) < (g.length : Int) := by omega
      have hm0 : (0 : Int) ≤ (m : Int) := by omega
      have x0 := hF.out.bs
      have x1 := hF.out.row m hlt
      rw [if_neg (by omega)] at x1
      have x2 := hF.out.fr m
      have y1 : (wr.alloc (.map #[] 0)).cell? ⟨w3.heap.size + 1, m, none⟩ = some (.map none) := (World.cell?_alloc_lt _ _ _ (World.block_lt_of_cell? _ _ x1)).trans x1
      have y2 : (wr.alloc (.map #[] 0)).frozen? ⟨w3.heap.size + 1, m, none⟩ = false := by
        have hb : (wr.alloc (.map #[] 0)).heap[w3.heap.size + 1]? = wr.heap[w3.heap.size + 1]? := Below.heap_alloc _ _ _ (World.block_lt_of_cell? _ _ x1)
        unfold World.frozen? at x2 ⊢
        rw [show (⟨w3.heap.size + 1, m, none⟩ : Addr).block = w3.heap.size + 1 from rfl] at x2 ⊢
        rw [hb]; exact x2
      have hst := Aside0.mk (hF.out.step hlt)
      clear hF x1 x2
      gi_wp2
      go_roundw
      case rel => exact ⟨m + 1, by omega, by go_num, hst⟩
      case measure => simp [RowKit.intOf]; omega
    · obtain rfl : m = g.length := by omega
      have hFM := Aside0.mk hF.out.done
      have hD2 := Kd.R_reads' hv2'.out
      have hD3 := Aside0.mk (Kd.C_below hD2.2.2 hb3'.out)
      have hP3 := Aside0.mk (Kd.S_reads' hv3'.out).2.2
      have hci := Aside0.mk hD2.2.1
      clear hF hD2 hmm hv2' hv3'
      gi_wp2
      obtain ⟨Rel, hRel⟩ : ∃ R : Nat → List Nat → World → Prop, R = fun m Ds W => m ≤ g.length ∧ Aside0 (∃ S, FM g.length w3 Ai ci (m * 13120) S W ∧ (∀ j, j < g.length → ∀ k, S j k = true ↔ Cnd D (predsOf g) m 0 j k) ∧ Marks (w3.heap.size + 3 + g.length) Ds W) := ⟨_, rfl⟩
      refine wpIn_loop (RB A Ap c cp (predsOf g).length g.length w3.heap.size Rel) (fun a _ => g.length - (RowKit.intOf (a.tmps.getD 36 (.bool false))).toNat) ?_ ?_
      · refine ⟨0, [], ?_, ?_⟩
        · rw [hRel]
          exact ⟨Nat.zero_le _, ⟨_, hFM.out, fun j hj k => ⟨fun h => absurd h Bool.false_ne_true, fun h => absurd h (cnd_zero _ _ _ _)⟩, ⟨List.Pairwise.nil, fun _ h => by cases h⟩⟩⟩
        · repeat apply Exists.intro
          rfl
      clear hFM
      rintro a W ⟨m, Ds, hR, s1, s2, s6, s7, s8, s9, s10, s11, s12, s13, s14, s15, s16, s17, s18, s19, s20, s21, s22, s23, s24, s25, s26, s27, s28, s29, s30, s31, s32, s33, s34, s37, s38, s39, s40, s41, s42, s43, s44, s45, s46, s47, s48, s49, s50, s51, s52, s53, s54, s55, s56, s57, s58, s59, s60, s61, s62, s63, s64, s65, s66, s67, s68, s69, s70, s71, s72, s73, s74, s75, s76, s77, s78, s79, s80, s81, s82, s83, s84, s85, s86, rfl⟩
      have hR' := hR
      rw [hRel] at hR'
      obtain ⟨hm, hR'⟩ := hR'
      by_cases hlt : m < g.length
      · have hmn : (m : Int) < (g.length : Int) := by omega
        have hm0 : (0 : Int) ≤ (m : Int) := by omega
        have hB1 : Below w3.heap.size w3 W := hR'.out.choose_spec.1.hB
        have hsz1 : w3.heap.size + 3 + g.length ≤ W.heap.size := hR'.out.choose_spec.1.size
        obtain ⟨ap, Ar, cr, rfl, y0, y1, y2⟩ := at_L1 (Kd.C_below hP3.out (below_alloc hB1 (.cells #[.int .i64 (m : Int)] 3))) (m : Int) (by omega) (by rw [predsOf_len]; omega)
        rw [Int.toNat_natCast, rdL] at y0
        rw [rdL] at y1 y2
        have hmp : (m : Int) < ((predsOf g).length : Int) := by rw [predsOf_len]; omega
        have hrow := preds_row hr hn m
        obtain ⟨P, hP⟩ : ∃ P, Aside0 (P = rowOf (predsOf g) m) := ⟨_, ⟨rfl⟩⟩
        rw [← hP.out] at y0 y1 y2 hrow
        obtain ⟨O, hO⟩ : ∃ O, Aside0 (O = W.heap.size) := ⟨_, ⟨rfl⟩⟩
        have hst0 : Aside0 (∃ S, FM g.length w3 Ai ci (m * 13120) S (W.alloc (.cells #[.int .i64 (m : Int)] 3)) ∧ (∀ j, j < g.length → ∀ k, S j k = true ↔ Cnd D (predsOf g) m 0 j k) ∧ Marks (w3.heap.size + 3 + g.length) Ds (W.alloc (.cells #[.int .i64 (m : Int)] 3)) ∧ (W.alloc (.cells #[.int .i64 (m : Int)] 3)).cell? ⟨O, 0, none⟩ = some (.int .i64 m)) := by
          obtain ⟨⟨S, h1, h2, h3⟩⟩ := hR'
          exact ⟨S, h1.alloc _, h2, h3.keep (KeepsBut.alloc (fun _ => False) W _) (fun _ _ h => h), by rw [hO.out]; simp [go_sem]⟩
        have hPC : Aside0 (Kd.C (Kd.int .i64) w3 Ar P.length P) := by
          obtain ⟨ap2, Ar2, cr2, e2, z0, z1, z2⟩ := at_L1 hP3.out (m : Int) (by omega) hmp
          cases e2
          rw [Int.toNat_natCast, rdL] at z0
          rw [rdL] at z2
          rw [← hP.out] at z0 z2
          have z3 := ((below_alloc hB1 (.cells #[.int .i64 (m : Int)] 3)).cell (World.block_lt_of_cell? _ _ z0)).trans z0
          rw [y0] at z3
          cases z3
          exact ⟨z2⟩
        clear hB1 hR' hR y1 y2
        gi_wp2
        obtain ⟨RelP, hRelP⟩ : ∃ R : Nat → List Nat → World → Prop, R = fun q Ds W => q ≤ P.length ∧ Aside0 (∃ S, FM g.length w3 Ai ci (m * 13120 + q * 41) S W ∧ (∀ j, j < g.length → ∀ k, S j k = true ↔ Cnd D (predsOf g) m q j k) ∧ Marks (w3.heap.size + 3 + g.length) Ds W ∧ W.cell? ⟨O, 0, none⟩ = some (.int .i64 m)) := ⟨_, rfl⟩
        refine wpIn_loop (RP A (some ap) Ar c cp (predsOf g).length g.length w3.heap.size m O cr P.length RelP) (fun a _ => P.length - (RowKit.intOf (a.tmps.getD 44 (.bool false))).toNat) ?_ ?_
        · refine ⟨0, Ds, ?_, ?_⟩
          · rw [hRelP]
            exact ⟨Nat.zero_le _, hst0⟩
          · rw [← hO.out]
            repeat apply Exists.intro
            rfl
        clear hst0
        rintro a W2 ⟨q, Ds2, hRP, s1, s2, s6, s8, s9, s10, s11, s12, s13, s14, s15, s16, s17, s18, s19, s20, s21, s22, s23, s24, s25, s26, s27, s28, s29, s30, s31, s32, s33, s34, s37, s38, s39, s40, s41, s45, s46, s47, s48, s49, s50, s51, s52, s53, s54, s55, s56, s57, s58, s59, s60, s61, s62, s63, s64, s65, s66, s67, s68, s69, s70, s71, s72, s73, s74, s75, s76, s77, s78, s79, s80, s81, s82, s83, s84, s85, s86, rfl⟩
        have hRP' := hRP
        rw [hRelP] at hRP'
        obtain ⟨hq, hRP'⟩ := hRP'
        by_cases hqt : q < P.length
        · have hqn : (q : Int) < (P.length : Int) := by omega
          have hq0 : (0 : Int) ≤ (q : Int) := by omega
          have hB2 : Below w3.heap.size w3 W2 := hRP'.out.choose_spec.1.hB
          have hsz2 : w3.heap.size + 3 + g.length ≤ W2.heap.size := hRP'.out.choose_spec.1.size
          have xO : W2.cell? ⟨O, 0, none⟩ = some (.int .i64 m) := hRP'.out.choose_spec.2.2.2
          have xi : W2.cell? ⟨w3.heap.size, 0, none⟩ = some (.slice Ai g.length ci) := hRP'.out.choose_spec.1.bi
          obtain ⟨ar, rfl, q0⟩ := Kd.at_int (Kd.C_below hPC.out hB2) (q : Int) hq0 hqn
          rw [Int.toNat_natCast, rdD] at q0
          have hca : CallsIn Fence.wide (5 - 1) Try.prog 63 #[.slice Ai D.length ci, .int .i64 (P.getD q 0)] W2 _ := callsIn_wide.2 (counts_calls Ai ci D (P.getD q 0) W2 (Kd.C_below hD3.out hB2) hci.out)
          rw [hDl] at hca
          have hP' := hP.out
          obtain ⟨p, hp⟩ : ∃ p, P.getD q 0 = p := ⟨_, rfl⟩
          rw [hp] at q0 hca
          have hsucc : ∀ j k, Cnd D (predsOf g) m (q + 1) j k ↔ Cnd D (predsOf g) m q j k ∨ (k = (m : Int) ∧ countsB D p = true ∧ (j : Int) ∈ cutL D m p) := fun j k => by
            rw [cnd_succ, ← hP', hp]
          have hsucc' := Aside0.mk hsucc
          have hB2' := Aside0.mk hB2
          clear hsucc hp hB2 hP'
          cases hkp : countsB D p with
          | false =>
            rw [hkp] at hca
            gi_wp2_with ((try refine ⟨trivial, ?_⟩); gi_at_call 63; refine hca.mono ?_; clear hca; rintro e w4 ⟨rfl, ⟨q4, rfl⟩⟩)
            refine ⟨⟨q + 1, Ds2, ?_, ?_⟩, ?_⟩
            · rw [hRelP]
              obtain ⟨⟨S, h1, h2, h3, h4⟩⟩ := hRP'
              exact ⟨hqt, ⟨S, (h1.drewN q4).more (by omega), fun j hj k => by rw [h2 j hj, hsucc'.out, hkp]; simp, h3.keep (X := fun _ => False) ⟨rfl, rfl, rfl, Nat.le_refl _, fun _ _ _ => rfl⟩ (fun _ _ h => h), h4⟩⟩
            · repeat apply Exists.intro
              rfl
            · simp [RowKit.intOf]; omega
          | true =>
            rw [hkp] at hca
            gi_wp2_with (first
              | ((try refine ⟨trivial, ?_⟩); gi_at_call 63; refine hca.mono ?_; clear hca; rintro e w4 ⟨rfl, ⟨q4, rfl⟩⟩)
              | ((try refine ⟨trivial, ?_⟩); gi_at_call 64; refine (up_in Fence.wide _ trivial hro Ai g.length ci p _).mono ?_; rintro e w5 ⟨rfl, rfl⟩))
            obtain ⟨V, hV⟩ : ∃ V, Aside0 (W2.drewN q4 = V) := ⟨_, ⟨rfl⟩⟩
            simp only [hV.out]
            have hsucc2 : Aside0 (∀ j k, Cnd D (predsOf g) m (q + 1) j k ↔ Cnd D (predsOf g) m q j k ∨ (k = (m : Int) ∧ (j : Int) ∈ cutL D m p)) := ⟨fun j k => by rw [hsucc'.out, hkp]; simp⟩
            have hst1 : Aside0 (∃ S, FM g.length w3 Ai ci (m * 13120 + q * 41) S V ∧ (∀ j, j < g.length → ∀ k, S j k = true ↔ Cnd D (predsOf g) m q j k) ∧ Marks (w3.heap.size + 3 + g.length) Ds2 V ∧ V.cell? ⟨O, 0, none⟩ = some (.int .i64 m)) := by
              obtain ⟨⟨S, h1, h2, h3, h4⟩⟩ := hRP'
              rw [← hV.out]
              exact ⟨S, h1.drewN q4, h2, h3.keep (X := fun _ => False) ⟨rfl, rfl, rfl, Nat.le_refl _, fun _ _ _ => rfl⟩ (fun _ _ h => h), h4⟩
            have hVB : Below w3.heap.size w3 V := hst1.out.choose_spec.1.hB
            have hsz3 : w3.heap.size + 3 + g.length ≤ V.heap.size := hst1.out.choose_spec.1.size
            have hMlt : ∀ x ∈ Ds2, x < V.heap.size := hst1.out.choose_spec.2.2.1.lt
            have hOl : O < V.heap.size := World.block_lt_of_cell? _ _ hst1.out.choose_spec.2.2.2
            have hU := up_state (A := Ai) (c := ci) (a := p) (D := D) hVB
            rw [hDl] at hU
            obtain ⟨WL, hWL⟩ : ∃ WL, Aside0 ((V.alloc (.cells #[.slice Ai g.length ci] 27)).alloc (.cells #[.int .i64 p] 3) = WL) := ⟨_, ⟨rfl⟩⟩
            rw [hWL.out] at hU ⊢
            have hszL : WL.heap.size = V.heap.size + 2 := by rw [← hWL.out]; simp
            have hst2 : Aside0 (∃ S, FM g.length w3 Ai ci (m * 13120 + q * 41) S WL ∧ (∀ j, j < g.length → ∀ k, S j k = true ↔ Cnd D (predsOf g) m q j k) ∧ Marks (w3.heap.size + 3 + g.length) Ds2 WL ∧ WL.cell? ⟨O, 0, none⟩ = some (.int .i64 m)) := by
              obtain ⟨⟨S, h1, h2, h3, h4⟩⟩ := hst1
              have hk : KeepsBut (fun _ => False) V WL := by rw [← hWL.out]; exact (KeepsBut.alloc _ V _).trans (KeepsBut.alloc _ _ _)
              exact ⟨S, h1.keep hk (fun _ _ h => h), h2, h3.keep hk (fun _ _ h => h), hk.cell h4 (fun h => h)⟩
            clear hst1 hRP' hRP xO xi hsucc' hsz2
            have hst := up_stops Fence.wide hd 4 trivial hro V.heap.size (V.heap.size + 1) p Ai ci D w3 WL hD3.out (by omega) (by omega) (by omega) (by rw [hDl]; exact hU)
            have hVs : V.heap.size = W2.heap.size := by rw [← hV.out]; rfl
            rw [hVs] at hst hMlt hOl hsz3 hszL
            clear hVs
            have hx : ∀ k, XX (fun _ k => k = W2.heap.size + 1) WL.heap.size k → W2.heap.size < k := by
              rintro k (h | h)
              · have : k = W2.heap.size + 1 := h; omega
              · omega
            refine wpIn_rangeFunc_X hro (by omega) (gf := 80) (lb := #[.pointer (some ⟨W2.heap.size, 0, none⟩), .pointer (some ⟨W2.heap.size + 1, 0, none⟩)]) rfl trivial (enters_of Try.func80 (by kernel_rfl) rfl) hst
              (fun k hk => by have : k = W2.heap.size + 1 := hk; omega) (fun h k => h.trans k) (fun W l o o' h1 h2 _ _ _ => KeepsBut.putObj W o' (by rintro (h | h | h) <;> omega)) (Below.refl _ _) (fun _ => rfl)
              (fun pre W => Aside0 (∃ S, FM g.length w3 Ai ci (m * 13120 + q * 41 + pre.length) S W ∧ (∀ j, j < g.length → ∀ k, S j k = true ↔ Cnd D (predsOf g) m q j k ∨ (k = (m : Int) ∧ HasV (j : Int) pre)) ∧ Marks (w3.heap.size + 3 + g.length) Ds2 W ∧ W.cell? ⟨O, 0, none⟩ = some (.int .i64 m) ∧ ¬ HasV (D.getD m 0) pre))
              (fun cc pre W => Aside0 (cc = .exit 6 ∧ ∃ S pre', (∃ x : BlkN D.length, pre = pre' ++ [x] ∧ x.1 = D.getD m 0) ∧ pre'.length ≤ 41 ∧ FM g.length w3 Ai ci (m * 13120 + q * 41 + pre'.length) S W ∧ (∀ j, j < g.length → ∀ k, S j k = true ↔ Cnd D (predsOf g) m q j k ∨ (k = (m : Int) ∧ HasV (j : Int) pre')) ∧ Marks (w3.heap.size + 3 + g.length) Ds2 W ∧ W.cell? ⟨O, 0, none⟩ = some (.int .i64 m) ∧ ¬ HasV (D.getD m 0) pre')) ?hI ?hIx ?h0 ?a1 ?assign ?body ?done ?stop
            case hI =>
              rintro pre W W' ⟨⟨S, h1, h2, h3, h4, h5⟩⟩ hk
              exact ⟨⟨S, h1.keep hk (fun k hk2 hX => by have := hx k hX; omega), h2, h3.keep hk (fun k hk2 hX => by have := hx k hX; have := hMlt k hk2; omega), hk.cell h4 (fun hX => by have : W2.heap.size < O := hx _ hX; omega), h5⟩⟩
            case hIx =>
              rintro cc pre W W' ⟨⟨rfl, S, pre', e, hl, h1, h2, h3, h4, h5⟩⟩ hk
              exact ⟨⟨rfl, S, pre', e, hl, h1.keep hk (fun k hk2 hX => by have := hx k hX; omega), h2, h3.keep hk (fun k hk2 hX => by have := hx k hX; have := hMlt k hk2; omega), hk.cell h4 (fun hX => by have : W2.heap.size < O := hx _ hX; omega), h5⟩⟩
            case h0 =>
              obtain ⟨⟨S, h1, h2, h3, h4⟩⟩ := hst2
              exact ⟨⟨S, h1, fun j hj k => by rw [h2 j hj]; simp [HasV], h3, h4, by simp [HasV]⟩⟩
            case assign =>
              intro l x W K hK
              gi_wp2
              exact hK
            case body =>
              rintro l pre ⟨x, x0, x1⟩ W ⟨⟨S, h1, h2, h3, h4, h5⟩⟩ hWs hlen
              dsimp only
              obtain ⟨xn, rfl⟩ := Int.eq_ofNat_of_zero_le x0
              have hxl : xn < g.length := by omega
              have z0 := h1.bi
              have z1 := h1.bs
              have z2 := h1.row xn hxl
              obtain ⟨ad, rfl, qD⟩ := Kd.at_int (Kd.C_below hD3.out h1.hB) (m : Int) hm0 (by omega)
              rw [Int.toNat_natCast, rdD] at qD
              obtain ⟨dm, hdm⟩ : ∃ dm, Aside0 (D.getD m 0 = dm) := ⟨_, ⟨rfl⟩⟩
              rw [hdm.out] at qD h5
              clear hst hst2 hU
              by_cases hxm : (xn : Int) = dm
              · subst hxm
                gi_wp2
                exact ⟨KeepsFrom.refl _ _, ⟨rfl, S, pre, ⟨_, rfl, hdm.out.symm⟩, by omega, h1, h2, h3, h4, by rw [hdm.out]; exact h5⟩⟩
              · have hcm : m * 13120 + q * 41 + pre.length ≤ 1000000 := by
                  have : m * 13120 ≤ 39 * 13120 := Nat.mul_le_mul_right _ (by omega)
                  have : q * 41 ≤ 320 * 41 := Nat.mul_le_mul_right _ (by omega)
                  omega
                have hdw : KeepsBut (fun _ => False) W W.drew := ⟨rfl, rfl, rfl, Nat.le_refl _, fun _ _ _ => rfl⟩
                have h3d := h3.keep hdw (fun _ _ h => h)
                have h4d := hdw.cell h4 (fun h => h)
                obtain ⟨W1, r1, r2, r3⟩ := (h1.keep hdw (fun _ _ h => h)).store hcm hxl (wf_small (n := (m : Int)) (by omega) (by omega))
                have hfin : ownPostG WL.heap.size (KeepsBut (KU w3.heap.size W2.heap.size (W2.heap.size + 1))) (fun pre W => Aside0 (∃ S, FM g.length w3 (some ad) ci (m * 13120 + q * 41 + pre.length) S W ∧ (∀ j, j < g.length → ∀ k, S j k = true ↔ Cnd D (predsOf g) m q j k ∨ (k = (m : Int) ∧ HasV (j : Int) pre)) ∧ Marks (w3.heap.size + 3 + g.length) Ds2 W ∧ W.cell? ⟨O, 0, none⟩ = some (.int .i64 m) ∧ ¬ HasV (D.getD m 0) pre))
                  (fun cc pre W => Aside0 (cc = .exit 6 ∧ ∃ S pre', (∃ x : BlkN D.length, pre = pre' ++ [x] ∧ x.1 = D.getD m 0) ∧ pre'.length ≤ 41 ∧ FM g.length w3 (some ad) ci (m * 13120 + q * 41 + pre'.length) S W ∧ (∀ j, j < g.length → ∀ k, S j k = true ↔ Cnd D (predsOf g) m q j k ∨ (k = (m : Int) ∧ HasV (j : Int) pre')) ∧ Marks (w3.heap.size + 3 + g.length) Ds2 W ∧ W.cell? ⟨O, 0, none⟩ = some (.int .i64 m) ∧ ¬ HasV (D.getD m 0) pre'))
                  (pre ++ [⟨(xn : Int), x0, x1⟩]) W .normal { tmps := #[], defers := [] } W1 := by
                  have hkb : KeepsBut (fun k => k = w3.heap.size + 3 + xn) W.drew W1 := ⟨r3.os, r3.tape, r3.output, r3.size, fun k hk hn => r3.block k hk (fun e => hn (Option.some.inj e))⟩
                  refine ⟨((KeepsOthers.drew W).from _).trans (KeepsFrom.of_grownBy r3 (fun j e => by have := Option.some.inj e; omega)), KeepsBut.trans (hdw.mono (fun _ h => h.elim)) (hkb.mono (fun k hk => by rintro (h | h | h) <;> omega)), ⟨_, by rw [List.length_append]; exact r2, fun j hj k => ?_, h3d.keep hkb (fun x hx2 e => by have := (h3.at_ x hx2).1; omega), hkb.cell h4d (fun e => ?_), fun hy => ?_⟩⟩
                  · by_cases ej : j = xn
                    · subst ej
                      rw [if_pos rfl, HasV.snoc]
                      unfold ins
                      rw [Bool.or_eq_true, h2 j hj, decide_eq_true_eq]
                      constructor
                      · rintro (h | h | h)
                        · exact .inr ⟨h, .inr rfl⟩
                        · exact .inl h
                        · exact .inr ⟨h.1, .inl h.2⟩
                      · rintro (h | ⟨h, h6⟩)
                        · exact .inr (.inl h)
                        · exact .inl h
                    · rw [if_neg ej, h2 j hj, HasV.snoc]
                      constructor
                      · rintro (h | ⟨h, h6⟩)
                        · exact .inl h
                        · exact .inr ⟨h, .inl h6⟩
                      · rintro (h | ⟨h, h6 | h6⟩)
                        · exact .inl h
                        · exact .inr ⟨h, h6⟩
                        · exact absurd (Int.ofNat.inj h6) ej
                  · have e' : O = w3.heap.size + 3 + xn := e
                    have := hO.out
                    omega
                  · rcases HasV.snoc.1 hy with hy | hy
                    · exact h5 (by rw [hdm.out] at hy; exact hy)
                    · exact hxm (by rw [hdm.out] at hy; exact hy.symm)
                have hfin' := Aside0.mk hfin
                clear hfin
                have hmix : Try.prog.follows .mixedOrders = true := by kernel_rfl
                gi_wp2
                gi_region_with_o (fail)
                all_goals exact hfin'.out
            case done =>
              rintro Dd ys W hDd hys ⟨⟨S, h1, h2, h3, h4, h5⟩⟩ hK
              clear hst hst2 hU
              gi_wp2
              refine ⟨⟨q + 1, Dd :: Ds2, ?_, ?_⟩, ?_⟩
              · rw [hRelP]
                have hDV := h3.lt
                have hno : D.getD m 0 ∉ upL D (D.length + 1) p := by rw [← hys]; exact h5
                have hyl : ys.length ≤ 41 := by
                  have e := congrArg List.length hys
                  rw [List.length_map] at e
                  have := upL_len D (D.length + 1) p
                  omega
                refine ⟨hqt, ⟨S, h1.more (by omega), fun j hj k => ?_, h3.cons (by omega) (fun x hx2 => by have := hMlt x hx2; omega) hK, h4⟩⟩
                rw [h2 j hj, hsucc2.out, cut_all hno, ← hys]
                exact Iff.rfl
              · repeat apply Exists.intro
                rfl
              · simp [RowKit.intOf]; omega
            case stop =>
              rintro Dd cc pre W hDd hpre ⟨⟨rfl, S, pre', ⟨x, e, e2⟩, hl, h1, h2, h3, h4, h5⟩⟩ hK
              clear hst hst2 hU
              gi_wp2
              refine ⟨⟨q + 1, Dd :: Ds2, ?_, ?_⟩, ?_⟩
              · rw [hRelP]
                refine ⟨hqt, ⟨S, h1.more (by omega), fun j hj k => ?_, h3.cons (by omega) (fun x hx2 => by have := hMlt x hx2; omega) hK, h4⟩⟩
                rw [e, List.map_append] at hpre
                rw [h2 j hj, hsucc2.out, cut_stop (x := x.1) e2 h5 hpre]
                exact Iff.rfl
              · repeat apply Exists.intro
                rfl
              · simp [RowKit.intOf]; omega
        · obtain rfl : q = P.length := by omega
          gi_wp2
          refine ⟨⟨m + 1, Ds2, ?_, ?_⟩, ?_⟩
          · rw [hRel]
            obtain ⟨⟨S, h1, h2, h3, _⟩⟩ := hRP'
            exact ⟨hlt, ⟨S, h1.more (by omega), fun j hj k => by rw [h2 j hj, cnd_next, ← hP.out], h3⟩⟩
          · repeat apply Exists.intro
            rfl
          · simp [RowKit.intOf]; omega
      · obtain rfl : m = g.length := by omega
        have hMl : ∀ x ∈ Ds, x < W.heap.size := hR'.out.choose_spec.2.2.lt
        have hszW : w3.heap.size + 3 + g.length ≤ W.heap.size := hR'.out.choose_spec.1.size
        have hBW : Below w3.heap.size w3 W := hR'.out.choose_spec.1.hB
        obtain ⟨G, hG⟩ : ∃ G, Aside0 (W.heap.size = G) := ⟨_, ⟨rfl⟩⟩
        obtain ⟨W0, hW0⟩ : ∃ W0, Aside0 (W.alloc (.cells (madeCells #[.slice none 0 0] g.length) 27) = W0) := ⟨_, ⟨rfl⟩⟩
        have hmk22 : (Instr.makeSlice 22 (.int .i64 (g.length : Int)) (.int .i64 (g.length : Int))).run Try.prog W = .ok (.slice (some ⟨G, 0, none⟩) g.length g.length) W0 := by
          obtain ⟨i0, hi, hz0, hz1, hz2⟩ := info_parts info27
          have := run_make W 22 27 i0 _ Try.underlying22 hi hz0 .i64 .i64 (g.length : Int) (g.length : Int) (by omega) (by omega) (by rw [hz2]; omega) (by omega)
          rw [Int.toNat_natCast, hz1, Nat.mul_one] at this
          rw [← hG.out, ← hW0.out]
          exact this
        rw [hG.out] at hMl hszW
        have hkA : KeepsBut (fun k => k = G) W W0 := by rw [← hW0.out]; exact KeepsBut.alloc _ _ _
        have hS0 := rows_made W w.heap.size g.length (Nat.le_trans hB2.size (Nat.le_trans hb3'.out.size hBW.size)) (by omega)
        rw [hW0.out, hG.out] at hS0
        obtain ⟨S, hSt⟩ : ∃ S, Aside0 (FM g.length w3 Ai ci (g.length * 13120) S W0 ∧ (∀ j, j < g.length → ∀ k, S j k = true ↔ Cnd D (predsOf g) g.length 0 j k) ∧ Marks (w3.heap.size + 3 + g.length) Ds W0) := by
          obtain ⟨⟨S, h1, h2, h3⟩⟩ := hR'
          exact ⟨S, ⟨h1.keep hkA (fun k hk e => by omega), h2, h3.keep hkA (fun x hx e => by have := hMl x hx; omega)⟩⟩
        have hGl : G < W0.heap.size := by rw [← hG.out, ← hW0.out]; simp
        have z0 := hSt.out.1.bs
        have hS0' := Aside0.mk hS0
        clear hS0 hR' hR hkA hBW
        gi_wp2
        gi_loopw [74] (fun s wr => ∃ m : Nat, m ≤ g.length ∧ s = .int .i64 m ∧ Aside0 (FM g.length w3 Ai ci (g.length * 13120) S wr ∧ Marks (w3.heap.size + 3 + g.length) Ds wr ∧ Kd.S (Kd.slice 3 (Kd.int .i64)) 27 wr w.heap.size (fun _ => True) (.slice (some ⟨G, 0, none⟩) g.length g.length) (frUp D (predsOf g) g.length m) ∧ G < wr.heap.size))
          (fun s _ => g.length - (RowKit.intOf s).toNat)
        case atStart => exact ⟨0, Nat.zero_le _, rfl, ⟨hSt.out.1, hSt.out.2.2, hS0'.out, hGl⟩⟩
        case round =>
          have hS2 := hSt.out.2.1
          have hS2' := Aside0.mk hS2
          clear hSt hS0' hS2 z0 hGl
          obtain ⟨m, hm, rfl, h0⟩ := hrel
          by_cases hlt : m < g.length
          · have hmn : (m : Int) < (g.length : Int) := by omega
            have hm0 : (0 : Int) ≤ (m : Int) := by omega
            have z1 := h0.out.1.row m hlt
            obtain ⟨cS, hcS, DD, hown, hRd⟩ := h0.out.1.sets m hlt
            have hk1 : CallsIn Fence.wide (5 - 1) Try.prog 68 #[.map (some (w3.heap.size + 3 + m))] wr _ := callsIn_wide.2 (keys68_calls (some (w3.heap.size + 3 + m)) wr)
            have hk2 : CallsIn Fence.wide (5 - 1) Try.prog 57 #[.func (.func 82) #[] #[.pointer (some ⟨wr.heap.size, 0, none⟩)]] (wr.alloc (.cells #[.map (some (w3.heap.size + 3 + m))] 69)) _ := callsIn_wide.2 (sorted68_calls (w3.heap.size + 3 + m) cS (S m) wr hown hRd.has (by omega))
            have hks : Aside0 (∀ ks, Rising ks → (∀ k, k ∈ ks ↔ S m k = true) → ks = frRow D (predsOf g) g.length m) := ⟨fun ks h1 h2 => rising_eq h1 (frRow_rising _ _ _ _) fun k => by
              rw [h2, hS2'.out m hlt, cnd_all, frRow_mem]⟩
            have hbw : w.heap.size ≤ wr.heap.size := Nat.le_trans hB2.size (Nat.le_trans hb3'.out.size h0.out.1.hB.size)
            clear hown hRd
            gi_wp2_with (first
              | ((try refine ⟨trivial, ?_⟩); gi_at_call 68; refine hk1.mono ?_; clear hk1; rintro e w8 ⟨rfl, rfl⟩)
              | ((try refine ⟨trivial, ?_⟩); gi_at_call 57; refine hk2.mono ?_; clear hk2; rintro e w9 ⟨v9, ks, rfl, q1, q2, q3, q4, q5⟩; obtain rfl := hks.out ks q1 q2; obtain ⟨A9, c9, rfl⟩ := Kd.R_slice q4;
                 obtain ⟨u, x1, x2, x3⟩ := fr_store h0.out.2.2.1 hm0 hmn h0.out.2.2.2 hbw q4 q5; have x3' := Aside0.mk x3; have q5' := Aside0.mk q5; clear x3 q5 q4 q1 q2))
            have hkw : Aside0 (KeepsBut (fun k => k = G) wr (w9.setCell ⟨G, m, none⟩ (.slice A9 (frRow D (predsOf g) g.length m).length c9))) := ⟨KeepsBut.trans ⟨q5'.out.os, q5'.out.tape, q5'.out.output, q5'.out.size, fun k hk _ => q5'.out.block k hk⟩ (KeepsBut.setCell _ _ _ rfl)⟩
            go_roundw
            case rel =>
              refine ⟨m + 1, by omega, by go_num, ⟨h0.out.1.keep hkw.out (fun k hk e => by omega), h0.out.2.1.keep hkw.out (fun x hx e => by have := hMl x hx; omega), ?_, Nat.lt_of_lt_of_le h0.out.2.2.2 hkw.out.size⟩⟩
              rw [← frUp_set _ _ hlt]
              exact x3'.out
            case measure => simp [RowKit.intOf]; omega
          · obtain rfl : m = g.length := by omega
            gi_wp2
            refine leaves_all (b := w3.heap.size + 3 + g.length) Ds wr h0.out.2.1 (fun W' hk => ⟨.slice (some ⟨G, 0, none⟩) g.length g.length, ?_, .slice (some ⟨G, 0, none⟩) g.length g.length, rfl, ?_, ?_⟩)
            · simp [results, Try.f44, go_sem]
            · rw [← frUp_all]
              refine Kd.S_mono (Kd.S_step (Kd.S_bound h0.out.2.2.1) (fun k hok hk2 => hk.block k hk2 (fun hmem => ?_))) (fun _ _ => trivial)
              obtain ⟨_, _, _, qq, _, cells, hcl⟩ := hok
              rw [(h0.out.2.1.at_ k hmem).2] at hcl
              cases hcl
            · have hBr := h0.out.1.hB
              exact (hB2.trans (hb3'.out.mono hB2.size)).trans ((hBr.trans (hk.below hBr.size (fun k hk2 hmem => by have := (h0.out.2.1.at_ k hmem).1; omega))).mono (Nat.le_trans hB2.size hb3'.out.size))
end Go.Proofs.Ytkmbhknmjnbanaa.A


namespace Go.Proofs.Ytkmbhknmjnbanaa.A
open Go.RowKit Go.Maps Go.Proofs.YtkmbhknmjnbanaaW.PrintWords Go.Proofs.YtkmbhknmjnbanaaW.PrintLast Go.Shelf
set_option linter.unusedVariables false
set_option linter.unusedSimpArgs false

set_option maxHeartbeats 1000000 in
theorem clone77_calls (A : Option Addr) (c : Nat) (xs : List Int) (w : World) (hx : Kd.C (Kd.int .i64) w A xs.length xs) (hc : xs.length ≤ c) (hl : xs.length ≤ 1000000) :
    Calls Try.prog 77 #[.slice A xs.length c] w fun e w' => ∃ v, e = .returned v ∧ Kd.R (Kd.int .i64) 3 w' w.heap.size (fun _ => True) v xs ∧ Below w.heap.size w w' := by
  have q22 : ∀ (w : World) (a : Option Addr) (n c n' c' : Nat), (binOp .eql 27 (.slice a n c) (.slice none n' c')).run Try.prog w = .ok (.bool a.isNone) w := fun w a n c n' c' => Lib.run_eql_slice_nil w _ _ a n c n' c' Try.underlying27
  cases A with
  | none =>
    have h0 : xs = [] := by
      obtain ⟨h1, h2, h3⟩ := hx
      rcases Nat.eq_zero_or_pos xs.length with h | h
      · exact List.eq_nil_of_length_eq_zero h
      · obtain ⟨ad, e, _⟩ := h3 h; cases e
    subst h0
    go_enter Try.func77, Try.ntmps77
    go_wp2
    go_ret
    exact ⟨_, rfl, Kd.R_nil _ _ _ _ _, Below.refl _ _⟩
  | some ad =>
    have hr : ReadsInt w .i64 (some ad) xs.length xs := by
      obtain ⟨h1, h2, h3⟩ := hx
      refine ⟨rfl, h2, fun hp => ⟨ad, rfl, fun j hj => ?_⟩⟩
      obtain ⟨ad', e, hc⟩ := Kd.at_int ⟨h1, h2, h3⟩ (j : Int) (by omega) (by omega)
      obtain rfl : ad = ad' := Option.some.inj e
      rw [Int.toNat_natCast] at hc
      rw [hc]
      simp [rd]
    clear hx
    have hr' := Aside0.mk (hr.below (below_alloc (Below.refl _ _) (.cells #[] 3)))
    have ho := Aside0.mk (World.ownsRow_made w #[] 0 (Nat.le_refl _) (Nat.zero_le _) (by simp) : (w.alloc (.cells #[] 3)).ownsRow w.heap.size 3 1 (.slice (some ⟨w.heap.size, 0, none⟩) 0 0) 0 [])
    clear hr
    go_enter Try.func77, Try.ntmps77
    go_wp2_with (at_builtin; refine print_append_row (w0 := w) w.heap.size rfl (.tmp 5) (.tmp 6) 27 3 .i64 8 rfl Try.underlying27 info3 (by decide) _ [] xs (some ad) xs.length c rfl rfl ho.out hr'.out (below_alloc (Below.refl _ _) _) (by simp) (by simp; omega) ?_; intro v1 w1 hown hb hg hat)
    go_ret
    exact ⟨v1, rfl, Kd.R_of_own (show w1.ownsRow w.heap.size 3 1 v1 xs.length (nums .i64 xs) by simpa using hown) (fun _ _ => trivial), hb⟩

/-- what comes in newly waits -/
def iterStep (s : List Int × List Int) (b : Int) : List Int × List Int := if b ∈ s.2 then s else (s.1 ++ [b], s.2 ++ [b])
/-- what dom.Iterated finds, if so many rounds suffice -/
def iterO (F : List (List Int)) : Nat → List Int → List Int → Option (List Int)
  | 0, _, _ => none
  | _ + 1, [], acc => some acc
  | k + 1, a :: ws, acc => if 0 ≤ a ∧ a < (F.length : Int) then iterO F k ((rowOf F a.toNat).foldl iterStep (ws, acc)).1 ((rowOf F a.toNat).foldl iterStep (ws, acc)).2 else iterO F k ws acc
theorem iter_len : ∀ (l : List Int) (s : List Int × List Int), (l.foldl iterStep s).1.length ≤ s.1.length + l.length ∧ (l.foldl iterStep s).2.length ≤ s.2.length + l.length
  | [], s => ⟨by simp, by simp⟩
  | b :: l, s => by
    have ih := iter_len l (iterStep s b)
    have h : (iterStep s b).1.length ≤ s.1.length + 1 ∧ (iterStep s b).2.length ≤ s.2.length + 1 := by
      unfold iterStep
      by_cases e : b ∈ s.2
      · rw [if_pos e]; omega
      · rw [if_neg e]; simp
    rw [List.foldl_cons, List.length_cons]
    omega
theorem dec_snoc (acc : List Int) (b : Int) : (fun x => decide (x ∈ acc ++ [b])) = ins (fun x => decide (x ∈ acc)) b := by
  funext x
  unfold ins
  by_cases h : x = b <;> by_cases h2 : x ∈ acc <;> simp [h, h2]
  all_goals simp_all

set_option maxRecDepth 100000 in
set_option maxHeartbeats 4000000 in
theorem iter_calls (k kk : Nat) (A : Option Addr) (c : Nat) (g : List (List Int)) (D : List Int) (A2 : Option Addr) (c2 : Nat) (at_ R : List Int) (w : World) (hC : Kd.C (Kd.slice 3 (Kd.int .i64)) w A g.length g) (hc : g.length ≤ c) (hn : g.length ≤ 40) (h : idomO g k = some D) (hr : rightB g = true)
    (hC2 : Kd.C (Kd.int .i64) w A2 at_.length at_) (hc2 : at_.length ≤ c2) (hal : at_.length ≤ 1000) (hkk : kk ≤ 1000) (hi : iterO (frRows D (predsOf g) g.length) kk at_ [] = some R) :
    Calls Try.prog 60 #[.slice A g.length c, .slice A2 at_.length c2] w fun e w' => ∃ v ks, e = .returned v ∧ Rising ks ∧ (∀ x, x ∈ ks ↔ x ∈ R) ∧ Kd.R (Kd.int .i64) 3 w' w.heap.size (fun _ => True) v ks ∧ Below w.heap.size w w' := by
  have hmm := @run_makeMap Try.prog
  have hfr := frontier_calls k A c g D w hC hc hn h hr
  obtain ⟨F, hF⟩ : ∃ F, Aside0 (F = frRows D (predsOf g) g.length) := ⟨_, ⟨rfl⟩⟩
  have hFl : F.length = g.length := by rw [hF.out]; simp [frRows]
  have hFr : Aside0 (∀ a, (rowOf F a).length ≤ 40 ∧ ∀ x ∈ rowOf F a, 0 ≤ x ∧ x < 40) := ⟨fun a => by
    rw [hF.out]
    unfold frRows rowOf
    by_cases ha : a < g.length
    · rw [List.getD_eq_getElem?_getD, List.getElem?_map, List.getElem?_range ha]
      show (frRow D (predsOf g) g.length a).length ≤ 40 ∧ ∀ x ∈ frRow D (predsOf g) g.length a, 0 ≤ x ∧ x < 40
      refine ⟨?_, fun x hx => ?_⟩
      · unfold frRow
        rw [List.length_map]
        refine Nat.le_trans (List.length_filter_le _ _) ?_
        rw [List.length_range]; exact hn
      · obtain ⟨y, rfl, hy, _⟩ := (frRow_mem _ _ _ _ _).1 hx
        omega
    · rw [List.getD_eq_getElem?_getD, List.getElem?_eq_none (by simp; omega)]
      simp⟩
  rw [← hF.out] at hfr hi
  have hi' := Aside0.mk hi
  clear h hi hr
  go_enter Try.func60, Try.ntmps60
  go_wp2_with fail
  refine hfr.mono ?_
  rintro e w2 ⟨v2, rfl, hv2, hb2⟩
  obtain ⟨Af, cf, rfl⟩ := Kd.S_slice hv2
  have hFC := Aside0.mk (Kd.S_reads' hv2).2.2
  have hb2' := Aside0.mk hb2
  have hst := Aside0.mk (SetAt.made w2)
  have hBm : Below w2.heap.size w2 (w2.alloc (.map #[] 0)) := below_alloc (Below.refl _ _) _
  have hcl := clone77_calls A2 c2 at_ (w2.alloc (.map #[] 0)) (Kd.C_below hC2 (hb2.trans (hBm.mono hb2.size))) hc2 (by omega)
  clear hfr hv2 hb2 hBm
  go_wp2_with fail
  refine hcl.mono ?_
  rintro e w3 ⟨v3, rfl, hv3, hb3⟩
  rw [World.size_alloc] at hv3 hb3
  have hst3 := Aside0.mk (hst.out.below (by rw [World.size_alloc]; exact hb3))
  have hQ3 := Aside0.mk (Kd.Q_of_R (Kd.R_mono (Kd.R_bound hv3) (ok' := fun k => w2.heap.size + 1 ≤ k) (fun k hk => hk.2.1)))
  have hB3 := Aside0.mk ((below_alloc (Below.refl w2.heap.size w2) (.map #[] 0)).trans (hb3.mono (by omega)))
  clear hcl hst hv3 hb3
  go_wp2_with fail
  go_loopg [7] kk (fun gk s7 wr => ∃ (ws acc : List Int), Kd.Q (Kd.int .i64) 3 wr (w2.heap.size + 1) (fun k => w2.heap.size + 1 ≤ k) s7 ws ∧ ws.length + gk * 40 ≤ 100000 ∧ acc.length + gk * 40 ≤ 100000 ∧ Aside0 (SetAt wr w2.heap.size acc.length (fun x => decide (x ∈ acc))) ∧ Aside0 (iterO F gk ws acc = some R) ∧ Aside0 (Below w2.heap.size w2 wr))
  case atStart => exact ⟨at_, [], hQ3.out, by omega, by simp; omega, ⟨by simpa using hst3.out⟩, hi', hB3⟩
  case round =>
    clear hQ3 hst3 hi' hB3
    obtain ⟨ws, acc, hQ, hwl, hal2, hS, hit, hB⟩ := hrel
    cases ws with
    | nil =>
      obtain ⟨A7, c7, rfl, hc7⟩ := Kd.Q_slice hQ
      obtain ⟨DD, hown, hRd⟩ := hS.out
      have hacc : acc = R := by
        have := hit.out
        cases gk with
        | zero => cases this
        | succ gk => exact Option.some.inj this
      have hso := sorted68_calls w2.heap.size acc.length _ wr hown hRd.has (by omega)
      have hbw : w.heap.size ≤ wr.heap.size := Nat.le_trans hb2'.out.size hB.out.size
      clear hQ hown hRd hS hit
      go_wp2_with fail
      refine (keys68_calls _ _).mono ?_
      rintro e w' ⟨rfl, rfl⟩
      go_wp2_with fail
      refine hso.mono ?_
      rintro e w5 ⟨v, ks, rfl, k1, k2, k3, k4, k5⟩
      obtain ⟨A5, c5, rfl⟩ := Kd.R_slice k4
      have k4' := Aside0.mk k4
      clear hso k4
      go_wp2_with fail
      go_ret
      refine ⟨_, ks, rfl, k1, fun x => by rw [k2 x, ← hacc, decide_eq_true_eq], Kd.R_lower k4'.out hbw, (hb2'.out.trans (hB.out.mono hb2'.out.size)).trans (k5.mono hbw)⟩
    | cons a ws =>
      obtain ⟨gk, rfl⟩ : ∃ g', gk = g' + 1 := by
        cases gk with
        | zero => have := hit.out; cases this
        | succ gk => exact ⟨gk, rfl⟩
      obtain ⟨A7, c7, rfl, hc7⟩ := Kd.Q_slice hQ
      obtain ⟨ad, rfl, q0⟩ := Kd.at_int (Kd.Q_reads' hQ).2.2 (0 : Int) (by omega) (by simp)
      change wr.cell? (ad.add 0) = some (.int .i64 a) at q0
      rw [Addr.add_zero'] at q0
      have hl1 : (a :: ws).length = ws.length + 1 := rfl
      obtain ⟨A8, hcut, hQ2⟩ : ∃ A8, (∀ W, (Instr.slice 27 (.slice (some ad) (ws.length + 1) c7) (some (.int .i64 1)) none none).run Try.prog W = .ok (.slice A8 ws.length (c7 - 1)) W) ∧ Aside0 (Kd.Q (Kd.int .i64) 3 wr (w2.heap.size + 1) (fun k => w2.heap.size + 1 ≤ k) (.slice A8 ws.length (c7 - 1)) ws) := by
        obtain ⟨i0, hi0, hz0, hz1, hz2⟩ := info_parts info3
        have h1 := Kd.Q_drop hQ (k := 1) (by simp)
        refine ⟨_, fun W => cut_from 27 3 .i64 Try.underlying27 hi0 1 hz1 (some ad) (ws.length + 1) c7 1 (by omega) (by omega) W, ⟨h1⟩⟩
      have hit' := hit.out
      unfold iterO at hit'
      have hwl2 : ws.length + 1 + (gk + 1) * 40 ≤ 100000 := hwl
      have hl0 : ((ws.length + 1 : Nat) : Int) > 0 := by omega
      rw [hl1] at hc7 ⊢
      clear hQ hit hwl hl1
      by_cases ha : 0 ≤ a ∧ a < (F.length : Int)
      · rw [if_pos ha] at hit'
        obtain ⟨an, rfl⟩ := Int.eq_ofNat_of_zero_le ha.1
        obtain ⟨ap, Ar, cr, rfl, y0, y1, y2⟩ := at_L1 (Kd.C_below hFC.out hB.out) (an : Int) ha.1 ha.2
        rw [Int.toNat_natCast, rdL] at y0
        rw [rdL] at y1 y2
        rw [Int.toNat_natCast] at hit'
        obtain ⟨row, hrow⟩ : ∃ row, Aside0 (rowOf F an = row) := ⟨_, ⟨rfl⟩⟩
        have hrf := hFr.out an
        rw [hrow.out] at y0 y1 y2 hit' hrf
        have hyC := Aside0.mk (show Kd.C (Kd.int .i64) w2 Ar row.length row from by
          obtain ⟨ap2, Ar2, cr2, e2, x0, x1, x2⟩ := at_L1 hFC.out (an : Int) ha.1 ha.2
          cases e2
          rw [Int.toNat_natCast, rdL, hrow.out] at x0
          rw [rdL, hrow.out] at x2
          have x3 := (hB.out.cell (World.block_lt_of_cell? _ _ x0)).trans x0
          rw [y0] at x3
          cases x3
          exact x2)
        have hitn := Aside0.mk hit'
        have hB0 := Aside0.mk (Below.refl wr.heap.size wr)
        obtain ⟨hrl, hrm⟩ := hrf
        have hrm' := Aside0.mk hrm
        clear hit' y2 hrm
        go_wp2_with fail
        go_loopw [7, 37] (fun s7 s37 wq => ∃ (q : Nat) (ws' acc' : List Int), q ≤ row.length ∧ s37 = .int .i64 q ∧ Aside0 (Kd.Q (Kd.int .i64) 3 wq (w2.heap.size + 1) (fun k => w2.heap.size + 1 ≤ k) s7 ws') ∧ Aside0 ((row.take q).foldl iterStep (ws, acc) = (ws', acc')) ∧ Aside0 (SetAt wq w2.heap.size acc'.length (fun x => decide (x ∈ acc'))) ∧ Aside0 (Below w2.heap.size w2 wq))
          (fun s7 s37 wq => row.length - (RowKit.intOf s37).toNat)
        case atStart => exact ⟨0, ws, acc, Nat.zero_le _, rfl, hQ2, ⟨rfl⟩, hS, hB⟩
        case round =>
          clear hQ2 hS hB hB0
          obtain ⟨q, ws', acc', hq, rfl, hQ, hfo, hS, hB⟩ := hrel
          by_cases hql : q < row.length
          · have hqn : (q : Int) < (row.length : Int) := by omega
            have hq0 : (0 : Int) ≤ (q : Int) := by omega
            obtain ⟨ar, rfl, z0⟩ := Kd.at_int (Kd.C_below hyC.out hB.out) (q : Int) hq0 hqn
            rw [Int.toNat_natCast, rdI hql] at z0
            have hbr := hrm'.out row[q] (List.getElem_mem hql)
            have hfo2 : (row.take (q + 1)).foldl iterStep (ws, acc) = iterStep (ws', acc') row[q] := by
              rw [List.take_succ_eq_append_getElem hql, List.foldl_append, hfo.out]; rfl
            generalize row[q] = b at z0 hbr hfo2
            have hwf : Wf b := wf_small hbr.1 (by omega)
            have hlk := hS.out.look hwf
            have hil := iter_len (row.take q) (ws, acc)
            rw [hfo.out] at hil
            have hil1 : ws'.length ≤ 100100 := by have := hil.1; simp only [List.length_take] at this; omega
            have hil2 : acc'.length ≤ 100100 := by have := hil.2; simp only [List.length_take] at this; omega
            clear hfo hil
            by_cases hb : b ∈ acc'
            · rw [decide_eq_true hb] at hlk
              unfold iterStep at hfo2
              rw [if_pos hb] at hfo2
              have hfo3 := Aside0.mk hfo2
              clear hfo2
              go_wp2_with fail
              go_roundw
              case rel => exact ⟨q + 1, ws', acc', by omega, by go_num, hQ, hfo3, hS, hB⟩
              case measure => simp [RowKit.intOf]; omega
            · rw [decide_eq_false hb] at hlk
              unfold iterStep at hfo2
              rw [if_neg hb] at hfo2
              have hfo3 := Aside0.mk hfo2
              clear hfo2
              obtain ⟨W1, u1, u2, u3⟩ := hS.out.store (by unfold maxLen; omega) hwf
              have hQ1 := Aside0.mk (Kd.Q_grown hQ.out u3 (fun k hk e => by have := Option.some.inj e; omega))
              have hB1 := Aside0.mk (hB.out.grown u3 hB.out.size (fun j e => by cases e; exact Nat.le_refl _))
              have hle1 : w2.heap.size + 1 ≤ W1.heap.size := by have := u2.lt; omega
              have u2' := Aside0.mk u2
              clear hS hB hQ u3 u2
              go_wp2_with (at_builtin; refine Kd.Q_append (Kd.int .i64) (w0 := W1) (w2.heap.size + 1) rfl (.tmp 47) (.tmp 49) 27 3 (.int .i64 0) 8 rfl Try.underlying27 info3 rfl (by decide) (by decide) _ ws' b [.int .i64 b] (fun k => w2.heap.size + 1 ≤ k) (fun _ => False) rfl rfl rfl (fun _ h => h.elim) (fun k hk => Nat.le_trans hle1 hk) hQ1.out (Below.refl _ _) hle1 (by omega) ?_; intro v7 w7 hown7 hb7 hg7 hat7)
              have hS7 : SetAt w7 w2.heap.size (acc' ++ [b]).length (fun x => decide (x ∈ acc' ++ [b])) := by
                rw [dec_snoc, List.length_append]
                exact u2'.out.grown hg7 (fun e => by have := hQ1.out.1 _ e.symm; omega)
              have hB7 := hB1.out.trans (hb7.mono (by omega))
              obtain ⟨A9, c9, rfl, _⟩ := Kd.Q_slice hown7
              have hown7' := Aside0.mk hown7
              have hS7' := Aside0.mk hS7
              have hB7' := Aside0.mk hB7
              clear hS7 hB7 hown7 hg7 hb7 hat7
              go_roundw
              case rel => exact ⟨_, _, _, ⟨q + 1, by omega, by go_num, ws' ++ [b], hown7', acc' ++ [b], hfo3, hS7', hB7'⟩, rfl, rfl, rfl⟩
              case measure => simp [RowKit.intOf]; omega
          · obtain rfl : q = row.length := by omega
            have hfo' := hfo.out
            rw [List.take_length] at hfo'
            have hil := iter_len row (ws, acc)
            rw [hfo'] at hil
            have hitn2 := hitn.out
            rw [hfo'] at hitn2
            have hitn3 := Aside0.mk hitn2
            clear hfo' hitn2
            go_wp2_with fail
            go_roundg gk
            case measure => omega
            case rel => exact ⟨ws', acc', hQ.out, by have : ws'.length ≤ ws.length + row.length := hil.1; omega, by have : acc'.length ≤ acc.length + row.length := hil.2; omega, hS, hitn3, hB⟩
      · rw [if_neg ha] at hit'
        have hitn := Aside0.mk hit'
        clear hit'
        by_cases h0 : a < 0
        · go_wp2_with fail
          go_roundg gk
          case measure => omega
          case rel => exact ⟨ws, acc, hQ2.out, by omega, by omega, hS, hitn, hB⟩
        · have h1 : (F.length : Int) ≤ a := by omega
          have h2 : ¬ a < 0 := h0
          go_wp2_with fail
          go_roundg gk
          case measure => omega
          case rel => exact ⟨ws, acc, hQ2.out, by omega, by omega, hS, hitn, hB⟩
end Go.Proofs.Ytkmbhknmjnbanaa.A


namespace Go.Proofs.Ytkmbhknmjnbanaa.A
open Go.RowKit Go.Proofs.YtkmbhknmjnbanaaW.PrintWords Go.Proofs.YtkmbhknmjnbanaaW.PrintLast Go.Shelf Go.Lib
attribute [local go_sem] Oper.semAt_some
set_option linter.unusedVariables false
set_option linter.unusedSimpArgs false

/-- the place of the first 0; -1: there is none -/
def zeroAt : List Int → Int
  | [] => -1
  | x :: l => if x = 0 then 0 else if zeroAt l = -1 then -1 else zeroAt l + 1
theorem zeroAt_no : ∀ l : List Int, (0 : Int) ∉ l → zeroAt l = -1
  | [], _ => rfl
  | x :: l, h => by
    unfold zeroAt
    rw [if_neg (fun e => h (by rw [e]; simp)), zeroAt_no l (fun h2 => h (by simp [h2])), if_pos rfl]
theorem zeroAt_pre : ∀ (q r : List Int), (0 : Int) ∉ q → zeroAt (q ++ 0 :: r) = (q.length : Int)
  | [], r, _ => by unfold zeroAt; simp
  | x :: q, r, h => by
    have ih := zeroAt_pre q r (fun h2 => h (by simp [h2]))
    show zeroAt (x :: (q ++ 0 :: r)) = _
    unfold zeroAt
    rw [if_neg (fun e => h (by rw [e]; simp)), ih, if_neg (by omega)]
    simp
def depI (D : List Int) (a : Int) : Int := zeroAt (upL D (D.length + 1) a)
/-- 0 came just now, and not before -/
def Came0 {n : Nat} (pre : List (BlkN n)) : Prop := ∃ q : List Int, pre.map (·.1) = q ++ [0] ∧ (0 : Int) ∉ q

set_option maxRecDepth 100000 in
set_option maxHeartbeats 4000000 in
theorem depth_calls (A : Option Addr) (c : Nat) (D : List Int) (b : Int) (w : World) (h : Kd.C (Kd.int .i64) w A D.length D) (hc : D.length ≤ c) (hDl : D.length ≤ 1000000) :
    Calls Try.prog 67 #[.slice A D.length c, .int .i64 b] w fun e w' => e = .returned (.int .i64 (depI D b)) ∧ Below w.heap.size w w' := by
  rw [← callsIn_wide (n := 5)]
  have hro : (Fence.wide).round = none := rfl
  have hd : (Fence.wide).depth = none := rfl
  refine callsIn_of_wp_marks Try.func67 rfl trivial ?_ hro
  simp only [Try.ntmps67, List.size_toArray, List.length_cons, List.length_nil, Nat.reduceAdd, Nat.reduceSub, Array.replicate_succ, Array.replicate_zero, List.push_toArray, List.append_toArray, List.nil_append, List.cons_append]
  gi_wp2_with ((try refine ⟨trivial, ?_⟩); gi_at_call 64; refine (up_in Fence.wide _ trivial hro A D.length c b _).mono ?_; rintro e w2 ⟨rfl, rfl⟩)
  obtain ⟨V, hV⟩ : ∃ V, (w.alloc (.cells #[.int .i64 0] 3)).alloc (.cells #[.int .i64 0] 3) = V := ⟨_, rfl⟩
  have hVs : V.heap.size = w.heap.size + 1 + 1 := by rw [← hV]; simp
  have hVB : Below w.heap.size w V := by rw [← hV]; exact below_alloc (below_alloc (Below.refl _ _) _) _
  have hU := up_state (A := A) (c := c) (a := b) (D := D) hVB
  obtain ⟨WL, hWL⟩ : ∃ WL, (V.alloc (.cells #[.slice A D.length c] 27)).alloc (.cells #[.int .i64 b] 3) = WL := ⟨_, rfl⟩
  rw [hWL, hVs] at hU
  have f0 : WL.cell? ⟨w.heap.size, 0, none⟩ = some (.int .i64 0) := by rw [← hWL, ← hV]; simp [go_sem]
  have g0 : WL.frozen? ⟨w.heap.size, 0, none⟩ = false := by rw [← hWL, ← hV]; simp [go_sem]
  have f1 : WL.cell? ⟨w.heap.size + 1, 0, none⟩ = some (.int .i64 0) := by rw [← hWL, ← hV]; simp [go_sem]
  have g1 : WL.frozen? ⟨w.heap.size + 1, 0, none⟩ = false := by rw [← hWL, ← hV]; simp [go_sem]
  have hsz : WL.heap.size = w.heap.size + 4 := by rw [← hWL]; simp [hVs]
  simp only [hV]
  rw [hWL]
  clear hV hWL hVB hVs
  have hst := up_stops Fence.wide hd 4 trivial hro (w.heap.size + 1 + 1) (w.heap.size + 1 + 1 + 1) b A c D w WL h hDl (by omega) (by omega) hU
  refine wpIn_rangeFunc_X hro (by omega) (gf := 80) (lb := #[.pointer (some ⟨w.heap.size + 1 + 1, 0, none⟩), .pointer (some ⟨w.heap.size + 1 + 1 + 1, 0, none⟩)]) rfl trivial (enters_of Try.func80 (by kernel_rfl) rfl) hst
    (fun k hk => by have : k = w.heap.size + 1 + 1 + 1 := hk; omega) (fun h k => h.trans k) (fun W l o o' h1 h2 _ _ _ => KeepsBut.putObj W o' (by rintro (h | h | h) <;> omega)) (Below.refl _ _) (fun _ => rfl)
    (fun pre W => Aside0 (Below w.heap.size w W ∧ (W.cell? ⟨w.heap.size, 0, none⟩ = some (.int .i64 0) ∧ W.frozen? ⟨w.heap.size, 0, none⟩ = false) ∧ W.cell? ⟨w.heap.size + 1, 0, none⟩ = some (.int .i64 (pre.length : Int)) ∧ W.frozen? ⟨w.heap.size + 1, 0, none⟩ = false ∧ ¬ HasV 0 pre))
    (fun cc pre W => Aside0 (cc = .ret ∧ Below w.heap.size w W ∧ W.cell? ⟨w.heap.size, 0, none⟩ = some (.int .i64 ((pre.length : Int) - 1)) ∧ Came0 pre)) ?hI ?hIx ⟨⟨hU.hB, ⟨f0, g0⟩, f1, g1, by simp [HasV]⟩⟩ ?a1 ?assign ?body ?done ?stop
  case hI =>
    rintro pre W W' ⟨⟨h1, ⟨h2, h2'⟩, h3, h4, h5⟩⟩ hk
    have hx : ∀ k, XX (fun _ k => k = w.heap.size + 1 + 1 + 1) WL.heap.size k → w.heap.size + 2 ≤ k := by
      rintro k (h | h)
      · have : k = w.heap.size + 1 + 1 + 1 := h; omega
      · omega
    exact ⟨⟨h1.trans (hk.below h1.size (fun k hk hX => by have := hx k hX; omega)), ⟨hk.cell h2 (fun hX => by have : w.heap.size + 2 ≤ w.heap.size := hx _ hX; omega), hk.frozen h2 (fun hX => by have : w.heap.size + 2 ≤ w.heap.size := hx _ hX; omega) h2'⟩, hk.cell h3 (fun hX => by have : w.heap.size + 2 ≤ w.heap.size + 1 := hx _ hX; omega), hk.frozen h3 (fun hX => by have : w.heap.size + 2 ≤ w.heap.size + 1 := hx _ hX; omega) h4, h5⟩⟩
  case hIx =>
    rintro cc pre W W' ⟨⟨rfl, h1, h3, h5⟩⟩ hk
    have hx : ∀ k, XX (fun _ k => k = w.heap.size + 1 + 1 + 1) WL.heap.size k → w.heap.size + 2 ≤ k := by
      rintro k (h | h)
      · have : k = w.heap.size + 1 + 1 + 1 := h; omega
      · omega
    exact ⟨⟨rfl, h1.trans (hk.below h1.size (fun k hk hX => by have := hx k hX; omega)), hk.cell h3 (fun hX => by have : w.heap.size + 2 ≤ w.heap.size := hx _ hX; omega), h5⟩⟩
  case assign =>
    intro l x W K hK
    gi_wp2
    exact hK
  case body =>
    rintro l pre ⟨x, x0, x1⟩ W ⟨⟨h1, ⟨h2, h2'⟩, h3, h4, h5⟩⟩ _ hpl
    dsimp only
    have hw1 : wrap64 ((pre.length : Int) + 1) = (pre.length : Int) + 1 := by unfold wrap64; omega
    by_cases hxa : x = 0
    · subst hxa
      gi_wp2
      exact ⟨(KeepsOthers.setCell _ _ _).from _, ⟨rfl, h1.setCell (by show w.heap.size ≤ w.heap.size; omega) _, by rw [World.cell?_setCell_same' _ _ _ (by rw [h2]; rfl), List.length_append]; simp, pre.map (fun y : BlkN D.length => y.1), by rw [List.map_append]; rfl, h5⟩⟩
    · gi_wp2
      refine ⟨(KeepsOthers.setCell _ _ _).from _, KeepsBut.setCell _ _ _ (by rintro (h | h | h) <;> simp only [] at h <;> omega), ⟨h1.setCell (by show w.heap.size ≤ w.heap.size + 1; omega) _, ⟨(World.cell?_setCell_far _ _ _ _ (by show w.heap.size + 1 ≠ w.heap.size; omega)).trans h2, by rw [World.frozen?_setCell]; exact h2'⟩, ?_, by rw [World.frozen?_setCell]; exact h4, fun hy => ?_⟩⟩
      · rw [World.cell?_setCell_same' _ _ _ (by rw [h3]; rfl), List.length_append]; simp
      · rcases HasV.snoc.1 hy with hy | hy
        · exact h5 hy
        · exact hxa hy.symm
  case done =>
    rintro Dd ys W hD hys ⟨⟨h1, ⟨h2, h2'⟩, h3, h4, h5⟩⟩ hK
    gi_wp2
    have hK' := (KeepsOthers.setCell W ⟨w.heap.size, 0, none⟩ (.int .i64 (-1))).same Dd _ hK rfl
    refine ⟨by simp, .inl ⟨_, _, rfl, run_takeDeferred hK', ?_⟩⟩
    have hc5 := cell_kept (World.cell?_setCell_same' W ⟨w.heap.size, 0, none⟩ (.int .i64 (-1)) (by rw [h2]; rfl)) (grownBy_putObj' _ Dd (.deferred none)) (fun r e => by cases e; exact ⟨_, hK', rfl⟩)
    have hno : (0 : Int) ∉ upL D (D.length + 1) b := by
      rw [← hys]
      exact h5
    refine ⟨.int .i64 (-1), ?_, by unfold depI; rw [zeroAt_no _ hno], ?_⟩
    · simp [results, Try.f67, go_sem, hc5]
    · exact (h1.setCell (by show w.heap.size ≤ w.heap.size; omega) _).trans (belowK_b (w := w) (Nat.le_refl _) _ Dd _ (.deferred none) (by omega) hK' rfl rfl)
  case stop =>
    rintro Dd cc pre W hD hpre ⟨⟨rfl, h1, h3, q, hq, hq0⟩⟩ hK
    gi_wp2
    refine ⟨by simp, .inl ⟨_, _, rfl, run_takeDeferred hK, ?_⟩⟩
    have hc5 := cell_kept h3 (grownBy_putObj' _ Dd (.deferred none)) (fun r e => by cases e; exact ⟨_, hK, rfl⟩)
    refine ⟨.int .i64 ((pre.length : Int) - 1), ?_, ?_, ?_⟩
    · simp [results, Try.f67, go_sem, hc5]
    · obtain ⟨r, hr⟩ := hpre
      have hl : pre.length = q.length + 1 := by have := congrArg List.length hq; simpa using this
      unfold depI
      rw [← hr, hq, List.append_assoc]
      show _ = Ending.returned (.int .i64 (zeroAt (q ++ 0 :: r)))
      rw [zeroAt_pre q r hq0, hl]
      simp
    · exact h1.trans (belowK_b (w := w) (Nat.le_refl _) _ Dd _ (.deferred none) (by omega) hK rfl rfl)
end Go.Proofs.Ytkmbhknmjnbanaa.A

