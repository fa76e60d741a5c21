/- Parts of the proof, in the order in which they rest on one another. -/
import Derived.Test.YtkmbhknmjnbanaaMRows3
import Derived.Below
import Derived.Deep.Draws
import Derived.Deep.AppendLies
import Derived.Maps.AppendAt
import Derived.OwnWalk
import Derived.Laws.BytesArg
import Derived.Laws.MakeOwn
import Derived.Laws.OwnMore
import Derived.Deep.OwnRows
import Derived.Tactics
import Derived.Lib.ConvBytes
import Derived.Laws.Slices
import Derived.WalkKit
import Derived.KernelRfl
import Derived.RowKit3
import Derived.Deep.LoopGhost
import Derived.Deep.QuietTactic
import Derived.BigQuiet
import Derived.WideLaws
import Derived.Deep.DeepCutAuto
import Derived.Deep.CutBlock
import Derived.Deep.RegionHeld3
import Derived.Laws.Rows
import Derived.Lib.AppendStr
import Derived.ArgAppend
import Derived.Laws.IdiomCopy
import Derived.RowKit
import Derived.OrdersHeld
import Derived.Laws.BitsLemmas
import Derived.Laws.StructEq
import Derived.Test.YtkmbhknmjnbanaaProg
import Derived.Shelf.Abstract
import Derived.Lib.Walk
import Derived.RangeFuncWrites
import Derived.RangeFuncNested
import Derived.RangeFuncBound
import Derived.RangeFuncCalls
import Derived.RangeFuncLeaves
import Derived.Shelf.RegionOpen
import Derived.OwnWalkIn
import Derived.TacticsInMore
import Derived.LoopNIn
import Derived.LoopIn
import Derived.Laws.EntriesVeiled
import Derived.RangeFuncBox
import Derived.Laws.CopyOwn
import Derived.Deep.RegionLaw
import Derived.BigRegion
import Derived.WalkSpells
import Derived.Shelf.SlIterI.Nil
import Derived.Shelf.SortM.Plain
import Derived.Shelf.SortM.SortNone
import Derived.Ground.GgzProg
import Derived.Ground.SlgmProg
import Derived.Shelf.SlGeneric
import Derived.Maps.Own
import Derived.Maps.OwnOps
import Derived.Maps.OwnSet
import Derived.Maps.Views
import Derived.RangeFuncRecord
import Derived.Deep.RegionLawGrows
import Derived.Deep.Upon
import Derived.Maps.OwnRows
import Derived.Maps.GroupsBeside
import Derived.Deep.RegionWith
import Derived.Deep.CutRange
import Derived.Maps.OwnIn
import Derived.Lib.SliceRun
import Derived.Outline
import Derived.OpenShut
import Derived.Deep.Slices
import Derived.ChangeArms
namespace Go.Proofs.Ytkmbhknmjnbanaa.A
open Go.RowKit Go.Proofs.YtkmbhknmjnbanaaW.PrintWords Go.Proofs.YtkmbhknmjnbanaaW.PrintLast Go.Proofs.YtkmbhknmjnbanaaW.PrintMore
attribute [local go_sem] max2_int min2_int max_two min_two max_three min_three max_four min_four   -- for this text's walks alone
set_option linter.unusedVariables false
set_option linter.unusedSimpArgs false

def dom_Kids.l0 : Nat → List Int → List (List Int) → List Int → Int → Int → Option ((List (List Int)))
  | 0, _, _, _, _, _ => none
  | k + 1, x0, x3, x9, x10, x11 => if x11 < x10 then (if 0 ≤ x11 then (if x11 < (x9.length : Int) then (if (rd x9 x11) ≥ 0 then (if (rd x9 x11) < (x0.length : Int) then (if 0 ≤ (rd x9 x11) then (if (rd x9 x11) < (x3.length : Int) then (if (rd_L1 x3 (rd x9 x11)).length < 17592186044416 then (dom_Kids.l0 k x0 (x3.set ((rd x9 x11) : Int).toNat ((rd_L1 x3 (rd x9 x11)) ++ [x11])) x9 x10 (wrap64 (x11 + 1))) else (none)) else (none)) else (none)) else (dom_Kids.l0 k x0 x3 x9 x10 (wrap64 (x11 + 1)))) else (dom_Kids.l0 k x0 x3 x9 x10 (wrap64 (x11 + 1)))) else (none)) else (none)) else (some x3)
def dom_Kids.f (k : Nat) (l0 : List Int) : Option ((List (List Int))) := if 0 ≤ (l0.length : Int) then (if ((l0.length : Int) : Int).toNat ≤ 11728124029610 then (dom_Kids.l0 k l0 (List.replicate ((l0.length : Int) : Int).toNat []) l0 (l0.length : Int) 0) else (none)) else (none)
set_option maxHeartbeats 8000000 in
set_option maxRecDepth 100000 in
theorem dom_Kids.calls (k : Nat) (A0 : Option Addr) (c0 : Nat) (l0 : List Int) (r : List (List Int)) (w : World) (hr0 : Kd.C (Kd.int .i64) w A0 l0.length l0) (hc0 : l0.length ≤ c0) (h : dom_Kids.f k l0 = some r) :
    Calls Try.prog 40 #[.slice A0 l0.length c0] w fun e w' => ∃ v0_ : Value, e = .returned (v0_) ∧ Kd.S (Kd.slice 3 (Kd.int .i64)) 27 w' w.heap.size (fun _ => True) v0_ r ∧ Below w.heap.size w w' := by
  have HR0 := Aside0.mk hr0
  have HC0 := Aside0.mk hc0
  clear hr0 hc0
  have HB := Aside0.mk (Below.refl w.heap.size w)
  have H : (if 0 ≤ (l0.length : Int) then (if ((l0.length : Int) : Int).toNat ≤ 11728124029610 then (dom_Kids.l0 k l0 (List.replicate ((l0.length : Int) : Int).toNat []) l0 (l0.length : Int) 0) else (none)) else (none)) = some r := h
  clear h
  by_cases c2 : 0 ≤ (l0.length : Int)
  · rw [if_pos c2] at H
    have c2b0 := eq_true c2
    have c2b1 : decide (0 ≤ (l0.length : Int)) = true := decide_eq_true c2
    clear c2
    by_cases c3 : ((l0.length : Int) : Int).toNat ≤ 11728124029610
    · rw [if_pos c3] at H
      have c3b0 := eq_true c3
      have c3b1 : decide (((l0.length : Int) : Int).toNat ≤ 11728124029610) = true := decide_eq_true c3
      clear c3
      obtain ⟨y617, hy617⟩ : ∃ y_ : List (List Int), y_ = (List.replicate ((l0.length : Int) : Int).toNat []) := ⟨_, rfl⟩
      replace H : (dom_Kids.l0 k l0 y617 l0 (l0.length : Int) 0) = some r := by first | (rw [hy617]; with_reducible exact H) | (have H2_ := (Option.bind_some _ _).symm.trans H; rw [hy617]; with_reducible exact H2_) | (have H2_ := (Option.bind_some _ _).symm.trans H; with_reducible exact H2_) | with_reducible exact H | (rw [hy617]; exact H) | exact H
      have Ny617 := Aside0.mk hy617
      clear hy617
      have H' := Aside0.mk H
      clear H
      go_enter Try.func40, Try.ntmps40
      go_wp2_with (first | ((with_reducible refine gate_dst (N := 8) rfl ?_); (try (refine gate_guard (by rfl) ?_; dsimp only)); refine Kd.S_make (Kd.slice 3 (Kd.int .i64)) _ 27 rfl (N := 8) rfl 22 _ _ rfl (l0.length : Int) rfl rfl Try.underlying22 (.slice none 0 0) 24 info27 rfl (by decide) (by omega) [] (ok := fun _ => True) (okp := fun _ => True) ⟨_, rfl, Kd.R_nil _ _ _ _ _⟩ (fun _ hk => hk) trivial (of_decide_eq_true (by first | (with_reducible assumption) | assumption)) (Nat.le_trans (Nat.mul_le_mul_right _ (of_decide_eq_true (by first | (with_reducible assumption) | assumption) : (l0.length : Int).toNat ≤ 11728124029610)) (by omega)) (Below.refl _ _) (Nat.le_refl _) ?_; intro v618 w4 ho5 hb hg_ hnew_; clear hg_ hnew_; (first | rw [← Ny617.out] at ho5 | (simp only [Int.reduceToNat] at ho5; rw [← Ny617.out] at ho5)); have n0_ := Aside0.mk (Kd.S_lower ho5 (below_size (by repeat (first | (with_reducible first | exact HB.out | apply below_alloc | apply pw_below_drewN | apply below_drew1) | exact HB.out)))); have n1_ := Aside0.mk (below_step (by repeat (first | (with_reducible first | exact HB.out | apply below_alloc | apply pw_below_drewN | apply below_drew1) | exact HB.out)) hb); clear HB; have HO619 := n0_; have HB := n1_; clear n0_ n1_; clear hb ho5))
      go_loopg [11] k (fun kq v11 w' => ∃ (x3_1 : List (List Int)) (x11_1 : Int), v11 = .int .i64 x11_1 ∧ Aside0 (dom_Kids.l0 kq l0 x3_1 l0 (l0.length : Int) x11_1 = some r) ∧ Aside0 (kq ≤ k) ∧ Aside0 (Kd.S (Kd.slice 3 (Kd.int .i64)) 27 w' w.heap.size (fun _ => True) v618 x3_1) ∧ Aside0 (Below w.heap.size w w'))
      case atStart => exact ⟨(y617), (0), (by first | rfl | (simp; done) | (simp [*]; done)), H', ⟨Nat.le_refl _⟩, ⟨by (with_reducible repeat (first | apply Kd.S_alloc | apply Kd.S_drewN | apply Kd.S_drew)); exact HO619.out⟩, ⟨by repeat (first | (with_reducible first | exact HB.out | apply below_alloc | apply pw_below_drewN | apply below_drew1) | exact HB.out)⟩⟩
      case round =>
        clear H'
        try clear c2
        try clear c2b0
        try clear c2b1
        try clear p2
        try clear c3
        try clear c3b0
        try clear c3b1
        try clear c4
        obtain ⟨x3_1, x11_1, rfl, HA, HK1, HO_3, HB⟩ := hrel
        cases gk with
        | zero => exact absurd HA.out (by simp [dom_Kids.l0])
        | succ k1 =>
          have H := HA.out
          clear HA
          simp only [dom_Kids.l0] at H
          by_cases c6 : x11_1 < (l0.length : Int)
          · rw [if_pos c6] at H
            have c6b0 : decide (x11_1 < (l0.length : Int)) = true := decide_eq_true c6
            clear c6
            by_cases c7 : 0 ≤ x11_1
            · rw [if_pos c7] at H
              have c7b0 : decide (0 ≤ x11_1) = true := decide_eq_true c7
              clear c7
              by_cases c8 : x11_1 < (l0.length : Int)
              · rw [if_pos c8] at H
                have c8b0 : decide (x11_1 < (l0.length : Int)) = true := decide_eq_true c8
                clear c8
                by_cases c9 : (rd l0 x11_1) ≥ 0
                · rw [if_pos c9] at H
                  have c9b0 : decide (0 ≤ (rd l0 x11_1)) = true := decide_eq_true c9
                  clear c9
                  by_cases c10 : (rd l0 x11_1) < (l0.length : Int)
                  · rw [if_pos c10] at H
                    have c10b0 : decide ((rd l0 x11_1) < (l0.length : Int)) = true := decide_eq_true c10
                    clear c10
                    by_cases c11 : 0 ≤ (rd l0 x11_1)
                    · rw [if_pos c11] at H
                      have c11b0 : decide (0 ≤ (rd l0 x11_1)) = true := decide_eq_true c11
                      clear c11
                      by_cases c12 : (rd l0 x11_1) < (x3_1.length : Int)
                      · rw [if_pos c12] at H
                        have c12b0 : decide ((rd l0 x11_1) < (x3_1.length : Int)) = true := decide_eq_true c12
                        clear c12
                        by_cases c13 : (rd_L1 x3_1 (rd l0 x11_1)).length < 17592186044416
                        · rw [if_pos c13] at H
                          have LMc13 := Aside0.mk c13
                          clear c13
                          obtain ⟨y622, hy622⟩ : ∃ y_ : List Int, y_ = ((rd_L1 x3_1 (rd l0 x11_1)) ++ [x11_1]) := ⟨_, rfl⟩
                          replace H : (dom_Kids.l0 k1 l0 (x3_1.set ((rd l0 x11_1) : Int).toNat y622) l0 (l0.length : Int) (wrap64 (x11_1 + 1))) = some r := by first | (rw [hy622]; with_reducible exact H) | (have H2_ := (Option.bind_some _ _).symm.trans H; rw [hy622]; with_reducible exact H2_) | (have H2_ := (Option.bind_some _ _).symm.trans H; with_reducible exact H2_) | with_reducible exact H | (rw [hy622]; exact H) | exact H
                          have Ny622 := Aside0.mk hy622
                          clear hy622
                          obtain ⟨y625, hy625⟩ : ∃ y_ : List (List Int), y_ = (x3_1.set ((rd l0 x11_1) : Int).toNat y622) := ⟨_, rfl⟩
                          replace H : (dom_Kids.l0 k1 l0 y625 l0 (l0.length : Int) (wrap64 (x11_1 + 1))) = some r := by first | (rw [hy625]; with_reducible exact H) | (have H2_ := (Option.bind_some _ _).symm.trans H; rw [hy625]; with_reducible exact H2_) | (have H2_ := (Option.bind_some _ _).symm.trans H; with_reducible exact H2_) | with_reducible exact H | (rw [hy625]; exact H) | exact H
                          have Ny625 := Aside0.mk hy625
                          clear hy625
                          have H' := Aside0.mk H
                          clear H
                          have p620 : 0 ≤ (x11_1 : Int) := of_decide_eq_true (by first | (with_reducible assumption) | assumption)
                          have q620 : x11_1 < (l0.length : Int) := of_decide_eq_true (by first | (with_reducible assumption) | assumption)
                          obtain ⟨ad620, e620, hx620_0⟩ := Kd.at_int HR0.out x11_1 p620 q620
                          cases e620
                          replace hx620_0 := (HB.out.cell (World.block_lt_of_cell? w _ hx620_0)).trans hx620_0
                          replace p620 := eq_true p620
                          replace q620 := eq_true q620
                          obtain ⟨Ao15, co15, eo15⟩ := Kd.S_slice HO_3.out
                          subst eo15
                          have p621 : 0 ≤ ((rd l0 x11_1) : Int) := of_decide_eq_true (by first | (with_reducible assumption) | assumption)
                          have q621 : (rd l0 x11_1) < (x3_1.length : Int) := of_decide_eq_true (by first | (with_reducible assumption) | assumption)
                          obtain ⟨ad621, A621_0, c621_0, e621, hx621_0, hl621_0, hi621_0⟩ := at_L1 (Kd.S_reads' HO_3.out).2.2 (rd l0 x11_1) p621 q621
                          cases e621
                          obtain ⟨ce621, hce621, hMe621, hcc621⟩ := Kd.S_get HO_3.out [] (rd l0 x11_1) p621 (by first | exact q621 | exact of_decide_eq_true (by first | (with_reducible assumption) | assumption) | (have e_ := (Kd.S_reads' HO_3.out).1; omega))
                          obtain ⟨ve621_0, rfl, ge621_0⟩ := hMe621
                          have hv621_0 := hcc621 0 _ rfl
                          rw [Nat.add_zero, show ((Kd.slice 3 (Kd.int .i64))).sz = 1 from rfl, Nat.mul_one] at hv621_0
                          replace hv621_0 := Option.some.inj (hv621_0.symm.trans hx621_0)
                          rw [hv621_0] at ge621_0
                          have HL621_0 := Aside0.mk (show Kd.R (Kd.int .i64) 3 _ _ _ _ (rd_L1 x3_1 (rd l0 x11_1)) from ge621_0)
                          clear hv621_0 ge621_0
                          have HX621_0 := Aside0.mk hx621_0
                          clear hcc621 hce621
                          have HR621_0 := Aside0.mk hi621_0
                          have HC621_0 := Aside0.mk hl621_0
                          clear hi621_0 hl621_0
                          replace p621 := eq_true p621
                          replace q621 := eq_true q621
                          obtain ⟨go16, co16, eo16, gb16, gl16, cl16, HG16⟩ := Kd.S_form HO_3.out (by have h_ : ((rd l0 x11_1) : Int) < ((x3_1.length : Int) : Int) := of_decide_eq_true (by first | (with_reducible assumption) | assumption); have h2_ : 0 ≤ ((rd l0 x11_1) : Int) := (of_decide_eq_true (by first | (with_reducible assumption) | assumption)); omega)
                          (first | cases eo16 | (injection eo16 with ea_ en_ ec_; (first | subst ea_ | (injection ea_ with ea_; subst ea_)); subst ec_; clear en_))
                          have GB16 := Aside0.mk gb16
                          have GG16 := Aside0.mk HG16
                          clear gb16 gl16 HG16
                          (first | simp only [add_plain] at hx621_0 | skip)
                          obtain ⟨oki16, ce16, hcl16, hM16, hcc16, _, _, hH16⟩ := Kd.S_elem HO_3.out [] ((rd l0 x11_1) : Int) (of_decide_eq_true (by first | (with_reducible assumption) | assumption)) (by have h_ : ((rd l0 x11_1) : Int) < ((x3_1.length : Int) : Int) := of_decide_eq_true (by first | (with_reducible assumption) | assumption); first | exact h_ | (have e_ := (Kd.S_reads' HO_3.out).1; omega) | simpa using h_)
                          obtain ⟨ve16_0, rfl, ge16_0⟩ := hM16
                          have hv16 := hcc16 0 _ rfl
                          have hX16 := HX621_0.out
                          (try simp only [add_plain] at hX16)
                          (try simp only [Nat.add_zero] at hv16)
                          (try rw [show ((Kd.slice 3 (Kd.int .i64))).sz = 1 from rfl, Nat.mul_one] at hv16)
                          replace hv16 := Option.some.inj (hv16.symm.trans hX16)
                          subst hv16
                          clear hX16 hcc16 hcl16
                          have UU16 := Aside0.mk (show Kd.R (Kd.int .i64) 3 _ w.heap.size oki16 (.slice A621_0 (rd_L1 x3_1 (rd l0 x11_1)).length c621_0) (rd_L1 x3_1 (rd l0 x11_1)) from ge16_0)
                          have HH16 := Aside0.mk hH16
                          have HN16 := Aside0.mk (Kd.S_reads' HO_3.out).1
                          clear hH16 ge16_0
                          go_wp2_with (first | ((with_reducible refine gate_builtin (b := .append) (xs := #[.tmp 29, .tmp 31]) rfl ?_); (try (refine gate_guard (by rfl) ?_; dsimp only)); at_builtin; refine Kd.R_append (Kd.int .i64) (w0 := w) w.heap.size rfl (.tmp 29) (.tmp 31) 27 3 (.int .i64 0) 8 rfl Try.underlying27 info3 rfl (by decide) (by omega) (.slice A621_0 (rd_L1 x3_1 (rd l0 x11_1)).length c621_0) (rd_L1 x3_1 (rd l0 x11_1)) x11_1 [.int .i64 x11_1] (fun k_ => oki16 k_ ∨ ((fun _ => True)) k_ ∧ wr.heap.size ≤ k_) (fun _ => False) rfl rfl ?aP (fun _ hk => hk.elim) ?aF ?aO ?aB ?aS ?aL ?_; (case aP => exact rfl); (case aB => exact (by repeat (first | (with_reducible first | exact HB.out | apply below_alloc | apply pw_below_drewN | apply below_drew1) | exact HB.out))); (case aF => exact (fun k_ hk => .inr ⟨trivial, hk⟩)); (case aO => exact (by (with_reducible repeat (first | apply Kd.R_alloc | apply Kd.R_drewN | apply Kd.R_drew)); exact Kd.R_mono UU16.out (fun _ hk => .inl hk))); (case aS => exact (below_size (by repeat (first | (with_reducible first | exact HB.out | apply below_alloc | apply pw_below_drewN | apply below_drew1) | exact HB.out)))); (case aL => have := LMc13.out; omega); intro v623 w17 ho hb hg hat; rw [← Ny622.out] at ho; have n0_ := Aside0.mk (hb); have n1_ := Aside0.mk (Kd.H_grown (Kd.H_widen (by repeat (first | exact HH16.out | refine Kd.H_alloc ?_ _ | refine Kd.H_drewN ?_ _ | refine Kd.H_drew ?_))) hg (fun k_ e_ => .inl (UU16.out.1 k_ e_))); have n2_ := Aside0.mk (ho); clear HB; clear HH16; clear HO_3; clear UU16; clear HL621_0; have HB := n0_; have HH16 := n1_; have HO624 := n2_; clear n0_ n1_ n2_; clear ho hb hg hat; have p14 : 0 ≤ ((rd l0 x11_1) : Int) := of_decide_eq_true (by first | (with_reducible assumption) | assumption); have q14 : ((rd l0 x11_1) : Int) < ((x3_1.length : Int) : Int) := of_decide_eq_true (by first | (with_reducible assumption) | assumption); replace p14 := eq_true p14; replace q14 := eq_true q14; obtain ⟨Ao20, co20, eo20⟩ := Kd.R_slice HO624.out; subst eo20; obtain ⟨_, _, hraw18, _, _, hcc18, _⟩ := Kd.H_raw HH16.out (of_decide_eq_true (by first | (with_reducible assumption) | assumption)) (by have h_ : ((rd l0 x11_1) : Int) < ((x3_1.length : Int) : Int) := of_decide_eq_true (by first | (with_reducible assumption) | assumption); first | exact h_ | (have e_ := (HN16.out); omega) | simpa using h_); obtain ⟨_, hfr18⟩ := Kd.H_at HH16.out (of_decide_eq_true (by first | (with_reducible assumption) | assumption)) (by have h_ : ((rd l0 x11_1) : Int) < ((x3_1.length : Int) : Int) := of_decide_eq_true (by first | (with_reducible assumption) | assumption); first | exact h_ | (have e_ := (HN16.out); omega) | simpa using h_); have hx18_0 := hcc18 0 _ rfl; have hf18_0 := hfr18 0; (try simp only [Nat.add_zero] at hx18_0 hf18_0); (try rw [show ((Kd.slice 3 (Kd.int .i64))).sz = 1 from rfl, Nat.mul_one] at hx18_0); (try rw [show ((Kd.slice 3 (Kd.int .i64))).sz = 1 from rfl, Nat.mul_one] at hf18_0); have HP18 := Kd.S_seg0 HH16.out (of_decide_eq_true (by first | (with_reducible assumption) | assumption)) (by have h_ : ((rd l0 x11_1) : Int) < ((x3_1.length : Int) : Int) := of_decide_eq_true (by first | (with_reducible assumption) | assumption); first | exact h_ | (have e_ := (HN16.out); omega) | simpa using h_) (seg := [.slice Ao20 y622.length co20]) (j := 0) (show 1 ≤ 1 from by decide) (x' := y622) (Kd.M_row HO624.out) (fun _ hk => hk); (try simp only [show ((Kd.slice 3 (Kd.int .i64))).sz = 1 from rfl, Nat.mul_one, Nat.add_zero] at HP18); clear hcc18 hfr18) | ((with_reducible refine gate_store (t := 27) (p := 33) rfl ?_); refine store_event (t := 27) (p := 33) (v := ?vo_w19) (w1 := (w17.setCell ⟨go16, ((rd l0 x11_1) : Int).toNat, none⟩ (.slice Ao20 y622.length co20))) ?hg ?ho ?hn ?hr ?_; (case ho => rfl); (case hg => rfl); (case hn => rfl); (case hr => first | (go_simp; done) | (go_simp; rfl)); intro w19 hw; have hg : w17.grownBy w19 (some go16) := (by rw [hw]; exact HP18.2); have hp_ : Kd.S (Kd.slice 3 (Kd.int .i64)) 27 w19 w.heap.size (fun _ => True) (.slice (some ⟨go16, 0, none⟩) x3_1.length co15) y625 := (by rw [hw, Ny625.out]; exact HP18.1); clear HP18; have n0_ := Aside0.mk ((by rw [hw]; exact below_set HB.out GB16.out : Below w.heap.size w w19)); have n1_ := Aside0.mk (hp_); clear HB; clear HO624; clear HH16; have HB := n0_; have HO_3 := n1_; clear n0_ n1_; clear hg hw hp_ hraw18))
                          go_roundg k1
                          case measure => have := HK1.out; omega
                          case rel => exact ⟨(y625), (wrap64 (x11_1 + 1)), (by first | rfl | (simp; done) | (simp [*]; done)), H', ⟨by have := HK1.out; omega⟩, ⟨by (with_reducible repeat (first | apply Kd.S_alloc | apply Kd.S_drewN | apply Kd.S_drew)); exact HO_3.out⟩, ⟨by repeat (first | (with_reducible first | exact HB.out | apply below_alloc | apply pw_below_drewN | apply below_drew1) | exact HB.out)⟩⟩
                        · rw [if_neg c13] at H
                          exact absurd H (by simp)
                      · rw [if_neg c12] at H
                        exact absurd H (by simp)
                    · rw [if_neg c11] at H
                      exact absurd H (by simp)
                  · rw [if_neg c10] at H
                    have c10b0 : decide ((rd l0 x11_1) < (l0.length : Int)) = false := decide_eq_false c10
                    clear c10
                    have H' := Aside0.mk H
                    clear H
                    have p620 : 0 ≤ (x11_1 : Int) := of_decide_eq_true (by first | (with_reducible assumption) | assumption)
                    have q620 : x11_1 < (l0.length : Int) := of_decide_eq_true (by first | (with_reducible assumption) | assumption)
                    obtain ⟨ad620, e620, hx620_0⟩ := Kd.at_int HR0.out x11_1 p620 q620
                    cases e620
                    replace hx620_0 := (HB.out.cell (World.block_lt_of_cell? w _ hx620_0)).trans hx620_0
                    replace p620 := eq_true p620
                    replace q620 := eq_true q620
                    go_wp2
                    go_roundg k1
                    case measure => have := HK1.out; omega
                    case rel => exact ⟨(x3_1), (wrap64 (x11_1 + 1)), (by first | rfl | (simp; done) | (simp [*]; done)), H', ⟨by have := HK1.out; omega⟩, ⟨by (with_reducible repeat (first | apply Kd.S_alloc | apply Kd.S_drewN | apply Kd.S_drew)); exact HO_3.out⟩, ⟨by repeat (first | (with_reducible first | exact HB.out | apply below_alloc | apply pw_below_drewN | apply below_drew1) | exact HB.out)⟩⟩
                · rw [if_neg c9] at H
                  have c9b0 : decide (0 ≤ (rd l0 x11_1)) = false := decide_eq_false c9
                  clear c9
                  have H' := Aside0.mk H
                  clear H
                  have p620 : 0 ≤ (x11_1 : Int) := of_decide_eq_true (by first | (with_reducible assumption) | assumption)
                  have q620 : x11_1 < (l0.length : Int) := of_decide_eq_true (by first | (with_reducible assumption) | assumption)
                  obtain ⟨ad620, e620, hx620_0⟩ := Kd.at_int HR0.out x11_1 p620 q620
                  cases e620
                  replace hx620_0 := (HB.out.cell (World.block_lt_of_cell? w _ hx620_0)).trans hx620_0
                  replace p620 := eq_true p620
                  replace q620 := eq_true q620
                  go_wp2
                  go_roundg k1
                  case measure => have := HK1.out; omega
                  case rel => exact ⟨(x3_1), (wrap64 (x11_1 + 1)), (by first | rfl | (simp; done) | (simp [*]; done)), H', ⟨by have := HK1.out; omega⟩, ⟨by (with_reducible repeat (first | apply Kd.S_alloc | apply Kd.S_drewN | apply Kd.S_drew)); exact HO_3.out⟩, ⟨by repeat (first | (with_reducible first | exact HB.out | apply below_alloc | apply pw_below_drewN | apply below_drew1) | exact HB.out)⟩⟩
              · rw [if_neg c8] at H
                exact absurd H (by simp)
            · rw [if_neg c7] at H
              exact absurd H (by simp)
          · rw [if_neg c6] at H
            have c6b0 : decide (x11_1 < (l0.length : Int)) = false := decide_eq_false c6
            clear c6
            obtain rfl := Option.some.inj H
            go_wp2
            go_ret
            exact ⟨_, by first | rfl | (simp [errW_none, errW_some] <;> rfl) | (simp [*, errW_none, errW_some] <;> rfl), by (with_reducible repeat (first | apply Kd.S_alloc | apply Kd.S_drewN | apply Kd.S_drew)); exact HO_3.out, by repeat (first | (with_reducible first | exact HB.out | apply below_alloc | apply pw_below_drewN | apply below_drew1) | exact HB.out)⟩
    · rw [if_neg c3] at H
      exact absurd H (by simp)
  · rw [if_neg c2] at H
    exact absurd H (by simp)

end Go.Proofs.Ytkmbhknmjnbanaa.A


namespace Go.Proofs.Ytkmbhknmjnbanaa.A
open Go.RowKit Go.Maps Go.Proofs.YtkmbhknmjnbanaaW.PrintWords Go.Proofs.YtkmbhknmjnbanaaW.PrintLast Go.Shelf
set_option linter.unusedVariables false
set_option linter.unusedSimpArgs false

/-- how deep each block lies -/
def depths (D : List Int) (m : Nat) : List Int := (List.range m).map fun i : Nat => depI D (i : Int)
theorem depths_succ (D : List Int) (m : Nat) : depths D (m + 1) = depths D m ++ [depI D (m : Int)] := by simp [depths, List.range_succ]
set_option maxRecDepth 100000 in
set_option maxHeartbeats 2000000 in
theorem depths_calls (A : Option Addr) (c : Nat) (D : List Int) (w : World) (h : Kd.C (Kd.int .i64) w A D.length D) (hc : D.length ≤ c) (hDl : D.length ≤ 100000) :
    Calls Try.prog 42 #[.slice A D.length c] w fun e w' => ∃ v, e = .returned v ∧ Kd.R (Kd.int .i64) 3 w' w.heap.size (fun _ => True) v (depths D D.length) ∧ Below w.heap.size w w' := by
  go_enter Try.func42, Try.ntmps42
  go_wp2_with fail
  go_loopw [3, 7] (fun s3 s7 wr => ∃ m : Nat, m ≤ D.length ∧ s7 = .int .i64 m ∧ Kd.R (Kd.int .i64) 3 wr w.heap.size (fun _ => True) s3 (depths D m) ∧ Aside0 (Below w.heap.size w wr))
    (fun s3 s7 _ => D.length - (RowKit.intOf s7).toNat)
  case atStart => exact ⟨0, Nat.zero_le _, rfl, Kd.R_nil _ _ _ _ _, ⟨Below.refl _ _⟩⟩
  case round =>
    obtain ⟨m, hm, rfl, hR, hB⟩ := hrel
    obtain ⟨A3, c3, rfl⟩ := Kd.R_slice hR
    have hR' := Aside0.mk hR
    clear hR
    by_cases hlt : m < D.length
    · have hmn : (m : Int) < (D.length : Int) := by omega
      have hdc := depth_calls A c D (m : Int) wr (Kd.C_below h hB.out) hc (by omega)
      have hdl : (depths D m).length ≤ 100000 := by simp [depths]; omega
      go_wp2_with fail
      refine hdc.mono ?_
      rintro e w2 ⟨rfl, hb2⟩
      have hR2 := Aside0.mk (Kd.R_below hR'.out hb2)
      have hB2 := Aside0.mk (below_step hB.out hb2)
      clear hdc hR' hB hb2
      go_wp2_with (at_builtin; refine Kd.R_append (Kd.int .i64) (w0 := w) w.heap.size rfl (.tmp 10) (.tmp 14) 27 3 (.int .i64 0) 8 rfl Try.underlying27 info3 rfl (by decide) (by omega) _ (depths D m) (depI D (m : Int)) [.int .i64 (depI D (m : Int))] (fun _ => True) (fun _ => False) rfl rfl rfl (fun _ hk => hk.elim) (fun _ _ => trivial) hR2.out hB2.out hB2.out.size (by omega) ?_; intro v7 w7 hown7 hb7 hg7 hat7)
      rw [← depths_succ] at hown7
      obtain ⟨A7, c7, rfl⟩ := Kd.R_slice hown7
      have hown7' := Aside0.mk hown7
      have hb7' := Aside0.mk hb7
      clear hown7 hb7 hg7 hat7
      go_roundw
      case rel => exact ⟨m + 1, by omega, by go_num, hown7'.out, hb7'⟩
      case measure => simp [RowKit.intOf]; omega
    · obtain rfl : m = D.length := by omega
      go_wp2_with fail
      go_ret
      exact ⟨_, rfl, hR'.out, hB.out⟩
end Go.Proofs.Ytkmbhknmjnbanaa.A


namespace Go.Proofs.Ytkmbhknmjnbanaa.A
open Go.RowKit Go.Maps Go.Proofs.YtkmbhknmjnbanaaW.PrintWords Go.Proofs.YtkmbhknmjnbanaaW.PrintLast Go.Shelf
set_option linter.unusedVariables false
set_option linter.unusedSimpArgs false

def d4 : List Int := [-1, 0, 0, 0]
theorem u_right : rightB g4 = true := by kernel_rfl
theorem u_idom : idomO g4 10 = some d4 := by kernel_rfl
theorem u_front : frRows d4 (predsOf g4) 4 = [[0], [3], [3], [0]] := by kernel_rfl
theorem u_dom03 : domB d4 0 3 = true := by kernel_rfl
theorem u_dom13 : domB d4 1 3 = false := by kernel_rfl
theorem u_kids : dom_Kids.f 9 d4 = some [[1, 2, 3], [], [], []] := by kernel_rfl
theorem u_deep : depths d4 4 = [0, 1, 1, 1] := by kernel_rfl
theorem u_iter : iterO [[0], [3], [3], [0]] 10 [1] [] = some [3, 0] := by kernel_rfl
theorem u_ints1 : swageref02_Ints.f 9 d4 d4 = some true := by kernel_rfl
theorem u_ints2 : swageref02_Ints.f 9 [0, 1, 1, 1] [0, 1, 1, 1] = some true := by kernel_rfl
theorem u_ints3 : swageref02_Ints.f 9 [0, 3] [0, 3] = some true := by kernel_rfl
theorem u_rows1 : swageref06_Rows.f 40 [[0], [3], [3], [0]] [[0], [3], [3], [0]] = some true := by kernel_rfl
theorem u_rows2 : swageref06_Rows.f 40 [[1, 2, 3], [], [], []] [[1, 2, 3], [], [], []] = some true := by kernel_rfl
theorem lit_rows1n (W : World) (a : List Int) (ha : a.length ≤ 1000) : Kd.C (Kd.slice 3 (Kd.int .i64)) ((W.alloc (cellsI a)).alloc (.cells #[.slice (some ⟨W.heap.size, 0, none⟩) a.length a.length, .slice none 0 0, .slice none 0 0, .slice none 0 0] 27)) (some ⟨W.heap.size + 1, 0, none⟩) 4 [a, [], [], []] := by
  have h1 := lit_row W a ha
  have h2 := R_new_lit (Kd.slice 3 (Kd.int .i64)) (W.alloc (cellsI a)) W.heap.size 27 (xs := [a, [], [], []]) (inner := [.slice (some ⟨W.heap.size, 0, none⟩) a.length a.length, .slice none 0 0, .slice none 0 0, .slice none 0 0]) (ok := fun _ => True) (okp := fun _ => True) (reps_rows (.cons h1 (.cons (Kd.R_nil _ _ _ _ _) (.cons (Kd.R_nil _ _ _ _ _) (.cons (Kd.R_nil _ _ _ _ _) .nil))))) (fun _ h => h) trivial (by simp) (by simp)
  rw [World.size_alloc] at h2
  exact (Kd.R_reads' h2).2.2

set_option maxRecDepth 100000 in
set_option maxHeartbeats 2000000 in
theorem small7_calls (w : World) : Calls Try.prog 34 #[] w fun e w' => e = .returned (.bool true) ∧ Below w.heap.size w w' := by
  go_enter Try.func34, Try.ntmps34
  go_wp2_with fail
  have hC0 : Kd.C (Kd.slice 3 (Kd.int .i64)) (((((w.alloc (.cells #[.int .i64 1, .int .i64 2] 3)).alloc (.cells #[.int .i64 3] 3)).alloc (.cells #[.int .i64 3] 3)).alloc (.cells #[.int .i64 0] 3)).alloc (.cells #[.slice (some ⟨w.heap.size, 0, none⟩) 2 2, .slice (some ⟨w.heap.size + 1, 0, none⟩) 1 1, .slice (some ⟨w.heap.size + 1 + 1, 0, none⟩) 1 1, .slice (some ⟨w.heap.size + 1 + 1 + 1, 0, none⟩) 1 1] 27)) (some ⟨w.heap.size + 1 + 1 + 1 + 1, 0, none⟩) 4 g4 := lit_rows4 w [1, 2] [3] [3] [0] (by decide) (by decide) (by decide) (by decide)
  have hB0 : Below w.heap.size w (((((w.alloc (.cells #[.int .i64 1, .int .i64 2] 3)).alloc (.cells #[.int .i64 3] 3)).alloc (.cells #[.int .i64 3] 3)).alloc (.cells #[.int .i64 0] 3)).alloc (.cells #[.slice (some ⟨w.heap.size, 0, none⟩) 2 2, .slice (some ⟨w.heap.size + 1, 0, none⟩) 1 1, .slice (some ⟨w.heap.size + 1 + 1, 0, none⟩) 1 1, .slice (some ⟨w.heap.size + 1 + 1 + 1, 0, none⟩) 1 1] 27)) := below_alloc (below_alloc (below_alloc (below_alloc (below_alloc (Below.refl _ _) _) _) _) _) _
  generalize (((((w.alloc (.cells #[.int .i64 1, .int .i64 2] 3)).alloc (.cells #[.int .i64 3] 3)).alloc (.cells #[.int .i64 3] 3)).alloc (.cells #[.int .i64 0] 3)).alloc (.cells #[.slice (some ⟨w.heap.size, 0, none⟩) 2 2, .slice (some ⟨w.heap.size + 1, 0, none⟩) 1 1, .slice (some ⟨w.heap.size + 1 + 1, 0, none⟩) 1 1, .slice (some ⟨w.heap.size + 1 + 1 + 1, 0, none⟩) 1 1] 27)) = W0 at hC0 hB0 ⊢
  generalize w.heap.size + 1 + 1 + 1 + 1 = b0 at hC0 ⊢
  -- Idom
  have hid : Calls Try.prog 36 #[.slice (some ⟨b0, 0, none⟩) 4 4] W0 fun e w' => ∃ A c, e = .returned (.slice A 4 c) ∧ 4 ≤ c ∧ Kd.C (Kd.int .i64) w' A 4 d4 ∧ Below W0.heap.size W0 w' :=
    (idom_calls 10 (some ⟨b0, 0, none⟩) 4 g4 d4 W0 hC0 (by decide) u_idom).mono fun e w' ⟨v, he, hR, hB⟩ => by
      obtain ⟨A, c, rfl, h1, h2⟩ := Kd.R_reads hR
      exact ⟨A, c, he, h1, h2, hB⟩
  refine hid.mono ?_
  rintro e w1 ⟨AI, cI, rfl, hcI, hI, hb1⟩
  have hC := Aside0.mk (Kd.C_below hC0 hb1)
  have hB := Aside0.mk (below_step hB0 hb1)
  have hcI' := Aside0.mk hcI
  have hI' := Aside0.mk hI
  clear hid hC0 hB0 hb1 hcI hI
  have hq : Calls Try.prog 27 #[.slice AI 4 cI, .slice (some ⟨w1.heap.size, 0, none⟩) 4 4] (w1.alloc (.cells #[.int .i64 (-1), .int .i64 0, .int .i64 0, .int .i64 0] 3)) fun e w' => e = .returned (.bool true) ∧ Drawn0 (w1.alloc (.cells #[.int .i64 (-1), .int .i64 0, .int .i64 0, .int .i64 0] 3)) w' := swageref02_Ints.calls 9 AI cI [-1, 0, 0, 0] (some ⟨w1.heap.size, 0, none⟩) 4 [-1, 0, 0, 0] true _ (Kd.C_alloc hI'.out (cellsI [-1, 0, 0, 0])) hcI'.out (Kd.R_reads' (lit_row w1 [-1, 0, 0, 0] (by decide))).2.2 (by decide) u_ints1
  have hCn := Aside0.mk (Kd.C_alloc hC.out (cellsI [-1, 0, 0, 0]))
  have hIn := Aside0.mk (Kd.C_alloc hI'.out (cellsI [-1, 0, 0, 0]))
  have hBn := Aside0.mk (below_alloc hB.out (cellsI [-1, 0, 0, 0]))
  clear hC hI' hB
  go_wp2_with fail
  refine hq.mono ?_
  rintro e w2 ⟨rfl, hd⟩
  have hC := Aside0.mk (Kd.C_below hCn.out hd.below)
  have hI' := Aside0.mk (Kd.C_below hIn.out hd.below)
  have hB := Aside0.mk (below_step hBn.out hd.below)
  clear hq hd hCn hIn hBn
  have hf : Calls Try.prog 44 #[.slice (some ⟨b0, 0, none⟩) 4 4] w2 fun e w' => ∃ A c, e = .returned (.slice A 4 c) ∧ 4 ≤ c ∧ Kd.C (Kd.slice 3 (Kd.int .i64)) w' A 4 [[0], [3], [3], [0]] ∧ Below w2.heap.size w2 w' := 
    (frontier_calls 10 (some ⟨b0, 0, none⟩) 4 g4 d4 w2 hC.out (by decide) (by decide) u_idom u_right).mono fun e w' ⟨v, he, hR, hB⟩ => by
      rw [show g4.length = 4 from rfl, u_front] at hR
      obtain ⟨A, c, rfl, h1, h2⟩ := Kd.S_reads hR
      exact ⟨A, c, he, h1, h2, hB⟩
  go_wp2_with fail
  refine hf.mono ?_
  rintro e w3 ⟨AX, cX, rfl, hcX, hX, hb⟩
  have hCm := Aside0.mk (Kd.C_below hC.out hb)
  have hIm := Aside0.mk (Kd.C_below hI'.out hb)
  have hBm := Aside0.mk (below_step hB.out hb)
  have hX' := Aside0.mk hX
  clear hf hb hC hI' hB hX
  have hC := hCm
  have hI' := hIm
  have hB := hBm
  clear hCm hIm hBm
  have hq : Calls Try.prog 17 #[.slice AX 4 cX, .slice (some ⟨w3.heap.size + 1 + 1 + 1 + 1, 0, none⟩) 4 4] (((((w3.alloc (.cells #[.int .i64 0] 3)).alloc (.cells #[.int .i64 3] 3)).alloc (.cells #[.int .i64 3] 3)).alloc (.cells #[.int .i64 0] 3)).alloc (.cells #[.slice (some ⟨w3.heap.size, 0, none⟩) 1 1, .slice (some ⟨w3.heap.size + 1, 0, none⟩) 1 1, .slice (some ⟨w3.heap.size + 1 + 1, 0, none⟩) 1 1, .slice (some ⟨w3.heap.size + 1 + 1 + 1, 0, none⟩) 1 1] 27)) fun e w' => e = .returned (.bool true) ∧ Drawn0 (((((w3.alloc (.cells #[.int .i64 0] 3)).alloc (.cells #[.int .i64 3] 3)).alloc (.cells #[.int .i64 3] 3)).alloc (.cells #[.int .i64 0] 3)).alloc (.cells #[.slice (some ⟨w3.heap.size, 0, none⟩) 1 1, .slice (some ⟨w3.heap.size + 1, 0, none⟩) 1 1, .slice (some ⟨w3.heap.size + 1 + 1, 0, none⟩) 1 1, .slice (some ⟨w3.heap.size + 1 + 1 + 1, 0, none⟩) 1 1] 27)) w' :=
    swageref06_Rows.calls 40 AX cX [[0], [3], [3], [0]] (some ⟨w3.heap.size + 1 + 1 + 1 + 1, 0, none⟩) 4 [[0], [3], [3], [0]] true _ (Kd.C_alloc (Kd.C_alloc (Kd.C_alloc (Kd.C_alloc (Kd.C_alloc hX'.out _) _) _) _) _) hcX (lit_rows4 w3 [0] [3] [3] [0] (by decide) (by decide) (by decide) (by decide)) (by decide) u_rows1
  have hCn : Aside0 (Kd.C (Kd.slice 3 (Kd.int .i64)) (((((w3.alloc (.cells #[.int .i64 0] 3)).alloc (.cells #[.int .i64 3] 3)).alloc (.cells #[.int .i64 3] 3)).alloc (.cells #[.int .i64 0] 3)).alloc (.cells #[.slice (some ⟨w3.heap.size, 0, none⟩) 1 1, .slice (some ⟨w3.heap.size + 1, 0, none⟩) 1 1, .slice (some ⟨w3.heap.size + 1 + 1, 0, none⟩) 1 1, .slice (some ⟨w3.heap.size + 1 + 1 + 1, 0, none⟩) 1 1] 27)) (some ⟨b0, 0, none⟩) 4 g4) := ⟨Kd.C_alloc (Kd.C_alloc (Kd.C_alloc (Kd.C_alloc (Kd.C_alloc hC.out _) _) _) _) _⟩
  have hIn : Aside0 (Kd.C (Kd.int .i64) (((((w3.alloc (.cells #[.int .i64 0] 3)).alloc (.cells #[.int .i64 3] 3)).alloc (.cells #[.int .i64 3] 3)).alloc (.cells #[.int .i64 0] 3)).alloc (.cells #[.slice (some ⟨w3.heap.size, 0, none⟩) 1 1, .slice (some ⟨w3.heap.size + 1, 0, none⟩) 1 1, .slice (some ⟨w3.heap.size + 1 + 1, 0, none⟩) 1 1, .slice (some ⟨w3.heap.size + 1 + 1 + 1, 0, none⟩) 1 1] 27)) AI 4 d4) := ⟨Kd.C_alloc (Kd.C_alloc (Kd.C_alloc (Kd.C_alloc (Kd.C_alloc hI'.out _) _) _) _) _⟩
  have hBn : Aside0 (Below w.heap.size w (((((w3.alloc (.cells #[.int .i64 0] 3)).alloc (.cells #[.int .i64 3] 3)).alloc (.cells #[.int .i64 3] 3)).alloc (.cells #[.int .i64 0] 3)).alloc (.cells #[.slice (some ⟨w3.heap.size, 0, none⟩) 1 1, .slice (some ⟨w3.heap.size + 1, 0, none⟩) 1 1, .slice (some ⟨w3.heap.size + 1 + 1, 0, none⟩) 1 1, .slice (some ⟨w3.heap.size + 1 + 1 + 1, 0, none⟩) 1 1] 27))) := ⟨below_alloc (below_alloc (below_alloc (below_alloc (below_alloc hB.out _) _) _) _) _⟩
  clear hC hI' hB hX' hcX
  go_wp2_with fail
  refine hq.mono ?_
  rintro e w4 ⟨rfl, hd⟩
  have hC := Aside0.mk (Kd.C_below hCn.out hd.below)
  have hI' := Aside0.mk (Kd.C_below hIn.out hd.below)
  have hB := Aside0.mk (below_step hBn.out hd.below)
  clear hq hd hCn hIn hBn
  have hq : Calls Try.prog 37 #[.slice AI 4 cI, .int .i64 0, .int .i64 3] w4 fun e w' => e = .returned (.bool true) ∧ Below w4.heap.size w4 w' := by
    have h := dominates_calls AI cI d4 0 3 w4 hI'.out hcI'.out (by decide)
    rw [u_dom03] at h
    exact h
  have hCn := hC
  have hIn := hI'
  have hBn := hB
  clear hC hI' hB
  go_wp2_with fail
  refine hq.mono ?_
  rintro e w5 ⟨rfl, hd⟩
  have hC := Aside0.mk (Kd.C_below hCn.out hd)
  have hI' := Aside0.mk (Kd.C_below hIn.out hd)
  have hB := Aside0.mk (below_step hBn.out hd)
  clear hq hd hCn hIn hBn
  have hq : Calls Try.prog 37 #[.slice AI 4 cI, .int .i64 1, .int .i64 3] w5 fun e w' => e = .returned (.bool false) ∧ Below w5.heap.size w5 w' := by
    have h := dominates_calls AI cI d4 1 3 w5 hI'.out hcI'.out (by decide)
    rw [u_dom13] at h
    exact h
  have hCn := hC
  have hIn := hI'
  have hBn := hB
  clear hC hI' hB
  go_wp2_with fail
  refine hq.mono ?_
  rintro e w6 ⟨rfl, hd⟩
  have hC := Aside0.mk (Kd.C_below hCn.out hd)
  have hI' := Aside0.mk (Kd.C_below hIn.out hd)
  have hB := Aside0.mk (below_step hBn.out hd)
  clear hq hd hCn hIn hBn
  have hf : Calls Try.prog 40 #[.slice AI 4 cI] w6 fun e w' => ∃ A c, e = .returned (.slice A 4 c) ∧ 4 ≤ c ∧ Kd.C (Kd.slice 3 (Kd.int .i64)) w' A 4 [[1, 2, 3], [], [], []] ∧ Below w6.heap.size w6 w' := 
    (dom_Kids.calls 9 AI cI d4 [[1, 2, 3], [], [], []] w6 hI'.out hcI'.out u_kids).mono fun e w' ⟨v, he, hR, hB⟩ => by
      obtain ⟨A, c, rfl, h1, h2⟩ := Kd.S_reads hR
      exact ⟨A, c, he, h1, h2, hB⟩
  go_wp2_with fail
  refine hf.mono ?_
  rintro e w7 ⟨AX, cX, rfl, hcX, hX, hb⟩
  have hCm := Aside0.mk (Kd.C_below hC.out hb)
  have hIm := Aside0.mk (Kd.C_below hI'.out hb)
  have hBm := Aside0.mk (below_step hB.out hb)
  have hX' := Aside0.mk hX
  clear hf hb hC hI' hB hX
  have hC := hCm
  have hI' := hIm
  have hB := hBm
  clear hCm hIm hBm
  have hq : Calls Try.prog 17 #[.slice AX 4 cX, .slice (some ⟨w7.heap.size + 1, 0, none⟩) 4 4] ((w7.alloc (.cells #[.int .i64 1, .int .i64 2, .int .i64 3] 3)).alloc (.cells #[.slice (some ⟨w7.heap.size, 0, none⟩) 3 3, .slice none 0 0, .slice none 0 0, .slice none 0 0] 27)) fun e w' => e = .returned (.bool true) ∧ Drawn0 ((w7.alloc (.cells #[.int .i64 1, .int .i64 2, .int .i64 3] 3)).alloc (.cells #[.slice (some ⟨w7.heap.size, 0, none⟩) 3 3, .slice none 0 0, .slice none 0 0, .slice none 0 0] 27)) w' :=
    swageref06_Rows.calls 40 AX cX [[1, 2, 3], [], [], []] (some ⟨w7.heap.size + 1, 0, none⟩) 4 [[1, 2, 3], [], [], []] true _ (Kd.C_alloc (Kd.C_alloc hX'.out _) _) hcX (lit_rows1n w7 [1, 2, 3] (by decide)) (by decide) u_rows2
  have hCn : Aside0 (Kd.C (Kd.slice 3 (Kd.int .i64)) ((w7.alloc (.cells #[.int .i64 1, .int .i64 2, .int .i64 3] 3)).alloc (.cells #[.slice (some ⟨w7.heap.size, 0, none⟩) 3 3, .slice none 0 0, .slice none 0 0, .slice none 0 0] 27)) (some ⟨b0, 0, none⟩) 4 g4) := ⟨Kd.C_alloc (Kd.C_alloc hC.out _) _⟩
  have hIn : Aside0 (Kd.C (Kd.int .i64) ((w7.alloc (.cells #[.int .i64 1, .int .i64 2, .int .i64 3] 3)).alloc (.cells #[.slice (some ⟨w7.heap.size, 0, none⟩) 3 3, .slice none 0 0, .slice none 0 0, .slice none 0 0] 27)) AI 4 d4) := ⟨Kd.C_alloc (Kd.C_alloc hI'.out _) _⟩
  have hBn : Aside0 (Below w.heap.size w ((w7.alloc (.cells #[.int .i64 1, .int .i64 2, .int .i64 3] 3)).alloc (.cells #[.slice (some ⟨w7.heap.size, 0, none⟩) 3 3, .slice none 0 0, .slice none 0 0, .slice none 0 0] 27))) := ⟨below_alloc (below_alloc hB.out _) _⟩
  clear hC hI' hB hX' hcX
  go_wp2_with fail
  refine hq.mono ?_
  rintro e w8 ⟨rfl, hd⟩
  have hC := Aside0.mk (Kd.C_below hCn.out hd.below)
  have hI' := Aside0.mk (Kd.C_below hIn.out hd.below)
  have hB := Aside0.mk (below_step hBn.out hd.below)
  clear hq hd hCn hIn hBn
  have hf : Calls Try.prog 42 #[.slice AI 4 cI] w8 fun e w' => ∃ A c, e = .returned (.slice A 4 c) ∧ 4 ≤ c ∧ Kd.C (Kd.int .i64) w' A 4 [0, 1, 1, 1] ∧ Below w8.heap.size w8 w' := 
    (depths_calls AI cI d4 w8 hI'.out hcI'.out (by decide)).mono fun e w' ⟨v, he, hR, hB⟩ => by
      rw [show d4.length = 4 from rfl, u_deep] at hR
      obtain ⟨A, c, rfl, h1, h2⟩ := Kd.R_reads hR
      exact ⟨A, c, he, h1, h2, hB⟩
  go_wp2_with fail
  refine hf.mono ?_
  rintro e w9 ⟨AX, cX, rfl, hcX, hX, hb⟩
  have hCm := Aside0.mk (Kd.C_below hC.out hb)
  have hIm := Aside0.mk (Kd.C_below hI'.out hb)
  have hBm := Aside0.mk (below_step hB.out hb)
  have hX' := Aside0.mk hX
  clear hf hb hC hI' hB hX
  have hC := hCm
  have hI' := hIm
  have hB := hBm
  clear hCm hIm hBm
  have hq : Calls Try.prog 27 #[.slice AX 4 cX, .slice (some ⟨w9.heap.size, 0, none⟩) 4 4] (w9.alloc (.cells #[.int .i64 0, .int .i64 1, .int .i64 1, .int .i64 1] 3)) fun e w' => e = .returned (.bool true) ∧ Drawn0 (w9.alloc (.cells #[.int .i64 0, .int .i64 1, .int .i64 1, .int .i64 1] 3)) w' := swageref02_Ints.calls 9 AX cX [0, 1, 1, 1] (some ⟨w9.heap.size, 0, none⟩) 4 [0, 1, 1, 1] true _ (Kd.C_alloc hX'.out (cellsI [0, 1, 1, 1])) hcX (Kd.R_reads' (lit_row w9 [0, 1, 1, 1] (by decide))).2.2 (by decide) u_ints2
  have hCn := Aside0.mk (Kd.C_alloc hC.out (cellsI [0, 1, 1, 1]))
  have hIn := Aside0.mk (Kd.C_alloc hI'.out (cellsI [0, 1, 1, 1]))
  have hBn := Aside0.mk (below_alloc hB.out (cellsI [0, 1, 1, 1]))
  clear hC hI' hB
  clear hX' hcX
  go_wp2_with fail
  refine hq.mono ?_
  rintro e w10 ⟨rfl, hd⟩
  have hC := Aside0.mk (Kd.C_below hCn.out hd.below)
  have hI' := Aside0.mk (Kd.C_below hIn.out hd.below)
  have hB := Aside0.mk (below_step hBn.out hd.below)
  clear hq hd hCn hIn hBn
  have hf : Calls Try.prog 60 #[.slice (some ⟨b0, 0, none⟩) 4 4, .slice (some ⟨w10.heap.size, 0, none⟩) 1 1] (w10.alloc (.cells #[.int .i64 1] 3)) fun e w' => ∃ A c, e = .returned (.slice A 2 c) ∧ 2 ≤ c ∧ Kd.C (Kd.int .i64) w' A 2 [0, 3] ∧ Below (w10.alloc (.cells #[.int .i64 1] 3)).heap.size (w10.alloc (.cells #[.int .i64 1] 3)) w' :=
    (iter_calls 10 10 (some ⟨b0, 0, none⟩) 4 g4 d4 (some ⟨w10.heap.size, 0, none⟩) 1 [1] [3, 0] (w10.alloc (.cells #[.int .i64 1] 3)) (Kd.C_alloc hC.out _) (by decide) (by decide) u_idom u_right (Kd.R_reads' (lit_row w10 [1] (by decide))).2.2 (by decide) (by decide) (by decide) (by rw [show g4.length = 4 from rfl, u_front]; exact u_iter)).mono fun e w' ⟨v, ks, he, hr, hm, hR, hB⟩ => by
      have hks : ks = [0, 3] := rising_eq hr (by unfold Rising; decide) (fun x => by rw [hm]; simp [or_comm])
      subst hks
      obtain ⟨A, c, rfl, h1, h2⟩ := Kd.R_reads hR
      exact ⟨A, c, he, h1, h2, hB⟩
  have hBn := Aside0.mk (below_alloc hB.out (.cells #[.int .i64 1] 3))
  clear hC hI' hB
  go_wp2_with fail
  refine hf.mono ?_
  rintro e w11 ⟨AX, cX, rfl, hcX, hX, hb⟩
  have hB := Aside0.mk (below_step hBn.out hb)
  have hX' := Aside0.mk hX
  clear hf hBn hb hX
  have hq : Calls Try.prog 27 #[.slice AX 2 cX, .slice (some ⟨w11.heap.size, 0, none⟩) 2 2] (w11.alloc (.cells #[.int .i64 0, .int .i64 3] 3)) fun e w' => e = .returned (.bool true) ∧ Drawn0 (w11.alloc (.cells #[.int .i64 0, .int .i64 3] 3)) w' := swageref02_Ints.calls 9 AX cX [0, 3] (some ⟨w11.heap.size, 0, none⟩) 2 [0, 3] true _ (Kd.C_alloc hX'.out (cellsI [0, 3])) hcX (Kd.R_reads' (lit_row w11 [0, 3] (by decide))).2.2 (by decide) u_ints3
  have hBn := Aside0.mk (below_alloc hB.out (cellsI [0, 3]))
  clear hB hX' hcX
  go_wp2_with fail
  refine hq.mono ?_
  rintro e wz ⟨rfl, hd⟩
  have hB := Aside0.mk (below_step hBn.out hd.below)
  clear hq hd hBn
  go_wp2_with fail
  go_ret
  exact ⟨rfl, hB.out⟩
end Go.Proofs.Ytkmbhknmjnbanaa.A


namespace Go.Proofs.Ytkmbhknmjnbanaa.A
open Go.RowKit Go.Proofs.YtkmbhknmjnbanaaW.PrintWords Go.Proofs.YtkmbhknmjnbanaaW.PrintLast Go.Shelf
set_option linter.unusedVariables false
set_option linter.unusedSimpArgs false

def dom_Idom.f (k : Nat) (l0 : List (List Int)) : Option (List Int) := idomO l0 k
theorem dom_Idom.calls (k : Nat) (A0 : Option Addr) (c0 : Nat) (l0 : List (List Int)) (r : List Int) (w : World) (hr0 : Kd.C (Kd.slice 3 (Kd.int .i64)) w A0 l0.length l0) (hc0 : l0.length ≤ c0) (h : dom_Idom.f k l0 = some r) :
    Calls Try.prog 36 #[.slice A0 l0.length c0] w fun e w' => ∃ v0_ : Value, e = .returned (v0_) ∧ Kd.R (Kd.int .i64) 3 w' w.heap.size (fun _ => True) v0_ r ∧ Below w.heap.size w w' := idom_calls k A0 c0 l0 r w hr0 hc0 h
def dom_Dominates.f (l0 : List Int) (a1 : Int) (a2 : Int) : Option Bool := if l0.length ≤ 100000 then some (domB l0 a1 a2) else none
theorem dom_Dominates.calls (A0 : Option Addr) (c0 : Nat) (l0 : List Int) (a1 : Int) (a2 : Int) (r : Bool) (w : World) (hr0 : Kd.C (Kd.int .i64) w A0 l0.length l0) (hc0 : l0.length ≤ c0) (h : dom_Dominates.f l0 a1 a2 = some r) :
    Calls Try.prog 37 #[.slice A0 l0.length c0, .int .i64 a1, .int .i64 a2] w fun e w' => e = .returned (.bool r) ∧ Below w.heap.size w w' := by
  unfold dom_Dominates.f at h
  by_cases e : l0.length ≤ 100000
  · rw [if_pos e] at h
    obtain rfl := Option.some.inj h
    exact dominates_calls A0 c0 l0 a1 a2 w hr0 hc0 (by omega)
  · rw [if_neg e] at h; cases h
def dom_Depth.f (l0 : List Int) : Option (List Int) := if l0.length ≤ 100000 then some (depths l0 l0.length) else none
theorem dom_Depth.calls (A0 : Option Addr) (c0 : Nat) (l0 : List Int) (r : List Int) (w : World) (hr0 : Kd.C (Kd.int .i64) w A0 l0.length l0) (hc0 : l0.length ≤ c0) (h : dom_Depth.f l0 = some r) :
    Calls Try.prog 42 #[.slice A0 l0.length c0] w fun e w' => ∃ v0_ : Value, e = .returned (v0_) ∧ Kd.R (Kd.int .i64) 3 w' w.heap.size (fun _ => True) v0_ r ∧ Below w.heap.size w w' := by
  unfold dom_Depth.f at h
  by_cases e : l0.length ≤ 100000
  · rw [if_pos e] at h
    obtain rfl := Option.some.inj h
    exact depths_calls A0 c0 l0 w hr0 hc0 e
  · rw [if_neg e] at h; cases h
def swagelaw07_small.f : Option Bool := some true
theorem swagelaw07_small.calls (r : Bool) (w : World) (h : swagelaw07_small.f = some r) : Calls Try.prog 34 #[] w fun e w' => e = .returned (.bool r) ∧ Below w.heap.size w w' := by
  obtain rfl := Option.some.inj h
  exact small7_calls w
end Go.Proofs.Ytkmbhknmjnbanaa.A


namespace Go.Proofs.Ytkmbhknmjnbanaa.A
open Go.RowKit Go.Proofs.YtkmbhknmjnbanaaW.PrintWords Go.Proofs.YtkmbhknmjnbanaaW.PrintLast Go.Shelf
set_option linter.unusedVariables false
set_option linter.unusedSimpArgs false

/-- the row that Idom answers -/
structure DRow (g : List (List Int)) (D : List Int) : Prop where
  len : D.length = g.length
  root : D.getD 0 0 = -1
  yes : ∀ v, Way g 0 v → v ≠ 0 → ∃ b : Nat, D.getD v 0 = b ∧ IsIdom g v b
  no : ∀ v, v < g.length → ¬ Way g 0 v → D.getD v 0 = -1
theorem IdomRow.drow {g : List (List Int)} (hr : rightB g = true) {R : List Int} (h : IdomRow g R) : DRow g (R.set 0 (-1)) := by
  obtain ⟨h1, h2, hg⟩ := right_rows hr
  have h0 : 0 < R.length := by rw [h.len]; omega
  refine ⟨by rw [List.length_set, h.len], by rw [getD_set h0, if_pos rfl], fun v hv hv0 => ?_, fun v hv hn => ?_⟩
  · rw [getD_set h0, if_neg hv0]; exact h.yes v hv hv0
  · rw [getD_set h0]
    by_cases e : v = 0
    · rw [if_pos e]
    · rw [if_neg e]; exact h.no v hv hn
theorem drow_ev {g : List (List Int)} (hr : rightB g = true) : ∃ D, Evt (fun k => idomO g k) D ∧ DRow g D := by
  obtain ⟨R, h1, h2⟩ := idom_ev hr
  exact ⟨_, h1, h2.drow hr⟩
theorem IsIdom.lt {g : List (List Int)} (hr : rightB g = true) {v b : Nat} (hv : Way g 0 v) (h : IsIdom g v b) : pos g b < pos g v := by
  have h1 := h.dom.le hr hv
  have h2 : pos g b ≠ pos g v := fun e => h.ne (pos_inj hr h.way hv e)
  omega
theorem upL_neg (D : List Int) : ∀ (k : Nat) (a : Int), a < 0 → upL D k a = []
  | 0, _, _ => rfl
  | k + 1, a, h => by unfold upL; rw [if_neg (by omega)]
/-- the way up from v: q, then 0 -/
structure Up (g : List (List Int)) (D : List Int) (v : Nat) (q : List Int) : Prop where
  no : (0 : Int) ∉ q
  le : q.length ≤ pos g v
  eq : ∀ k, pos g v < k → upL D k v = q ++ [0]
  mem : ∀ a : Nat, (a : Int) ∈ q ++ [0] ↔ Dom g a v
  in_ : ∀ x ∈ q, 0 ≤ x
theorem up_is {g : List (List Int)} (hr : rightB g = true) {D : List Int} (hD : DRow g D) : ∀ (n v : Nat), pos g v ≤ n → Way g 0 v → ∃ q, Up g D v q := by
  obtain ⟨h1, h2, hg⟩ := right_rows hr
  have hz : ∀ v, v = 0 → ∃ q, Up g D v q := fun v e => by
    subst e
    refine ⟨[], by simp, by simp, fun k hk => ?_, fun a => ?_, by simp⟩
    · obtain ⟨k, rfl⟩ : ∃ m, k = m + 1 := ⟨k - 1, by omega⟩
      have := hD.len
      unfold upL
      rw [if_pos (by omega)]
      show ((0 : Nat) : Int) :: upL D k (D.getD 0 0) = _
      rw [hD.root, upL_neg _ _ _ (by omega)]; rfl
    · constructor
      · intro h
        have : a = 0 := by simpa using h
        subst this; exact Dom.self g 0
      · intro h
        rw [h.of_zero]; simp
  intro n
  induction n with
  | zero => exact fun v hv hw => hz v (pos_inj hr hw (.refl 0) (by rw [pos_zero hr]; omega))
  | succ n ih =>
    intro v hv hw
    by_cases h0 : v = 0
    · exact hz v h0
    · obtain ⟨b, eb, ib⟩ := hD.yes v hw h0
      have hlt := ib.lt hr hw
      obtain ⟨q, hq⟩ := ih b (by omega) ib.way
      refine ⟨(v : Int) :: q, ?_, ?_, fun k hk => ?_, fun a => ?_, ?_⟩
      · intro h
        rcases List.mem_cons.1 h with h | h
        · omega
        · exact hq.no h
      · have := hq.le
        rw [List.length_cons]; omega
      · obtain ⟨k, rfl⟩ : ∃ m, k = m + 1 := ⟨k - 1, by omega⟩
        have := hD.len
        have := reach_lt hr hw
        unfold upL
        rw [if_pos (by omega), Int.toNat_natCast, eb, hq.eq k (by omega)]; rfl
      · rw [List.cons_append, List.mem_cons, hq.mem a]
        constructor
        · rintro (h | h)
          · have : a = v := by omega
            subst this; exact Dom.self g a
          · exact h.trans ib.dom
        · intro h
          by_cases e : a = v
          · exact .inl (by omega)
          · exact .inr (ib.near a e h)
      · intro x hx
        rcases List.mem_cons.1 hx with rfl | hx
        · omega
        · exact hq.in_ x hx
theorem Up.dep {g : List (List Int)} (hr : rightB g = true) {D : List Int} (hD : DRow g D) {v : Nat} (hw : Way g 0 v) {q : List Int} (h : Up g D v q) : depI D v = (q.length : Int) := by
  have h1 := pos_bound hr hw
  have h2 := hD.len
  unfold depI
  rw [h.eq _ (by omega), zeroAt_pre q [] h.no]
theorem dep_kid {g : List (List Int)} (hr : rightB g = true) {D : List Int} (hD : DRow g D) {v b : Nat} (hw : Way g 0 v) (hb : D.getD v 0 = (b : Int)) : Way g 0 b ∧ depI D v = depI D b + 1 ∧ 0 ≤ depI D b ∧ depI D b < (g.length : Int) := by
  by_cases h0 : v = 0
  · subst h0
    have := hD.root
    omega
  · obtain ⟨b', eb, ib⟩ := hD.yes v hw h0
    have : b' = b := by omega
    subst this
    obtain ⟨q, hq⟩ := up_is hr hD _ b' (Nat.le_refl _) ib.way
    obtain ⟨q2, hq2⟩ := up_is hr hD _ v (Nat.le_refl _) hw
    have e1 := hq.dep hr hD ib.way
    have e2 := hq2.dep hr hD hw
    have h1 := pos_bound hr hw
    have hlt := ib.lt hr hw
    have hle := hq.le
    have hl := hD.len
    have e3 : q2 = (v : Int) :: q := by
      have h3 := hq2.eq (pos g v + 1) (by omega)
      unfold upL at h3
      have := reach_lt hr hw
      rw [if_pos (by omega), Int.toNat_natCast, eb, hq.eq _ (by omega), ← List.cons_append] at h3
      exact (List.append_cancel_right h3).symm
    subst e3
    rw [List.length_cons] at e2
    refine ⟨ib.way, by omega, by omega, by omega⟩
theorem dep_no {g : List (List Int)} (hr : rightB g = true) {D : List Int} (hD : DRow g D) {v : Nat} (hv : v < g.length) (hw : ¬ Way g 0 v) : depI D v = -1 := by
  have h0 : v ≠ 0 := fun e => hw (by rw [e]; exact .refl 0)
  have hl := hD.len
  unfold depI
  refine zeroAt_no _ ?_
  unfold upL
  rw [if_pos (by omega), Int.toNat_natCast, hD.no v hv hw, upL_neg _ _ _ (by omega)]
  simp; omega
theorem dep_zero {g : List (List Int)} (hr : rightB g = true) {D : List Int} (hD : DRow g D) : depI D 0 = 0 := by
  obtain ⟨h1, h2, hg⟩ := right_rows hr
  have hl := hD.len
  unfold depI upL
  rw [if_pos (by omega)]
  rfl
def kidRow (D : List Int) (m p : Nat) : List Int := ((List.range m).filter fun c => decide (D.getD c 0 = (p : Int))).map fun c : Nat => (c : Int)
def kidRows (D : List Int) (n m : Nat) : List (List Int) := (List.range n).map (kidRow D m)
theorem kidRow_succ (D : List Int) (m p : Nat) : kidRow D (m + 1) p = if D.getD m 0 = (p : Int) then kidRow D m p ++ [(m : Int)] else kidRow D m p := by
  unfold kidRow
  rw [List.range_succ, List.filter_append, List.map_append]
  by_cases h : D.getD m 0 = (p : Int)
  · rw [if_pos h, List.filter_cons, decide_eq_true h]; rfl
  · rw [if_neg h, List.filter_cons, decide_eq_false h]; simp
theorem kidRow_len (D : List Int) (m p : Nat) : (kidRow D m p).length ≤ m := by
  unfold kidRow
  rw [List.length_map]
  have := List.length_filter_le (fun c => decide (D.getD c 0 = (p : Int))) (List.range m)
  rwa [List.length_range] at this
theorem kidRows_row (D : List Int) {n p : Nat} (m : Nat) (h : p < n) : rowOf (kidRows D n m) p = kidRow D m p := by
  unfold rowOf kidRows
  simp [h]
theorem kidRows_set (D : List Int) {n m p : Nat} (h : D.getD m 0 = (p : Int)) (hp : p < n) : (kidRows D n m).set p (kidRow D m p ++ [(m : Int)]) = kidRows D n (m + 1) := by
  refine List.ext_getElem (by simp [kidRows]) fun i h1 h2 => ?_
  rw [List.getElem_set]
  have hi : i < n := by simpa [kidRows] using h2
  by_cases e : p = i
  · subst e
    rw [if_pos rfl]
    simp only [kidRows, List.getElem_map, List.getElem_range]
    rw [kidRow_succ, if_pos h]
  · rw [if_neg e]
    simp only [kidRows, List.getElem_map, List.getElem_range]
    rw [kidRow_succ, if_neg (by omega)]
theorem kidRows_keep (D : List Int) {n m : Nat} (h : ∀ p : Nat, p < n → D.getD m 0 ≠ (p : Int)) : kidRows D n m = kidRows D n (m + 1) := by
  unfold kidRows
  refine List.map_congr_left fun p hp => ?_
  rw [kidRow_succ, if_neg (h p (List.mem_range.1 hp))]
theorem rdN (D : List Int) (c : Nat) : rd D (c : Int) = D.getD c 0 := by unfold rd; rw [Int.toNat_natCast]
theorem kids_l0 (D : List Int) (hn : D.length ≤ 1000000) : ∀ (d m : Nat), m + d = D.length → Evt (fun k => dom_Kids.l0 k D (kidRows D D.length m) D (D.length : Int) m) (kidRows D D.length D.length) := by
  intro d
  induction d with
  | zero =>
    intro m hm
    refine Evt.step (Evt.const rfl) fun k => ?_
    rw [dom_Kids.l0, if_neg (by omega), show m = D.length by omega]
  | succ d ih =>
    intro m hm
    have ih := ih (m + 1) (by omega)
    have hl : (kidRows D D.length m).length = D.length := by simp [kidRows]
    by_cases h0 : D.getD m 0 ≥ 0
    · by_cases h1 : D.getD m 0 < (D.length : Int)
      · obtain ⟨p, ep⟩ := Int.eq_ofNat_of_zero_le h0
        have hp : p < D.length := by omega
        have hk := kidRow_len D m p
        refine Evt.step ih fun k => ?_
        rw [dom_Kids.l0, if_pos (by omega), if_pos (by omega), if_pos (by omega), rdN, if_pos h0, if_pos h1, if_pos (by omega), if_pos (by rw [hl]; omega), ep, rdL, kidRows_row D m hp, if_pos (by omega), Int.toNat_natCast, wsucc (by omega), kidRows_set D ep hp]
      · refine Evt.step ih fun k => ?_
        rw [dom_Kids.l0, if_pos (by omega), if_pos (by omega), if_pos (by omega), rdN, if_pos h0, if_neg h1, wsucc (by omega), kidRows_keep D fun p hp => by omega]
    · refine Evt.step ih fun k => ?_
      rw [dom_Kids.l0, if_pos (by omega), if_pos (by omega), if_pos (by omega), rdN, if_neg h0, wsucc (by omega), kidRows_keep D fun p hp => by omega]
theorem kids_ev (D : List Int) (hn : D.length ≤ 1000000) : Evt (fun k => dom_Kids.f k D) (kidRows D D.length D.length) := by
  refine Evt.congr (kids_l0 D hn D.length 0 (by omega)) fun k => ?_
  unfold dom_Kids.f
  have hz : kidRows D D.length 0 = List.replicate D.length [] := by
    refine List.ext_getElem (by simp [kidRows]) fun i h1 h2 => ?_
    simp [kidRows, kidRow]
  rw [if_pos (by omega), if_pos (by omega), hz, Int.toNat_natCast]
  rfl
theorem depths_len (D : List Int) (m : Nat) : (depths D m).length = m := by simp [depths]
end Go.Proofs.Ytkmbhknmjnbanaa.A


namespace Go.Proofs.Ytkmbhknmjnbanaa.A
open Go.RowKit Go.Proofs.YtkmbhknmjnbanaaW.PrintWords Go.Proofs.YtkmbhknmjnbanaaW.PrintLast Go.Shelf
set_option linter.unusedVariables false
set_option linter.unusedSimpArgs false

theorem copy_l0 (g : List (List Int)) (hn : g.length ≤ 1000000) (hr : ∀ l ∈ g, l.length ≤ 1000000) : ∀ (d i : Nat), i + d = g.length → Evt (fun k => swageref06_Copy.l0 k g (g.take i) i) g
  | 0, i, hi => by
    obtain rfl : i = g.length := by omega
    exact Evt.step (Evt.const rfl) fun k => by rw [swageref06_Copy.l0, if_neg (by omega), List.take_length]
  | d + 1, i, hi => by
    have hlt : i < g.length := by omega
    have h8 := hr _ (rowOf_mem hlt)
    have hrow : rowOf g i = g[i] := by unfold rowOf; rw [List.getD_eq_getElem?_getD, List.getElem?_eq_getElem hlt]; rfl
    refine Evt.step (copy_l0 g hn hr d (i + 1) (by omega)) fun k => ?_
    rw [swageref06_Copy.l0, if_pos (by omega), Option.bind_some, if_pos (by omega), rdL, if_pos (by simp; omega), if_pos (by rw [List.length_take]; omega), wsucc (by omega), List.take_succ_eq_append_getElem hlt, hrow]
    rfl
theorem copy_ev (g : List (List Int)) (hn : g.length ≤ 1000000) (hr : ∀ l ∈ g, l.length ≤ 1000000) : Evt (fun k => swageref06_Copy.f k g) g := copy_l0 g hn hr g.length 0 (by omega)
end Go.Proofs.Ytkmbhknmjnbanaa.A


namespace Go.Proofs.Ytkmbhknmjnbanaa.A
open Go.RowKit Go.Proofs.YtkmbhknmjnbanaaW.PrintWords Go.Proofs.YtkmbhknmjnbanaaW.PrintLast Go.Proofs.YtkmbhknmjnbanaaW.PrintMore
attribute [local go_sem] max2_int min2_int max_two min_two max_three min_three max_four min_four   -- for this text's walks alone
set_option linter.unusedVariables false
set_option linter.unusedSimpArgs false

def swagelaw07_Few.f (k : Nat) (l0 : List (List Int)) : Option (Bool) := (swagelaw06_Few.f k l0).bind fun t629 => (if t629 = true then (some (decide ((l0.length : Int) ≤ 24))) else (some false))
set_option maxHeartbeats 8000000 in
set_option maxRecDepth 100000 in
theorem swagelaw07_Few.calls (k : Nat) (A0 : Option Addr) (c0 : Nat) (l0 : List (List Int)) (r : Bool) (w : World) (hr0 : Kd.C (Kd.slice 3 (Kd.int .i64)) w A0 l0.length l0) (hc0 : l0.length ≤ c0) (h : swagelaw07_Few.f k l0 = some r) :
    Calls Try.prog 35 #[.slice A0 l0.length c0] w fun e w' => e = .returned (.bool r) ∧ Drawn0 w w' := by
  have HR0 := Aside0.mk hr0
  have HC0 := Aside0.mk hc0
  clear hr0 hc0
  have H : ((swagelaw06_Few.f k l0).bind fun t629 => (if t629 = true then (some (decide ((l0.length : Int) ≤ 24))) else (some false))) = some r := h
  clear h
  replace H := Option.bind_eq_some_iff.mp H
  obtain ⟨t629, A20, H⟩ := H
  replace H : (if t629 = true then (some (decide ((l0.length : Int) ≤ 24))) else (some false)) = some r := H
  have A2 := Aside0.mk A20
  clear A20
  by_cases c3 : t629 = true
  · subst c3
    have H1 : (some (decide ((l0.length : Int) ≤ 24))) = some r := by rw [if_pos rfl] at H; exact H
    clear H
    have H := H1
    clear H1
    obtain rfl := Option.some.inj H
    go_enter Try.func35, Try.ntmps35
    go_wp2_with (first | ((with_reducible refine gate_callee (f := 14) rfl ?_); refine goesL_ (some 5) rfl rfl Try.func14 (by kernel_rfl) rfl #[.slice A0 l0.length c0] rfl (by (try simp only [List.map_toArray, List.map_cons, List.map_nil]); first | done | rfl | (simp only [List.length_drop, List.length_take]; rfl)) ?_; (with_reducible refine (swagelaw06_Few.calls k _ _ l0 true _ ?side1 ?side2 A2.out).mono ?_); (case side1 => repeat (first | exact HR0.out | (with_reducible refine Kd.C_alloc ?_ _) | (with_reducible refine Kd.C_drewN ?_ _) | (with_reducible refine Kd.C_drew ?_))); (case side2 => exact HC0.out); rintro e w' ⟨rfl, ⟨nd, rfl⟩⟩; refine ⟨_, rfl, ?_⟩))
    go_ret
    exact ⟨by first | rfl | (simp; done) | (simp [*]; done), by repeat (first | exact Drawn0.refl _ | apply Drawn0.step)⟩
  · replace c3 := Bool.eq_false_iff.mpr c3
    subst c3
    have H1 : (some false) = some r := by rw [if_neg (show ¬ (false = true) by decide)] at H; exact H
    clear H
    have H := H1
    clear H1
    obtain rfl := Option.some.inj H
    go_enter Try.func35, Try.ntmps35
    go_wp2_with (first | ((with_reducible refine gate_callee (f := 14) rfl ?_); refine goesL_ (some 5) rfl rfl Try.func14 (by kernel_rfl) rfl #[.slice A0 l0.length c0] rfl (by (try simp only [List.map_toArray, List.map_cons, List.map_nil]); first | done | rfl | (simp only [List.length_drop, List.length_take]; rfl)) ?_; (with_reducible refine (swagelaw06_Few.calls k _ _ l0 false _ ?side1 ?side2 A2.out).mono ?_); (case side1 => repeat (first | exact HR0.out | (with_reducible refine Kd.C_alloc ?_ _) | (with_reducible refine Kd.C_drewN ?_ _) | (with_reducible refine Kd.C_drew ?_))); (case side2 => exact HC0.out); rintro e w' ⟨rfl, ⟨nd, rfl⟩⟩; refine ⟨_, rfl, ?_⟩))
    go_ret
    exact ⟨by first | rfl | (simp; done) | (simp [*]; done), by repeat (first | exact Drawn0.refl _ | apply Drawn0.step)⟩

end Go.Proofs.Ytkmbhknmjnbanaa.A


namespace Go.Proofs.Ytkmbhknmjnbanaa.A
open Go.RowKit Go.Proofs.YtkmbhknmjnbanaaW.PrintWords Go.Proofs.YtkmbhknmjnbanaaW.PrintLast Go.Shelf
set_option linter.unusedVariables false
set_option linter.unusedSimpArgs false

theorem few7_ev2 (g : List (List Int)) : ∃ r, Evt (fun k => swagelaw07_Few.f k g) r ∧ (r = true → g.length ≤ 24) := by
  obtain ⟨r, hf, hr⟩ := few_ev g
  cases r with
  | false => exact ⟨false, by unfold swagelaw07_Few.f; exact Evt.bind hf (Evt.const rfl), by simp⟩
  | true => exact ⟨decide ((g.length : Int) ≤ 24), by unfold swagelaw07_Few.f; exact Evt.bind hf (Evt.const rfl), fun h => by have := of_decide_eq_true h; omega⟩
theorem right_cut {g : List (List Int)} (hr : rightB g = true) (a : Nat) : rightB (g.set a []) = true := by
  unfold rightB at hr ⊢
  rw [List.length_set]
  simp only [Bool.and_eq_true, Bool.not_eq_true', List.any_eq_false] at hr ⊢
  refine ⟨hr.1, fun l hl => ?_⟩
  rcases List.mem_or_eq_of_mem_set hl with h | h
  · exact hr.2 l h
  · subst h; simp [badL]
theorem row_cut {g : List (List Int)} {a : Nat} (b : Nat) : rowOf (g.set a []) b = if b = a then [] else rowOf g b := by
  unfold rowOf
  rw [List.getD_eq_getElem?_getD, List.getD_eq_getElem?_getD, List.getElem?_set]
  by_cases e : a = b
  · subst e
    rw [if_pos rfl, if_pos rfl]
    split <;> rfl
  · rw [if_neg e, if_neg (fun h => e h.symm)]
theorem way_cut {g : List (List Int)} {a v : Nat} (ha : a ≠ 0) (hv : v ≠ a) : Way (g.set a []) 0 v ↔ ∃ k, AWN g a k v := by
  constructor
  · intro h
    have H : v = a ∨ ∃ k, AWN g a k v := by
      clear hv
      induction h with
      | refl => exact .inr ⟨0, .zero ha⟩
      | @step b c h e ih =>
        unfold Edge at e
        rw [row_cut] at e
        by_cases hb : b = a
        · rw [if_pos hb] at e; simp at e
        · rw [if_neg hb] at e
          rcases ih with ih | ⟨k, ih⟩
          · exact absurd ih hb
          · by_cases hc : c = a
            · exact .inl hc
            · exact .inr ⟨k + 1, ih.step e hc⟩
    exact H.resolve_left hv
  · rintro ⟨k, h⟩
    clear hv
    induction h with
    | zero _ => exact .refl _
    | @step k v w h e hn ih =>
      refine ih.step ?_
      unfold Edge
      rw [row_cut, if_neg h.ne]
      exact e
section
variable {g : List (List Int)} {D : List Int} {mk st : List Bool} {a : Nat}
end
end Go.Proofs.Ytkmbhknmjnbanaa.A


namespace Go.Proofs.Ytkmbhknmjnbanaa.A
open Go.RowKit Go.Proofs.YtkmbhknmjnbanaaW.PrintWords Go.Proofs.YtkmbhknmjnbanaaW.PrintLast Go.Proofs.YtkmbhknmjnbanaaW.PrintMore
attribute [local go_sem] max2_int min2_int max_two min_two max_three min_three max_four min_four   -- for this text's walks alone
set_option linter.unusedVariables false
set_option linter.unusedSimpArgs false

def swageref07_counts.f (l0 : List Int) (a1 : Int) : Option (Bool) := if a1 ≥ 0 then (if a1 < (l0.length : Int) then (if a1 = 0 then (some true) else (if 0 ≤ a1 then (some (decide ((rd l0 a1) ≥ 0))) else (none))) else (some false)) else (some false)
set_option maxHeartbeats 8000000 in
set_option maxRecDepth 100000 in
theorem swageref07_counts.calls (A0 : Option Addr) (c0 : Nat) (l0 : List Int) (a1 : Int) (r : Bool) (w : World) (hr0 : Kd.C (Kd.int .i64) w A0 l0.length l0) (hc0 : l0.length ≤ c0) (h : swageref07_counts.f l0 a1 = some r) :
    Calls Try.prog 65 #[.slice A0 l0.length c0, .int .i64 a1] w fun e w' => e = .returned (.bool r) ∧ Drawn0 w w' := by
  have HR0 := Aside0.mk hr0
  have HC0 := Aside0.mk hc0
  clear hr0 hc0
  have H : (if a1 ≥ 0 then (if a1 < (l0.length : Int) then (if a1 = 0 then (some true) else (if 0 ≤ a1 then (some (decide ((rd l0 a1) ≥ 0))) else (none))) else (some false)) else (some false)) = some r := h
  clear h
  by_cases c3 : a1 ≥ 0
  · rw [if_pos c3] at H
    have c3b0 : decide (0 ≤ a1) = true := decide_eq_true c3
    clear c3
    by_cases c4 : a1 < (l0.length : Int)
    · rw [if_pos c4] at H
      have c4b0 : decide (a1 < (l0.length : Int)) = true := decide_eq_true c4
      clear c4
      by_cases c5 : a1 = 0
      · rw [if_pos c5] at H
        have c5b0 : (a1 == 0) = true := beq_iff_eq.mpr c5
        have c5b1 : (a1 != 0) = false := bne_eq_false_iff_eq.mpr c5
        clear c5
        obtain rfl := Option.some.inj H
        go_enter Try.func65, Try.ntmps65
        go_wp2
        go_ret
        exact ⟨by first | rfl | (simp; done) | (simp [*]; done), by repeat (first | exact Drawn0.refl _ | apply Drawn0.step)⟩
      · rw [if_neg c5] at H
        have c5b0 : (a1 == 0) = false := beq_eq_false_iff_ne.mpr c5
        have c5b1 : (a1 != 0) = true := bne_iff_ne.mpr c5
        by_cases c6 : 0 ≤ a1
        · rw [if_pos c6] at H
          have c6b0 : decide (0 ≤ a1) = true := decide_eq_true c6
          clear c6
          obtain rfl := Option.some.inj H
          have p630 : 0 ≤ (a1 : Int) := of_decide_eq_true (by first | (with_reducible assumption) | assumption)
          have q630 : a1 < (l0.length : Int) := of_decide_eq_true (by first | (with_reducible assumption) | assumption)
          obtain ⟨ad630, e630, hx630_0⟩ := Kd.at_int HR0.out a1 p630 q630
          cases e630
          replace p630 := eq_true p630
          replace q630 := eq_true q630
          go_enter Try.func65, Try.ntmps65
          go_wp2
          go_ret
          exact ⟨by first | rfl | (simp; done) | (simp [*]; done), by repeat (first | exact Drawn0.refl _ | apply Drawn0.step)⟩
        · rw [if_neg c6] at H
          exact absurd H (by simp)
    · rw [if_neg c4] at H
      have c4b0 : decide (a1 < (l0.length : Int)) = false := decide_eq_false c4
      clear c4
      obtain rfl := Option.some.inj H
      go_enter Try.func65, Try.ntmps65
      go_wp2
      go_ret
      exact ⟨by first | rfl | (simp; done) | (simp [*]; done), by repeat (first | exact Drawn0.refl _ | apply Drawn0.step)⟩
  · rw [if_neg c3] at H
    have c3b0 : decide (0 ≤ a1) = false := decide_eq_false c3
    clear c3
    obtain rfl := Option.some.inj H
    go_enter Try.func65, Try.ntmps65
    go_wp2
    go_ret
    exact ⟨by first | rfl | (simp; done) | (simp [*]; done), by repeat (first | exact Drawn0.refl _ | apply Drawn0.step)⟩

end Go.Proofs.Ytkmbhknmjnbanaa.A


namespace Go.Proofs.Ytkmbhknmjnbanaa.A
open Go.RowKit Go.Proofs.YtkmbhknmjnbanaaW.PrintWords Go.Proofs.YtkmbhknmjnbanaaW.PrintLast Go.Proofs.YtkmbhknmjnbanaaW.PrintMore
attribute [local go_sem] max2_int min2_int max_two min_two max_three min_three max_four min_four   -- for this text's walks alone
set_option linter.unusedVariables false
set_option linter.unusedSimpArgs false

mutual
def swageref07_Dominates.j0 : Nat → List Int → Int → Int → Bool → Option (Bool)
  | 0, _, _, _, _ => none
  | k + 1, x0, x1, x2, x17 => if x17 = true then (some false) else (swageref07_Dominates.l0 k x0 x1 x2 0)
def swageref07_Dominates.l0 : Nat → List Int → Int → Int → Int → Option (Bool)
  | 0, _, _, _, _ => none
  | k + 1, x0, x1, x2, x7 => if x7 ≤ (x0.length : Int) then (if x1 = x2 then (some true) else (if x2 < 0 then (some false) else (if x2 ≥ (x0.length : Int) then (some false) else (if 0 ≤ x2 then (if x2 < (x0.length : Int) then (swageref07_Dominates.l0 k x0 x1 (rd x0 x2) (wrap64 (x7 + 1))) else (none)) else (none))))) else (some false)
end
def swageref07_Dominates.f (k : Nat) (l0 : List Int) (a1 : Int) (a2 : Int) : Option (Bool) := (swageref07_counts.f l0 a1).bind fun t631 => (if t631 = true then ((swageref07_counts.f l0 a2).bind fun t632 => (swageref07_Dominates.j0 k l0 a1 a2 (!t632))) else (swageref07_Dominates.j0 k l0 a1 a2 true))
set_option maxHeartbeats 8000000 in
set_option maxRecDepth 100000 in
theorem swageref07_Dominates.calls (k : Nat) (A0 : Option Addr) (c0 : Nat) (l0 : List Int) (a1 : Int) (a2 : Int) (r : Bool) (w : World) (hr0 : Kd.C (Kd.int .i64) w A0 l0.length l0) (hc0 : l0.length ≤ c0) (h : swageref07_Dominates.f k l0 a1 a2 = some r) :
    Calls Try.prog 38 #[.slice A0 l0.length c0, .int .i64 a1, .int .i64 a2] w fun e w' => e = .returned (.bool r) ∧ Drawn0 w w' := by
  have HR0 := Aside0.mk hr0
  have HC0 := Aside0.mk hc0
  clear hr0 hc0
  have H : ((swageref07_counts.f l0 a1).bind fun t631 => (if t631 = true then ((swageref07_counts.f l0 a2).bind fun t632 => (swageref07_Dominates.j0 k l0 a1 a2 (!t632))) else (swageref07_Dominates.j0 k l0 a1 a2 true))) = some r := h
  clear h
  have HC4 := Aside0.mk H
  clear H
  go_enter Try.func38, Try.ntmps38
  go_upto_region 1 with (fail)
  go_cut [17] (fun v17 wc => ∃ (kq : Nat) (x17_3 : Bool), v17 = .bool x17_3 ∧ Aside0 (swageref07_Dominates.j0 kq l0 a1 a2 x17_3 = some r) ∧ Aside0 (kq ≤ k) ∧ Drawn0 w wc)
  case first =>
    have H := HC4.out
    clear HC4
    replace H := Option.bind_eq_some_iff.mp H
    obtain ⟨t631, A50, H⟩ := H
    replace H : (if t631 = true then ((swageref07_counts.f l0 a2).bind fun t632 => (swageref07_Dominates.j0 k l0 a1 a2 (!t632))) else (swageref07_Dominates.j0 k l0 a1 a2 true)) = some r := H
    have A5 := Aside0.mk A50
    clear A50
    by_cases c6 : t631 = true
    · subst c6
      have H1 : ((swageref07_counts.f l0 a2).bind fun t632 => (swageref07_Dominates.j0 k l0 a1 a2 (!t632))) = some r := by rw [if_pos rfl] at H; exact H
      clear H
      have H := H1
      clear H1
      replace H := Option.bind_eq_some_iff.mp H
      obtain ⟨t632, A70, H⟩ := H
      replace H : (swageref07_Dominates.j0 k l0 a1 a2 (!t632)) = some r := H
      have A7 := Aside0.mk A70
      clear A70
      have H' := Aside0.mk H
      clear H
      go_wp2_with (first | ((with_reducible refine gate_callee (f := 65) rfl ?_); refine goesL_ (some 10) rfl rfl Try.func65 (by kernel_rfl) rfl #[.slice A0 l0.length c0, .int .i64 a1] rfl (by (try simp only [List.map_toArray, List.map_cons, List.map_nil]); first | done | rfl | (simp only [List.length_drop, List.length_take]; rfl)) ?_; (with_reducible refine (swageref07_counts.calls _ _ l0 a1 true _ ?side1 ?side2 A5.out).mono ?_); (case side1 => repeat (first | exact HR0.out | (with_reducible refine Kd.C_alloc ?_ _) | (with_reducible refine Kd.C_drewN ?_ _) | (with_reducible refine Kd.C_drew ?_))); (case side2 => exact HC0.out); rintro e w' ⟨rfl, ⟨nd, rfl⟩⟩; refine ⟨_, rfl, ?_⟩) | (go_at_call 65; (with_reducible refine (swageref07_counts.calls _ _ l0 a2 t632 _ ?side1 ?side2 A7.out).mono ?_); (case side1 => repeat (first | exact HR0.out | (with_reducible refine Kd.C_alloc ?_ _) | (with_reducible refine Kd.C_drewN ?_ _) | (with_reducible refine Kd.C_drew ?_))); (case side2 => exact HC0.out); rintro e w' ⟨rfl, ⟨nd, rfl⟩⟩))
      go_meet
      case rel => exact ⟨_, (!t632), (by first | rfl | (simp; done) | (simp [*]; done)), H', ⟨by first | omega | exact Nat.le_refl _⟩, by repeat (first | exact Drawn0.refl _ | apply Drawn0.step)⟩
    · replace c6 := Bool.eq_false_iff.mpr c6
      subst c6
      have H1 : (swageref07_Dominates.j0 k l0 a1 a2 true) = some r := by rw [if_neg (show ¬ (false = true) by decide)] at H; exact H
      clear H
      have H := H1
      clear H1
      have H' := Aside0.mk H
      clear H
      go_wp2_with (first | ((with_reducible refine gate_callee (f := 65) rfl ?_); refine goesL_ (some 10) rfl rfl Try.func65 (by kernel_rfl) rfl #[.slice A0 l0.length c0, .int .i64 a1] rfl (by (try simp only [List.map_toArray, List.map_cons, List.map_nil]); first | done | rfl | (simp only [List.length_drop, List.length_take]; rfl)) ?_; (with_reducible refine (swageref07_counts.calls _ _ l0 a1 false _ ?side1 ?side2 A5.out).mono ?_); (case side1 => repeat (first | exact HR0.out | (with_reducible refine Kd.C_alloc ?_ _) | (with_reducible refine Kd.C_drewN ?_ _) | (with_reducible refine Kd.C_drew ?_))); (case side2 => exact HC0.out); rintro e w' ⟨rfl, ⟨nd, rfl⟩⟩; refine ⟨_, rfl, ?_⟩))
      go_meet
      case rel => exact ⟨_, (true), (by first | rfl | (simp; done) | (simp [*]; done)), H', ⟨by first | omega | exact Nat.le_refl _⟩, by repeat (first | exact Drawn0.refl _ | apply Drawn0.step)⟩
  case rest =>
    clear HC4
    try clear p2
    try clear c3
    try clear c6
    obtain ⟨kq, x17_3, rfl, HA, HJ3, ⟨mc3, rfl⟩⟩ := hcut
    cases kq with
    | zero => exact absurd HA.out (by simp [swageref07_Dominates.j0])
    | succ kj3 =>
      have H := HA.out
      clear HA
      simp only [swageref07_Dominates.j0] at H
      by_cases c8 : x17_3 = true
      · subst c8
        have H1 : (some false) = some r := by rw [if_pos rfl] at H; exact H
        clear H
        have H := H1
        clear H1
        obtain rfl := Option.some.inj H
        go_wp2
        go_ret
        exact ⟨by first | rfl | (simp; done) | (simp [*]; done), by repeat (first | exact Drawn0.refl _ | apply Drawn0.step)⟩
      · replace c8 := Bool.eq_false_iff.mpr c8
        subst c8
        have H1 : (swageref07_Dominates.l0 kj3 l0 a1 a2 0) = some r := by rw [if_neg (show ¬ (false = true) by decide)] at H; exact H
        clear H
        have H := H1
        clear H1
        have H' := Aside0.mk H
        clear H
        go_wp2
        go_loopg [2, 7] kj3 (fun kq v2 v7 w' => ∃ (x2_2 : Int) (x7_2 : Int), v2 = .int .i64 x2_2 ∧ v7 = .int .i64 x7_2 ∧ Aside0 (swageref07_Dominates.l0 kq l0 a1 x2_2 x7_2 = some r) ∧ Aside0 (kq ≤ kj3) ∧ Drawn0 w w')
        case atStart => exact ⟨(a2), (0), (by first | rfl | (simp; done) | (simp [*]; done)), (by first | rfl | (simp; done) | (simp [*]; done)), H', ⟨Nat.le_refl _⟩, by repeat (first | exact Drawn0.refl _ | apply Drawn0.step)⟩
        case round =>
          clear H'
          try clear p2
          try clear c3
          try clear c6
          try clear c8
          try clear p2
          obtain ⟨x2_2, x7_2, rfl, rfl, HA, HK2, ⟨m2, rfl⟩⟩ := hrel
          cases gk with
          | zero => exact absurd HA.out (by simp [swageref07_Dominates.l0])
          | succ k2 =>
            have H := HA.out
            clear HA
            simp only [swageref07_Dominates.l0] at H
            by_cases c9 : x7_2 ≤ (l0.length : Int)
            · rw [if_pos c9] at H
              have c9b0 : decide (x7_2 ≤ (l0.length : Int)) = true := decide_eq_true c9
              clear c9
              by_cases c10 : a1 = x2_2
              · rw [if_pos c10] at H
                have c10b0 : (a1 == x2_2) = true := beq_iff_eq.mpr c10
                have c10b1 : (a1 != x2_2) = false := bne_eq_false_iff_eq.mpr c10
                clear c10
                obtain rfl := Option.some.inj H
                go_wp2
                go_ret
                exact ⟨by first | rfl | (simp; done) | (simp [*]; done), by repeat (first | exact Drawn0.refl _ | apply Drawn0.step)⟩
              · rw [if_neg c10] at H
                have c10b0 : (a1 == x2_2) = false := beq_eq_false_iff_ne.mpr c10
                have c10b1 : (a1 != x2_2) = true := bne_iff_ne.mpr c10
                by_cases c11 : x2_2 < 0
                · rw [if_pos c11] at H
                  have c11b0 : decide (x2_2 < 0) = true := decide_eq_true c11
                  clear c11
                  obtain rfl := Option.some.inj H
                  go_wp2
                  go_ret
                  exact ⟨by first | rfl | (simp; done) | (simp [*]; done), by repeat (first | exact Drawn0.refl _ | apply Drawn0.step)⟩
                · rw [if_neg c11] at H
                  have c11b0 : decide (x2_2 < 0) = false := decide_eq_false c11
                  clear c11
                  by_cases c12 : x2_2 ≥ (l0.length : Int)
                  · rw [if_pos c12] at H
                    have c12b0 : decide ((l0.length : Int) ≤ x2_2) = true := decide_eq_true c12
                    clear c12
                    obtain rfl := Option.some.inj H
                    go_wp2
                    go_ret
                    exact ⟨by first | rfl | (simp; done) | (simp [*]; done), by repeat (first | exact Drawn0.refl _ | apply Drawn0.step)⟩
                  · rw [if_neg c12] at H
                    have c12b0 : decide ((l0.length : Int) ≤ x2_2) = false := decide_eq_false c12
                    clear c12
                    by_cases c13 : 0 ≤ x2_2
                    · rw [if_pos c13] at H
                      have c13b0 : decide (0 ≤ x2_2) = true := decide_eq_true c13
                      clear c13
                      by_cases c14 : x2_2 < (l0.length : Int)
                      · rw [if_pos c14] at H
                        have c14b0 : decide (x2_2 < (l0.length : Int)) = true := decide_eq_true c14
                        clear c14
                        have H' := Aside0.mk H
                        clear H
                        have p633 : 0 ≤ (x2_2 : Int) := of_decide_eq_true (by first | (with_reducible assumption) | assumption)
                        have q633 : x2_2 < (l0.length : Int) := of_decide_eq_true (by first | (with_reducible assumption) | assumption)
                        obtain ⟨ad633, e633, hx633_0⟩ := Kd.at_int HR0.out x2_2 p633 q633
                        cases e633
                        replace p633 := eq_true p633
                        replace q633 := eq_true q633
                        go_wp2
                        go_roundg k2
                        case measure => have := HJ3.out; have := HK2.out; omega
                        case rel => exact ⟨(rd l0 x2_2), (wrap64 (x7_2 + 1)), (by first | rfl | (simp; done) | (simp [*]; done)), (by first | rfl | (simp; done) | (simp [*]; done)), H', ⟨by have := HJ3.out; have := HK2.out; omega⟩, by repeat (first | exact Drawn0.refl _ | apply Drawn0.step)⟩
                      · rw [if_neg c14] at H
                        exact absurd H (by simp)
                    · rw [if_neg c13] at H
                      exact absurd H (by simp)
            · rw [if_neg c9] at H
              have c9b0 : decide (x7_2 ≤ (l0.length : Int)) = false := decide_eq_false c9
              clear c9
              obtain rfl := Option.some.inj H
              go_wp2
              go_ret
              exact ⟨by first | rfl | (simp; done) | (simp [*]; done), by repeat (first | exact Drawn0.refl _ | apply Drawn0.step)⟩

end Go.Proofs.Ytkmbhknmjnbanaa.A


namespace Go.Proofs.Ytkmbhknmjnbanaa.A
open Go.RowKit Go.Proofs.YtkmbhknmjnbanaaW.PrintWords Go.Proofs.YtkmbhknmjnbanaaW.PrintLast Go.Proofs.YtkmbhknmjnbanaaW.PrintMore
attribute [local go_sem] max2_int min2_int max_two min_two max_three min_three max_four min_four   -- for this text's walks alone
set_option linter.unusedVariables false
set_option linter.unusedSimpArgs false

def swageref07_without.f (k : Nat) (l0 : List (List Int)) (a1 : Int) (a2 : Int) : Option (Bool) := (swageref06_Copy.f k l0).bind fun t634 => (if a1 = 0 then (some false) else (if 0 ≤ a1 then (if a1 < (t634.length : Int) then (if a2 = a1 then (some false) else ((swageref06_Reach.f k (t634.set (a1 : Int).toNat ([] : List Int)) 0).bind fun t638 => (if 0 ≤ a2 then (if a2 < (t638.length : Int) then (some (rdOf false t638 a2)) else (none)) else (none)))) else (none)) else (none)))
set_option maxHeartbeats 8000000 in
set_option maxRecDepth 100000 in
theorem swageref07_without.calls (k : Nat) (A0 : Option Addr) (c0 : Nat) (l0 : List (List Int)) (a1 : Int) (a2 : Int) (r : Bool) (w : World) (hr0 : Kd.C (Kd.slice 3 (Kd.int .i64)) w A0 l0.length l0) (hc0 : l0.length ≤ c0) (h : swageref07_without.f k l0 a1 a2 = some r) :
    Calls Try.prog 81 #[.slice A0 l0.length c0, .int .i64 a1, .int .i64 a2] w fun e w' => e = .returned (.bool r) ∧ Below w.heap.size w w' := by
  have HR0 := Aside0.mk hr0
  have HC0 := Aside0.mk hc0
  clear hr0 hc0
  have HB := Aside0.mk (Below.refl w.heap.size w)
  have H : ((swageref06_Copy.f k l0).bind fun t634 => (if a1 = 0 then (some false) else (if 0 ≤ a1 then (if a1 < (t634.length : Int) then (if a2 = a1 then (some false) else ((swageref06_Reach.f k (t634.set (a1 : Int).toNat ([] : List Int)) 0).bind fun t638 => (if 0 ≤ a2 then (if a2 < (t638.length : Int) then (some (rdOf false t638 a2)) else (none)) else (none)))) else (none)) else (none)))) = some r := h
  clear h
  replace H := Option.bind_eq_some_iff.mp H
  obtain ⟨t634, A40, H⟩ := H
  replace H : (if a1 = 0 then (some false) else (if 0 ≤ a1 then (if a1 < (t634.length : Int) then (if a2 = a1 then (some false) else ((swageref06_Reach.f k (t634.set (a1 : Int).toNat ([] : List Int)) 0).bind fun t638 => (if 0 ≤ a2 then (if a2 < (t638.length : Int) then (some (rdOf false t638 a2)) else (none)) else (none)))) else (none)) else (none))) = some r := H
  have A4 := Aside0.mk A40
  clear A40
  by_cases c5 : a1 = 0
  · rw [if_pos c5] at H
    have c5b0 : (a1 == 0) = true := beq_iff_eq.mpr c5
    have c5b1 : (a1 != 0) = false := bne_eq_false_iff_eq.mpr c5
    clear c5
    obtain rfl := Option.some.inj H
    go_enter Try.func81, Try.ntmps81
    go_wp2_with (first | ((with_reducible refine gate_callee (f := 15) rfl ?_); refine goesL_ (some 9) rfl rfl Try.func15 (by kernel_rfl) rfl #[.slice A0 l0.length c0] rfl (by (try simp only [List.map_toArray, List.map_cons, List.map_nil]); first | done | rfl | (simp only [List.length_drop, List.length_take]; rfl)) ?_; (with_reducible refine (swageref06_Copy.calls k _ _ l0 t634 _ ?side1 ?side2 A4.out).mono ?_); (case side1 => repeat (first | exact HR0.out | (with_reducible refine Kd.C_alloc ?_ _) | (with_reducible refine Kd.C_drewN ?_ _) | (with_reducible refine Kd.C_drew ?_))); (case side2 => exact HC0.out); rintro e w6 ⟨v635, rfl, ho0, hb⟩; refine ⟨_, rfl, ?_⟩; have n0_ := Aside0.mk (Kd.S_lower ho0 (below_size (by repeat (first | (with_reducible first | exact HB.out | apply below_alloc | apply pw_below_drewN | apply below_drew1) | exact HB.out)))); have n1_ := Aside0.mk (below_step (by repeat (first | (with_reducible first | exact HB.out | apply below_alloc | apply pw_below_drewN | apply below_drew1) | exact HB.out)) hb); clear HB; have HO636 := n0_; have HB := n1_; clear n0_ n1_; (try clear hb); (try clear hb2); (try clear hk); (try clear hi); (try clear ho0)))
    go_ret
    exact ⟨by first | rfl | (simp [errW_none, errW_some] <;> rfl) | (simp [*, errW_none, errW_some] <;> rfl), by repeat (first | (with_reducible first | exact HB.out | apply below_alloc | apply pw_below_drewN | apply below_drew1) | exact HB.out)⟩
  · rw [if_neg c5] at H
    have c5b0 : (a1 == 0) = false := beq_eq_false_iff_ne.mpr c5
    have c5b1 : (a1 != 0) = true := bne_iff_ne.mpr c5
    by_cases c7 : 0 ≤ a1
    · rw [if_pos c7] at H
      have c7b0 : decide (0 ≤ a1) = true := decide_eq_true c7
      clear c7
      by_cases c8 : a1 < (t634.length : Int)
      · rw [if_pos c8] at H
        have c8b0 : decide (a1 < (t634.length : Int)) = true := decide_eq_true c8
        clear c8
        obtain ⟨y637, hy637⟩ : ∃ y_ : List (List Int), y_ = (t634.set (a1 : Int).toNat ([] : List Int)) := ⟨_, rfl⟩
        replace H : (if a2 = a1 then (some false) else ((swageref06_Reach.f k y637 0).bind fun t638 => (if 0 ≤ a2 then (if a2 < (t638.length : Int) then (some (rdOf false t638 a2)) else (none)) else (none)))) = some r := by first | (rw [hy637]; with_reducible exact H) | (have H2_ := (Option.bind_some _ _).symm.trans H; rw [hy637]; with_reducible exact H2_) | (have H2_ := (Option.bind_some _ _).symm.trans H; with_reducible exact H2_) | with_reducible exact H | (rw [hy637]; exact H) | exact H
        have Ny637 := Aside0.mk hy637
        clear hy637
        by_cases c10 : a2 = a1
        · rw [if_pos c10] at H
          have c10b0 : (a2 == a1) = true := beq_iff_eq.mpr c10
          have c10b1 : (a2 != a1) = false := bne_eq_false_iff_eq.mpr c10
          clear c10
          obtain rfl := Option.some.inj H
          go_enter Try.func81, Try.ntmps81
          go_wp2_with (first | ((with_reducible refine gate_callee (f := 15) rfl ?_); refine goesL_ (some 9) rfl rfl Try.func15 (by kernel_rfl) rfl #[.slice A0 l0.length c0] rfl (by (try simp only [List.map_toArray, List.map_cons, List.map_nil]); first | done | rfl | (simp only [List.length_drop, List.length_take]; rfl)) ?_; (with_reducible refine (swageref06_Copy.calls k _ _ l0 t634 _ ?side1 ?side2 A4.out).mono ?_); (case side1 => repeat (first | exact HR0.out | (with_reducible refine Kd.C_alloc ?_ _) | (with_reducible refine Kd.C_drewN ?_ _) | (with_reducible refine Kd.C_drew ?_))); (case side2 => exact HC0.out); rintro e w11 ⟨v635, rfl, ho0, hb⟩; refine ⟨_, rfl, ?_⟩; have n0_ := Aside0.mk (Kd.S_lower ho0 (below_size (by repeat (first | (with_reducible first | exact HB.out | apply below_alloc | apply pw_below_drewN | apply below_drew1) | exact HB.out)))); have n1_ := Aside0.mk (below_step (by repeat (first | (with_reducible first | exact HB.out | apply below_alloc | apply pw_below_drewN | apply below_drew1) | exact HB.out)) hb); clear HB; have HO636 := n0_; have HB := n1_; clear n0_ n1_; (try clear hb); (try clear hb2); (try clear hk); (try clear hi); (try clear ho0); have p9 : 0 ≤ (a1 : Int) := of_decide_eq_true (by first | (with_reducible assumption) | assumption); have q9 : (a1 : Int) < ((t634.length : Int) : Int) := of_decide_eq_true (by first | (with_reducible assumption) | assumption); obtain ⟨go9, co9, eo9, gb9, gl9, cl9, HG9⟩ := Kd.S_form HO636.out (by omega); (first | cases eo9 | (injection eo9 with ea_ en_ ec_; (first | subst ea_ | (injection ea_ with ea_; subst ea_)); subst ec_; clear en_)); have GB9 := Aside0.mk gb9; have GG9 := Aside0.mk HG9; clear gb9 gl9 HG9; obtain ⟨_, ce9, hcl9, hM9, hcc9, hfr9, _, _⟩ := Kd.S_elem HO636.out [] (a1 : Int) p9 q9; obtain ⟨ve9_0, rfl, ge9_0⟩ := hM9; have hx9_0 := hcc9 0 _ rfl; have hf9_0 := hfr9 0; (try simp only [show ((Kd.slice 3 (Kd.int .i64))).sz = 1 from rfl, Nat.mul_one, Nat.add_zero] at hx9_0); (try simp only [show ((Kd.slice 3 (Kd.int .i64))).sz = 1 from rfl, Nat.mul_one, Nat.add_zero] at hf9_0); (try clear hcl9); (try clear hcc9); (try clear hfr9); (try clear hM9); replace p9 := eq_true p9; replace q9 := eq_true q9; have HX12 := Aside0.mk (show Kd.S (Kd.slice 3 (Kd.int .i64)) 27 w11 w.heap.size (fun k_ => ((fun _ => True)) k_ ∧ ¬ ((fun _ => False)) k_) (.slice (some ⟨go9, 0, none⟩) t634.length co9) t634 from (by (with_reducible repeat (first | apply Kd.S_alloc | apply Kd.S_drewN | apply Kd.S_drew)); exact Kd.S_mono HO636.out (fun k_ hk => ⟨trivial, fun e_ => e_⟩))); obtain ⟨oki12, ce12, hcl12, hM12, hcc12, hfr12, hoki12, hH12⟩ := Kd.S_elem HX12.out [] (a1 : Int) (of_decide_eq_true (by first | (with_reducible assumption) | assumption)) (by have h_ : (a1 : Int) < ((t634.length : Int) : Int) := of_decide_eq_true (by first | (with_reducible assumption) | assumption); first | exact h_ | (have e_ := (Kd.S_reads' HO636.out).1; omega) | simpa using h_); obtain ⟨ve12_0, rfl, ge12_0⟩ := hM12; have HP12 := Kd.S_seg hH12 (of_decide_eq_true (by first | (with_reducible assumption) | assumption)) (by have h_ : (a1 : Int) < ((t634.length : Int) : Int) := of_decide_eq_true (by first | (with_reducible assumption) | assumption); first | exact h_ | (have e_ := (Kd.S_reads' HO636.out).1; omega) | simpa using h_) (seg := [.slice none 0 0]) (j := 0) (show 1 ≤ 1 from by decide) (x' := ([] : List Int)) (Kd.M_row (Kd.R_nil _ _ _ _ _)) (fun _ hk => hk) (fun k_ hk_ => hk_.elim); have hx12_0 := hcc12 0 _ rfl; (try simp only [show ((Kd.slice 3 (Kd.int .i64))).sz = 1 from rfl, Nat.mul_one, Nat.add_zero] at hx12_0); have hf12_0 := hfr12 0; (try simp only [show ((Kd.slice 3 (Kd.int .i64))).sz = 1 from rfl, Nat.mul_one, Nat.add_zero] at hf12_0); (try clear hcl12); (try clear hcc12); (try clear hfr12); (try clear hM12); (try clear hoki12); (try clear hH12); (try simp only [show ((Kd.slice 3 (Kd.int .i64))).sz = 1 from rfl, Nat.mul_one, Nat.add_zero] at HP12)) | ((with_reducible refine gate_store (t := 27) (p := 14) rfl ?_); refine store_event (t := 27) (p := 14) (v := ?vo_w13) (w1 := (w11.setCell ⟨go9, (a1 : Int).toNat, none⟩ (.slice none 0 0))) ?hg ?ho ?hn ?hr ?_; (case ho => rfl); (case hg => rfl); (case hn => rfl); (case hr => first | (go_simp; done) | (go_simp; rfl)); intro w13 hw; have hg : w11.grownBy w13 (some go9) := (by rw [hw]; exact HP12.2); have hp_ : Kd.S (Kd.slice 3 (Kd.int .i64)) 27 w13 w.heap.size (fun _ => True) (.slice (some ⟨go9, 0, none⟩) t634.length co9) y637 := (by rw [hw, Ny637.out]; exact HP12.1); clear HP12; have n0_ := Aside0.mk (hp_); have n1_ := Aside0.mk ((by rw [hw]; exact below_set (HB.out) GB9.out : Below w.heap.size w w13)); clear HO636; clear HB; have HO636 := n0_; have HB := n1_; clear n0_ n1_; clear hg hw hp_))
          go_ret
          exact ⟨by first | rfl | (simp [errW_none, errW_some] <;> rfl) | (simp [*, errW_none, errW_some] <;> rfl), by repeat (first | (with_reducible first | exact HB.out | apply below_alloc | apply pw_below_drewN | apply below_drew1) | exact HB.out)⟩
        · rw [if_neg c10] at H
          have c10b0 : (a2 == a1) = false := beq_eq_false_iff_ne.mpr c10
          have c10b1 : (a2 != a1) = true := bne_iff_ne.mpr c10
          replace H := Option.bind_eq_some_iff.mp H
          obtain ⟨t638, A140, H⟩ := H
          replace H : (if 0 ≤ a2 then (if a2 < (t638.length : Int) then (some (rdOf false t638 a2)) else (none)) else (none)) = some r := H
          have A14 := Aside0.mk A140
          clear A140
          by_cases c15 : 0 ≤ a2
          · rw [if_pos c15] at H
            have c15b0 : decide (0 ≤ a2) = true := decide_eq_true c15
            clear c15
            by_cases c16 : a2 < (t638.length : Int)
            · rw [if_pos c16] at H
              have c16b0 : decide (a2 < (t638.length : Int)) = true := decide_eq_true c16
              clear c16
              obtain rfl := Option.some.inj H
              go_enter Try.func81, Try.ntmps81
              go_wp2_with (first | ((with_reducible refine gate_callee (f := 15) rfl ?_); refine goesL_ (some 9) rfl rfl Try.func15 (by kernel_rfl) rfl #[.slice A0 l0.length c0] rfl (by (try simp only [List.map_toArray, List.map_cons, List.map_nil]); first | done | rfl | (simp only [List.length_drop, List.length_take]; rfl)) ?_; (with_reducible refine (swageref06_Copy.calls k _ _ l0 t634 _ ?side1 ?side2 A4.out).mono ?_); (case side1 => repeat (first | exact HR0.out | (with_reducible refine Kd.C_alloc ?_ _) | (with_reducible refine Kd.C_drewN ?_ _) | (with_reducible refine Kd.C_drew ?_))); (case side2 => exact HC0.out); rintro e w17 ⟨v635, rfl, ho0, hb⟩; refine ⟨_, rfl, ?_⟩; have n0_ := Aside0.mk (Kd.S_lower ho0 (below_size (by repeat (first | (with_reducible first | exact HB.out | apply below_alloc | apply pw_below_drewN | apply below_drew1) | exact HB.out)))); have n1_ := Aside0.mk (below_step (by repeat (first | (with_reducible first | exact HB.out | apply below_alloc | apply pw_below_drewN | apply below_drew1) | exact HB.out)) hb); clear HB; have HO636 := n0_; have HB := n1_; clear n0_ n1_; (try clear hb); (try clear hb2); (try clear hk); (try clear hi); (try clear ho0); have p9 : 0 ≤ (a1 : Int) := of_decide_eq_true (by first | (with_reducible assumption) | assumption); have q9 : (a1 : Int) < ((t634.length : Int) : Int) := of_decide_eq_true (by first | (with_reducible assumption) | assumption); obtain ⟨go9, co9, eo9, gb9, gl9, cl9, HG9⟩ := Kd.S_form HO636.out (by omega); (first | cases eo9 | (injection eo9 with ea_ en_ ec_; (first | subst ea_ | (injection ea_ with ea_; subst ea_)); subst ec_; clear en_)); have GB9 := Aside0.mk gb9; have GG9 := Aside0.mk HG9; clear gb9 gl9 HG9; obtain ⟨_, ce9, hcl9, hM9, hcc9, hfr9, _, _⟩ := Kd.S_elem HO636.out [] (a1 : Int) p9 q9; obtain ⟨ve9_0, rfl, ge9_0⟩ := hM9; have hx9_0 := hcc9 0 _ rfl; have hf9_0 := hfr9 0; (try simp only [show ((Kd.slice 3 (Kd.int .i64))).sz = 1 from rfl, Nat.mul_one, Nat.add_zero] at hx9_0); (try simp only [show ((Kd.slice 3 (Kd.int .i64))).sz = 1 from rfl, Nat.mul_one, Nat.add_zero] at hf9_0); (try clear hcl9); (try clear hcc9); (try clear hfr9); (try clear hM9); replace p9 := eq_true p9; replace q9 := eq_true q9; have HX18 := Aside0.mk (show Kd.S (Kd.slice 3 (Kd.int .i64)) 27 w17 w.heap.size (fun k_ => ((fun _ => True)) k_ ∧ ¬ ((fun _ => False)) k_) (.slice (some ⟨go9, 0, none⟩) t634.length co9) t634 from (by (with_reducible repeat (first | apply Kd.S_alloc | apply Kd.S_drewN | apply Kd.S_drew)); exact Kd.S_mono HO636.out (fun k_ hk => ⟨trivial, fun e_ => e_⟩))); obtain ⟨oki18, ce18, hcl18, hM18, hcc18, hfr18, hoki18, hH18⟩ := Kd.S_elem HX18.out [] (a1 : Int) (of_decide_eq_true (by first | (with_reducible assumption) | assumption)) (by have h_ : (a1 : Int) < ((t634.length : Int) : Int) := of_decide_eq_true (by first | (with_reducible assumption) | assumption); first | exact h_ | (have e_ := (Kd.S_reads' HO636.out).1; omega) | simpa using h_); obtain ⟨ve18_0, rfl, ge18_0⟩ := hM18; have HP18 := Kd.S_seg hH18 (of_decide_eq_true (by first | (with_reducible assumption) | assumption)) (by have h_ : (a1 : Int) < ((t634.length : Int) : Int) := of_decide_eq_true (by first | (with_reducible assumption) | assumption); first | exact h_ | (have e_ := (Kd.S_reads' HO636.out).1; omega) | simpa using h_) (seg := [.slice none 0 0]) (j := 0) (show 1 ≤ 1 from by decide) (x' := ([] : List Int)) (Kd.M_row (Kd.R_nil _ _ _ _ _)) (fun _ hk => hk) (fun k_ hk_ => hk_.elim); have hx18_0 := hcc18 0 _ rfl; (try simp only [show ((Kd.slice 3 (Kd.int .i64))).sz = 1 from rfl, Nat.mul_one, Nat.add_zero] at hx18_0); have hf18_0 := hfr18 0; (try simp only [show ((Kd.slice 3 (Kd.int .i64))).sz = 1 from rfl, Nat.mul_one, Nat.add_zero] at hf18_0); (try clear hcl18); (try clear hcc18); (try clear hfr18); (try clear hM18); (try clear hoki18); (try clear hH18); (try simp only [show ((Kd.slice 3 (Kd.int .i64))).sz = 1 from rfl, Nat.mul_one, Nat.add_zero] at HP18)) | ((with_reducible refine gate_store (t := 27) (p := 14) rfl ?_); refine store_event (t := 27) (p := 14) (v := ?vo_w19) (w1 := (w17.setCell ⟨go9, (a1 : Int).toNat, none⟩ (.slice none 0 0))) ?hg ?ho ?hn ?hr ?_; (case ho => rfl); (case hg => rfl); (case hn => rfl); (case hr => first | (go_simp; done) | (go_simp; rfl)); intro w19 hw; have hg : w17.grownBy w19 (some go9) := (by rw [hw]; exact HP18.2); have hp_ : Kd.S (Kd.slice 3 (Kd.int .i64)) 27 w19 w.heap.size (fun _ => True) (.slice (some ⟨go9, 0, none⟩) t634.length co9) y637 := (by rw [hw, Ny637.out]; exact HP18.1); clear HP18; have n0_ := Aside0.mk (hp_); have n1_ := Aside0.mk ((by rw [hw]; exact below_set (HB.out) GB9.out : Below w.heap.size w w19)); clear HO636; clear HB; have HO636 := n0_; have HB := n1_; clear n0_ n1_; clear hg hw hp_) | ((with_reducible refine gate_callee (f := 23) rfl ?_); refine goesL_ (some 19) rfl rfl Try.func23 (by kernel_rfl) rfl #[.slice (some ⟨go9, 0, none⟩) y637.length co9, .int .i64 0] rfl (by (try simp only [List.map_toArray, List.map_cons, List.map_nil]); first | done | (rw [show y637.length = t634.length from (Kd.S_reads' HO636.out).1.symm] <;> rfl) | rfl | (simp only [List.length_drop, List.length_take]; rfl)) ?_; (with_reducible refine (swageref06_Reach.calls k _ _ y637 0 t638 _ ?side1 ?side2 A14.out).mono ?_); (case side1 => repeat (first | exact (Kd.S_reads' HO636.out).2.2 | (with_reducible refine Kd.C_alloc ?_ _) | (with_reducible refine Kd.C_drewN ?_ _) | (with_reducible refine Kd.C_drew ?_))); (case side2 => rw [show y637.length = t634.length from (Kd.S_reads' HO636.out).1.symm]; exact (Kd.S_reads' HO636.out).2.1); rintro e w20 ⟨v639, rfl, ho0, hb⟩; refine ⟨_, rfl, ?_⟩; have n0_ := Aside0.mk (Kd.S_below (by (with_reducible repeat (first | apply Kd.S_alloc | apply Kd.S_drewN | apply Kd.S_drew)); exact HO636.out) hb); have n1_ := Aside0.mk (Kd.R_lower ho0 (below_size (by repeat (first | (with_reducible first | exact HB.out | apply below_alloc | apply pw_below_drewN | apply below_drew1) | exact HB.out)))); have n2_ := Aside0.mk (below_step (by repeat (first | (with_reducible first | exact HB.out | apply below_alloc | apply pw_below_drewN | apply below_drew1) | exact HB.out)) hb); clear HO636; clear HB; have HO636 := n0_; have HO640 := n1_; have HB := n2_; clear n0_ n1_ n2_; (try clear hb); (try clear hb2); (try clear hk); (try clear hi); (try clear ho0); obtain ⟨Ao21, co21, eo21⟩ := Kd.R_slice HO640.out; subst eo21; have p641 : 0 ≤ (a2 : Int) := of_decide_eq_true (by first | (with_reducible assumption) | assumption); have q641 : a2 < (t638.length : Int) := of_decide_eq_true (by first | (with_reducible assumption) | assumption); obtain ⟨ad641, e641, hx641_0⟩ := Kd.at_bool (Kd.R_reads' HO640.out).2.2 a2 p641 q641; cases e641; replace p641 := eq_true p641; replace q641 := eq_true q641))
              go_ret
              exact ⟨by first | rfl | (simp [errW_none, errW_some] <;> rfl) | (simp [*, errW_none, errW_some] <;> rfl), by repeat (first | (with_reducible first | exact HB.out | apply below_alloc | apply pw_below_drewN | apply below_drew1) | exact HB.out)⟩
            · rw [if_neg c16] at H
              exact absurd H (by simp)
          · rw [if_neg c15] at H
            exact absurd H (by simp)
      · rw [if_neg c8] at H
        exact absurd H (by simp)
    · rw [if_neg c7] at H
      exact absurd H (by simp)

end Go.Proofs.Ytkmbhknmjnbanaa.A


namespace Go.Proofs.Ytkmbhknmjnbanaa.A
open Go.RowKit Go.Proofs.YtkmbhknmjnbanaaW.PrintWords Go.Proofs.YtkmbhknmjnbanaaW.PrintLast Go.Proofs.YtkmbhknmjnbanaaW.PrintMore
attribute [local go_sem] max2_int min2_int max_two min_two max_three min_three max_four min_four   -- for this text's walks alone
set_option linter.unusedVariables false
set_option linter.unusedSimpArgs false

def swageref07_Over.f (k : Nat) (l0 : List (List Int)) (a1 : Int) (a2 : Int) : Option (Bool) := if a1 = a2 then (some true) else ((swageref07_without.f k l0 a1 a2).bind fun t642 => (some (!t642)))
set_option maxHeartbeats 8000000 in
set_option maxRecDepth 100000 in
theorem swageref07_Over.calls (k : Nat) (A0 : Option Addr) (c0 : Nat) (l0 : List (List Int)) (a1 : Int) (a2 : Int) (r : Bool) (w : World) (hr0 : Kd.C (Kd.slice 3 (Kd.int .i64)) w A0 l0.length l0) (hc0 : l0.length ≤ c0) (h : swageref07_Over.f k l0 a1 a2 = some r) :
    Calls Try.prog 66 #[.slice A0 l0.length c0, .int .i64 a1, .int .i64 a2] w fun e w' => e = .returned (.bool r) ∧ Below w.heap.size w w' := by
  have HR0 := Aside0.mk hr0
  have HC0 := Aside0.mk hc0
  clear hr0 hc0
  have HB := Aside0.mk (Below.refl w.heap.size w)
  have H : (if a1 = a2 then (some true) else ((swageref07_without.f k l0 a1 a2).bind fun t642 => (some (!t642)))) = some r := h
  clear h
  by_cases c4 : a1 = a2
  · rw [if_pos c4] at H
    have c4b0 : (a1 == a2) = true := beq_iff_eq.mpr c4
    have c4b1 : (a1 != a2) = false := bne_eq_false_iff_eq.mpr c4
    clear c4
    obtain rfl := Option.some.inj H
    go_enter Try.func66, Try.ntmps66
    go_wp2
    go_ret
    exact ⟨by first | rfl | (simp [errW_none, errW_some] <;> rfl) | (simp [*, errW_none, errW_some] <;> rfl), by repeat (first | (with_reducible first | exact HB.out | apply below_alloc | apply pw_below_drewN | apply below_drew1) | exact HB.out)⟩
  · rw [if_neg c4] at H
    have c4b0 : (a1 == a2) = false := beq_eq_false_iff_ne.mpr c4
    have c4b1 : (a1 != a2) = true := bne_iff_ne.mpr c4
    replace H := Option.bind_eq_some_iff.mp H
    obtain ⟨t642, A50, H⟩ := H
    replace H : (some (!t642)) = some r := H
    have A5 := Aside0.mk A50
    clear A50
    obtain rfl := Option.some.inj H
    go_enter Try.func66, Try.ntmps66
    go_wp2_with (first | (go_at_call 81; (with_reducible refine (swageref07_without.calls k _ _ l0 a1 a2 t642 _ ?side1 ?side2 A5.out).mono ?_); (case side1 => repeat (first | exact HR0.out | (with_reducible refine Kd.C_alloc ?_ _) | (with_reducible refine Kd.C_drewN ?_ _) | (with_reducible refine Kd.C_drew ?_))); (case side2 => exact HC0.out); rintro e w6 ⟨rfl, hb⟩; have n0_ := Aside0.mk (below_step (by repeat (first | (with_reducible first | exact HB.out | apply below_alloc | apply pw_below_drewN | apply below_drew1) | exact HB.out)) hb); clear HB; have HB := n0_; clear n0_; (try clear hb); (try clear hb2); (try clear hk); (try clear hi)))
    go_ret
    exact ⟨by first | rfl | (simp [errW_none, errW_some] <;> rfl) | (simp [*, errW_none, errW_some] <;> rfl), by repeat (first | (with_reducible first | exact HB.out | apply below_alloc | apply pw_below_drewN | apply below_drew1) | exact HB.out)⟩

end Go.Proofs.Ytkmbhknmjnbanaa.A


namespace Go.Proofs.Ytkmbhknmjnbanaa.A
open Go.RowKit Go.Proofs.YtkmbhknmjnbanaaW.PrintWords Go.Proofs.YtkmbhknmjnbanaaW.PrintLast Go.Proofs.YtkmbhknmjnbanaaW.PrintMore
attribute [local go_sem] max2_int min2_int max_two min_two max_three min_three max_four min_four   -- for this text's walks alone
set_option linter.unusedVariables false
set_option linter.unusedSimpArgs false

mutual
def swageref07_Idom.l0 : Nat → List (List Int) → List Bool → List Int → Int → Option (List Int)
  | 0, _, _, _, _ => none
  | k + 1, x0, x4, x5, x6 => if x6 < (x0.length : Int) then (swageref07_Idom.l1 k x0 x4 x5 x6 (-1) 0) else (some x5)
def swageref07_Idom.l1 : Nat → List (List Int) → List Bool → List Int → Int → Int → Int → Option (List Int)
  | 0, _, _, _, _, _, _ => none
  | k + 1, x0, x4, x5, x6, x7, x8 => if x8 < (x0.length : Int) then (if x6 = 0 then (swageref07_Idom.j2 k x0 x4 x5 x6 x7 x8 false) else (if 0 ≤ x6 then (if x6 < (x4.length : Int) then (swageref07_Idom.j2 k x0 x4 x5 x6 x7 x8 (rdOf false x4 x6)) else (none)) else (none))) else (swageref07_Idom.j2 k x0 x4 x5 x6 x7 x8 false)
def swageref07_Idom.j2 : Nat → List (List Int) → List Bool → List Int → Int → Int → Int → Bool → Option (List Int)
  | 0, _, _, _, _, _, _, _ => none
  | k + 1, x0, x4, x5, x6, x7, x8, x34 => if x34 = true then (if x8 = x6 then (swageref07_Idom.j3 k x0 x4 x5 x6 x7 x8 true) else (if 0 ≤ x8 then (if x8 < (x4.length : Int) then (if rdOf false x4 x8 = true then ((swageref07_Over.f k x0 x8 x6).bind fun t652 => (swageref07_Idom.j3 k x0 x4 x5 x6 x7 x8 (!t652))) else (swageref07_Idom.j3 k x0 x4 x5 x6 x7 x8 true)) else (none)) else (none))) else (if x5.length < 17592186044416 then (swageref07_Idom.l0 k x0 x4 (x5 ++ [x7]) (wrap64 (x6 + 1))) else (none))
def swageref07_Idom.j3 : Nat → List (List Int) → List Bool → List Int → Int → Int → Int → Bool → Option (List Int)
  | 0, _, _, _, _, _, _, _ => none
  | k + 1, x0, x4, x5, x6, x7, x8, x53 => if x53 = true then (swageref07_Idom.l1 k x0 x4 x5 x6 x7 (wrap64 (x8 + 1))) else (if x7 < 0 then (swageref07_Idom.l1 k x0 x4 x5 x6 x8 (wrap64 (x8 + 1))) else ((swageref07_Over.f k x0 x7 x8).bind fun t653 => (if t653 = true then (swageref07_Idom.l1 k x0 x4 x5 x6 x8 (wrap64 (x8 + 1))) else (swageref07_Idom.l1 k x0 x4 x5 x6 x7 (wrap64 (x8 + 1))))))
end
def swageref07_Idom.f (k : Nat) (l0 : List (List Int)) : Option (List Int) := (swageref06_Right.f k l0).bind fun t643 => (if t643 = true then ((swageref06_Reach.f k l0 0).bind fun t644 => (swageref07_Idom.l0 k l0 t644 ([] : List Int) 0)) else (some ([] : List Int)))
set_option maxHeartbeats 8000000 in
set_option maxRecDepth 100000 in
theorem swageref07_Idom.calls (k : Nat) (A0 : Option Addr) (c0 : Nat) (l0 : List (List Int)) (r : List Int) (w : World) (hr0 : Kd.C (Kd.slice 3 (Kd.int .i64)) w A0 l0.length l0) (hc0 : l0.length ≤ c0) (h : swageref07_Idom.f k l0 = some r) :
    Calls Try.prog 39 #[.slice A0 l0.length c0] w fun e w' => ∃ v0_ : Value, e = .returned (v0_) ∧ Kd.R (Kd.int .i64) 3 w' w.heap.size (fun _ => True) v0_ r ∧ Below w.heap.size w w' := by
  have HR0 := Aside0.mk hr0
  have HC0 := Aside0.mk hc0
  clear hr0 hc0
  have HB := Aside0.mk (Below.refl w.heap.size w)
  have H : ((swageref06_Right.f k l0).bind fun t643 => (if t643 = true then ((swageref06_Reach.f k l0 0).bind fun t644 => (swageref07_Idom.l0 k l0 t644 ([] : List Int) 0)) else (some ([] : List Int)))) = some r := h
  clear h
  replace H := Option.bind_eq_some_iff.mp H
  obtain ⟨t643, A20, H⟩ := H
  replace H : (if t643 = true then ((swageref06_Reach.f k l0 0).bind fun t644 => (swageref07_Idom.l0 k l0 t644 ([] : List Int) 0)) else (some ([] : List Int))) = some r := H
  have A2 := Aside0.mk A20
  clear A20
  by_cases c3 : t643 = true
  · subst c3
    have H1 : ((swageref06_Reach.f k l0 0).bind fun t644 => (swageref07_Idom.l0 k l0 t644 ([] : List Int) 0)) = some r := by rw [if_pos rfl] at H; exact H
    clear H
    have H := H1
    clear H1
    replace H := Option.bind_eq_some_iff.mp H
    obtain ⟨t644, A40, H⟩ := H
    replace H : (swageref07_Idom.l0 k l0 t644 ([] : List Int) 0) = some r := H
    have A4 := Aside0.mk A40
    clear A40
    have H' := Aside0.mk H
    clear H
    go_enter Try.func39, Try.ntmps39
    go_wp2_with (first | ((with_reducible refine gate_callee (f := 20) rfl ?_); refine goesL_ (some 10) rfl rfl Try.func20 (by kernel_rfl) rfl #[.slice A0 l0.length c0] rfl (by (try simp only [List.map_toArray, List.map_cons, List.map_nil]); first | done | rfl | (simp only [List.length_drop, List.length_take]; rfl)) ?_; (with_reducible refine (swageref06_Right.calls k _ _ l0 true _ ?side1 ?side2 A2.out).mono ?_); (case side1 => repeat (first | exact HR0.out | (with_reducible refine Kd.C_alloc ?_ _) | (with_reducible refine Kd.C_drewN ?_ _) | (with_reducible refine Kd.C_drew ?_))); (case side2 => exact HC0.out); rintro e w' ⟨rfl, ⟨nd, rfl⟩⟩; refine ⟨_, rfl, ?_⟩) | ((with_reducible refine gate_callee (f := 23) rfl ?_); refine goesL_ (some 14) rfl rfl Try.func23 (by kernel_rfl) rfl #[.slice A0 l0.length c0, .int .i64 0] rfl (by (try simp only [List.map_toArray, List.map_cons, List.map_nil]); first | done | rfl | (simp only [List.length_drop, List.length_take]; rfl)) ?_; (with_reducible refine (swageref06_Reach.calls k _ _ l0 0 t644 _ ?side1 ?side2 A4.out).mono ?_); (case side1 => repeat (first | exact HR0.out | (with_reducible refine Kd.C_alloc ?_ _) | (with_reducible refine Kd.C_drewN ?_ _) | (with_reducible refine Kd.C_drew ?_))); (case side2 => exact HC0.out); rintro e w5 ⟨v645, rfl, ho0, hb⟩; refine ⟨_, rfl, ?_⟩; have n0_ := Aside0.mk (Kd.R_lower ho0 (below_size (by repeat (first | (with_reducible first | exact HB.out | apply below_alloc | apply pw_below_drewN | apply below_drew1) | exact HB.out)))); have n1_ := Aside0.mk (below_step (by repeat (first | (with_reducible first | exact HB.out | apply below_alloc | apply pw_below_drewN | apply below_drew1) | exact HB.out)) hb); clear HB; have HO646 := n0_; have HB := n1_; clear n0_ n1_; (try clear hb); (try clear hb2); (try clear hk); (try clear hi); (try clear ho0)))
    go_loopg [5, 6] k (fun kq v5 v6 w' => ∃ (x5_1 : List Int) (x6_1 : Int), v6 = .int .i64 x6_1 ∧ Aside0 (swageref07_Idom.l0 kq l0 t644 x5_1 x6_1 = some r) ∧ Aside0 (kq ≤ k) ∧ Aside0 (Kd.R Kd.bool 4 w' w.heap.size (fun _ => True) v645 t644) ∧ Aside0 (Kd.R (Kd.int .i64) 3 w' w.heap.size (fun _ => True) v5 x5_1) ∧ Aside0 (Below w.heap.size w w'))
    case atStart => exact ⟨(([] : List Int)), (0), (by first | rfl | (simp; done) | (simp [*]; done)), H', ⟨Nat.le_refl _⟩, ⟨by (with_reducible repeat (first | apply Kd.R_alloc | apply Kd.R_drewN | apply Kd.R_drew)); exact HO646.out⟩, ⟨by first | exact Kd.R_nil _ _ _ _ _ | exact Kd.N_nil _ _ _ _ _ | exact Kd.V_nil _ _ _ _ _ | exact Kd.Q_nil _ _ _ _ _ | exact Kd.S_nil _ _ _ _ _⟩, ⟨by repeat (first | (with_reducible first | exact HB.out | apply below_alloc | apply pw_below_drewN | apply below_drew1) | exact HB.out)⟩⟩
    case round =>
      clear H'
      try clear c2
      try clear p2
      try clear c3
      obtain ⟨x5_1, x6_1, rfl, HA, HK1, HO_4, HO_5, HB⟩ := hrel
      cases gk with
      | zero => exact absurd HA.out (by simp [swageref07_Idom.l0])
      | succ k1 =>
        have H := HA.out
        clear HA
        simp only [swageref07_Idom.l0] at H
        by_cases c6 : x6_1 < (l0.length : Int)
        · rw [if_pos c6] at H
          have c6b0 : decide (x6_1 < (l0.length : Int)) = true := decide_eq_true c6
          clear c6
          have H' := Aside0.mk H
          clear H
          go_wp2
          go_loopg [7, 8] k1 (fun kq v7 v8 w' => ∃ (x7_2 : Int) (x8_2 : Int), v7 = .int .i64 x7_2 ∧ v8 = .int .i64 x8_2 ∧ Aside0 (swageref07_Idom.l1 kq l0 t644 x5_1 x6_1 x7_2 x8_2 = some r) ∧ Aside0 (kq ≤ k1) ∧ Aside0 (Kd.R Kd.bool 4 w' w.heap.size (fun _ => True) v645 t644) ∧ Aside0 (Kd.R (Kd.int .i64) 3 w' w.heap.size (fun _ => True) u5 x5_1) ∧ Aside0 (Below w.heap.size w w'))
          case atStart => exact ⟨((-1)), (0), (by first | rfl | (simp; done) | (simp [*]; done)), (by first | rfl | (simp; done) | (simp [*]; done)), H', ⟨Nat.le_refl _⟩, ⟨by (with_reducible repeat (first | apply Kd.R_alloc | apply Kd.R_drewN | apply Kd.R_drew)); exact HO_4.out⟩, ⟨by (with_reducible repeat (first | apply Kd.R_alloc | apply Kd.R_drewN | apply Kd.R_drew)); exact HO_5.out⟩, ⟨by repeat (first | (with_reducible first | exact HB.out | apply below_alloc | apply pw_below_drewN | apply below_drew1) | exact HB.out)⟩⟩
          case round =>
            clear H'
            try clear c2
            try clear p2
            try clear c3
            try clear c6
            try clear c6b0
            try clear p2
            obtain ⟨x7_2, x8_2, rfl, rfl, HA, HK2, HO_4, HO_5, HB⟩ := hrel
            cases gk with
            | zero => exact absurd HA.out (by simp [swageref07_Idom.l1])
            | succ k2 =>
              have H := HA.out
              clear HA
              simp only [swageref07_Idom.l1] at H
              have HC7 := Aside0.mk H
              clear H
              go_upto_region 11 with (fail)
              go_cut [34] (fun v34 wc => ∃ (kq : Nat) (x34_6 : Bool), v34 = .bool x34_6 ∧ Aside0 (swageref07_Idom.j2 kq l0 t644 x5_1 x6_1 x7_2 x8_2 x34_6 = some r) ∧ Aside0 (kq ≤ k2) ∧ Aside0 (Kd.R Kd.bool 4 wc w.heap.size (fun _ => True) v645 t644) ∧ Aside0 (Kd.R (Kd.int .i64) 3 wc w.heap.size (fun _ => True) u5 x5_1) ∧ Aside0 (Below w.heap.size w wc))
              case first =>
                have H := HC7.out
                clear HC7
                by_cases c8 : x8_2 < (l0.length : Int)
                · rw [if_pos c8] at H
                  have c8b0 : decide (x8_2 < (l0.length : Int)) = true := decide_eq_true c8
                  clear c8
                  (first | rw [c8b0] | (simp only [i64_w, i32_w]; rw [c8b0]) | skip)
                  by_cases c9 : x6_1 = 0
                  · rw [if_pos c9] at H
                    have c9b0 : (x6_1 == 0) = true := beq_iff_eq.mpr c9
                    have c9b1 : (x6_1 != 0) = false := bne_eq_false_iff_eq.mpr c9
                    clear c9
                    have H' := Aside0.mk H
                    clear H
                    go_wp2
                    go_meet
                    case rel => exact ⟨_, (false), (by first | rfl | (simp; done) | (simp [*]; done)), H', ⟨by have := HK1.out; have := HK2.out; first | omega | exact Nat.le_refl _⟩, ⟨by (with_reducible repeat (first | apply Kd.R_alloc | apply Kd.R_drewN | apply Kd.R_drew)); exact HO_4.out⟩, ⟨by (with_reducible repeat (first | apply Kd.R_alloc | apply Kd.R_drewN | apply Kd.R_drew)); exact HO_5.out⟩, ⟨by repeat (first | (with_reducible first | exact HB.out | apply below_alloc | apply pw_below_drewN | apply below_drew1) | exact HB.out)⟩⟩
                  · rw [if_neg c9] at H
                    have c9b0 : (x6_1 == 0) = false := beq_eq_false_iff_ne.mpr c9
                    have c9b1 : (x6_1 != 0) = true := bne_iff_ne.mpr c9
                    by_cases c10 : 0 ≤ x6_1
                    · rw [if_pos c10] at H
                      have c10b0 : decide (0 ≤ x6_1) = true := decide_eq_true c10
                      clear c10
                      by_cases c11 : x6_1 < (t644.length : Int)
                      · rw [if_pos c11] at H
                        have c11b0 : decide (x6_1 < (t644.length : Int)) = true := decide_eq_true c11
                        clear c11
                        have H' := Aside0.mk H
                        clear H
                        obtain ⟨Ao12, co12, eo12⟩ := Kd.R_slice HO_4.out
                        subst eo12
                        have p647 : 0 ≤ (x6_1 : Int) := of_decide_eq_true (by first | (with_reducible assumption) | assumption)
                        have q647 : x6_1 < (t644.length : Int) := of_decide_eq_true (by first | (with_reducible assumption) | assumption)
                        obtain ⟨ad647, e647, hx647_0⟩ := Kd.at_bool (Kd.R_reads' HO_4.out).2.2 x6_1 p647 q647
                        cases e647
                        replace p647 := eq_true p647
                        replace q647 := eq_true q647
                        go_wp2
                        go_meet
                        case rel => exact ⟨_, (rdOf false t644 x6_1), (by first | rfl | (simp; done) | (simp [*]; done)), H', ⟨by have := HK1.out; have := HK2.out; first | omega | exact Nat.le_refl _⟩, ⟨by (with_reducible repeat (first | apply Kd.R_alloc | apply Kd.R_drewN | apply Kd.R_drew)); exact HO_4.out⟩, ⟨by (with_reducible repeat (first | apply Kd.R_alloc | apply Kd.R_drewN | apply Kd.R_drew)); exact HO_5.out⟩, ⟨by repeat (first | (with_reducible first | exact HB.out | apply below_alloc | apply pw_below_drewN | apply below_drew1) | exact HB.out)⟩⟩
                      · rw [if_neg c11] at H
                        exact absurd H (by simp)
                    · rw [if_neg c10] at H
                      exact absurd H (by simp)
                · rw [if_neg c8] at H
                  have c8b0 : decide (x8_2 < (l0.length : Int)) = false := decide_eq_false c8
                  clear c8
                  (first | rw [c8b0] | (simp only [i64_w, i32_w]; rw [c8b0]) | skip)
                  have H' := Aside0.mk H
                  clear H
                  go_wp2
                  go_meet
                  case rel => exact ⟨_, (false), (by first | rfl | (simp; done) | (simp [*]; done)), H', ⟨by have := HK1.out; have := HK2.out; first | omega | exact Nat.le_refl _⟩, ⟨by (with_reducible repeat (first | apply Kd.R_alloc | apply Kd.R_drewN | apply Kd.R_drew)); exact HO_4.out⟩, ⟨by (with_reducible repeat (first | apply Kd.R_alloc | apply Kd.R_drewN | apply Kd.R_drew)); exact HO_5.out⟩, ⟨by repeat (first | (with_reducible first | exact HB.out | apply below_alloc | apply pw_below_drewN | apply below_drew1) | exact HB.out)⟩⟩
              case rest =>
                clear HC7
                try clear c1
                try clear c2
                try clear p2
                try clear c3
                try clear c6
                try clear c6b0
                try clear p6
                try clear q6
                try clear hx6
                try clear c8
                try clear c8b0
                try clear c9
                try clear c9b0
                try clear c9b1
                try clear c10
                try clear c10b0
                try clear c11
                try clear c11b0
                try clear hx647_0
                try clear p2
                try clear p647
                try clear q647
                obtain ⟨kq, x34_6, rfl, HA, HJ6, HO_4, HO_5, HB⟩ := hcut
                cases kq with
                | zero => exact absurd HA.out (by simp [swageref07_Idom.j2])
                | succ kj6 =>
                  have H := HA.out
                  clear HA
                  simp only [swageref07_Idom.j2] at H
                  by_cases c13 : x34_6 = true
                  · subst c13
                    have H1 : (if x8_2 = x6_1 then (swageref07_Idom.j3 kj6 l0 t644 x5_1 x6_1 x7_2 x8_2 true) else (if 0 ≤ x8_2 then (if x8_2 < (t644.length : Int) then (if rdOf false t644 x8_2 = true then ((swageref07_Over.f kj6 l0 x8_2 x6_1).bind fun t652 => (swageref07_Idom.j3 kj6 l0 t644 x5_1 x6_1 x7_2 x8_2 (!t652))) else (swageref07_Idom.j3 kj6 l0 t644 x5_1 x6_1 x7_2 x8_2 true)) else (none)) else (none))) = some r := by rw [if_pos rfl] at H; exact H
                    clear H
                    have H := H1
                    clear H1
                    have HC14 := Aside0.mk H
                    clear H
                    go_upto_region 13 with (fail)
                    go_cut [53] (fun v53 wc => ∃ (kq : Nat) (x53_13 : Bool), v53 = .bool x53_13 ∧ Aside0 (swageref07_Idom.j3 kq l0 t644 x5_1 x6_1 x7_2 x8_2 x53_13 = some r) ∧ Aside0 (kq ≤ kj6) ∧ Aside0 (Kd.R Kd.bool 4 wc w.heap.size (fun _ => True) v645 t644) ∧ Aside0 (Kd.R (Kd.int .i64) 3 wc w.heap.size (fun _ => True) u5 x5_1) ∧ Aside0 (Below w.heap.size w wc))
                    case first =>
                      have H := HC14.out
                      clear HC14
                      by_cases c15 : x8_2 = x6_1
                      · rw [if_pos c15] at H
                        have c15b0 : (x8_2 == x6_1) = true := beq_iff_eq.mpr c15
                        have c15b1 : (x8_2 != x6_1) = false := bne_eq_false_iff_eq.mpr c15
                        clear c15
                        (first | rw [c15b0] | (simp only [i64_w, i32_w]; rw [c15b0]) | skip)
                        have H' := Aside0.mk H
                        clear H
                        go_wp2
                        go_meet
                        case rel => exact ⟨_, (true), (by first | rfl | (simp; done) | (simp [*]; done)), H', ⟨by have := HK1.out; have := HK2.out; have := HJ6.out; first | omega | exact Nat.le_refl _⟩, ⟨by (with_reducible repeat (first | apply Kd.R_alloc | apply Kd.R_drewN | apply Kd.R_drew)); exact HO_4.out⟩, ⟨by (with_reducible repeat (first | apply Kd.R_alloc | apply Kd.R_drewN | apply Kd.R_drew)); exact HO_5.out⟩, ⟨by repeat (first | (with_reducible first | exact HB.out | apply below_alloc | apply pw_below_drewN | apply below_drew1) | exact HB.out)⟩⟩
                      · rw [if_neg c15] at H
                        have c15b0 : (x8_2 == x6_1) = false := beq_eq_false_iff_ne.mpr c15
                        have c15b1 : (x8_2 != x6_1) = true := bne_iff_ne.mpr c15
                        (first | rw [c15b0] | (simp only [i64_w, i32_w]; rw [c15b0]) | skip)
                        by_cases c16 : 0 ≤ x8_2
                        · rw [if_pos c16] at H
                          have c16b0 : decide (0 ≤ x8_2) = true := decide_eq_true c16
                          clear c16
                          by_cases c17 : x8_2 < (t644.length : Int)
                          · rw [if_pos c17] at H
                            have c17b0 : decide (x8_2 < (t644.length : Int)) = true := decide_eq_true c17
                            clear c17
                            obtain ⟨bq18, hbq18⟩ : ∃ b_ : Bool, b_ = (rdOf false t644 x8_2) := ⟨_, rfl⟩
                            replace H : (if bq18 = true then ((swageref07_Over.f kj6 l0 x8_2 x6_1).bind fun t652 => (swageref07_Idom.j3 kj6 l0 t644 x5_1 x6_1 x7_2 x8_2 (!t652))) else (swageref07_Idom.j3 kj6 l0 t644 x5_1 x6_1 x7_2 x8_2 true)) = some r := by rw [← hbq18] at H; exact H
                            have Nbq18 := Aside0.mk hbq18
                            clear hbq18
                            by_cases c19 : bq18 = true
                            · subst c19
                              have H1 : ((swageref07_Over.f kj6 l0 x8_2 x6_1).bind fun t652 => (swageref07_Idom.j3 kj6 l0 t644 x5_1 x6_1 x7_2 x8_2 (!t652))) = some r := by rw [if_pos rfl] at H; exact H
                              clear H
                              have H := H1
                              clear H1
                              replace H := Option.bind_eq_some_iff.mp H
                              obtain ⟨t652, A200, H⟩ := H
                              replace H : (swageref07_Idom.j3 kj6 l0 t644 x5_1 x6_1 x7_2 x8_2 (!t652)) = some r := H
                              have A20 := Aside0.mk A200
                              clear A200
                              have H' := Aside0.mk H
                              clear H
                              obtain ⟨Ao21, co21, eo21⟩ := Kd.R_slice HO_4.out
                              subst eo21
                              have p651 : 0 ≤ (x8_2 : Int) := of_decide_eq_true (by first | (with_reducible assumption) | assumption)
                              have q651 : x8_2 < (t644.length : Int) := of_decide_eq_true (by first | (with_reducible assumption) | assumption)
                              obtain ⟨ad651, e651, hx651_0⟩ := Kd.at_bool (Kd.R_reads' HO_4.out).2.2 x8_2 p651 q651
                              (try rw [← Nbq18.out] at hx651_0)
                              cases e651
                              replace p651 := eq_true p651
                              replace q651 := eq_true q651
                              go_wp2_with (first | (go_at_call 66; (with_reducible refine (swageref07_Over.calls kj6 _ _ l0 x8_2 x6_1 t652 _ ?side1 ?side2 A20.out).mono ?_); (case side1 => repeat (first | exact (Kd.C_below HR0.out HB.out) | (with_reducible refine Kd.C_alloc ?_ _) | (with_reducible refine Kd.C_drewN ?_ _) | (with_reducible refine Kd.C_drew ?_))); (case side2 => exact HC0.out); rintro e w22 ⟨rfl, hb⟩; have n0_ := Aside0.mk (Kd.R_below (by (with_reducible repeat (first | apply Kd.R_alloc | apply Kd.R_drewN | apply Kd.R_drew)); exact HO_4.out) hb); have n1_ := Aside0.mk (Kd.R_below (by (with_reducible repeat (first | apply Kd.R_alloc | apply Kd.R_drewN | apply Kd.R_drew)); exact HO_5.out) hb); have n2_ := Aside0.mk (below_step (by repeat (first | (with_reducible first | exact HB.out | apply below_alloc | apply pw_below_drewN | apply below_drew1) | exact HB.out)) hb); clear HO_4; clear HO_5; clear HB; have HO_4 := n0_; have HO_5 := n1_; have HB := n2_; clear n0_ n1_ n2_; (try clear hb); (try clear hb2); (try clear hk); (try clear hi)))
                              go_meet
                              case rel => exact ⟨_, (!t652), (by first | rfl | (simp; done) | (simp [*]; done)), H', ⟨by have := HK1.out; have := HK2.out; have := HJ6.out; first | omega | exact Nat.le_refl _⟩, ⟨by (with_reducible repeat (first | apply Kd.R_alloc | apply Kd.R_drewN | apply Kd.R_drew)); exact HO_4.out⟩, ⟨by (with_reducible repeat (first | apply Kd.R_alloc | apply Kd.R_drewN | apply Kd.R_drew)); exact HO_5.out⟩, ⟨by repeat (first | (with_reducible first | exact HB.out | apply below_alloc | apply pw_below_drewN | apply below_drew1) | exact HB.out)⟩⟩
                            · replace c19 := Bool.eq_false_iff.mpr c19
                              subst c19
                              have H1 : (swageref07_Idom.j3 kj6 l0 t644 x5_1 x6_1 x7_2 x8_2 true) = some r := by rw [if_neg (show ¬ (false = true) by decide)] at H; exact H
                              clear H
                              have H := H1
                              clear H1
                              have H' := Aside0.mk H
                              clear H
                              obtain ⟨Ao23, co23, eo23⟩ := Kd.R_slice HO_4.out
                              subst eo23
                              have p651 : 0 ≤ (x8_2 : Int) := of_decide_eq_true (by first | (with_reducible assumption) | assumption)
                              have q651 : x8_2 < (t644.length : Int) := of_decide_eq_true (by first | (with_reducible assumption) | assumption)
                              obtain ⟨ad651, e651, hx651_0⟩ := Kd.at_bool (Kd.R_reads' HO_4.out).2.2 x8_2 p651 q651
                              (try rw [← Nbq18.out] at hx651_0)
                              cases e651
                              replace p651 := eq_true p651
                              replace q651 := eq_true q651
                              go_wp2
                              go_meet
                              case rel => exact ⟨_, (true), (by first | rfl | (simp; done) | (simp [*]; done)), H', ⟨by have := HK1.out; have := HK2.out; have := HJ6.out; first | omega | exact Nat.le_refl _⟩, ⟨by (with_reducible repeat (first | apply Kd.R_alloc | apply Kd.R_drewN | apply Kd.R_drew)); exact HO_4.out⟩, ⟨by (with_reducible repeat (first | apply Kd.R_alloc | apply Kd.R_drewN | apply Kd.R_drew)); exact HO_5.out⟩, ⟨by repeat (first | (with_reducible first | exact HB.out | apply below_alloc | apply pw_below_drewN | apply below_drew1) | exact HB.out)⟩⟩
                          · rw [if_neg c17] at H
                            exact absurd H (by simp)
                        · rw [if_neg c16] at H
                          exact absurd H (by simp)
                    case rest =>
                      clear HC14
                      try clear c1
                      try clear q1
                      try clear c2
                      try clear p2
                      try clear c3
                      try clear c6
                      try clear c6b0
                      try clear p6
                      try clear q6
                      try clear hx6
                      try clear c8
                      try clear c8b0
                      try clear c9
                      try clear c9b0
                      try clear c9b1
                      try clear c10
                      try clear c10b0
                      try clear c11
                      try clear c11b0
                      try clear c13
                      try clear c15
                      try clear c15b0
                      try clear c15b1
                      try clear c16
                      try clear c16b0
                      try clear c17
                      try clear c17b0
                      try clear q18
                      try clear c19
                      try clear c20
                      try clear c23
                      try clear hx647_0
                      try clear hx651_0
                      try clear p2
                      try clear p6
                      try clear p647
                      try clear p651
                      try clear q6
                      try clear q647
                      try clear q651
                      obtain ⟨kq, x53_13, rfl, HA, HJ13, HO_4, HO_5, HB⟩ := hcut
                      cases kq with
                      | zero => exact absurd HA.out (by simp [swageref07_Idom.j3])
                      | succ kj13 =>
                        have H := HA.out
                        clear HA
                        simp only [swageref07_Idom.j3] at H
                        by_cases c24 : x53_13 = true
                        · subst c24
                          have H1 : (swageref07_Idom.l1 kj13 l0 t644 x5_1 x6_1 x7_2 (wrap64 (x8_2 + 1))) = some r := by rw [if_pos rfl] at H; exact H
                          clear H
                          have H := H1
                          clear H1
                          have H' := Aside0.mk H
                          clear H
                          go_wp2
                          go_roundg kj13
                          case measure => have := HK1.out; have := HK2.out; have := HJ6.out; have := HJ13.out; omega
                          case rel => exact ⟨(x7_2), (wrap64 (x8_2 + 1)), (by first | rfl | (simp; done) | (simp [*]; done)), (by first | rfl | (simp; done) | (simp [*]; done)), H', ⟨by have := HK1.out; have := HK2.out; have := HJ6.out; have := HJ13.out; omega⟩, ⟨by (with_reducible repeat (first | apply Kd.R_alloc | apply Kd.R_drewN | apply Kd.R_drew)); exact HO_4.out⟩, ⟨by (with_reducible repeat (first | apply Kd.R_alloc | apply Kd.R_drewN | apply Kd.R_drew)); exact HO_5.out⟩, ⟨by repeat (first | (with_reducible first | exact HB.out | apply below_alloc | apply pw_below_drewN | apply below_drew1) | exact HB.out)⟩⟩
                        · replace c24 := Bool.eq_false_iff.mpr c24
                          subst c24
                          have H1 : (if x7_2 < 0 then (swageref07_Idom.l1 kj13 l0 t644 x5_1 x6_1 x8_2 (wrap64 (x8_2 + 1))) else ((swageref07_Over.f kj13 l0 x7_2 x8_2).bind fun t653 => (if t653 = true then (swageref07_Idom.l1 kj13 l0 t644 x5_1 x6_1 x8_2 (wrap64 (x8_2 + 1))) else (swageref07_Idom.l1 kj13 l0 t644 x5_1 x6_1 x7_2 (wrap64 (x8_2 + 1)))))) = some r := by rw [if_neg (show ¬ (false = true) by decide)] at H; exact H
                          clear H
                          have H := H1
                          clear H1
                          by_cases c25 : x7_2 < 0
                          · rw [if_pos c25] at H
                            have c25b0 : decide (x7_2 < 0) = true := decide_eq_true c25
                            clear c25
                            have H' := Aside0.mk H
                            clear H
                            go_wp2
                            go_roundg kj13
                            case measure => have := HK1.out; have := HK2.out; have := HJ6.out; have := HJ13.out; omega
                            case rel => exact ⟨(x8_2), (wrap64 (x8_2 + 1)), (by first | rfl | (simp; done) | (simp [*]; done)), (by first | rfl | (simp; done) | (simp [*]; done)), H', ⟨by have := HK1.out; have := HK2.out; have := HJ6.out; have := HJ13.out; omega⟩, ⟨by (with_reducible repeat (first | apply Kd.R_alloc | apply Kd.R_drewN | apply Kd.R_drew)); exact HO_4.out⟩, ⟨by (with_reducible repeat (first | apply Kd.R_alloc | apply Kd.R_drewN | apply Kd.R_drew)); exact HO_5.out⟩, ⟨by repeat (first | (with_reducible first | exact HB.out | apply below_alloc | apply pw_below_drewN | apply below_drew1) | exact HB.out)⟩⟩
                          · rw [if_neg c25] at H
                            have c25b0 : decide (x7_2 < 0) = false := decide_eq_false c25
                            clear c25
                            replace H := Option.bind_eq_some_iff.mp H
                            obtain ⟨t653, A260, H⟩ := H
                            replace H : (if t653 = true then (swageref07_Idom.l1 kj13 l0 t644 x5_1 x6_1 x8_2 (wrap64 (x8_2 + 1))) else (swageref07_Idom.l1 kj13 l0 t644 x5_1 x6_1 x7_2 (wrap64 (x8_2 + 1)))) = some r := H
                            have A26 := Aside0.mk A260
                            clear A260
                            by_cases c27 : t653 = true
                            · subst c27
                              have H1 : (swageref07_Idom.l1 kj13 l0 t644 x5_1 x6_1 x8_2 (wrap64 (x8_2 + 1))) = some r := by rw [if_pos rfl] at H; exact H
                              clear H
                              have H := H1
                              clear H1
                              have H' := Aside0.mk H
                              clear H
                              go_wp2_with (first | (go_at_call 66; (with_reducible refine (swageref07_Over.calls kj13 _ _ l0 x7_2 x8_2 true _ ?side1 ?side2 A26.out).mono ?_); (case side1 => repeat (first | exact (Kd.C_below HR0.out HB.out) | (with_reducible refine Kd.C_alloc ?_ _) | (with_reducible refine Kd.C_drewN ?_ _) | (with_reducible refine Kd.C_drew ?_))); (case side2 => exact HC0.out); rintro e w28 ⟨rfl, hb⟩; have n0_ := Aside0.mk (Kd.R_below (by (with_reducible repeat (first | apply Kd.R_alloc | apply Kd.R_drewN | apply Kd.R_drew)); exact HO_4.out) hb); have n1_ := Aside0.mk (Kd.R_below (by (with_reducible repeat (first | apply Kd.R_alloc | apply Kd.R_drewN | apply Kd.R_drew)); exact HO_5.out) hb); have n2_ := Aside0.mk (below_step (by repeat (first | (with_reducible first | exact HB.out | apply below_alloc | apply pw_below_drewN | apply below_drew1) | exact HB.out)) hb); clear HO_4; clear HO_5; clear HB; have HO_4 := n0_; have HO_5 := n1_; have HB := n2_; clear n0_ n1_ n2_; (try clear hb); (try clear hb2); (try clear hk); (try clear hi)))
                              go_roundg kj13
                              case measure => have := HK1.out; have := HK2.out; have := HJ6.out; have := HJ13.out; omega
                              case rel => exact ⟨(x8_2), (wrap64 (x8_2 + 1)), (by first | rfl | (simp; done) | (simp [*]; done)), (by first | rfl | (simp; done) | (simp [*]; done)), H', ⟨by have := HK1.out; have := HK2.out; have := HJ6.out; have := HJ13.out; omega⟩, ⟨by (with_reducible repeat (first | apply Kd.R_alloc | apply Kd.R_drewN | apply Kd.R_drew)); exact HO_4.out⟩, ⟨by (with_reducible repeat (first | apply Kd.R_alloc | apply Kd.R_drewN | apply Kd.R_drew)); exact HO_5.out⟩, ⟨by repeat (first | (with_reducible first | exact HB.out | apply below_alloc | apply pw_below_drewN | apply below_drew1) | exact HB.out)⟩⟩
                            · replace c27 := Bool.eq_false_iff.mpr c27
                              subst c27
                              have H1 : (swageref07_Idom.l1 kj13 l0 t644 x5_1 x6_1 x7_2 (wrap64 (x8_2 + 1))) = some r := by rw [if_neg (show ¬ (false = true) by decide)] at H; exact H
                              clear H
                              have H := H1
                              clear H1
                              have H' := Aside0.mk H
                              clear H
                              go_wp2_with (first | (go_at_call 66; (with_reducible refine (swageref07_Over.calls kj13 _ _ l0 x7_2 x8_2 false _ ?side1 ?side2 A26.out).mono ?_); (case side1 => repeat (first | exact (Kd.C_below HR0.out HB.out) | (with_reducible refine Kd.C_alloc ?_ _) | (with_reducible refine Kd.C_drewN ?_ _) | (with_reducible refine Kd.C_drew ?_))); (case side2 => exact HC0.out); rintro e w29 ⟨rfl, hb⟩; have n0_ := Aside0.mk (Kd.R_below (by (with_reducible repeat (first | apply Kd.R_alloc | apply Kd.R_drewN | apply Kd.R_drew)); exact HO_4.out) hb); have n1_ := Aside0.mk (Kd.R_below (by (with_reducible repeat (first | apply Kd.R_alloc | apply Kd.R_drewN | apply Kd.R_drew)); exact HO_5.out) hb); have n2_ := Aside0.mk (below_step (by repeat (first | (with_reducible first | exact HB.out | apply below_alloc | apply pw_below_drewN | apply below_drew1) | exact HB.out)) hb); clear HO_4; clear HO_5; clear HB; have HO_4 := n0_; have HO_5 := n1_; have HB := n2_; clear n0_ n1_ n2_; (try clear hb); (try clear hb2); (try clear hk); (try clear hi)))
                              go_roundg kj13
                              case measure => have := HK1.out; have := HK2.out; have := HJ6.out; have := HJ13.out; omega
                              case rel => exact ⟨(x7_2), (wrap64 (x8_2 + 1)), (by first | rfl | (simp; done) | (simp [*]; done)), (by first | rfl | (simp; done) | (simp [*]; done)), H', ⟨by have := HK1.out; have := HK2.out; have := HJ6.out; have := HJ13.out; omega⟩, ⟨by (with_reducible repeat (first | apply Kd.R_alloc | apply Kd.R_drewN | apply Kd.R_drew)); exact HO_4.out⟩, ⟨by (with_reducible repeat (first | apply Kd.R_alloc | apply Kd.R_drewN | apply Kd.R_drew)); exact HO_5.out⟩, ⟨by repeat (first | (with_reducible first | exact HB.out | apply below_alloc | apply pw_below_drewN | apply below_drew1) | exact HB.out)⟩⟩
                  · replace c13 := Bool.eq_false_iff.mpr c13
                    subst c13
                    have H1 : (if x5_1.length < 17592186044416 then (swageref07_Idom.l0 kj6 l0 t644 (x5_1 ++ [x7_2]) (wrap64 (x6_1 + 1))) else (none)) = some r := by rw [if_neg (show ¬ (false = true) by decide)] at H; exact H
                    clear H
                    have H := H1
                    clear H1
                    by_cases c30 : x5_1.length < 17592186044416
                    · rw [if_pos c30] at H
                      have LMc30 := Aside0.mk c30
                      clear c30
                      obtain ⟨y648, hy648⟩ : ∃ y_ : List Int, y_ = (x5_1 ++ [x7_2]) := ⟨_, rfl⟩
                      replace H : (swageref07_Idom.l0 kj6 l0 t644 y648 (wrap64 (x6_1 + 1))) = some r := by first | (rw [hy648]; with_reducible exact H) | (have H2_ := (Option.bind_some _ _).symm.trans H; rw [hy648]; with_reducible exact H2_) | (have H2_ := (Option.bind_some _ _).symm.trans H; with_reducible exact H2_) | with_reducible exact H | (rw [hy648]; exact H) | exact H
                      have Ny648 := Aside0.mk hy648
                      clear hy648
                      have H' := Aside0.mk H
                      clear H
                      go_wp2_with (first | ((with_reducible refine gate_builtin (b := .append) (xs := #[.tmp 63, .tmp 65]) rfl ?_); at_builtin; refine Kd.R_append (Kd.int .i64) (w0 := w) w.heap.size rfl (.tmp 63) (.tmp 65) 27 3 (.int .i64 0) 8 rfl Try.underlying27 info3 rfl (by decide) (by omega) u5 x5_1 x7_2 [.int .i64 x7_2] (fun _ => True) (fun _ => False) rfl rfl ?aP (fun _ hk => hk.elim) ?aF ?aO ?aB ?aS ?aL ?_; (case aP => exact rfl); (case aB => exact (by repeat (first | (with_reducible first | exact HB.out | apply below_alloc | apply pw_below_drewN | apply below_drew1) | exact HB.out))); (case aF => exact (fun _ _ => trivial)); (case aO => exact (by (with_reducible repeat (first | apply Kd.R_alloc | apply Kd.R_drewN | apply Kd.R_drew)); exact HO_5.out)); (case aS => exact (below_size (by repeat (first | (with_reducible first | exact HB.out | apply below_alloc | apply pw_below_drewN | apply below_drew1) | exact HB.out)))); (case aL => have := LMc30.out; omega); intro v649 w31 ho hb hg hat; rw [← Ny648.out] at ho; have n0_ := Aside0.mk (Kd.R_over' (by (with_reducible repeat (first | apply Kd.R_alloc | apply Kd.R_drewN | apply Kd.R_drew)); exact HO_4.out) (Kd.R_typed (by (with_reducible repeat (first | apply Kd.R_alloc | apply Kd.R_drewN | apply Kd.R_drew)); exact HO_5.out)) (by decide) hg); have n1_ := Aside0.mk (hb); have n2_ := Aside0.mk (ho); clear HO_4; clear HB; clear HO_5; have HO_4 := n0_; have HB := n1_; have HO650 := n2_; clear n0_ n1_ n2_; clear ho hb hg hat))
                      go_roundg kj6
                      case measure => have := HK1.out; have := HK2.out; have := HJ6.out; omega
                      case rel => exact ⟨(y648), (wrap64 (x6_1 + 1)), (by first | rfl | (simp; done) | (simp [*]; done)), H', ⟨by have := HK1.out; have := HK2.out; have := HJ6.out; omega⟩, ⟨by (with_reducible repeat (first | apply Kd.R_alloc | apply Kd.R_drewN | apply Kd.R_drew)); exact HO_4.out⟩, ⟨by (with_reducible repeat (first | apply Kd.R_alloc | apply Kd.R_drewN | apply Kd.R_drew)); exact HO650.out⟩, ⟨by repeat (first | (with_reducible first | exact HB.out | apply below_alloc | apply pw_below_drewN | apply below_drew1) | exact HB.out)⟩⟩
                    · rw [if_neg c30] at H
                      exact absurd H (by simp)
        · rw [if_neg c6] at H
          have c6b0 : decide (x6_1 < (l0.length : Int)) = false := decide_eq_false c6
          clear c6
          obtain rfl := Option.some.inj H
          go_wp2
          go_ret
          exact ⟨_, by first | rfl | (simp [errW_none, errW_some] <;> rfl) | (simp [*, errW_none, errW_some] <;> rfl), by (with_reducible repeat (first | apply Kd.R_alloc | apply Kd.R_drewN | apply Kd.R_drew)); exact HO_5.out, by repeat (first | (with_reducible first | exact HB.out | apply below_alloc | apply pw_below_drewN | apply below_drew1) | exact HB.out)⟩
  · replace c3 := Bool.eq_false_iff.mpr c3
    subst c3
    have H1 : (some ([] : List Int)) = some r := by rw [if_neg (show ¬ (false = true) by decide)] at H; exact H
    clear H
    have H := H1
    clear H1
    obtain rfl := Option.some.inj H
    go_enter Try.func39, Try.ntmps39
    go_wp2_with (first | ((with_reducible refine gate_callee (f := 20) rfl ?_); refine goesL_ (some 10) rfl rfl Try.func20 (by kernel_rfl) rfl #[.slice A0 l0.length c0] rfl (by (try simp only [List.map_toArray, List.map_cons, List.map_nil]); first | done | rfl | (simp only [List.length_drop, List.length_take]; rfl)) ?_; (with_reducible refine (swageref06_Right.calls k _ _ l0 false _ ?side1 ?side2 A2.out).mono ?_); (case side1 => repeat (first | exact HR0.out | (with_reducible refine Kd.C_alloc ?_ _) | (with_reducible refine Kd.C_drewN ?_ _) | (with_reducible refine Kd.C_drew ?_))); (case side2 => exact HC0.out); rintro e w' ⟨rfl, ⟨nd, rfl⟩⟩; refine ⟨_, rfl, ?_⟩))
    go_ret
    exact ⟨_, by first | rfl | (simp [errW_none, errW_some] <;> rfl) | (simp [*, errW_none, errW_some] <;> rfl), by first | exact Kd.R_nil _ _ _ _ _ | exact Kd.N_nil _ _ _ _ _ | exact Kd.V_nil _ _ _ _ _ | exact Kd.Q_nil _ _ _ _ _ | exact Kd.S_nil _ _ _ _ _, by repeat (first | (with_reducible first | exact HB.out | apply below_alloc | apply pw_below_drewN | apply below_drew1) | exact HB.out)⟩

end Go.Proofs.Ytkmbhknmjnbanaa.A


namespace Go.Proofs.Ytkmbhknmjnbanaa.A
open Go.RowKit Go.Proofs.YtkmbhknmjnbanaaW.PrintWords Go.Proofs.YtkmbhknmjnbanaaW.PrintLast Go.Proofs.YtkmbhknmjnbanaaW.PrintMore
attribute [local go_sem] max2_int min2_int max_two min_two max_three min_three max_four min_four   -- for this text's walks alone
set_option linter.unusedVariables false
set_option linter.unusedSimpArgs false

def swageref07_Kids.l0 : Nat → List Int → List (List Int) → Int → Option ((List (List Int)))
  | 0, _, _, _ => none
  | k + 1, x0, x3, x4 => if x4 < (x0.length : Int) then (if 0 ≤ x4 then (if (rd x0 x4) ≥ 0 then (if (rd x0 x4) < (x0.length : Int) then (if 0 ≤ (rd x0 x4) then (if (rd x0 x4) < (x3.length : Int) then (if (rd_L1 x3 (rd x0 x4)).length < 17592186044416 then (swageref07_Kids.l0 k x0 (x3.set ((rd x0 x4) : Int).toNat ((rd_L1 x3 (rd x0 x4)) ++ [x4])) (wrap64 (x4 + 1))) else (none)) else (none)) else (none)) else (swageref07_Kids.l0 k x0 x3 (wrap64 (x4 + 1)))) else (swageref07_Kids.l0 k x0 x3 (wrap64 (x4 + 1)))) else (none)) else (some x3)
def swageref07_Kids.f (k : Nat) (l0 : List Int) : Option ((List (List Int))) := if 0 ≤ (l0.length : Int) then (if ((l0.length : Int) : Int).toNat ≤ 11728124029610 then (swageref07_Kids.l0 k l0 (List.replicate ((l0.length : Int) : Int).toNat []) 0) else (none)) else (none)
def swageref07_Kids.T6 : Bool × List (List Nat × List Nat) := (true, [([], []), ([], []), ([], []), ([1, 2], [1, 2]), ([3], [3]), ([], []), ([], []), ([], []), ([6, 7], [6, 7]), ([8], [8]), ([5, 9], [5, 9]), ([10], [10]), ([], []), ([12], [12]), ([11, 13], [11, 13]), ([0, 4, 0, 1, 2, 3, 4, 5, 6, 7, 8, 9, 10, 11, 12, 13, 14], [0, 4]), ([15, 14, 14, 0, 1, 2, 3, 4, 5, 6, 7, 8, 9, 10, 11, 12, 13, 14], [14, 15])])
def swageref07_Kids.B6 : List Nat := [0, 0, 0, 6, 14, 0, 0, 0, 192, 448, 992, 2016, 0, 4096, 16352, 32767, 65535]
theorem swageref07_Kids.tab6 : rtab .any (opsOf Try.f41 6) = swageref07_Kids.T6 := by kernel_rfl
theorem swageref07_Kids.bits6 : waitsOk swageref07_Kids.T6.2 swageref07_Kids.B6 = true := by kernel_rfl
set_option maxHeartbeats 8000000 in
set_option maxRecDepth 100000 in
theorem swageref07_Kids.calls (k : Nat) (A0 : Option Addr) (c0 : Nat) (l0 : List Int) (r : List (List Int)) (w : World) (hr0 : Kd.C (Kd.int .i64) w A0 l0.length l0) (hc0 : l0.length ≤ c0) (h : swageref07_Kids.f k l0 = some r) :
    Calls Try.prog 41 #[.slice A0 l0.length c0] w fun e w' => ∃ v0_ : Value, e = .returned (v0_) ∧ Kd.S (Kd.slice 3 (Kd.int .i64)) 27 w' w.heap.size (fun _ => True) v0_ r ∧ Below w.heap.size w w' := by
  have HR0 := Aside0.mk hr0
  have HC0 := Aside0.mk hc0
  clear hr0 hc0
  have HB := Aside0.mk (Below.refl w.heap.size w)
  have H : (if 0 ≤ (l0.length : Int) then (if ((l0.length : Int) : Int).toNat ≤ 11728124029610 then (swageref07_Kids.l0 k l0 (List.replicate ((l0.length : Int) : Int).toNat []) 0) else (none)) else (none)) = some r := h
  clear h
  by_cases c2 : 0 ≤ (l0.length : Int)
  · rw [if_pos c2] at H
    have c2b0 := eq_true c2
    have c2b1 : decide (0 ≤ (l0.length : Int)) = true := decide_eq_true c2
    clear c2
    by_cases c3 : ((l0.length : Int) : Int).toNat ≤ 11728124029610
    · rw [if_pos c3] at H
      have c3b0 := eq_true c3
      have c3b1 : decide (((l0.length : Int) : Int).toNat ≤ 11728124029610) = true := decide_eq_true c3
      clear c3
      obtain ⟨y654, hy654⟩ : ∃ y_ : List (List Int), y_ = (List.replicate ((l0.length : Int) : Int).toNat []) := ⟨_, rfl⟩
      replace H : (swageref07_Kids.l0 k l0 y654 0) = some r := by first | (rw [hy654]; with_reducible exact H) | (have H2_ := (Option.bind_some _ _).symm.trans H; rw [hy654]; with_reducible exact H2_) | (have H2_ := (Option.bind_some _ _).symm.trans H; with_reducible exact H2_) | with_reducible exact H | (rw [hy654]; exact H) | exact H
      have Ny654 := Aside0.mk hy654
      clear hy654
      have H' := Aside0.mk H
      clear H
      go_enter Try.func41, Try.ntmps41
      go_wp2_with (first | ((with_reducible refine gate_dst (N := 7) rfl ?_); (try (refine gate_guard (by rfl) ?_; dsimp only)); refine Kd.S_make (Kd.slice 3 (Kd.int .i64)) _ 27 rfl (N := 7) rfl 22 _ _ rfl (l0.length : Int) rfl rfl Try.underlying22 (.slice none 0 0) 24 info27 rfl (by decide) (by omega) [] (ok := fun _ => True) (okp := fun _ => True) ⟨_, rfl, Kd.R_nil _ _ _ _ _⟩ (fun _ hk => hk) trivial (of_decide_eq_true (by first | (with_reducible assumption) | assumption)) (Nat.le_trans (Nat.mul_le_mul_right _ (of_decide_eq_true (by first | (with_reducible assumption) | assumption) : (l0.length : Int).toNat ≤ 11728124029610)) (by omega)) (Below.refl _ _) (Nat.le_refl _) ?_; intro v655 w4 ho5 hb hg_ hnew_; clear hg_ hnew_; (first | rw [← Ny654.out] at ho5 | (simp only [Int.reduceToNat] at ho5; rw [← Ny654.out] at ho5)); have n0_ := Aside0.mk (Kd.S_lower ho5 (below_size (by repeat (first | (with_reducible first | exact HB.out | apply below_alloc | apply pw_below_drewN | apply below_drew1) | exact HB.out)))); have n1_ := Aside0.mk (below_step (by repeat (first | (with_reducible first | exact HB.out | apply below_alloc | apply pw_below_drewN | apply below_drew1) | exact HB.out)) hb); clear HB; have HO656 := n0_; have HB := n1_; clear n0_ n1_; clear hb ho5))
      go_loopg [4] k (fun kq v4 w' => ∃ (x3_1 : List (List Int)) (x4_1 : Int), v4 = .int .i64 x4_1 ∧ Aside0 (swageref07_Kids.l0 kq l0 x3_1 x4_1 = some r) ∧ Aside0 (kq ≤ k) ∧ Aside0 (Kd.S (Kd.slice 3 (Kd.int .i64)) 27 w' w.heap.size (fun _ => True) v655 x3_1) ∧ Aside0 (Below w.heap.size w w'))
      case atStart => exact ⟨(y654), (0), (by first | rfl | (simp; done) | (simp [*]; done)), H', ⟨Nat.le_refl _⟩, ⟨by (with_reducible repeat (first | apply Kd.S_alloc | apply Kd.S_drewN | apply Kd.S_drew)); exact HO656.out⟩, ⟨by repeat (first | (with_reducible first | exact HB.out | apply below_alloc | apply pw_below_drewN | apply below_drew1) | exact HB.out)⟩⟩
      case round =>
        clear H'
        try clear c2
        try clear c2b0
        try clear c2b1
        try clear p2
        try clear c3
        try clear c3b0
        try clear c3b1
        try clear c4
        obtain ⟨x3_1, x4_1, rfl, HA, HK1, HO_3, HB⟩ := hrel
        cases gk with
        | zero => exact absurd HA.out (by simp [swageref07_Kids.l0])
        | succ k1 =>
          have H := HA.out
          clear HA
          simp only [swageref07_Kids.l0] at H
          by_cases c6 : x4_1 < (l0.length : Int)
          · rw [if_pos c6] at H
            have c6b0 : decide (x4_1 < (l0.length : Int)) = true := decide_eq_true c6
            clear c6
            by_cases c7 : 0 ≤ x4_1
            · rw [if_pos c7] at H
              have c7b0 : decide (0 ≤ x4_1) = true := decide_eq_true c7
              clear c7
              by_cases c8 : (rd l0 x4_1) ≥ 0
              · rw [if_pos c8] at H
                have c8b0 : decide (0 ≤ (rd l0 x4_1)) = true := decide_eq_true c8
                clear c8
                by_cases c9 : (rd l0 x4_1) < (l0.length : Int)
                · rw [if_pos c9] at H
                  have c9b0 : decide ((rd l0 x4_1) < (l0.length : Int)) = true := decide_eq_true c9
                  clear c9
                  by_cases c10 : 0 ≤ (rd l0 x4_1)
                  · rw [if_pos c10] at H
                    have c10b0 : decide (0 ≤ (rd l0 x4_1)) = true := decide_eq_true c10
                    clear c10
                    by_cases c11 : (rd l0 x4_1) < (x3_1.length : Int)
                    · rw [if_pos c11] at H
                      have c11b0 : decide ((rd l0 x4_1) < (x3_1.length : Int)) = true := decide_eq_true c11
                      clear c11
                      by_cases c12 : (rd_L1 x3_1 (rd l0 x4_1)).length < 17592186044416
                      · rw [if_pos c12] at H
                        have LMc12 := Aside0.mk c12
                        clear c12
                        obtain ⟨y662, hy662⟩ : ∃ y_ : List Int, y_ = ((rd_L1 x3_1 (rd l0 x4_1)) ++ [x4_1]) := ⟨_, rfl⟩
                        replace H : (swageref07_Kids.l0 k1 l0 (x3_1.set ((rd l0 x4_1) : Int).toNat y662) (wrap64 (x4_1 + 1))) = some r := by first | (rw [hy662]; with_reducible exact H) | (have H2_ := (Option.bind_some _ _).symm.trans H; rw [hy662]; with_reducible exact H2_) | (have H2_ := (Option.bind_some _ _).symm.trans H; with_reducible exact H2_) | with_reducible exact H | (rw [hy662]; exact H) | exact H
                        have Ny662 := Aside0.mk hy662
                        clear hy662
                        obtain ⟨y665, hy665⟩ : ∃ y_ : List (List Int), y_ = (x3_1.set ((rd l0 x4_1) : Int).toNat y662) := ⟨_, rfl⟩
                        replace H : (swageref07_Kids.l0 k1 l0 y665 (wrap64 (x4_1 + 1))) = some r := by first | (rw [hy665]; with_reducible exact H) | (have H2_ := (Option.bind_some _ _).symm.trans H; rw [hy665]; with_reducible exact H2_) | (have H2_ := (Option.bind_some _ _).symm.trans H; with_reducible exact H2_) | with_reducible exact H | (rw [hy665]; exact H) | exact H
                        have Ny665 := Aside0.mk hy665
                        clear hy665
                        have H' := Aside0.mk H
                        clear H
                        have p657 : 0 ≤ (x4_1 : Int) := of_decide_eq_true (by first | (with_reducible assumption) | assumption)
                        have q657 : x4_1 < (l0.length : Int) := of_decide_eq_true (by first | (with_reducible assumption) | assumption)
                        obtain ⟨ad657, e657, hx657_0⟩ := Kd.at_int HR0.out x4_1 p657 q657
                        cases e657
                        replace hx657_0 := (HB.out.cell (World.block_lt_of_cell? w _ hx657_0)).trans hx657_0
                        replace p657 := eq_true p657
                        replace q657 := eq_true q657
                        have p658 : 0 ≤ (x4_1 : Int) := of_decide_eq_true (by first | (with_reducible assumption) | assumption)
                        have q658 : x4_1 < (l0.length : Int) := of_decide_eq_true (by first | (with_reducible assumption) | assumption)
                        obtain ⟨ad658, e658, hx658_0⟩ := Kd.at_int HR0.out x4_1 p658 q658
                        obtain rfl : ad657 = ad658 := (by injection e658)
                        replace hx658_0 := (HB.out.cell (World.block_lt_of_cell? w _ hx658_0)).trans hx658_0
                        replace p658 := eq_true p658
                        replace q658 := eq_true q658
                        try go_wp2
                        have n0_ := Aside0.mk (Kd.S_drew HO_3.out)
                        have n1_ := Aside0.mk (below_drew1 HB.out)
                        clear HO_3
                        clear HB
                        have HO_3 := n0_
                        have HB := n1_
                        clear n0_ n1_
                        have p659 : 0 ≤ (x4_1 : Int) := of_decide_eq_true (by first | (with_reducible assumption) | assumption)
                        have q659 : x4_1 < (l0.length : Int) := of_decide_eq_true (by first | (with_reducible assumption) | assumption)
                        obtain ⟨ad659, e659, hx659_0⟩ := Kd.at_int HR0.out x4_1 p659 q659
                        have hw659_0 := hx659_0
                        obtain rfl : ad657 = ad659 := (by injection e659)
                        replace hx659_0 := (HB.out.cell (World.block_lt_of_cell? w _ hx659_0)).trans hx659_0
                        replace p659 := eq_true p659
                        replace q659 := eq_true q659
                        have p660 : 0 ≤ (x4_1 : Int) := of_decide_eq_true (by first | (with_reducible assumption) | assumption)
                        have q660 : x4_1 < (l0.length : Int) := of_decide_eq_true (by first | (with_reducible assumption) | assumption)
                        obtain ⟨ad660, e660, hx660_0⟩ := Kd.at_int HR0.out x4_1 p660 q660
                        have hw660_0 := hx660_0
                        obtain rfl : ad657 = ad660 := (by injection e660)
                        replace hx660_0 := (HB.out.cell (World.block_lt_of_cell? w _ hx660_0)).trans hx660_0
                        replace p660 := eq_true p660
                        replace q660 := eq_true q660
                        obtain ⟨Ao15, co15, eo15⟩ := Kd.S_slice HO_3.out
                        (first | subst eo15 | (injection eo15 with f1_ f2_ f3_; have f4_ := f1_.symm; have f5_ := f3_.symm; clear f1_ f2_ f3_; subst f4_; subst f5_))
                        have p661 : 0 ≤ ((rd l0 x4_1) : Int) := of_decide_eq_true (by first | (with_reducible assumption) | assumption)
                        have q661 : (rd l0 x4_1) < (x3_1.length : Int) := of_decide_eq_true (by first | (with_reducible assumption) | assumption)
                        obtain ⟨ad661, A661_0, c661_0, e661, hx661_0, hl661_0, hi661_0⟩ := at_L1 (Kd.S_reads' HO_3.out).2.2 (rd l0 x4_1) p661 q661
                        cases e661
                        obtain ⟨ce661, hce661, hMe661, hcc661⟩ := Kd.S_get HO_3.out [] (rd l0 x4_1) p661 (by first | exact q661 | exact of_decide_eq_true (by first | (with_reducible assumption) | assumption) | (have e_ := (Kd.S_reads' HO_3.out).1; omega))
                        obtain ⟨ve661_0, rfl, ge661_0⟩ := hMe661
                        have hv661_0 := hcc661 0 _ rfl
                        rw [Nat.add_zero, show ((Kd.slice 3 (Kd.int .i64))).sz = 1 from rfl, Nat.mul_one] at hv661_0
                        replace hv661_0 := Option.some.inj (hv661_0.symm.trans hx661_0)
                        rw [hv661_0] at ge661_0
                        have HL661_0 := Aside0.mk (show Kd.R (Kd.int .i64) 3 _ _ _ _ (rd_L1 x3_1 (rd l0 x4_1)) from ge661_0)
                        clear hv661_0 ge661_0
                        have HX661_0 := Aside0.mk hx661_0
                        clear hcc661 hce661
                        have HR661_0 := Aside0.mk hi661_0
                        have HC661_0 := Aside0.mk hl661_0
                        clear hi661_0 hl661_0
                        replace p661 := eq_true p661
                        replace q661 := eq_true q661
                        obtain ⟨go16, co16, eo16, gb16, gl16, cl16, HG16⟩ := Kd.S_form HO_3.out (by have h_ : ((rd l0 x4_1) : Int) < ((x3_1.length : Int) : Int) := of_decide_eq_true (by first | (with_reducible assumption) | assumption); have h2_ : 0 ≤ ((rd l0 x4_1) : Int) := (of_decide_eq_true (by first | (with_reducible assumption) | assumption)); omega)
                        (first | cases eo16 | (injection eo16 with ea_ en_ ec_; (first | subst ea_ | (injection ea_ with ea_; subst ea_)); subst ec_; clear en_))
                        have GB16 := Aside0.mk gb16
                        have GG16 := Aside0.mk HG16
                        clear gb16 gl16 HG16
                        (first | simp only [add_plain] at hx661_0 | skip)
                        obtain ⟨oki16, ce16, hcl16, hM16, hcc16, _, _, hH16⟩ := Kd.S_elem HO_3.out [] ((rd l0 x4_1) : Int) (of_decide_eq_true (by first | (with_reducible assumption) | assumption)) (by have h_ : ((rd l0 x4_1) : Int) < ((x3_1.length : Int) : Int) := of_decide_eq_true (by first | (with_reducible assumption) | assumption); first | exact h_ | (have e_ := (Kd.S_reads' HO_3.out).1; omega) | simpa using h_)
                        obtain ⟨ve16_0, rfl, ge16_0⟩ := hM16
                        have hv16 := hcc16 0 _ rfl
                        have hX16 := HX661_0.out
                        (try simp only [add_plain] at hX16)
                        (try simp only [Nat.add_zero] at hv16)
                        (try rw [show ((Kd.slice 3 (Kd.int .i64))).sz = 1 from rfl, Nat.mul_one] at hv16)
                        replace hv16 := Option.some.inj (hv16.symm.trans hX16)
                        subst hv16
                        clear hX16 hcc16 hcl16
                        have UU16 := Aside0.mk (show Kd.R (Kd.int .i64) 3 _ w.heap.size oki16 (.slice A661_0 (rd_L1 x3_1 (rd l0 x4_1)).length c661_0) (rd_L1 x3_1 (rd l0 x4_1)) from ge16_0)
                        have HH16 := Aside0.mk hH16
                        have HN16 := Aside0.mk (Kd.S_reads' HO_3.out).1
                        clear hH16 ge16_0
                        refine start_ (n := 17) (S := fun w' => w'.cell? (ad657.add (x4_1).toNat) = some (.int .i64 (rd l0 x4_1)) ∧ w'.cell? (ad657.add (x4_1).toNat) = some (.int .i64 (rd l0 x4_1)) ∧ w'.cell? ⟨go16, ((rd l0 x4_1)).toNat, none⟩ = some (.slice A661_0 (rd_L1 x3_1 (rd l0 x4_1)).length c661_0)) (ds := [16]) #[false, false, false, false, false, false, false, false, false, false, false, false, false, false, false, false, false] (by kernel_rfl) rfl rfl ⟨((HB.out.cell (World.block_lt_of_cell? w _ hw659_0)).trans hw659_0), ((HB.out.cell (World.block_lt_of_cell? w _ hw660_0)).trans hw660_0), hx661_0⟩ (fun hHeld => ?_); refine with_tabW swageref07_Kids.tab6 swageref07_Kids.bits6 (fun HT_ HW_ => ?_)
                        generalize wr.drew = w14 at HO_3 HB GG16 HH16 HL661_0 HR661_0 HX661_0 UU16 hx659_0 hx660_0 hx661_0 hHeld ⊢
                        refine pure_ (i := 0) (N := some 28) (v := ?_) (a' := ?_) #[true, false, false, false, false, false, false, false, false, false, false, false, false, false, false, false, false] rfl rfl (any_of HT_.out (by kernel_rfl)) (fun _ _ _ h => h) (Or.inl ⟨by rfl, ?_⟩) ?_ ?_
                        rotate_left
                        · intro w'
                          go_simp
                          with_reducible rfl
                        rotate_left
                        · simp only [Act.put, List.setIfInBounds_toArray, List.set_cons_zero, List.set_cons_succ, i64_w, i32_w]
                          rfl
                        refine pure_ (i := 1) (N := some 29) (v := ?_) (a' := ?_) #[true, true, false, false, false, false, false, false, false, false, false, false, false, false, false, false, false] rfl rfl (any_of HT_.out (by kernel_rfl)) (fun _ _ _ h => h) (Or.inl ⟨by rfl, ?_⟩) ?_ ?_
                        rotate_left
                        · intro w'
                          go_simp
                          with_reducible rfl
                        rotate_left
                        · simp only [Act.put, List.setIfInBounds_toArray, List.set_cons_zero, List.set_cons_succ, i64_w, i32_w]
                          rfl
                        refine pure_ (i := 2) (N := some 30) (v := ?_) (a' := ?_) #[true, true, true, false, false, false, false, false, false, false, false, false, false, false, false, false, false] rfl rfl (any_of HT_.out (by kernel_rfl)) (fun _ _ _ h => h) (Or.inl ⟨by rfl, ?_⟩) ?_ ?_
                        rotate_left
                        · intro w'
                          go_simp
                          with_reducible rfl
                        rotate_left
                        · simp only [Act.put, List.setIfInBounds_toArray, List.set_cons_zero, List.set_cons_succ, i64_w, i32_w]
                          rfl
                        refine pure_ (i := 3) (N := some 31) (v := ?_) (a' := ?_) #[true, true, true, true, false, false, false, false, false, false, false, false, false, false, false, false, false] rfl rfl (any_of HT_.out (by kernel_rfl)) (fun _ _ _ h => h) (Or.inl ⟨by rfl, ?_⟩) ?_ ?_
                        rotate_left
                        · intro w'
                          go_simp
                          with_reducible rfl
                        rotate_left
                        · simp only [Act.put, List.setIfInBounds_toArray, List.set_cons_zero, List.set_cons_succ, i64_w, i32_w]
                          rfl
                        refine pure_ (i := 5) (N := some 33) (v := ?_) (a' := ?_) #[true, true, true, true, false, true, false, false, false, false, false, false, false, false, false, false, false] rfl rfl (any_of HT_.out (by kernel_rfl)) (fun _ _ _ h => h) (Or.inl ⟨by rfl, ?_⟩) ?_ ?_
                        rotate_left
                        · intro w'
                          go_simp
                          with_reducible rfl
                        rotate_left
                        · simp only [Act.put, List.setIfInBounds_toArray, List.set_cons_zero, List.set_cons_succ, i64_w, i32_w]
                          rfl
                        refine pure_ (i := 6) (N := some 34) (v := ?_) (a' := ?_) #[true, true, true, true, false, true, true, false, false, false, false, false, false, false, false, false, false] rfl rfl (any_of HT_.out (by kernel_rfl)) (fun _ _ _ h => h) (Or.inl ⟨by rfl, ?_⟩) ?_ ?_
                        rotate_left
                        · intro w'
                          go_simp
                          with_reducible rfl
                        rotate_left
                        · simp only [Act.put, List.setIfInBounds_toArray, List.set_cons_zero, List.set_cons_succ, i64_w, i32_w]
                          rfl
                        refine pure_ (i := 7) (N := some 35) (v := ?_) (a' := ?_) #[true, true, true, true, false, true, true, true, false, false, false, false, false, false, false, false, false] rfl rfl (any_of HT_.out (by kernel_rfl)) (fun _ _ _ h => h) (Or.inl ⟨by rfl, ?_⟩) ?_ ?_
                        rotate_left
                        · intro w'
                          go_simp
                          with_reducible rfl
                        rotate_left
                        · simp only [Act.put, List.setIfInBounds_toArray, List.set_cons_zero, List.set_cons_succ, i64_w, i32_w]
                          rfl
                        refine pure_ (i := 8) (N := some 36) (v := ?_) (a' := ?_) #[true, true, true, true, false, true, true, true, true, false, false, false, false, false, false, false, false] rfl rfl (any_of HT_.out (by kernel_rfl)) (fun _ _ _ h => h) (Or.inl ⟨by rfl, ?_⟩) ?_ ?_
                        rotate_left
                        · intro w'
                          go_simp
                          with_reducible rfl
                        rotate_left
                        · simp only [Act.put, List.setIfInBounds_toArray, List.set_cons_zero, List.set_cons_succ, i64_w, i32_w]
                          rfl
                        refine pure_ (i := 12) (N := some 40) (v := ?_) (a' := ?_) #[true, true, true, true, false, true, true, true, true, false, false, false, true, false, false, false, false] rfl rfl (any_of HT_.out (by kernel_rfl)) (fun _ _ _ h => h) (Or.inl ⟨by rfl, ?_⟩) ?_ ?_
                        rotate_left
                        · intro w'
                          go_simp
                          with_reducible rfl
                        rotate_left
                        · simp only [Act.put, List.setIfInBounds_toArray, List.set_cons_zero, List.set_cons_succ, i64_w, i32_w]
                          rfl
                        refine take_ (i := 4) (N := some 32) (v := ?_) (a' := ?_) #[true, true, true, true, true, true, true, true, true, false, false, false, true, false, false, false, false] rfl rfl (take_ofW HT_.out HW_.out (by kernel_rfl)) (fun _ _ _ h => h) (Or.inl ⟨by rfl, ?_⟩) hHeld ?_ ?_
                        rotate_left
                        · rintro w' ⟨s0, s1, s2⟩
                          go_simp
                          with_reducible rfl
                        rotate_left
                        · simp only [Act.put, List.setIfInBounds_toArray, List.set_cons_zero, List.set_cons_succ, i64_w, i32_w]
                          rfl
                        refine take_ (i := 9) (N := some 37) (v := ?_) (a' := ?_) #[true, true, true, true, true, true, true, true, true, true, false, false, true, false, false, false, false] rfl rfl (take_ofW HT_.out HW_.out (by kernel_rfl)) (fun _ _ _ h => h) (Or.inl ⟨by rfl, ?_⟩) hHeld ?_ ?_
                        rotate_left
                        · rintro w' ⟨s0, s1, s2⟩
                          go_simp
                          with_reducible rfl
                        rotate_left
                        · simp only [Act.put, List.setIfInBounds_toArray, List.set_cons_zero, List.set_cons_succ, i64_w, i32_w]
                          rfl
                        refine pure_ (i := 10) (N := some 38) (v := ?_) (a' := ?_) #[true, true, true, true, true, true, true, true, true, true, true, false, true, false, false, false, false] rfl rfl (any_of HT_.out (by kernel_rfl)) (fun _ _ _ h => h) (Or.inl ⟨by rfl, ?_⟩) ?_ ?_
                        rotate_left
                        · intro w'
                          go_simp
                          with_reducible rfl
                        rotate_left
                        · simp only [Act.put, List.setIfInBounds_toArray, List.set_cons_zero, List.set_cons_succ, i64_w, i32_w]
                          rfl
                        refine take_ (i := 11) (N := some 39) (v := ?_) (a' := ?_) #[true, true, true, true, true, true, true, true, true, true, true, true, true, false, false, false, false] rfl rfl (take_ofW HT_.out HW_.out (by kernel_rfl)) (fun _ _ _ h => h) (Or.inl ⟨by rfl, ?_⟩) hHeld ?_ ?_
                        rotate_left
                        · rintro w' ⟨s0, s1, s2⟩
                          go_simp
                          with_reducible rfl
                        rotate_left
                        · simp only [Act.put, List.setIfInBounds_toArray, List.set_cons_zero, List.set_cons_succ, i64_w, i32_w]
                          rfl
                        refine one_ (i := 13) (N := some 41) #[true, true, true, true, true, true, true, true, true, true, true, true, true, true, false, false, false] rfl rfl (one_of HT_.out (by kernel_rfl)) (by decide) (fun K hK => ?_)
                        refine value_ (w1 := ?_) (v := ?_) (by rfl) rfl ?_ ?_
                        rotate_left 2
                        · go_simp
                          constructor
                          · rfl
                          · rfl
                        refine hK.out _ _ ⟨(World.cell?_alloc_lt _ _ _ (World.block_lt_of_cell? _ _ (((HB.out.cell (World.block_lt_of_cell? w _ hw659_0)).trans hw659_0)))).trans (((HB.out.cell (World.block_lt_of_cell? w _ hw659_0)).trans hw659_0)), (World.cell?_alloc_lt _ _ _ (World.block_lt_of_cell? _ _ (((HB.out.cell (World.block_lt_of_cell? w _ hw660_0)).trans hw660_0)))).trans (((HB.out.cell (World.block_lt_of_cell? w _ hw660_0)).trans hw660_0)), (World.cell?_alloc_lt _ _ _ (World.block_lt_of_cell? _ _ (hHeld.2.2))).trans (hHeld.2.2)⟩ (fun hHeld => ?_)
                        clear hK K
                        refine norm_ (a' := ?_) ?_ ?_
                        rotate_left
                        · show Act.put _ (some 41) _ = _
                          simp only [Act.put, List.setIfInBounds_toArray, List.set_cons_zero, List.set_cons_succ, i64_w, i32_w]
                          rfl
                        refine one_ (i := 14) (N := some 42) #[true, true, true, true, true, true, true, true, true, true, true, true, true, true, true, false, false] rfl rfl (one_of HT_.out (by kernel_rfl)) (by decide) (fun K hK => ?_)
                        refine Kd.R_append_step (Kd.int .i64) (w0 := w) w.heap.size (by rfl) (.tmp 39) (.tmp 41) 27 3 (.int .i64 0) 8 rfl Try.underlying27 info3 rfl (by decide) (by omega) (.slice A661_0 (rd_L1 x3_1 (rd l0 x4_1)).length c661_0) (rd_L1 x3_1 (rd l0 x4_1)) x4_1 [.int .i64 x4_1] (fun k_ => oki16 k_ ∨ ((fun _ => True)) k_ ∧ w14.heap.size ≤ k_) (fun _ => False) rfl rfl ?aP (fun _ hk => hk.elim) ?aF ?aO ?aB ?aS ?aL ?_
                        (case aP => exact rfl)
                        (case aB => exact (by repeat (first | (with_reducible first | exact HB.out | apply below_alloc | apply pw_below_drewN | apply below_drew1) | exact HB.out)))
                        (case aF => exact (fun k_ hk => .inr ⟨trivial, hk⟩))
                        (case aO => exact (by (with_reducible repeat (first | apply Kd.R_alloc | apply Kd.R_drewN | apply Kd.R_drew)); exact Kd.R_mono UU16.out (fun _ hk => .inl hk)))
                        (case aS => exact (below_size (by repeat (first | (with_reducible first | exact HB.out | apply below_alloc | apply pw_below_drewN | apply below_drew1) | exact HB.out))))
                        (case aL => have := LMc12.out; omega)
                        intro v663 w17 ho hb hg hat
                        (first | have HS2_ := cell_grown hg (hHeld.2.2) (by first | (rw [add_block]; exact (fun e_ => ((HL661_0.out.1 _ e_.symm).2) rfl)) | (show some (Addr.add _ _).block ≠ _; rw [add_block]; exact (fun e_ => ((HL661_0.out.1 _ e_.symm).2) rfl)) | exact (fun e_ => ((HL661_0.out.1 _ e_.symm).2) rfl)) | have HS2_ := cell_grown hg (cell_unalloc (hHeld.2.2) (by first | (rw [add_block]; exact Kd.S_lt HO_3.out _ rfl) | (show (Addr.add _ _).block < _; rw [add_block]; exact Kd.S_lt HO_3.out _ rfl) | exact Kd.S_lt HO_3.out _ rfl)) (by first | (rw [add_block]; exact (fun e_ => ((HL661_0.out.1 _ e_.symm).2) rfl)) | (show some (Addr.add _ _).block ≠ _; rw [add_block]; exact (fun e_ => ((HL661_0.out.1 _ e_.symm).2) rfl)) | exact (fun e_ => ((HL661_0.out.1 _ e_.symm).2) rfl)))
                        rw [← Ny662.out] at ho
                        have n0_ := Aside0.mk (hb)
                        have n1_ := Aside0.mk (Kd.H_grown (Kd.H_widen (by repeat (first | exact HH16.out | refine Kd.H_alloc ?_ _ | refine Kd.H_drewN ?_ _ | refine Kd.H_drew ?_))) hg (fun k_ e_ => .inl (UU16.out.1 k_ e_)))
                        have n2_ := Aside0.mk (ho)
                        clear HB
                        clear HH16
                        clear HO_3
                        clear UU16
                        clear HL661_0
                        have HB := n0_
                        have HH16 := n1_
                        have HO664 := n2_
                        clear n0_ n1_ n2_
                        clear ho hb hg hat
                        have p13 : 0 ≤ ((rd l0 x4_1) : Int) := of_decide_eq_true (by first | (with_reducible assumption) | assumption)
                        have q13 : ((rd l0 x4_1) : Int) < ((x3_1.length : Int) : Int) := of_decide_eq_true (by first | (with_reducible assumption) | assumption)
                        replace p13 := eq_true p13
                        replace q13 := eq_true q13
                        obtain ⟨Ao20, co20, eo20⟩ := Kd.R_slice HO664.out
                        (first | subst eo20 | (injection eo20 with f1_ f2_ f3_; have f4_ := f1_.symm; have f5_ := f3_.symm; clear f1_ f2_ f3_; subst f4_; subst f5_))
                        obtain ⟨_, _, hraw18, _, _, hcc18, _⟩ := Kd.H_raw HH16.out (of_decide_eq_true (by first | (with_reducible assumption) | assumption)) (by have h_ : ((rd l0 x4_1) : Int) < ((x3_1.length : Int) : Int) := of_decide_eq_true (by first | (with_reducible assumption) | assumption); first | exact h_ | (have e_ := (HN16.out); omega) | simpa using h_)
                        obtain ⟨_, hfr18⟩ := Kd.H_at HH16.out (of_decide_eq_true (by first | (with_reducible assumption) | assumption)) (by have h_ : ((rd l0 x4_1) : Int) < ((x3_1.length : Int) : Int) := of_decide_eq_true (by first | (with_reducible assumption) | assumption); first | exact h_ | (have e_ := (HN16.out); omega) | simpa using h_)
                        have hx18_0 := hcc18 0 _ rfl
                        have hf18_0 := hfr18 0
                        (try simp only [Nat.add_zero] at hx18_0 hf18_0)
                        (try rw [show ((Kd.slice 3 (Kd.int .i64))).sz = 1 from rfl, Nat.mul_one] at hx18_0)
                        (try rw [show ((Kd.slice 3 (Kd.int .i64))).sz = 1 from rfl, Nat.mul_one] at hf18_0)
                        have HP18 := Kd.S_seg0 HH16.out (of_decide_eq_true (by first | (with_reducible assumption) | assumption)) (by have h_ : ((rd l0 x4_1) : Int) < ((x3_1.length : Int) : Int) := of_decide_eq_true (by first | (with_reducible assumption) | assumption); first | exact h_ | (have e_ := (HN16.out); omega) | simpa using h_) (seg := [.slice Ao20 y662.length co20]) (j := 0) (show 1 ≤ 1 from by decide) (x' := y662) (Kd.M_row HO664.out) (fun _ hk => hk)
                        (try simp only [show ((Kd.slice 3 (Kd.int .i64))).sz = 1 from rfl, Nat.mul_one, Nat.add_zero] at HP18)
                        clear hcc18 hfr18
                        have HS18 := HP18.1
                        rw [← Ny665.out] at HS18
                        have HQ18 := Aside0.mk HS18
                        obtain ⟨_, hgg18⟩ := Kd.R_typed hraw18 go16 rfl
                        have GG18_ := Aside0.mk hgg18
                        clear HP18 HS18 hgg18
                        refine hK.out _ _ ⟨((HB.out.cell (World.block_lt_of_cell? w _ hw659_0)).trans hw659_0), ((HB.out.cell (World.block_lt_of_cell? w _ hw660_0)).trans hw660_0), HS2_⟩ (fun hHeld => ?_)
                        clear hK K
                        refine norm_ (a' := ?_) ?_ ?_
                        rotate_left
                        · show Act.put _ (some 42) _ = _
                          simp only [Act.put, List.setIfInBounds_toArray, List.set_cons_zero, List.set_cons_succ, i64_w, i32_w]
                          rfl
                        refine pure_ (i := 15) (N := some 43) (v := ?_) (a' := ?_) #[true, true, true, true, true, true, true, true, true, true, true, true, true, true, true, true, false] rfl rfl (any_of HT_.out (by kernel_rfl)) (fun _ _ _ h => h) (Or.inl ⟨by rfl, ?_⟩) ?_ ?_
                        rotate_left
                        · intro w'
                          go_simp
                          with_reducible rfl
                        rotate_left
                        · simp only [Act.put, List.setIfInBounds_toArray, List.set_cons_zero, List.set_cons_succ, i64_w, i32_w]
                          rfl
                        refine last_ (i := 16) (N := none) #[true, true, true, true, true, true, true, true, true, true, true, true, true, true, true, true, true] rfl rfl (one_of HT_.out (by kernel_rfl)) (by decide) (fun K hK => ?_)
                        refine skip_ (w1 := ?_) (by rfl) rfl ?_ ?_
                        rotate_left
                        · go_simp
                          rfl
                        refine hK.out _ _ ?_
                        clear hK K
                        refine done_ (done_of HT_.out (by kernel_rfl)) ?_
                        try go_wp2
                        go_roundg k1
                        case measure => have := HK1.out; omega
                        case rel => exact ⟨(y665), (wrap64 (x4_1 + 1)), (by first | rfl | (simp; done) | (simp [*]; done)), H', ⟨by have := HK1.out; omega⟩, ⟨by (with_reducible repeat (first | apply Kd.S_alloc | apply Kd.S_drewN | apply Kd.S_drew)); exact HQ18.out⟩, ⟨by repeat (first | (with_reducible first | exact HB.out | apply below_alloc | apply pw_below_drewN | apply below_drew1 | refine below_set ?_ GB16.out) | exact HB.out)⟩⟩
                      · rw [if_neg c12] at H
                        exact absurd H (by simp)
                    · rw [if_neg c11] at H
                      exact absurd H (by simp)
                  · rw [if_neg c10] at H
                    exact absurd H (by simp)
                · rw [if_neg c9] at H
                  have c9b0 : decide ((rd l0 x4_1) < (l0.length : Int)) = false := decide_eq_false c9
                  clear c9
                  have H' := Aside0.mk H
                  clear H
                  have p657 : 0 ≤ (x4_1 : Int) := of_decide_eq_true (by first | (with_reducible assumption) | assumption)
                  have q657 : x4_1 < (l0.length : Int) := of_decide_eq_true (by first | (with_reducible assumption) | assumption)
                  obtain ⟨ad657, e657, hx657_0⟩ := Kd.at_int HR0.out x4_1 p657 q657
                  cases e657
                  replace hx657_0 := (HB.out.cell (World.block_lt_of_cell? w _ hx657_0)).trans hx657_0
                  replace p657 := eq_true p657
                  replace q657 := eq_true q657
                  have p658 : 0 ≤ (x4_1 : Int) := of_decide_eq_true (by first | (with_reducible assumption) | assumption)
                  have q658 : x4_1 < (l0.length : Int) := of_decide_eq_true (by first | (with_reducible assumption) | assumption)
                  obtain ⟨ad658, e658, hx658_0⟩ := Kd.at_int HR0.out x4_1 p658 q658
                  obtain rfl : ad657 = ad658 := (by injection e658)
                  replace hx658_0 := (HB.out.cell (World.block_lt_of_cell? w _ hx658_0)).trans hx658_0
                  replace p658 := eq_true p658
                  replace q658 := eq_true q658
                  go_wp2
                  go_roundg k1
                  case measure => have := HK1.out; omega
                  case rel => exact ⟨(x3_1), (wrap64 (x4_1 + 1)), (by first | rfl | (simp; done) | (simp [*]; done)), H', ⟨by have := HK1.out; omega⟩, ⟨by (with_reducible repeat (first | apply Kd.S_alloc | apply Kd.S_drewN | apply Kd.S_drew)); exact HO_3.out⟩, ⟨by repeat (first | (with_reducible first | exact HB.out | apply below_alloc | apply pw_below_drewN | apply below_drew1) | exact HB.out)⟩⟩
              · rw [if_neg c8] at H
                have c8b0 : decide (0 ≤ (rd l0 x4_1)) = false := decide_eq_false c8
                clear c8
                have H' := Aside0.mk H
                clear H
                have p657 : 0 ≤ (x4_1 : Int) := of_decide_eq_true (by first | (with_reducible assumption) | assumption)
                have q657 : x4_1 < (l0.length : Int) := of_decide_eq_true (by first | (with_reducible assumption) | assumption)
                obtain ⟨ad657, e657, hx657_0⟩ := Kd.at_int HR0.out x4_1 p657 q657
                cases e657
                replace hx657_0 := (HB.out.cell (World.block_lt_of_cell? w _ hx657_0)).trans hx657_0
                replace p657 := eq_true p657
                replace q657 := eq_true q657
                go_wp2
                go_roundg k1
                case measure => have := HK1.out; omega
                case rel => exact ⟨(x3_1), (wrap64 (x4_1 + 1)), (by first | rfl | (simp; done) | (simp [*]; done)), H', ⟨by have := HK1.out; omega⟩, ⟨by (with_reducible repeat (first | apply Kd.S_alloc | apply Kd.S_drewN | apply Kd.S_drew)); exact HO_3.out⟩, ⟨by repeat (first | (with_reducible first | exact HB.out | apply below_alloc | apply pw_below_drewN | apply below_drew1) | exact HB.out)⟩⟩
            · rw [if_neg c7] at H
              exact absurd H (by simp)
          · rw [if_neg c6] at H
            have c6b0 : decide (x4_1 < (l0.length : Int)) = false := decide_eq_false c6
            clear c6
            obtain rfl := Option.some.inj H
            go_wp2
            go_ret
            exact ⟨_, by first | rfl | (simp [errW_none, errW_some] <;> rfl) | (simp [*, errW_none, errW_some] <;> rfl), by (with_reducible repeat (first | apply Kd.S_alloc | apply Kd.S_drewN | apply Kd.S_drew)); exact HO_3.out, by repeat (first | (with_reducible first | exact HB.out | apply below_alloc | apply pw_below_drewN | apply below_drew1) | exact HB.out)⟩
    · rw [if_neg c3] at H
      exact absurd H (by simp)
  · rw [if_neg c2] at H
    exact absurd H (by simp)

end Go.Proofs.Ytkmbhknmjnbanaa.A


namespace Go.Proofs.Ytkmbhknmjnbanaa.A
open Go.RowKit Go.Proofs.YtkmbhknmjnbanaaW.PrintWords Go.Proofs.YtkmbhknmjnbanaaW.PrintLast Go.Proofs.YtkmbhknmjnbanaaW.PrintMore
attribute [local go_sem] max2_int min2_int max_two min_two max_three min_three max_four min_four   -- for this text's walks alone
set_option linter.unusedVariables false
set_option linter.unusedSimpArgs false

mutual
def swageref07_Depth.l0 : Nat → List Int → List Int → Int → Option (List Int)
  | 0, _, _, _ => none
  | k + 1, x0, x3, x4 => if x4 < (x0.length : Int) then (swageref07_Depth.l1 k x0 x3 x4 0 x4) else (some x3)
def swageref07_Depth.l1 : Nat → List Int → List Int → Int → Int → Int → Option (List Int)
  | 0, _, _, _, _, _ => none
  | k + 1, x0, x3, x4, x5, x6 => if x6 > 0 then (if x6 < (x0.length : Int) then (if x5 ≤ (x0.length : Int) then (if 0 ≤ x6 then (swageref07_Depth.l1 k x0 x3 x4 (wrap64 (x5 + 1)) (rd x0 x6)) else (none)) else (if x6 = 0 then (if x3.length < 17592186044416 then (swageref07_Depth.l0 k x0 (x3 ++ [x5]) (wrap64 (x4 + 1))) else (none)) else (if x3.length < 17592186044416 then (swageref07_Depth.l0 k x0 (x3 ++ [(-1)]) (wrap64 (x4 + 1))) else (none)))) else (if x6 = 0 then (if x3.length < 17592186044416 then (swageref07_Depth.l0 k x0 (x3 ++ [x5]) (wrap64 (x4 + 1))) else (none)) else (if x3.length < 17592186044416 then (swageref07_Depth.l0 k x0 (x3 ++ [(-1)]) (wrap64 (x4 + 1))) else (none)))) else (if x6 = 0 then (if x3.length < 17592186044416 then (swageref07_Depth.l0 k x0 (x3 ++ [x5]) (wrap64 (x4 + 1))) else (none)) else (if x3.length < 17592186044416 then (swageref07_Depth.l0 k x0 (x3 ++ [(-1)]) (wrap64 (x4 + 1))) else (none)))
end
def swageref07_Depth.f (k : Nat) (l0 : List Int) : Option (List Int) := swageref07_Depth.l0 k l0 ([] : List Int) 0
set_option maxHeartbeats 8000000 in
set_option maxRecDepth 100000 in
theorem swageref07_Depth.calls (k : Nat) (A0 : Option Addr) (c0 : Nat) (l0 : List Int) (r : List Int) (w : World) (hr0 : Kd.C (Kd.int .i64) w A0 l0.length l0) (hc0 : l0.length ≤ c0) (h : swageref07_Depth.f k l0 = some r) :
    Calls Try.prog 43 #[.slice A0 l0.length c0] w fun e w' => ∃ v0_ : Value, e = .returned (v0_) ∧ Kd.R (Kd.int .i64) 3 w' w.heap.size (fun _ => True) v0_ r ∧ Below w.heap.size w w' := by
  have HR0 := Aside0.mk hr0
  have HC0 := Aside0.mk hc0
  clear hr0 hc0
  have HB := Aside0.mk (Below.refl w.heap.size w)
  have H : (swageref07_Depth.l0 k l0 ([] : List Int) 0) = some r := h
  clear h
  have H' := Aside0.mk H
  clear H
  go_enter Try.func43, Try.ntmps43
  go_wp2
  go_loopg [3, 4] k (fun kq v3 v4 w' => ∃ (x3_1 : List Int) (x4_1 : Int), v4 = .int .i64 x4_1 ∧ Aside0 (swageref07_Depth.l0 kq l0 x3_1 x4_1 = some r) ∧ Aside0 (kq ≤ k) ∧ Aside0 (Kd.R (Kd.int .i64) 3 w' w.heap.size (fun _ => True) v3 x3_1) ∧ Aside0 (Below w.heap.size w w'))
  case atStart => exact ⟨(([] : List Int)), (0), (by first | rfl | (simp; done) | (simp [*]; done)), H', ⟨Nat.le_refl _⟩, ⟨by first | exact Kd.R_nil _ _ _ _ _ | exact Kd.N_nil _ _ _ _ _ | exact Kd.V_nil _ _ _ _ _ | exact Kd.Q_nil _ _ _ _ _ | exact Kd.S_nil _ _ _ _ _⟩, ⟨by repeat (first | (with_reducible first | exact HB.out | apply below_alloc | apply pw_below_drewN | apply below_drew1) | exact HB.out)⟩⟩
  case round =>
    clear H'
    obtain ⟨x3_1, x4_1, rfl, HA, HK1, HO_3, HB⟩ := hrel
    cases gk with
    | zero => exact absurd HA.out (by simp [swageref07_Depth.l0])
    | succ k1 =>
      have H := HA.out
      clear HA
      simp only [swageref07_Depth.l0] at H
      by_cases c2 : x4_1 < (l0.length : Int)
      · rw [if_pos c2] at H
        have c2b0 : decide (x4_1 < (l0.length : Int)) = true := decide_eq_true c2
        clear c2
        have H' := Aside0.mk H
        clear H
        go_wp2
        go_loopg [5, 6] k1 (fun kq v5 v6 w' => ∃ (x5_2 : Int) (x6_2 : Int), v5 = .int .i64 x5_2 ∧ v6 = .int .i64 x6_2 ∧ Aside0 (swageref07_Depth.l1 kq l0 x3_1 x4_1 x5_2 x6_2 = some r) ∧ Aside0 (kq ≤ k1) ∧ Aside0 (Kd.R (Kd.int .i64) 3 w' w.heap.size (fun _ => True) u3 x3_1) ∧ Aside0 (Below w.heap.size w w'))
        case atStart => exact ⟨(0), (x4_1), (by first | rfl | (simp; done) | (simp [*]; done)), (by first | rfl | (simp; done) | (simp [*]; done)), H', ⟨Nat.le_refl _⟩, ⟨by (with_reducible repeat (first | apply Kd.R_alloc | apply Kd.R_drewN | apply Kd.R_drew)); exact HO_3.out⟩, ⟨by repeat (first | (with_reducible first | exact HB.out | apply below_alloc | apply pw_below_drewN | apply below_drew1) | exact HB.out)⟩⟩
        case round =>
          clear H'
          try clear c2
          try clear c2b0
          try clear p2
          obtain ⟨x5_2, x6_2, rfl, rfl, HA, HK2, HO_3, HB⟩ := hrel
          cases gk with
          | zero => exact absurd HA.out (by simp [swageref07_Depth.l1])
          | succ k2 =>
            have H := HA.out
            clear HA
            simp only [swageref07_Depth.l1] at H
            by_cases c3 : x6_2 > 0
            · rw [if_pos c3] at H
              have c3b0 : decide (0 < x6_2) = true := decide_eq_true c3
              clear c3
              by_cases c4 : x6_2 < (l0.length : Int)
              · rw [if_pos c4] at H
                have c4b0 : decide (x6_2 < (l0.length : Int)) = true := decide_eq_true c4
                clear c4
                by_cases c5 : x5_2 ≤ (l0.length : Int)
                · rw [if_pos c5] at H
                  have c5b0 : decide (x5_2 ≤ (l0.length : Int)) = true := decide_eq_true c5
                  clear c5
                  by_cases c6 : 0 ≤ x6_2
                  · rw [if_pos c6] at H
                    have c6b0 : decide (0 ≤ x6_2) = true := decide_eq_true c6
                    clear c6
                    have H' := Aside0.mk H
                    clear H
                    have p666 : 0 ≤ (x6_2 : Int) := of_decide_eq_true (by first | (with_reducible assumption) | assumption)
                    have q666 : x6_2 < (l0.length : Int) := of_decide_eq_true (by first | (with_reducible assumption) | assumption)
                    obtain ⟨ad666, e666, hx666_0⟩ := Kd.at_int HR0.out x6_2 p666 q666
                    cases e666
                    replace hx666_0 := (HB.out.cell (World.block_lt_of_cell? w _ hx666_0)).trans hx666_0
                    replace p666 := eq_true p666
                    replace q666 := eq_true q666
                    go_wp2
                    go_roundg k2
                    case measure => have := HK1.out; have := HK2.out; omega
                    case rel => exact ⟨(wrap64 (x5_2 + 1)), (rd l0 x6_2), (by first | rfl | (simp; done) | (simp [*]; done)), (by first | rfl | (simp; done) | (simp [*]; done)), H', ⟨by have := HK1.out; have := HK2.out; omega⟩, ⟨by (with_reducible repeat (first | apply Kd.R_alloc | apply Kd.R_drewN | apply Kd.R_drew)); exact HO_3.out⟩, ⟨by repeat (first | (with_reducible first | exact HB.out | apply below_alloc | apply pw_below_drewN | apply below_drew1) | exact HB.out)⟩⟩
                  · rw [if_neg c6] at H
                    exact absurd H (by simp)
                · rw [if_neg c5] at H
                  have c5b0 : decide (x5_2 ≤ (l0.length : Int)) = false := decide_eq_false c5
                  clear c5
                  by_cases c7 : x6_2 = 0
                  · rw [if_pos c7] at H
                    have c7b0 : (x6_2 == 0) = true := beq_iff_eq.mpr c7
                    have c7b1 : (x6_2 != 0) = false := bne_eq_false_iff_eq.mpr c7
                    clear c7
                    by_cases c8 : x3_1.length < 17592186044416
                    · rw [if_pos c8] at H
                      have LMc8 := Aside0.mk c8
                      clear c8
                      obtain ⟨y667, hy667⟩ : ∃ y_ : List Int, y_ = (x3_1 ++ [x5_2]) := ⟨_, rfl⟩
                      replace H : (swageref07_Depth.l0 k2 l0 y667 (wrap64 (x4_1 + 1))) = some r := by first | (rw [hy667]; with_reducible exact H) | (have H2_ := (Option.bind_some _ _).symm.trans H; rw [hy667]; with_reducible exact H2_) | (have H2_ := (Option.bind_some _ _).symm.trans H; with_reducible exact H2_) | with_reducible exact H | (rw [hy667]; exact H) | exact H
                      have Ny667 := Aside0.mk hy667
                      clear hy667
                      have H' := Aside0.mk H
                      clear H
                      go_wp2_with (first | ((with_reducible refine gate_builtin (b := .append) (xs := #[.tmp 36, .tmp 38]) rfl ?_); (try (refine gate_guard (by rfl) ?_; dsimp only)); at_builtin; refine Kd.R_append (Kd.int .i64) (w0 := w) w.heap.size rfl (.tmp 36) (.tmp 38) 27 3 (.int .i64 0) 8 rfl Try.underlying27 info3 rfl (by decide) (by omega) u3 x3_1 x5_2 [.int .i64 x5_2] (fun _ => True) (fun _ => False) rfl rfl ?aP (fun _ hk => hk.elim) ?aF ?aO ?aB ?aS ?aL ?_; (case aP => exact rfl); (case aB => exact (by repeat (first | (with_reducible first | exact HB.out | apply below_alloc | apply pw_below_drewN | apply below_drew1) | exact HB.out))); (case aF => exact (fun _ _ => trivial)); (case aO => exact (by (with_reducible repeat (first | apply Kd.R_alloc | apply Kd.R_drewN | apply Kd.R_drew)); exact HO_3.out)); (case aS => exact (below_size (by repeat (first | (with_reducible first | exact HB.out | apply below_alloc | apply pw_below_drewN | apply below_drew1) | exact HB.out)))); (case aL => have := LMc8.out; omega); intro v668 w9 ho hb hg hat; rw [← Ny667.out] at ho; have n0_ := Aside0.mk (hb); have n1_ := Aside0.mk (ho); clear HB; clear HO_3; have HB := n0_; have HO669 := n1_; clear n0_ n1_; clear ho hb hg hat))
                      go_roundg k2
                      case measure => have := HK1.out; have := HK2.out; omega
                      case rel => exact ⟨(y667), (wrap64 (x4_1 + 1)), (by first | rfl | (simp; done) | (simp [*]; done)), H', ⟨by have := HK1.out; have := HK2.out; omega⟩, ⟨by (with_reducible repeat (first | apply Kd.R_alloc | apply Kd.R_drewN | apply Kd.R_drew)); exact HO669.out⟩, ⟨by repeat (first | (with_reducible first | exact HB.out | apply below_alloc | apply pw_below_drewN | apply below_drew1) | exact HB.out)⟩⟩
                    · rw [if_neg c8] at H
                      exact absurd H (by simp)
                  · rw [if_neg c7] at H
                    have c7b0 : (x6_2 == 0) = false := beq_eq_false_iff_ne.mpr c7
                    have c7b1 : (x6_2 != 0) = true := bne_iff_ne.mpr c7
                    by_cases c10 : x3_1.length < 17592186044416
                    · rw [if_pos c10] at H
                      have LMc10 := Aside0.mk c10
                      clear c10
                      obtain ⟨y670, hy670⟩ : ∃ y_ : List Int, y_ = (x3_1 ++ [(-1)]) := ⟨_, rfl⟩
                      replace H : (swageref07_Depth.l0 k2 l0 y670 (wrap64 (x4_1 + 1))) = some r := by first | (rw [hy670]; with_reducible exact H) | (have H2_ := (Option.bind_some _ _).symm.trans H; rw [hy670]; with_reducible exact H2_) | (have H2_ := (Option.bind_some _ _).symm.trans H; with_reducible exact H2_) | with_reducible exact H | (rw [hy670]; exact H) | exact H
                      have Ny670 := Aside0.mk hy670
                      clear hy670
                      have H' := Aside0.mk H
                      clear H
                      go_wp2_with (first | ((with_reducible refine gate_builtin (b := .append) (xs := #[.tmp 36, .tmp 38]) rfl ?_); (try (refine gate_guard (by rfl) ?_; dsimp only)); at_builtin; refine Kd.R_append (Kd.int .i64) (w0 := w) w.heap.size rfl (.tmp 36) (.tmp 38) 27 3 (.int .i64 0) 8 rfl Try.underlying27 info3 rfl (by decide) (by omega) u3 x3_1 (-1) [.int .i64 (-1)] (fun _ => True) (fun _ => False) rfl rfl ?aP (fun _ hk => hk.elim) ?aF ?aO ?aB ?aS ?aL ?_; (case aP => exact rfl); (case aB => exact (by repeat (first | (with_reducible first | exact HB.out | apply below_alloc | apply pw_below_drewN | apply below_drew1) | exact HB.out))); (case aF => exact (fun _ _ => trivial)); (case aO => exact (by (with_reducible repeat (first | apply Kd.R_alloc | apply Kd.R_drewN | apply Kd.R_drew)); exact HO_3.out)); (case aS => exact (below_size (by repeat (first | (with_reducible first | exact HB.out | apply below_alloc | apply pw_below_drewN | apply below_drew1) | exact HB.out)))); (case aL => have := LMc10.out; omega); intro v671 w11 ho hb hg hat; rw [← Ny670.out] at ho; have n0_ := Aside0.mk (hb); have n1_ := Aside0.mk (ho); clear HB; clear HO_3; have HB := n0_; have HO672 := n1_; clear n0_ n1_; clear ho hb hg hat))
                      go_roundg k2
                      case measure => have := HK1.out; have := HK2.out; omega
                      case rel => exact ⟨(y670), (wrap64 (x4_1 + 1)), (by first | rfl | (simp; done) | (simp [*]; done)), H', ⟨by have := HK1.out; have := HK2.out; omega⟩, ⟨by (with_reducible repeat (first | apply Kd.R_alloc | apply Kd.R_drewN | apply Kd.R_drew)); exact HO672.out⟩, ⟨by repeat (first | (with_reducible first | exact HB.out | apply below_alloc | apply pw_below_drewN | apply below_drew1) | exact HB.out)⟩⟩
                    · rw [if_neg c10] at H
                      exact absurd H (by simp)
              · rw [if_neg c4] at H
                have c4b0 : decide (x6_2 < (l0.length : Int)) = false := decide_eq_false c4
                clear c4
                by_cases c12 : x6_2 = 0
                · rw [if_pos c12] at H
                  have c12b0 : (x6_2 == 0) = true := beq_iff_eq.mpr c12
                  have c12b1 : (x6_2 != 0) = false := bne_eq_false_iff_eq.mpr c12
                  clear c12
                  by_cases c13 : x3_1.length < 17592186044416
                  · rw [if_pos c13] at H
                    have LMc13 := Aside0.mk c13
                    clear c13
                    obtain ⟨y673, hy673⟩ : ∃ y_ : List Int, y_ = (x3_1 ++ [x5_2]) := ⟨_, rfl⟩
                    replace H : (swageref07_Depth.l0 k2 l0 y673 (wrap64 (x4_1 + 1))) = some r := by first | (rw [hy673]; with_reducible exact H) | (have H2_ := (Option.bind_some _ _).symm.trans H; rw [hy673]; with_reducible exact H2_) | (have H2_ := (Option.bind_some _ _).symm.trans H; with_reducible exact H2_) | with_reducible exact H | (rw [hy673]; exact H) | exact H
                    have Ny673 := Aside0.mk hy673
                    clear hy673
                    have H' := Aside0.mk H
                    clear H
                    go_wp2_with (first | ((with_reducible refine gate_builtin (b := .append) (xs := #[.tmp 36, .tmp 38]) rfl ?_); (try (refine gate_guard (by rfl) ?_; dsimp only)); at_builtin; refine Kd.R_append (Kd.int .i64) (w0 := w) w.heap.size rfl (.tmp 36) (.tmp 38) 27 3 (.int .i64 0) 8 rfl Try.underlying27 info3 rfl (by decide) (by omega) u3 x3_1 x5_2 [.int .i64 x5_2] (fun _ => True) (fun _ => False) rfl rfl ?aP (fun _ hk => hk.elim) ?aF ?aO ?aB ?aS ?aL ?_; (case aP => exact rfl); (case aB => exact (by repeat (first | (with_reducible first | exact HB.out | apply below_alloc | apply pw_below_drewN | apply below_drew1) | exact HB.out))); (case aF => exact (fun _ _ => trivial)); (case aO => exact (by (with_reducible repeat (first | apply Kd.R_alloc | apply Kd.R_drewN | apply Kd.R_drew)); exact HO_3.out)); (case aS => exact (below_size (by repeat (first | (with_reducible first | exact HB.out | apply below_alloc | apply pw_below_drewN | apply below_drew1) | exact HB.out)))); (case aL => have := LMc13.out; omega); intro v674 w14 ho hb hg hat; rw [← Ny673.out] at ho; have n0_ := Aside0.mk (hb); have n1_ := Aside0.mk (ho); clear HB; clear HO_3; have HB := n0_; have HO675 := n1_; clear n0_ n1_; clear ho hb hg hat))
                    go_roundg k2
                    case measure => have := HK1.out; have := HK2.out; omega
                    case rel => exact ⟨(y673), (wrap64 (x4_1 + 1)), (by first | rfl | (simp; done) | (simp [*]; done)), H', ⟨by have := HK1.out; have := HK2.out; omega⟩, ⟨by (with_reducible repeat (first | apply Kd.R_alloc | apply Kd.R_drewN | apply Kd.R_drew)); exact HO675.out⟩, ⟨by repeat (first | (with_reducible first | exact HB.out | apply below_alloc | apply pw_below_drewN | apply below_drew1) | exact HB.out)⟩⟩
                  · rw [if_neg c13] at H
                    exact absurd H (by simp)
                · rw [if_neg c12] at H
                  have c12b0 : (x6_2 == 0) = false := beq_eq_false_iff_ne.mpr c12
                  have c12b1 : (x6_2 != 0) = true := bne_iff_ne.mpr c12
                  by_cases c15 : x3_1.length < 17592186044416
                  · rw [if_pos c15] at H
                    have LMc15 := Aside0.mk c15
                    clear c15
                    obtain ⟨y676, hy676⟩ : ∃ y_ : List Int, y_ = (x3_1 ++ [(-1)]) := ⟨_, rfl⟩
                    replace H : (swageref07_Depth.l0 k2 l0 y676 (wrap64 (x4_1 + 1))) = some r := by first | (rw [hy676]; with_reducible exact H) | (have H2_ := (Option.bind_some _ _).symm.trans H; rw [hy676]; with_reducible exact H2_) | (have H2_ := (Option.bind_some _ _).symm.trans H; with_reducible exact H2_) | with_reducible exact H | (rw [hy676]; exact H) | exact H
                    have Ny676 := Aside0.mk hy676
                    clear hy676
                    have H' := Aside0.mk H
                    clear H
                    go_wp2_with (first | ((with_reducible refine gate_builtin (b := .append) (xs := #[.tmp 36, .tmp 38]) rfl ?_); (try (refine gate_guard (by rfl) ?_; dsimp only)); at_builtin; refine Kd.R_append (Kd.int .i64) (w0 := w) w.heap.size rfl (.tmp 36) (.tmp 38) 27 3 (.int .i64 0) 8 rfl Try.underlying27 info3 rfl (by decide) (by omega) u3 x3_1 (-1) [.int .i64 (-1)] (fun _ => True) (fun _ => False) rfl rfl ?aP (fun _ hk => hk.elim) ?aF ?aO ?aB ?aS ?aL ?_; (case aP => exact rfl); (case aB => exact (by repeat (first | (with_reducible first | exact HB.out | apply below_alloc | apply pw_below_drewN | apply below_drew1) | exact HB.out))); (case aF => exact (fun _ _ => trivial)); (case aO => exact (by (with_reducible repeat (first | apply Kd.R_alloc | apply Kd.R_drewN | apply Kd.R_drew)); exact HO_3.out)); (case aS => exact (below_size (by repeat (first | (with_reducible first | exact HB.out | apply below_alloc | apply pw_below_drewN | apply below_drew1) | exact HB.out)))); (case aL => have := LMc15.out; omega); intro v677 w16 ho hb hg hat; rw [← Ny676.out] at ho; have n0_ := Aside0.mk (hb); have n1_ := Aside0.mk (ho); clear HB; clear HO_3; have HB := n0_; have HO678 := n1_; clear n0_ n1_; clear ho hb hg hat))
                    go_roundg k2
                    case measure => have := HK1.out; have := HK2.out; omega
                    case rel => exact ⟨(y676), (wrap64 (x4_1 + 1)), (by first | rfl | (simp; done) | (simp [*]; done)), H', ⟨by have := HK1.out; have := HK2.out; omega⟩, ⟨by (with_reducible repeat (first | apply Kd.R_alloc | apply Kd.R_drewN | apply Kd.R_drew)); exact HO678.out⟩, ⟨by repeat (first | (with_reducible first | exact HB.out | apply below_alloc | apply pw_below_drewN | apply below_drew1) | exact HB.out)⟩⟩
                  · rw [if_neg c15] at H
                    exact absurd H (by simp)
            · rw [if_neg c3] at H
              have c3b0 : decide (0 < x6_2) = false := decide_eq_false c3
              clear c3
              by_cases c17 : x6_2 = 0
              · rw [if_pos c17] at H
                have c17b0 : (x6_2 == 0) = true := beq_iff_eq.mpr c17
                have c17b1 : (x6_2 != 0) = false := bne_eq_false_iff_eq.mpr c17
                clear c17
                by_cases c18 : x3_1.length < 17592186044416
                · rw [if_pos c18] at H
                  have LMc18 := Aside0.mk c18
                  clear c18
                  obtain ⟨y679, hy679⟩ : ∃ y_ : List Int, y_ = (x3_1 ++ [x5_2]) := ⟨_, rfl⟩
                  replace H : (swageref07_Depth.l0 k2 l0 y679 (wrap64 (x4_1 + 1))) = some r := by first | (rw [hy679]; with_reducible exact H) | (have H2_ := (Option.bind_some _ _).symm.trans H; rw [hy679]; with_reducible exact H2_) | (have H2_ := (Option.bind_some _ _).symm.trans H; with_reducible exact H2_) | with_reducible exact H | (rw [hy679]; exact H) | exact H
                  have Ny679 := Aside0.mk hy679
                  clear hy679
                  have H' := Aside0.mk H
                  clear H
                  go_wp2_with (first | ((with_reducible refine gate_builtin (b := .append) (xs := #[.tmp 36, .tmp 38]) rfl ?_); (try (refine gate_guard (by rfl) ?_; dsimp only)); at_builtin; refine Kd.R_append (Kd.int .i64) (w0 := w) w.heap.size rfl (.tmp 36) (.tmp 38) 27 3 (.int .i64 0) 8 rfl Try.underlying27 info3 rfl (by decide) (by omega) u3 x3_1 x5_2 [.int .i64 x5_2] (fun _ => True) (fun _ => False) rfl rfl ?aP (fun _ hk => hk.elim) ?aF ?aO ?aB ?aS ?aL ?_; (case aP => exact rfl); (case aB => exact (by repeat (first | (with_reducible first | exact HB.out | apply below_alloc | apply pw_below_drewN | apply below_drew1) | exact HB.out))); (case aF => exact (fun _ _ => trivial)); (case aO => exact (by (with_reducible repeat (first | apply Kd.R_alloc | apply Kd.R_drewN | apply Kd.R_drew)); exact HO_3.out)); (case aS => exact (below_size (by repeat (first | (with_reducible first | exact HB.out | apply below_alloc | apply pw_below_drewN | apply below_drew1) | exact HB.out)))); (case aL => have := LMc18.out; omega); intro v680 w19 ho hb hg hat; rw [← Ny679.out] at ho; have n0_ := Aside0.mk (hb); have n1_ := Aside0.mk (ho); clear HB; clear HO_3; have HB := n0_; have HO681 := n1_; clear n0_ n1_; clear ho hb hg hat))
                  go_roundg k2
                  case measure => have := HK1.out; have := HK2.out; omega
                  case rel => exact ⟨(y679), (wrap64 (x4_1 + 1)), (by first | rfl | (simp; done) | (simp [*]; done)), H', ⟨by have := HK1.out; have := HK2.out; omega⟩, ⟨by (with_reducible repeat (first | apply Kd.R_alloc | apply Kd.R_drewN | apply Kd.R_drew)); exact HO681.out⟩, ⟨by repeat (first | (with_reducible first | exact HB.out | apply below_alloc | apply pw_below_drewN | apply below_drew1) | exact HB.out)⟩⟩
                · rw [if_neg c18] at H
                  exact absurd H (by simp)
              · rw [if_neg c17] at H
                have c17b0 : (x6_2 == 0) = false := beq_eq_false_iff_ne.mpr c17
                have c17b1 : (x6_2 != 0) = true := bne_iff_ne.mpr c17
                by_cases c20 : x3_1.length < 17592186044416
                · rw [if_pos c20] at H
                  have LMc20 := Aside0.mk c20
                  clear c20
                  obtain ⟨y682, hy682⟩ : ∃ y_ : List Int, y_ = (x3_1 ++ [(-1)]) := ⟨_, rfl⟩
                  replace H : (swageref07_Depth.l0 k2 l0 y682 (wrap64 (x4_1 + 1))) = some r := by first | (rw [hy682]; with_reducible exact H) | (have H2_ := (Option.bind_some _ _).symm.trans H; rw [hy682]; with_reducible exact H2_) | (have H2_ := (Option.bind_some _ _).symm.trans H; with_reducible exact H2_) | with_reducible exact H | (rw [hy682]; exact H) | exact H
                  have Ny682 := Aside0.mk hy682
                  clear hy682
                  have H' := Aside0.mk H
                  clear H
                  go_wp2_with (first | ((with_reducible refine gate_builtin (b := .append) (xs := #[.tmp 36, .tmp 38]) rfl ?_); (try (refine gate_guard (by rfl) ?_; dsimp only)); at_builtin; refine Kd.R_append (Kd.int .i64) (w0 := w) w.heap.size rfl (.tmp 36) (.tmp 38) 27 3 (.int .i64 0) 8 rfl Try.underlying27 info3 rfl (by decide) (by omega) u3 x3_1 (-1) [.int .i64 (-1)] (fun _ => True) (fun _ => False) rfl rfl ?aP (fun _ hk => hk.elim) ?aF ?aO ?aB ?aS ?aL ?_; (case aP => exact rfl); (case aB => exact (by repeat (first | (with_reducible first | exact HB.out | apply below_alloc | apply pw_below_drewN | apply below_drew1) | exact HB.out))); (case aF => exact (fun _ _ => trivial)); (case aO => exact (by (with_reducible repeat (first | apply Kd.R_alloc | apply Kd.R_drewN | apply Kd.R_drew)); exact HO_3.out)); (case aS => exact (below_size (by repeat (first | (with_reducible first | exact HB.out | apply below_alloc | apply pw_below_drewN | apply below_drew1) | exact HB.out)))); (case aL => have := LMc20.out; omega); intro v683 w21 ho hb hg hat; rw [← Ny682.out] at ho; have n0_ := Aside0.mk (hb); have n1_ := Aside0.mk (ho); clear HB; clear HO_3; have HB := n0_; have HO684 := n1_; clear n0_ n1_; clear ho hb hg hat))
                  go_roundg k2
                  case measure => have := HK1.out; have := HK2.out; omega
                  case rel => exact ⟨(y682), (wrap64 (x4_1 + 1)), (by first | rfl | (simp; done) | (simp [*]; done)), H', ⟨by have := HK1.out; have := HK2.out; omega⟩, ⟨by (with_reducible repeat (first | apply Kd.R_alloc | apply Kd.R_drewN | apply Kd.R_drew)); exact HO684.out⟩, ⟨by repeat (first | (with_reducible first | exact HB.out | apply below_alloc | apply pw_below_drewN | apply below_drew1) | exact HB.out)⟩⟩
                · rw [if_neg c20] at H
                  exact absurd H (by simp)
      · rw [if_neg c2] at H
        have c2b0 : decide (x4_1 < (l0.length : Int)) = false := decide_eq_false c2
        clear c2
        obtain rfl := Option.some.inj H
        go_wp2
        go_ret
        exact ⟨_, by first | rfl | (simp [errW_none, errW_some] <;> rfl) | (simp [*, errW_none, errW_some] <;> rfl), by (with_reducible repeat (first | apply Kd.R_alloc | apply Kd.R_drewN | apply Kd.R_drew)); exact HO_3.out, by repeat (first | (with_reducible first | exact HB.out | apply below_alloc | apply pw_below_drewN | apply below_drew1) | exact HB.out)⟩

end Go.Proofs.Ytkmbhknmjnbanaa.A


namespace Go.Proofs.Ytkmbhknmjnbanaa.A
open Go.RowKit Go.Proofs.YtkmbhknmjnbanaaW.PrintWords Go.Proofs.YtkmbhknmjnbanaaW.PrintLast Go.Proofs.YtkmbhknmjnbanaaW.PrintMore
attribute [local go_sem] max2_int min2_int max_two min_two max_three min_three max_four min_four   -- for this text's walks alone
set_option linter.unusedVariables false
set_option linter.unusedSimpArgs false

def swagelaw07_DomRows.f (k : Nat) (l0 : List (List Int)) (a1 : Int) (a2 : Int) : Option (Bool) := (swagelaw07_small.f).bind fun t685 => ((swagelaw07_Few.f k l0).bind fun t686 => (if t686 = true then ((dom_Idom.f k l0).bind fun t687 => (if t685 = true then ((dom_Dominates.f t687 a1 a2).bind fun t690 => ((swageref07_Idom.f k l0).bind fun t691 => ((swageref07_Dominates.f k t691 a1 a2).bind fun t694 => (if (t690 == t694) = true then ((dom_Kids.f k t687).bind fun t695 => ((swageref07_Kids.f k t687).bind fun t698 => ((swageref06_Rows.f k t695 t698).bind fun t701 => (if t701 = true then ((dom_Depth.f t687).bind fun t702 => ((swageref07_Depth.f k t687).bind fun t705 => ((swageref02_Ints.f k t702 t705).bind fun t708 => (some t708)))) else (some false))))) else (some false))))) else (some false))) else (some t685)))
set_option maxHeartbeats 8000000 in
set_option maxRecDepth 100000 in
theorem swagelaw07_DomRows.calls (k : Nat) (A0 : Option Addr) (c0 : Nat) (l0 : List (List Int)) (a1 : Int) (a2 : Int) (r : Bool) (w : World) (hr0 : Kd.C (Kd.slice 3 (Kd.int .i64)) w A0 l0.length l0) (hc0 : l0.length ≤ c0) (h : swagelaw07_DomRows.f k l0 a1 a2 = some r) :
    Calls Try.prog 9 #[.slice A0 l0.length c0, .int .i64 a1, .int .i64 a2] w fun e w' => e = .returned (.bool r) ∧ Below w.heap.size w w' := by
  have HR0 := Aside0.mk hr0
  have HC0 := Aside0.mk hc0
  clear hr0 hc0
  have HB := Aside0.mk (Below.refl w.heap.size w)
  have H : ((swagelaw07_small.f).bind fun t685 => ((swagelaw07_Few.f k l0).bind fun t686 => (if t686 = true then ((dom_Idom.f k l0).bind fun t687 => (if t685 = true then ((dom_Dominates.f t687 a1 a2).bind fun t690 => ((swageref07_Idom.f k l0).bind fun t691 => ((swageref07_Dominates.f k t691 a1 a2).bind fun t694 => (if (t690 == t694) = true then ((dom_Kids.f k t687).bind fun t695 => ((swageref07_Kids.f k t687).bind fun t698 => ((swageref06_Rows.f k t695 t698).bind fun t701 => (if t701 = true then ((dom_Depth.f t687).bind fun t702 => ((swageref07_Depth.f k t687).bind fun t705 => ((swageref02_Ints.f k t702 t705).bind fun t708 => (some t708)))) else (some false))))) else (some false))))) else (some false))) else (some t685)))) = some r := h
  clear h
  replace H := Option.bind_eq_some_iff.mp H
  obtain ⟨t685, A40, H⟩ := H
  replace H : ((swagelaw07_Few.f k l0).bind fun t686 => (if t686 = true then ((dom_Idom.f k l0).bind fun t687 => (if t685 = true then ((dom_Dominates.f t687 a1 a2).bind fun t690 => ((swageref07_Idom.f k l0).bind fun t691 => ((swageref07_Dominates.f k t691 a1 a2).bind fun t694 => (if (t690 == t694) = true then ((dom_Kids.f k t687).bind fun t695 => ((swageref07_Kids.f k t687).bind fun t698 => ((swageref06_Rows.f k t695 t698).bind fun t701 => (if t701 = true then ((dom_Depth.f t687).bind fun t702 => ((swageref07_Depth.f k t687).bind fun t705 => ((swageref02_Ints.f k t702 t705).bind fun t708 => (some t708)))) else (some false))))) else (some false))))) else (some false))) else (some t685))) = some r := H
  have A4 := Aside0.mk A40
  clear A40
  replace H := Option.bind_eq_some_iff.mp H
  obtain ⟨t686, A50, H⟩ := H
  replace H : (if t686 = true then ((dom_Idom.f k l0).bind fun t687 => (if t685 = true then ((dom_Dominates.f t687 a1 a2).bind fun t690 => ((swageref07_Idom.f k l0).bind fun t691 => ((swageref07_Dominates.f k t691 a1 a2).bind fun t694 => (if (t690 == t694) = true then ((dom_Kids.f k t687).bind fun t695 => ((swageref07_Kids.f k t687).bind fun t698 => ((swageref06_Rows.f k t695 t698).bind fun t701 => (if t701 = true then ((dom_Depth.f t687).bind fun t702 => ((swageref07_Depth.f k t687).bind fun t705 => ((swageref02_Ints.f k t702 t705).bind fun t708 => (some t708)))) else (some false))))) else (some false))))) else (some false))) else (some t685)) = some r := H
  have A5 := Aside0.mk A50
  clear A50
  by_cases c6 : t686 = true
  · subst c6
    have H1 : ((dom_Idom.f k l0).bind fun t687 => (if t685 = true then ((dom_Dominates.f t687 a1 a2).bind fun t690 => ((swageref07_Idom.f k l0).bind fun t691 => ((swageref07_Dominates.f k t691 a1 a2).bind fun t694 => (if (t690 == t694) = true then ((dom_Kids.f k t687).bind fun t695 => ((swageref07_Kids.f k t687).bind fun t698 => ((swageref06_Rows.f k t695 t698).bind fun t701 => (if t701 = true then ((dom_Depth.f t687).bind fun t702 => ((swageref07_Depth.f k t687).bind fun t705 => ((swageref02_Ints.f k t702 t705).bind fun t708 => (some t708)))) else (some false))))) else (some false))))) else (some false))) = some r := by rw [if_pos rfl] at H; exact H
    clear H
    have H := H1
    clear H1
    replace H := Option.bind_eq_some_iff.mp H
    obtain ⟨t687, A70, H⟩ := H
    replace H : (if t685 = true then ((dom_Dominates.f t687 a1 a2).bind fun t690 => ((swageref07_Idom.f k l0).bind fun t691 => ((swageref07_Dominates.f k t691 a1 a2).bind fun t694 => (if (t690 == t694) = true then ((dom_Kids.f k t687).bind fun t695 => ((swageref07_Kids.f k t687).bind fun t698 => ((swageref06_Rows.f k t695 t698).bind fun t701 => (if t701 = true then ((dom_Depth.f t687).bind fun t702 => ((swageref07_Depth.f k t687).bind fun t705 => ((swageref02_Ints.f k t702 t705).bind fun t708 => (some t708)))) else (some false))))) else (some false))))) else (some false)) = some r := H
    have A7 := Aside0.mk A70
    clear A70
    by_cases c8 : t685 = true
    · subst c8
      have H1 : ((dom_Dominates.f t687 a1 a2).bind fun t690 => ((swageref07_Idom.f k l0).bind fun t691 => ((swageref07_Dominates.f k t691 a1 a2).bind fun t694 => (if (t690 == t694) = true then ((dom_Kids.f k t687).bind fun t695 => ((swageref07_Kids.f k t687).bind fun t698 => ((swageref06_Rows.f k t695 t698).bind fun t701 => (if t701 = true then ((dom_Depth.f t687).bind fun t702 => ((swageref07_Depth.f k t687).bind fun t705 => ((swageref02_Ints.f k t702 t705).bind fun t708 => (some t708)))) else (some false))))) else (some false))))) = some r := by rw [if_pos rfl] at H; exact H
      clear H
      have H := H1
      clear H1
      replace H := Option.bind_eq_some_iff.mp H
      obtain ⟨t690, A90, H⟩ := H
      replace H : ((swageref07_Idom.f k l0).bind fun t691 => ((swageref07_Dominates.f k t691 a1 a2).bind fun t694 => (if (t690 == t694) = true then ((dom_Kids.f k t687).bind fun t695 => ((swageref07_Kids.f k t687).bind fun t698 => ((swageref06_Rows.f k t695 t698).bind fun t701 => (if t701 = true then ((dom_Depth.f t687).bind fun t702 => ((swageref07_Depth.f k t687).bind fun t705 => ((swageref02_Ints.f k t702 t705).bind fun t708 => (some t708)))) else (some false))))) else (some false)))) = some r := H
      have A9 := Aside0.mk A90
      clear A90
      replace H := Option.bind_eq_some_iff.mp H
      obtain ⟨t691, A100, H⟩ := H
      replace H : ((swageref07_Dominates.f k t691 a1 a2).bind fun t694 => (if (t690 == t694) = true then ((dom_Kids.f k t687).bind fun t695 => ((swageref07_Kids.f k t687).bind fun t698 => ((swageref06_Rows.f k t695 t698).bind fun t701 => (if t701 = true then ((dom_Depth.f t687).bind fun t702 => ((swageref07_Depth.f k t687).bind fun t705 => ((swageref02_Ints.f k t702 t705).bind fun t708 => (some t708)))) else (some false))))) else (some false))) = some r := H
      have A10 := Aside0.mk A100
      clear A100
      replace H := Option.bind_eq_some_iff.mp H
      obtain ⟨t694, A110, H⟩ := H
      replace H : (if (t690 == t694) = true then ((dom_Kids.f k t687).bind fun t695 => ((swageref07_Kids.f k t687).bind fun t698 => ((swageref06_Rows.f k t695 t698).bind fun t701 => (if t701 = true then ((dom_Depth.f t687).bind fun t702 => ((swageref07_Depth.f k t687).bind fun t705 => ((swageref02_Ints.f k t702 t705).bind fun t708 => (some t708)))) else (some false))))) else (some false)) = some r := H
      have A11 := Aside0.mk A110
      clear A110
      by_cases c12 : (t690 == t694) = true
      · rw [if_pos c12] at H
        have c12b0 : (t690 == t694) = true := c12
        (try (have c12b1 : decide (t690 = t694) = true := by simpa using c12))
        (try (have c12b2 : (t690 == t694) = true := by simpa using c12))
        clear c12
        replace H := Option.bind_eq_some_iff.mp H
        obtain ⟨t695, A130, H⟩ := H
        replace H : ((swageref07_Kids.f k t687).bind fun t698 => ((swageref06_Rows.f k t695 t698).bind fun t701 => (if t701 = true then ((dom_Depth.f t687).bind fun t702 => ((swageref07_Depth.f k t687).bind fun t705 => ((swageref02_Ints.f k t702 t705).bind fun t708 => (some t708)))) else (some false)))) = some r := H
        have A13 := Aside0.mk A130
        clear A130
        replace H := Option.bind_eq_some_iff.mp H
        obtain ⟨t698, A140, H⟩ := H
        replace H : ((swageref06_Rows.f k t695 t698).bind fun t701 => (if t701 = true then ((dom_Depth.f t687).bind fun t702 => ((swageref07_Depth.f k t687).bind fun t705 => ((swageref02_Ints.f k t702 t705).bind fun t708 => (some t708)))) else (some false))) = some r := H
        have A14 := Aside0.mk A140
        clear A140
        replace H := Option.bind_eq_some_iff.mp H
        obtain ⟨t701, A150, H⟩ := H
        replace H : (if t701 = true then ((dom_Depth.f t687).bind fun t702 => ((swageref07_Depth.f k t687).bind fun t705 => ((swageref02_Ints.f k t702 t705).bind fun t708 => (some t708)))) else (some false)) = some r := H
        have A15 := Aside0.mk A150
        clear A150
        by_cases c16 : t701 = true
        · subst c16
          have H1 : ((dom_Depth.f t687).bind fun t702 => ((swageref07_Depth.f k t687).bind fun t705 => ((swageref02_Ints.f k t702 t705).bind fun t708 => (some t708)))) = some r := by rw [if_pos rfl] at H; exact H
          clear H
          have H := H1
          clear H1
          replace H := Option.bind_eq_some_iff.mp H
          obtain ⟨t702, A170, H⟩ := H
          replace H : ((swageref07_Depth.f k t687).bind fun t705 => ((swageref02_Ints.f k t702 t705).bind fun t708 => (some t708))) = some r := H
          have A17 := Aside0.mk A170
          clear A170
          replace H := Option.bind_eq_some_iff.mp H
          obtain ⟨t705, A180, H⟩ := H
          replace H : ((swageref02_Ints.f k t702 t705).bind fun t708 => (some t708)) = some r := H
          have A18 := Aside0.mk A180
          clear A180
          replace H := Option.bind_eq_some_iff.mp H
          obtain ⟨t708, A190, H⟩ := H
          replace H : (some t708) = some r := H
          have A19 := Aside0.mk A190
          clear A190
          obtain rfl := Option.some.inj H
          go_enter Try.func9, Try.ntmps9
          go_wp2_with (first | ((with_reducible refine gate_callee (f := 34) rfl ?_); refine goesL_ (some 10) rfl rfl Try.func34 (by kernel_rfl) rfl #[] rfl (by (try simp only [List.map_toArray, List.map_cons, List.map_nil]); first | done | rfl | (simp only [List.length_drop, List.length_take]; rfl)) ?_; (with_reducible refine (swagelaw07_small.calls  true _ A4.out).mono ?_); rintro e w20 ⟨rfl, hb⟩; refine ⟨_, rfl, ?_⟩; have n0_ := Aside0.mk (below_step (by repeat (first | (with_reducible first | exact HB.out | apply below_alloc | apply pw_below_drewN | apply below_drew1) | exact HB.out)) hb); clear HB; have HB := n0_; clear n0_; (try clear hb); (try clear hb2); (try clear hk); (try clear hi)) | ((with_reducible refine gate_callee (f := 35) rfl ?_); refine goesL_ (some 12) rfl rfl Try.func35 (by kernel_rfl) rfl #[.slice A0 l0.length c0] rfl (by (try simp only [List.map_toArray, List.map_cons, List.map_nil]); first | done | rfl | (simp only [List.length_drop, List.length_take]; rfl)) ?_; (with_reducible refine (swagelaw07_Few.calls k _ _ l0 true _ ?side1 ?side2 A5.out).mono ?_); (case side1 => repeat (first | exact (Kd.C_below HR0.out HB.out) | (with_reducible refine Kd.C_alloc ?_ _) | (with_reducible refine Kd.C_drewN ?_ _) | (with_reducible refine Kd.C_drew ?_))); (case side2 => exact HC0.out); rintro e w' ⟨rfl, ⟨nd, rfl⟩⟩; refine ⟨_, rfl, ?_⟩) | ((with_reducible refine gate_callee (f := 36) rfl ?_); refine goesL_ (some 17) rfl rfl Try.func36 (by kernel_rfl) rfl #[.slice A0 l0.length c0] rfl (by (try simp only [List.map_toArray, List.map_cons, List.map_nil]); first | done | rfl | (simp only [List.length_drop, List.length_take]; rfl)) ?_; (with_reducible refine (dom_Idom.calls k _ _ l0 t687 _ ?side1 ?side2 A7.out).mono ?_); (case side1 => repeat (first | exact (Kd.C_below HR0.out (by repeat (first | (with_reducible first | exact HB.out | apply below_alloc | apply pw_below_drewN | apply below_drew1) | exact HB.out))) | (with_reducible refine Kd.C_alloc ?_ _) | (with_reducible refine Kd.C_drewN ?_ _) | (with_reducible refine Kd.C_drew ?_))); (case side2 => exact HC0.out); rintro e w21 ⟨v688, rfl, ho0, hb⟩; refine ⟨_, rfl, ?_⟩; have n0_ := Aside0.mk (Kd.R_lower ho0 (below_size (by repeat (first | (with_reducible first | exact HB.out | apply below_alloc | apply pw_below_drewN | apply below_drew1) | exact HB.out)))); have n1_ := Aside0.mk (below_step (by repeat (first | (with_reducible first | exact HB.out | apply below_alloc | apply pw_below_drewN | apply below_drew1) | exact HB.out)) hb); clear HB; have HO689 := n0_; have HB := n1_; clear n0_ n1_; (try clear hb); (try clear hb2); (try clear hk); (try clear hi); (try clear ho0); obtain ⟨Ao22, co22, eo22⟩ := Kd.R_slice HO689.out; subst eo22) | (go_at_call 37; (with_reducible refine (dom_Dominates.calls _ _ t687 a1 a2 t690 _ ?side1 ?side2 A9.out).mono ?_); (case side1 => repeat (first | exact (Kd.R_reads' HO689.out).2.2 | (with_reducible refine Kd.C_alloc ?_ _) | (with_reducible refine Kd.C_drewN ?_ _) | (with_reducible refine Kd.C_drew ?_))); (case side2 => exact (Kd.R_reads' HO689.out).2.1); rintro e w23 ⟨rfl, hb⟩; have n0_ := Aside0.mk (Kd.R_below (by (with_reducible repeat (first | apply Kd.R_alloc | apply Kd.R_drewN | apply Kd.R_drew)); exact HO689.out) hb); have n1_ := Aside0.mk (below_step (by repeat (first | (with_reducible first | exact HB.out | apply below_alloc | apply pw_below_drewN | apply below_drew1) | exact HB.out)) hb); clear HO689; clear HB; have HO689 := n0_; have HB := n1_; clear n0_ n1_; (try clear hb); (try clear hb2); (try clear hk); (try clear hi)) | (go_at_call 39; (with_reducible refine (swageref07_Idom.calls k _ _ l0 t691 _ ?side1 ?side2 A10.out).mono ?_); (case side1 => repeat (first | exact (Kd.C_below HR0.out HB.out) | (with_reducible refine Kd.C_alloc ?_ _) | (with_reducible refine Kd.C_drewN ?_ _) | (with_reducible refine Kd.C_drew ?_))); (case side2 => exact HC0.out); rintro e w24 ⟨v692, rfl, ho0, hb⟩; have n0_ := Aside0.mk (Kd.R_elder' (by (with_reducible repeat (first | apply Kd.R_alloc | apply Kd.R_drewN | apply Kd.R_drew)); exact HO689.out) (Kd.R_base ho0) hb); have n1_ := Aside0.mk (Kd.R_lower (Kd.R_new' ho0 (Kd.R_lt (by (with_reducible repeat (first | apply Kd.R_alloc | apply Kd.R_drewN | apply Kd.R_drew)); exact HO689.out))) (below_size (by repeat (first | (with_reducible first | exact HB.out | apply below_alloc | apply pw_below_drewN | apply below_drew1) | exact HB.out)))); have n2_ := Aside0.mk (below_step (by repeat (first | (with_reducible first | exact HB.out | apply below_alloc | apply pw_below_drewN | apply below_drew1) | exact HB.out)) hb); clear HO689; clear HB; have HO689 := n0_; have HO693 := n1_; have HB := n2_; clear n0_ n1_ n2_; (try clear hb); (try clear hb2); (try clear hk); (try clear hi); (try clear ho0); obtain ⟨Ao25, co25, eo25⟩ := Kd.R_slice HO693.out; subst eo25) | (go_at_call 38; (with_reducible refine (swageref07_Dominates.calls k _ _ t691 a1 a2 t694 _ ?side1 ?side2 A11.out).mono ?_); (case side1 => repeat (first | exact (Kd.R_reads' HO693.out).2.2 | (with_reducible refine Kd.C_alloc ?_ _) | (with_reducible refine Kd.C_drewN ?_ _) | (with_reducible refine Kd.C_drew ?_))); (case side2 => exact (Kd.R_reads' HO693.out).2.1); rintro e w' ⟨rfl, ⟨nd, rfl⟩⟩) | (go_at_call 40; (with_reducible refine (dom_Kids.calls k _ _ t687 t695 _ ?side1 ?side2 A13.out).mono ?_); (case side1 => repeat (first | exact (Kd.R_reads' HO689.out).2.2 | (with_reducible refine Kd.C_alloc ?_ _) | (with_reducible refine Kd.C_drewN ?_ _) | (with_reducible refine Kd.C_drew ?_))); (case side2 => exact (Kd.R_reads' HO689.out).2.1); rintro e w26 ⟨v696, rfl, ho0, hb⟩; have n0_ := Aside0.mk (Kd.R_below (by (with_reducible repeat (first | apply Kd.R_alloc | apply Kd.R_drewN | apply Kd.R_drew)); exact HO689.out) hb); have n1_ := Aside0.mk (Kd.R_below (by (with_reducible repeat (first | apply Kd.R_alloc | apply Kd.R_drewN | apply Kd.R_drew)); exact HO693.out) hb); have n2_ := Aside0.mk (Kd.S_lower (Kd.S_new' (Kd.S_new' ho0 (Kd.R_lt (by (with_reducible repeat (first | apply Kd.R_alloc | apply Kd.R_drewN | apply Kd.R_drew)); exact HO689.out))) (Kd.R_lt (by (with_reducible repeat (first | apply Kd.R_alloc | apply Kd.R_drewN | apply Kd.R_drew)); exact HO693.out))) (below_size (by repeat (first | (with_reducible first | exact HB.out | apply below_alloc | apply pw_below_drewN | apply below_drew1) | exact HB.out)))); have n3_ := Aside0.mk (below_step (by repeat (first | (with_reducible first | exact HB.out | apply below_alloc | apply pw_below_drewN | apply below_drew1) | exact HB.out)) hb); clear HO689; clear HO693; clear HB; have HO689 := n0_; have HO693 := n1_; have HO697 := n2_; have HB := n3_; clear n0_ n1_ n2_ n3_; (try clear hb); (try clear hb2); (try clear hk); (try clear hi); (try clear ho0)) | (go_at_call 41; (with_reducible refine (swageref07_Kids.calls k _ _ t687 t698 _ ?side1 ?side2 A14.out).mono ?_); (case side1 => repeat (first | exact (Kd.R_reads' HO689.out).2.2 | (with_reducible refine Kd.C_alloc ?_ _) | (with_reducible refine Kd.C_drewN ?_ _) | (with_reducible refine Kd.C_drew ?_))); (case side2 => exact (Kd.R_reads' HO689.out).2.1); rintro e w27 ⟨v699, rfl, ho0, hb⟩; have n0_ := Aside0.mk (Kd.R_below (by (with_reducible repeat (first | apply Kd.R_alloc | apply Kd.R_drewN | apply Kd.R_drew)); exact HO689.out) hb); have n1_ := Aside0.mk (Kd.R_below (by (with_reducible repeat (first | apply Kd.R_alloc | apply Kd.R_drewN | apply Kd.R_drew)); exact HO693.out) hb); have n2_ := Aside0.mk (Kd.S_elder' (by (with_reducible repeat (first | apply Kd.S_alloc | apply Kd.S_drewN | apply Kd.S_drew)); exact HO697.out) (Kd.S_base ho0) hb); have n3_ := Aside0.mk (Kd.S_lower (Kd.S_new' (Kd.S_new' (Kd.S_new' ho0 (Kd.R_lt (by (with_reducible repeat (first | apply Kd.R_alloc | apply Kd.R_drewN | apply Kd.R_drew)); exact HO689.out))) (Kd.R_lt (by (with_reducible repeat (first | apply Kd.R_alloc | apply Kd.R_drewN | apply Kd.R_drew)); exact HO693.out))) (Kd.S_lt (by (with_reducible repeat (first | apply Kd.S_alloc | apply Kd.S_drewN | apply Kd.S_drew)); exact HO697.out))) (below_size (by repeat (first | (with_reducible first | exact HB.out | apply below_alloc | apply pw_below_drewN | apply below_drew1) | exact HB.out)))); have n4_ := Aside0.mk (below_step (by repeat (first | (with_reducible first | exact HB.out | apply below_alloc | apply pw_below_drewN | apply below_drew1) | exact HB.out)) hb); clear HO689; clear HO693; clear HO697; clear HB; have HO689 := n0_; have HO693 := n1_; have HO697 := n2_; have HO700 := n3_; have HB := n4_; clear n0_ n1_ n2_ n3_ n4_; (try clear hb); (try clear hb2); (try clear hk); (try clear hi); (try clear ho0); obtain ⟨Ao28, co28, eo28⟩ := Kd.S_slice HO697.out; subst eo28; obtain ⟨Ao29, co29, eo29⟩ := Kd.S_slice HO700.out; subst eo29) | (go_at_call 17; (with_reducible refine (swageref06_Rows.calls k _ _ t695 _ _ t698 true _ ?side1 ?side2 ?side3 ?side4 A15.out).mono ?_); (case side1 => repeat (first | exact (Kd.S_reads' HO697.out).2.2 | (with_reducible refine Kd.C_alloc ?_ _) | (with_reducible refine Kd.C_drewN ?_ _) | (with_reducible refine Kd.C_drew ?_))); (case side2 => exact (Kd.S_reads' HO697.out).2.1); (case side3 => repeat (first | exact (Kd.S_reads' HO700.out).2.2 | (with_reducible refine Kd.C_alloc ?_ _) | (with_reducible refine Kd.C_drewN ?_ _) | (with_reducible refine Kd.C_drew ?_))); (case side4 => exact (Kd.S_reads' HO700.out).2.1); rintro e w' ⟨rfl, ⟨nd, rfl⟩⟩) | (go_at_call 42; (with_reducible refine (dom_Depth.calls _ _ t687 t702 _ ?side1 ?side2 A17.out).mono ?_); (case side1 => repeat (first | exact (Kd.R_reads' HO689.out).2.2 | (with_reducible refine Kd.C_alloc ?_ _) | (with_reducible refine Kd.C_drewN ?_ _) | (with_reducible refine Kd.C_drew ?_))); (case side2 => exact (Kd.R_reads' HO689.out).2.1); rintro e w30 ⟨v703, rfl, ho0, hb⟩; have n0_ := Aside0.mk (Kd.R_elder' (by (with_reducible repeat (first | apply Kd.R_alloc | apply Kd.R_drewN | apply Kd.R_drew)); exact HO689.out) (Kd.R_base ho0) hb); have n1_ := Aside0.mk (Kd.R_elder' (by (with_reducible repeat (first | apply Kd.R_alloc | apply Kd.R_drewN | apply Kd.R_drew)); exact HO693.out) (Kd.R_base ho0) hb); have n2_ := Aside0.mk (Kd.S_elder' (by (with_reducible repeat (first | apply Kd.S_alloc | apply Kd.S_drewN | apply Kd.S_drew)); exact HO697.out) (Kd.R_base ho0) hb); have n3_ := Aside0.mk (Kd.S_elder' (by (with_reducible repeat (first | apply Kd.S_alloc | apply Kd.S_drewN | apply Kd.S_drew)); exact HO700.out) (Kd.R_base ho0) hb); have n4_ := Aside0.mk (Kd.R_lower (Kd.R_new' (Kd.R_new' ho0 (Kd.R_lt (by (with_reducible repeat (first | apply Kd.R_alloc | apply Kd.R_drewN | apply Kd.R_drew)); exact HO689.out))) (Kd.R_lt (by (with_reducible repeat (first | apply Kd.R_alloc | apply Kd.R_drewN | apply Kd.R_drew)); exact HO693.out))) (below_size (by repeat (first | (with_reducible first | exact HB.out | apply below_alloc | apply pw_below_drewN | apply below_drew1) | exact HB.out)))); have n5_ := Aside0.mk (below_step (by repeat (first | (with_reducible first | exact HB.out | apply below_alloc | apply pw_below_drewN | apply below_drew1) | exact HB.out)) hb); clear HO689; clear HO693; clear HO697; clear HO700; clear HB; have HO689 := n0_; have HO693 := n1_; have HO697 := n2_; have HO700 := n3_; have HO704 := n4_; have HB := n5_; clear n0_ n1_ n2_ n3_ n4_ n5_; (try clear hb); (try clear hb2); (try clear hk); (try clear hi); (try clear ho0)) | (go_at_call 43; (with_reducible refine (swageref07_Depth.calls k _ _ t687 t705 _ ?side1 ?side2 A18.out).mono ?_); (case side1 => repeat (first | exact (Kd.R_reads' HO689.out).2.2 | (with_reducible refine Kd.C_alloc ?_ _) | (with_reducible refine Kd.C_drewN ?_ _) | (with_reducible refine Kd.C_drew ?_))); (case side2 => exact (Kd.R_reads' HO689.out).2.1); rintro e w31 ⟨v706, rfl, ho0, hb⟩; have n0_ := Aside0.mk (Kd.R_elder' (by (with_reducible repeat (first | apply Kd.R_alloc | apply Kd.R_drewN | apply Kd.R_drew)); exact HO689.out) (Kd.R_base ho0) hb); have n1_ := Aside0.mk (Kd.R_elder' (by (with_reducible repeat (first | apply Kd.R_alloc | apply Kd.R_drewN | apply Kd.R_drew)); exact HO693.out) (Kd.R_base ho0) hb); have n2_ := Aside0.mk (Kd.S_elder' (by (with_reducible repeat (first | apply Kd.S_alloc | apply Kd.S_drewN | apply Kd.S_drew)); exact HO697.out) (Kd.R_base ho0) hb); have n3_ := Aside0.mk (Kd.S_elder' (by (with_reducible repeat (first | apply Kd.S_alloc | apply Kd.S_drewN | apply Kd.S_drew)); exact HO700.out) (Kd.R_base ho0) hb); have n4_ := Aside0.mk (Kd.R_elder' (by (with_reducible repeat (first | apply Kd.R_alloc | apply Kd.R_drewN | apply Kd.R_drew)); exact HO704.out) (Kd.R_base ho0) hb); have n5_ := Aside0.mk (Kd.R_lower (Kd.R_new' (Kd.R_new' (Kd.R_new' ho0 (Kd.R_lt (by (with_reducible repeat (first | apply Kd.R_alloc | apply Kd.R_drewN | apply Kd.R_drew)); exact HO689.out))) (Kd.R_lt (by (with_reducible repeat (first | apply Kd.R_alloc | apply Kd.R_drewN | apply Kd.R_drew)); exact HO693.out))) (Kd.R_lt (by (with_reducible repeat (first | apply Kd.R_alloc | apply Kd.R_drewN | apply Kd.R_drew)); exact HO704.out))) (below_size (by repeat (first | (with_reducible first | exact HB.out | apply below_alloc | apply pw_below_drewN | apply below_drew1) | exact HB.out)))); have n6_ := Aside0.mk (below_step (by repeat (first | (with_reducible first | exact HB.out | apply below_alloc | apply pw_below_drewN | apply below_drew1) | exact HB.out)) hb); clear HO689; clear HO693; clear HO697; clear HO700; clear HO704; clear HB; have HO689 := n0_; have HO693 := n1_; have HO697 := n2_; have HO700 := n3_; have HO704 := n4_; have HO707 := n5_; have HB := n6_; clear n0_ n1_ n2_ n3_ n4_ n5_ n6_; (try clear hb); (try clear hb2); (try clear hk); (try clear hi); (try clear ho0); obtain ⟨Ao32, co32, eo32⟩ := Kd.R_slice HO704.out; subst eo32; obtain ⟨Ao33, co33, eo33⟩ := Kd.R_slice HO707.out; subst eo33) | (go_at_call 27; (with_reducible refine (swageref02_Ints.calls k _ _ t702 _ _ t705 t708 _ ?side1 ?side2 ?side3 ?side4 A19.out).mono ?_); (case side1 => repeat (first | exact (Kd.R_reads' HO704.out).2.2 | (with_reducible refine Kd.C_alloc ?_ _) | (with_reducible refine Kd.C_drewN ?_ _) | (with_reducible refine Kd.C_drew ?_))); (case side2 => exact (Kd.R_reads' HO704.out).2.1); (case side3 => repeat (first | exact (Kd.R_reads' HO707.out).2.2 | (with_reducible refine Kd.C_alloc ?_ _) | (with_reducible refine Kd.C_drewN ?_ _) | (with_reducible refine Kd.C_drew ?_))); (case side4 => exact (Kd.R_reads' HO707.out).2.1); rintro e w' ⟨rfl, ⟨nd, rfl⟩⟩))
          go_ret
          exact ⟨by first | rfl | (simp [errW_none, errW_some] <;> rfl) | (simp [*, errW_none, errW_some] <;> rfl), by repeat (first | (with_reducible first | exact HB.out | apply below_alloc | apply pw_below_drewN | apply below_drew1) | exact HB.out)⟩
        · replace c16 := Bool.eq_false_iff.mpr c16
          subst c16
          have H1 : (some false) = some r := by rw [if_neg (show ¬ (false = true) by decide)] at H; exact H
          clear H
          have H := H1
          clear H1
          obtain rfl := Option.some.inj H
          go_enter Try.func9, Try.ntmps9
          go_wp2_with (first | ((with_reducible refine gate_callee (f := 34) rfl ?_); refine goesL_ (some 10) rfl rfl Try.func34 (by kernel_rfl) rfl #[] rfl (by (try simp only [List.map_toArray, List.map_cons, List.map_nil]); first | done | rfl | (simp only [List.length_drop, List.length_take]; rfl)) ?_; (with_reducible refine (swagelaw07_small.calls  true _ A4.out).mono ?_); rintro e w34 ⟨rfl, hb⟩; refine ⟨_, rfl, ?_⟩; have n0_ := Aside0.mk (below_step (by repeat (first | (with_reducible first | exact HB.out | apply below_alloc | apply pw_below_drewN | apply below_drew1) | exact HB.out)) hb); clear HB; have HB := n0_; clear n0_; (try clear hb); (try clear hb2); (try clear hk); (try clear hi)) | ((with_reducible refine gate_callee (f := 35) rfl ?_); refine goesL_ (some 12) rfl rfl Try.func35 (by kernel_rfl) rfl #[.slice A0 l0.length c0] rfl (by (try simp only [List.map_toArray, List.map_cons, List.map_nil]); first | done | rfl | (simp only [List.length_drop, List.length_take]; rfl)) ?_; (with_reducible refine (swagelaw07_Few.calls k _ _ l0 true _ ?side1 ?side2 A5.out).mono ?_); (case side1 => repeat (first | exact (Kd.C_below HR0.out HB.out) | (with_reducible refine Kd.C_alloc ?_ _) | (with_reducible refine Kd.C_drewN ?_ _) | (with_reducible refine Kd.C_drew ?_))); (case side2 => exact HC0.out); rintro e w' ⟨rfl, ⟨nd, rfl⟩⟩; refine ⟨_, rfl, ?_⟩) | ((with_reducible refine gate_callee (f := 36) rfl ?_); refine goesL_ (some 17) rfl rfl Try.func36 (by kernel_rfl) rfl #[.slice A0 l0.length c0] rfl (by (try simp only [List.map_toArray, List.map_cons, List.map_nil]); first | done | rfl | (simp only [List.length_drop, List.length_take]; rfl)) ?_; (with_reducible refine (dom_Idom.calls k _ _ l0 t687 _ ?side1 ?side2 A7.out).mono ?_); (case side1 => repeat (first | exact (Kd.C_below HR0.out (by repeat (first | (with_reducible first | exact HB.out | apply below_alloc | apply pw_below_drewN | apply below_drew1) | exact HB.out))) | (with_reducible refine Kd.C_alloc ?_ _) | (with_reducible refine Kd.C_drewN ?_ _) | (with_reducible refine Kd.C_drew ?_))); (case side2 => exact HC0.out); rintro e w35 ⟨v688, rfl, ho0, hb⟩; refine ⟨_, rfl, ?_⟩; have n0_ := Aside0.mk (Kd.R_lower ho0 (below_size (by repeat (first | (with_reducible first | exact HB.out | apply below_alloc | apply pw_below_drewN | apply below_drew1) | exact HB.out)))); have n1_ := Aside0.mk (below_step (by repeat (first | (with_reducible first | exact HB.out | apply below_alloc | apply pw_below_drewN | apply below_drew1) | exact HB.out)) hb); clear HB; have HO689 := n0_; have HB := n1_; clear n0_ n1_; (try clear hb); (try clear hb2); (try clear hk); (try clear hi); (try clear ho0); obtain ⟨Ao36, co36, eo36⟩ := Kd.R_slice HO689.out; subst eo36) | (go_at_call 37; (with_reducible refine (dom_Dominates.calls _ _ t687 a1 a2 t690 _ ?side1 ?side2 A9.out).mono ?_); (case side1 => repeat (first | exact (Kd.R_reads' HO689.out).2.2 | (with_reducible refine Kd.C_alloc ?_ _) | (with_reducible refine Kd.C_drewN ?_ _) | (with_reducible refine Kd.C_drew ?_))); (case side2 => exact (Kd.R_reads' HO689.out).2.1); rintro e w37 ⟨rfl, hb⟩; have n0_ := Aside0.mk (Kd.R_below (by (with_reducible repeat (first | apply Kd.R_alloc | apply Kd.R_drewN | apply Kd.R_drew)); exact HO689.out) hb); have n1_ := Aside0.mk (below_step (by repeat (first | (with_reducible first | exact HB.out | apply below_alloc | apply pw_below_drewN | apply below_drew1) | exact HB.out)) hb); clear HO689; clear HB; have HO689 := n0_; have HB := n1_; clear n0_ n1_; (try clear hb); (try clear hb2); (try clear hk); (try clear hi)) | (go_at_call 39; (with_reducible refine (swageref07_Idom.calls k _ _ l0 t691 _ ?side1 ?side2 A10.out).mono ?_); (case side1 => repeat (first | exact (Kd.C_below HR0.out HB.out) | (with_reducible refine Kd.C_alloc ?_ _) | (with_reducible refine Kd.C_drewN ?_ _) | (with_reducible refine Kd.C_drew ?_))); (case side2 => exact HC0.out); rintro e w38 ⟨v692, rfl, ho0, hb⟩; have n0_ := Aside0.mk (Kd.R_elder' (by (with_reducible repeat (first | apply Kd.R_alloc | apply Kd.R_drewN | apply Kd.R_drew)); exact HO689.out) (Kd.R_base ho0) hb); have n1_ := Aside0.mk (Kd.R_lower (Kd.R_new' ho0 (Kd.R_lt (by (with_reducible repeat (first | apply Kd.R_alloc | apply Kd.R_drewN | apply Kd.R_drew)); exact HO689.out))) (below_size (by repeat (first | (with_reducible first | exact HB.out | apply below_alloc | apply pw_below_drewN | apply below_drew1) | exact HB.out)))); have n2_ := Aside0.mk (below_step (by repeat (first | (with_reducible first | exact HB.out | apply below_alloc | apply pw_below_drewN | apply below_drew1) | exact HB.out)) hb); clear HO689; clear HB; have HO689 := n0_; have HO693 := n1_; have HB := n2_; clear n0_ n1_ n2_; (try clear hb); (try clear hb2); (try clear hk); (try clear hi); (try clear ho0); obtain ⟨Ao39, co39, eo39⟩ := Kd.R_slice HO693.out; subst eo39) | (go_at_call 38; (with_reducible refine (swageref07_Dominates.calls k _ _ t691 a1 a2 t694 _ ?side1 ?side2 A11.out).mono ?_); (case side1 => repeat (first | exact (Kd.R_reads' HO693.out).2.2 | (with_reducible refine Kd.C_alloc ?_ _) | (with_reducible refine Kd.C_drewN ?_ _) | (with_reducible refine Kd.C_drew ?_))); (case side2 => exact (Kd.R_reads' HO693.out).2.1); rintro e w' ⟨rfl, ⟨nd, rfl⟩⟩) | (go_at_call 40; (with_reducible refine (dom_Kids.calls k _ _ t687 t695 _ ?side1 ?side2 A13.out).mono ?_); (case side1 => repeat (first | exact (Kd.R_reads' HO689.out).2.2 | (with_reducible refine Kd.C_alloc ?_ _) | (with_reducible refine Kd.C_drewN ?_ _) | (with_reducible refine Kd.C_drew ?_))); (case side2 => exact (Kd.R_reads' HO689.out).2.1); rintro e w40 ⟨v696, rfl, ho0, hb⟩; have n0_ := Aside0.mk (Kd.R_below (by (with_reducible repeat (first | apply Kd.R_alloc | apply Kd.R_drewN | apply Kd.R_drew)); exact HO689.out) hb); have n1_ := Aside0.mk (Kd.R_below (by (with_reducible repeat (first | apply Kd.R_alloc | apply Kd.R_drewN | apply Kd.R_drew)); exact HO693.out) hb); have n2_ := Aside0.mk (Kd.S_lower (Kd.S_new' (Kd.S_new' ho0 (Kd.R_lt (by (with_reducible repeat (first | apply Kd.R_alloc | apply Kd.R_drewN | apply Kd.R_drew)); exact HO689.out))) (Kd.R_lt (by (with_reducible repeat (first | apply Kd.R_alloc | apply Kd.R_drewN | apply Kd.R_drew)); exact HO693.out))) (below_size (by repeat (first | (with_reducible first | exact HB.out | apply below_alloc | apply pw_below_drewN | apply below_drew1) | exact HB.out)))); have n3_ := Aside0.mk (below_step (by repeat (first | (with_reducible first | exact HB.out | apply below_alloc | apply pw_below_drewN | apply below_drew1) | exact HB.out)) hb); clear HO689; clear HO693; clear HB; have HO689 := n0_; have HO693 := n1_; have HO697 := n2_; have HB := n3_; clear n0_ n1_ n2_ n3_; (try clear hb); (try clear hb2); (try clear hk); (try clear hi); (try clear ho0)) | (go_at_call 41; (with_reducible refine (swageref07_Kids.calls k _ _ t687 t698 _ ?side1 ?side2 A14.out).mono ?_); (case side1 => repeat (first | exact (Kd.R_reads' HO689.out).2.2 | (with_reducible refine Kd.C_alloc ?_ _) | (with_reducible refine Kd.C_drewN ?_ _) | (with_reducible refine Kd.C_drew ?_))); (case side2 => exact (Kd.R_reads' HO689.out).2.1); rintro e w41 ⟨v699, rfl, ho0, hb⟩; have n0_ := Aside0.mk (Kd.R_below (by (with_reducible repeat (first | apply Kd.R_alloc | apply Kd.R_drewN | apply Kd.R_drew)); exact HO689.out) hb); have n1_ := Aside0.mk (Kd.R_below (by (with_reducible repeat (first | apply Kd.R_alloc | apply Kd.R_drewN | apply Kd.R_drew)); exact HO693.out) hb); have n2_ := Aside0.mk (Kd.S_elder' (by (with_reducible repeat (first | apply Kd.S_alloc | apply Kd.S_drewN | apply Kd.S_drew)); exact HO697.out) (Kd.S_base ho0) hb); have n3_ := Aside0.mk (Kd.S_lower (Kd.S_new' (Kd.S_new' (Kd.S_new' ho0 (Kd.R_lt (by (with_reducible repeat (first | apply Kd.R_alloc | apply Kd.R_drewN | apply Kd.R_drew)); exact HO689.out))) (Kd.R_lt (by (with_reducible repeat (first | apply Kd.R_alloc | apply Kd.R_drewN | apply Kd.R_drew)); exact HO693.out))) (Kd.S_lt (by (with_reducible repeat (first | apply Kd.S_alloc | apply Kd.S_drewN | apply Kd.S_drew)); exact HO697.out))) (below_size (by repeat (first | (with_reducible first | exact HB.out | apply below_alloc | apply pw_below_drewN | apply below_drew1) | exact HB.out)))); have n4_ := Aside0.mk (below_step (by repeat (first | (with_reducible first | exact HB.out | apply below_alloc | apply pw_below_drewN | apply below_drew1) | exact HB.out)) hb); clear HO689; clear HO693; clear HO697; clear HB; have HO689 := n0_; have HO693 := n1_; have HO697 := n2_; have HO700 := n3_; have HB := n4_; clear n0_ n1_ n2_ n3_ n4_; (try clear hb); (try clear hb2); (try clear hk); (try clear hi); (try clear ho0); obtain ⟨Ao42, co42, eo42⟩ := Kd.S_slice HO697.out; subst eo42; obtain ⟨Ao43, co43, eo43⟩ := Kd.S_slice HO700.out; subst eo43) | (go_at_call 17; (with_reducible refine (swageref06_Rows.calls k _ _ t695 _ _ t698 false _ ?side1 ?side2 ?side3 ?side4 A15.out).mono ?_); (case side1 => repeat (first | exact (Kd.S_reads' HO697.out).2.2 | (with_reducible refine Kd.C_alloc ?_ _) | (with_reducible refine Kd.C_drewN ?_ _) | (with_reducible refine Kd.C_drew ?_))); (case side2 => exact (Kd.S_reads' HO697.out).2.1); (case side3 => repeat (first | exact (Kd.S_reads' HO700.out).2.2 | (with_reducible refine Kd.C_alloc ?_ _) | (with_reducible refine Kd.C_drewN ?_ _) | (with_reducible refine Kd.C_drew ?_))); (case side4 => exact (Kd.S_reads' HO700.out).2.1); rintro e w' ⟨rfl, ⟨nd, rfl⟩⟩))
          go_ret
          exact ⟨by first | rfl | (simp [errW_none, errW_some] <;> rfl) | (simp [*, errW_none, errW_some] <;> rfl), by repeat (first | (with_reducible first | exact HB.out | apply below_alloc | apply pw_below_drewN | apply below_drew1) | exact HB.out)⟩
      · rw [if_neg c12] at H
        have c12b0 : (t690 == t694) = false := by simpa using c12
        (try (have c12b1 : decide (t690 = t694) = false := by simpa using c12))
        (try (have c12b2 : (t690 == t694) = false := by simpa using c12))
        (try (have c12b3 : ¬ (t690 = t694) := by simpa using c12))
        clear c12
        obtain rfl := Option.some.inj H
        go_enter Try.func9, Try.ntmps9
        go_wp2_with (first | ((with_reducible refine gate_callee (f := 34) rfl ?_); refine goesL_ (some 10) rfl rfl Try.func34 (by kernel_rfl) rfl #[] rfl (by (try simp only [List.map_toArray, List.map_cons, List.map_nil]); first | done | rfl | (simp only [List.length_drop, List.length_take]; rfl)) ?_; (with_reducible refine (swagelaw07_small.calls  true _ A4.out).mono ?_); rintro e w44 ⟨rfl, hb⟩; refine ⟨_, rfl, ?_⟩; have n0_ := Aside0.mk (below_step (by repeat (first | (with_reducible first | exact HB.out | apply below_alloc | apply pw_below_drewN | apply below_drew1) | exact HB.out)) hb); clear HB; have HB := n0_; clear n0_; (try clear hb); (try clear hb2); (try clear hk); (try clear hi)) | ((with_reducible refine gate_callee (f := 35) rfl ?_); refine goesL_ (some 12) rfl rfl Try.func35 (by kernel_rfl) rfl #[.slice A0 l0.length c0] rfl (by (try simp only [List.map_toArray, List.map_cons, List.map_nil]); first | done | rfl | (simp only [List.length_drop, List.length_take]; rfl)) ?_; (with_reducible refine (swagelaw07_Few.calls k _ _ l0 true _ ?side1 ?side2 A5.out).mono ?_); (case side1 => repeat (first | exact (Kd.C_below HR0.out HB.out) | (with_reducible refine Kd.C_alloc ?_ _) | (with_reducible refine Kd.C_drewN ?_ _) | (with_reducible refine Kd.C_drew ?_))); (case side2 => exact HC0.out); rintro e w' ⟨rfl, ⟨nd, rfl⟩⟩; refine ⟨_, rfl, ?_⟩) | ((with_reducible refine gate_callee (f := 36) rfl ?_); refine goesL_ (some 17) rfl rfl Try.func36 (by kernel_rfl) rfl #[.slice A0 l0.length c0] rfl (by (try simp only [List.map_toArray, List.map_cons, List.map_nil]); first | done | rfl | (simp only [List.length_drop, List.length_take]; rfl)) ?_; (with_reducible refine (dom_Idom.calls k _ _ l0 t687 _ ?side1 ?side2 A7.out).mono ?_); (case side1 => repeat (first | exact (Kd.C_below HR0.out (by repeat (first | (with_reducible first | exact HB.out | apply below_alloc | apply pw_below_drewN | apply below_drew1) | exact HB.out))) | (with_reducible refine Kd.C_alloc ?_ _) | (with_reducible refine Kd.C_drewN ?_ _) | (with_reducible refine Kd.C_drew ?_))); (case side2 => exact HC0.out); rintro e w45 ⟨v688, rfl, ho0, hb⟩; refine ⟨_, rfl, ?_⟩; have n0_ := Aside0.mk (Kd.R_lower ho0 (below_size (by repeat (first | (with_reducible first | exact HB.out | apply below_alloc | apply pw_below_drewN | apply below_drew1) | exact HB.out)))); have n1_ := Aside0.mk (below_step (by repeat (first | (with_reducible first | exact HB.out | apply below_alloc | apply pw_below_drewN | apply below_drew1) | exact HB.out)) hb); clear HB; have HO689 := n0_; have HB := n1_; clear n0_ n1_; (try clear hb); (try clear hb2); (try clear hk); (try clear hi); (try clear ho0); obtain ⟨Ao46, co46, eo46⟩ := Kd.R_slice HO689.out; subst eo46) | (go_at_call 37; (with_reducible refine (dom_Dominates.calls _ _ t687 a1 a2 t690 _ ?side1 ?side2 A9.out).mono ?_); (case side1 => repeat (first | exact (Kd.R_reads' HO689.out).2.2 | (with_reducible refine Kd.C_alloc ?_ _) | (with_reducible refine Kd.C_drewN ?_ _) | (with_reducible refine Kd.C_drew ?_))); (case side2 => exact (Kd.R_reads' HO689.out).2.1); rintro e w47 ⟨rfl, hb⟩; have n0_ := Aside0.mk (Kd.R_below (by (with_reducible repeat (first | apply Kd.R_alloc | apply Kd.R_drewN | apply Kd.R_drew)); exact HO689.out) hb); have n1_ := Aside0.mk (below_step (by repeat (first | (with_reducible first | exact HB.out | apply below_alloc | apply pw_below_drewN | apply below_drew1) | exact HB.out)) hb); clear HO689; clear HB; have HO689 := n0_; have HB := n1_; clear n0_ n1_; (try clear hb); (try clear hb2); (try clear hk); (try clear hi)) | (go_at_call 39; (with_reducible refine (swageref07_Idom.calls k _ _ l0 t691 _ ?side1 ?side2 A10.out).mono ?_); (case side1 => repeat (first | exact (Kd.C_below HR0.out HB.out) | (with_reducible refine Kd.C_alloc ?_ _) | (with_reducible refine Kd.C_drewN ?_ _) | (with_reducible refine Kd.C_drew ?_))); (case side2 => exact HC0.out); rintro e w48 ⟨v692, rfl, ho0, hb⟩; have n0_ := Aside0.mk (Kd.R_elder' (by (with_reducible repeat (first | apply Kd.R_alloc | apply Kd.R_drewN | apply Kd.R_drew)); exact HO689.out) (Kd.R_base ho0) hb); have n1_ := Aside0.mk (Kd.R_lower (Kd.R_new' ho0 (Kd.R_lt (by (with_reducible repeat (first | apply Kd.R_alloc | apply Kd.R_drewN | apply Kd.R_drew)); exact HO689.out))) (below_size (by repeat (first | (with_reducible first | exact HB.out | apply below_alloc | apply pw_below_drewN | apply below_drew1) | exact HB.out)))); have n2_ := Aside0.mk (below_step (by repeat (first | (with_reducible first | exact HB.out | apply below_alloc | apply pw_below_drewN | apply below_drew1) | exact HB.out)) hb); clear HO689; clear HB; have HO689 := n0_; have HO693 := n1_; have HB := n2_; clear n0_ n1_ n2_; (try clear hb); (try clear hb2); (try clear hk); (try clear hi); (try clear ho0); obtain ⟨Ao49, co49, eo49⟩ := Kd.R_slice HO693.out; subst eo49) | (go_at_call 38; (with_reducible refine (swageref07_Dominates.calls k _ _ t691 a1 a2 t694 _ ?side1 ?side2 A11.out).mono ?_); (case side1 => repeat (first | exact (Kd.R_reads' HO693.out).2.2 | (with_reducible refine Kd.C_alloc ?_ _) | (with_reducible refine Kd.C_drewN ?_ _) | (with_reducible refine Kd.C_drew ?_))); (case side2 => exact (Kd.R_reads' HO693.out).2.1); rintro e w' ⟨rfl, ⟨nd, rfl⟩⟩))
        go_ret
        exact ⟨by first | rfl | (simp [errW_none, errW_some] <;> rfl) | (simp [*, errW_none, errW_some] <;> rfl), by repeat (first | (with_reducible first | exact HB.out | apply below_alloc | apply pw_below_drewN | apply below_drew1) | exact HB.out)⟩
    · replace c8 := Bool.eq_false_iff.mpr c8
      subst c8
      have H1 : (some false) = some r := by rw [if_neg (show ¬ (false = true) by decide)] at H; exact H
      clear H
      have H := H1
      clear H1
      obtain rfl := Option.some.inj H
      go_enter Try.func9, Try.ntmps9
      go_wp2_with (first | ((with_reducible refine gate_callee (f := 34) rfl ?_); refine goesL_ (some 10) rfl rfl Try.func34 (by kernel_rfl) rfl #[] rfl (by (try simp only [List.map_toArray, List.map_cons, List.map_nil]); first | done | rfl | (simp only [List.length_drop, List.length_take]; rfl)) ?_; (with_reducible refine (swagelaw07_small.calls  false _ A4.out).mono ?_); rintro e w50 ⟨rfl, hb⟩; refine ⟨_, rfl, ?_⟩; have n0_ := Aside0.mk (below_step (by repeat (first | (with_reducible first | exact HB.out | apply below_alloc | apply pw_below_drewN | apply below_drew1) | exact HB.out)) hb); clear HB; have HB := n0_; clear n0_; (try clear hb); (try clear hb2); (try clear hk); (try clear hi)) | ((with_reducible refine gate_callee (f := 35) rfl ?_); refine goesL_ (some 12) rfl rfl Try.func35 (by kernel_rfl) rfl #[.slice A0 l0.length c0] rfl (by (try simp only [List.map_toArray, List.map_cons, List.map_nil]); first | done | rfl | (simp only [List.length_drop, List.length_take]; rfl)) ?_; (with_reducible refine (swagelaw07_Few.calls k _ _ l0 true _ ?side1 ?side2 A5.out).mono ?_); (case side1 => repeat (first | exact (Kd.C_below HR0.out HB.out) | (with_reducible refine Kd.C_alloc ?_ _) | (with_reducible refine Kd.C_drewN ?_ _) | (with_reducible refine Kd.C_drew ?_))); (case side2 => exact HC0.out); rintro e w' ⟨rfl, ⟨nd, rfl⟩⟩; refine ⟨_, rfl, ?_⟩) | ((with_reducible refine gate_callee (f := 36) rfl ?_); refine goesL_ (some 17) rfl rfl Try.func36 (by kernel_rfl) rfl #[.slice A0 l0.length c0] rfl (by (try simp only [List.map_toArray, List.map_cons, List.map_nil]); first | done | rfl | (simp only [List.length_drop, List.length_take]; rfl)) ?_; (with_reducible refine (dom_Idom.calls k _ _ l0 t687 _ ?side1 ?side2 A7.out).mono ?_); (case side1 => repeat (first | exact (Kd.C_below HR0.out (by repeat (first | (with_reducible first | exact HB.out | apply below_alloc | apply pw_below_drewN | apply below_drew1) | exact HB.out))) | (with_reducible refine Kd.C_alloc ?_ _) | (with_reducible refine Kd.C_drewN ?_ _) | (with_reducible refine Kd.C_drew ?_))); (case side2 => exact HC0.out); rintro e w51 ⟨v688, rfl, ho0, hb⟩; refine ⟨_, rfl, ?_⟩; have n0_ := Aside0.mk (Kd.R_lower ho0 (below_size (by repeat (first | (with_reducible first | exact HB.out | apply below_alloc | apply pw_below_drewN | apply below_drew1) | exact HB.out)))); have n1_ := Aside0.mk (below_step (by repeat (first | (with_reducible first | exact HB.out | apply below_alloc | apply pw_below_drewN | apply below_drew1) | exact HB.out)) hb); clear HB; have HO689 := n0_; have HB := n1_; clear n0_ n1_; (try clear hb); (try clear hb2); (try clear hk); (try clear hi); (try clear ho0)))
      go_ret
      exact ⟨by first | rfl | (simp [errW_none, errW_some] <;> rfl) | (simp [*, errW_none, errW_some] <;> rfl), by repeat (first | (with_reducible first | exact HB.out | apply below_alloc | apply pw_below_drewN | apply below_drew1) | exact HB.out)⟩
  · replace c6 := Bool.eq_false_iff.mpr c6
    subst c6
    have H1 : (some t685) = some r := by rw [if_neg (show ¬ (false = true) by decide)] at H; exact H
    clear H
    have H := H1
    clear H1
    obtain rfl := Option.some.inj H
    go_enter Try.func9, Try.ntmps9
    go_wp2_with (first | ((with_reducible refine gate_callee (f := 34) rfl ?_); refine goesL_ (some 10) rfl rfl Try.func34 (by kernel_rfl) rfl #[] rfl (by (try simp only [List.map_toArray, List.map_cons, List.map_nil]); first | done | rfl | (simp only [List.length_drop, List.length_take]; rfl)) ?_; (with_reducible refine (swagelaw07_small.calls  t685 _ A4.out).mono ?_); rintro e w52 ⟨rfl, hb⟩; refine ⟨_, rfl, ?_⟩; have n0_ := Aside0.mk (below_step (by repeat (first | (with_reducible first | exact HB.out | apply below_alloc | apply pw_below_drewN | apply below_drew1) | exact HB.out)) hb); clear HB; have HB := n0_; clear n0_; (try clear hb); (try clear hb2); (try clear hk); (try clear hi)) | ((with_reducible refine gate_callee (f := 35) rfl ?_); refine goesL_ (some 12) rfl rfl Try.func35 (by kernel_rfl) rfl #[.slice A0 l0.length c0] rfl (by (try simp only [List.map_toArray, List.map_cons, List.map_nil]); first | done | rfl | (simp only [List.length_drop, List.length_take]; rfl)) ?_; (with_reducible refine (swagelaw07_Few.calls k _ _ l0 false _ ?side1 ?side2 A5.out).mono ?_); (case side1 => repeat (first | exact (Kd.C_below HR0.out HB.out) | (with_reducible refine Kd.C_alloc ?_ _) | (with_reducible refine Kd.C_drewN ?_ _) | (with_reducible refine Kd.C_drew ?_))); (case side2 => exact HC0.out); rintro e w' ⟨rfl, ⟨nd, rfl⟩⟩; refine ⟨_, rfl, ?_⟩))
    go_ret
    exact ⟨by first | rfl | (simp [errW_none, errW_some] <;> rfl) | (simp [*, errW_none, errW_some] <;> rfl), by repeat (first | (with_reducible first | exact HB.out | apply below_alloc | apply pw_below_drewN | apply below_drew1) | exact HB.out)⟩

end Go.Proofs.Ytkmbhknmjnbanaa.A


namespace Go.Proofs.Ytkmbhknmjnbanaa.A
open Go.RowKit Go.Proofs.YtkmbhknmjnbanaaW.PrintWords Go.Proofs.YtkmbhknmjnbanaaW.PrintLast Go.Shelf
set_option linter.unusedVariables false
set_option linter.unusedSimpArgs false

theorem rcounts_f (D : List Int) (a : Int) : swageref07_counts.f D a = some (countsB D a) := by
  unfold swageref07_counts.f countsB
  by_cases h1 : a ≥ 0
  · rw [if_pos h1, decide_eq_true (show 0 ≤ a from h1)]
    by_cases h2 : a < (D.length : Int)
    · rw [if_pos h2, decide_eq_true h2]
      by_cases h3 : a = 0
      · rw [if_pos h3, decide_eq_true h3]; rfl
      · rw [if_neg h3, if_pos h1, decide_eq_false h3]
        simp [rd]
    · rw [if_neg h2, decide_eq_false h2]; simp
  · rw [if_neg h1, decide_eq_false (show ¬ 0 ≤ a from h1)]; simp
theorem rdom_l0 (D : List Int) (hD : D.length ≤ 1000000) (a : Int) (h0 : 0 ≤ a) (h1 : a < (D.length : Int)) : ∀ (d i : Nat) (b : Int), i + d = D.length + 1 → Evt (fun k => swageref07_Dominates.l0 k D a b i) (decide (a ∈ upL D d b)) := by
  intro d
  induction d with
  | zero =>
    intro i b hi
    refine Evt.step (Evt.const rfl) fun k => ?_
    rw [swageref07_Dominates.l0, if_neg (by omega)]
    simp [upL]
  | succ d ih =>
    intro i b hi
    unfold upL
    by_cases e : a = b
    · subst e
      refine Evt.step (Evt.const rfl) fun k => ?_
      rw [swageref07_Dominates.l0, if_pos (by omega), if_pos rfl, if_pos ⟨h0, h1⟩]
      simp
    · by_cases h2 : b < 0
      · refine Evt.step (Evt.const rfl) fun k => ?_
        rw [swageref07_Dominates.l0, if_pos (by omega), if_neg e, if_pos h2, if_neg (by omega)]
        simp
      · by_cases h3 : b ≥ (D.length : Int)
        · refine Evt.step (Evt.const rfl) fun k => ?_
          rw [swageref07_Dominates.l0, if_pos (by omega), if_neg e, if_neg h2, if_pos h3, if_neg (by omega)]
          simp
        · rw [if_pos (by omega)]
          have e2 : decide (a ∈ b :: upL D d (D.getD b.toNat 0)) = decide (a ∈ upL D d (D.getD b.toNat 0)) := by
            rw [Bool.eq_iff_iff, decide_eq_true_eq, decide_eq_true_eq, List.mem_cons]; exact or_iff_right e
          rw [e2]
          refine Evt.step (ih (i + 1) (D.getD b.toNat 0) (by omega)) fun k => ?_
          rw [swageref07_Dominates.l0, if_pos (by omega), if_neg e, if_neg h2, if_neg h3, if_pos (by omega), if_pos (by omega), wsucc (by omega)]
          rfl
theorem rdom_ev (D : List Int) (hD : D.length ≤ 1000000) (a b : Int) : Evt (fun k => swageref07_Dominates.f k D a b) (domB D a b) := by
  have hno : Evt (fun k => swageref07_Dominates.j0 k D a b true) false := Evt.step (Evt.const rfl) fun k => by rw [swageref07_Dominates.j0, if_pos rfl]
  unfold swageref07_Dominates.f domB
  simp only [rcounts_f, Option.bind_some]
  cases hca : countsB D a with
  | false => exact Evt.congr hno fun k => by rw [if_neg (by simp)]
  | true =>
    cases hcb : countsB D b with
    | false => exact Evt.congr hno fun k => by rw [if_pos rfl, Bool.not_false]
    | true =>
      have h := hca
      unfold countsB at h
      simp only [Bool.and_eq_true, decide_eq_true_eq] at h
      refine Evt.step (rdom_l0 D hD a h.1.1 h.1.2 (D.length + 1) 0 b (by omega)) fun k => ?_
      rw [if_pos rfl, Bool.not_true, swageref07_Dominates.j0, if_neg (by simp)]
      rfl
theorem rkids_l0 (D : List Int) (hn : D.length ≤ 1000000) : ∀ (d m : Nat), m + d = D.length → Evt (fun k => swageref07_Kids.l0 k D (kidRows D D.length m) m) (kidRows D D.length D.length) := by
  intro d
  induction d with
  | zero =>
    intro m hm
    refine Evt.step (Evt.const rfl) fun k => ?_
    rw [swageref07_Kids.l0, if_neg (by omega), show m = D.length by omega]
  | succ d ih =>
    intro m hm
    have ih := ih (m + 1) (by omega)
    have hl : (kidRows D D.length m).length = D.length := by simp [kidRows]
    by_cases h0 : D.getD m 0 ≥ 0
    · by_cases h1 : D.getD m 0 < (D.length : Int)
      · obtain ⟨p, ep⟩ := Int.eq_ofNat_of_zero_le h0
        have hp : p < D.length := by omega
        have hk := kidRow_len D m p
        refine Evt.step ih fun k => ?_
        rw [swageref07_Kids.l0, if_pos (by omega), if_pos (by omega), rdN, if_pos h0, if_pos h1, if_pos (by omega), if_pos (by rw [hl]; omega), ep, rdL, kidRows_row D m hp, if_pos (by omega), Int.toNat_natCast, wsucc (by omega), kidRows_set D ep hp]
      · refine Evt.step ih fun k => ?_
        rw [swageref07_Kids.l0, if_pos (by omega), if_pos (by omega), rdN, if_pos h0, if_neg h1, wsucc (by omega), kidRows_keep D fun p hp => by omega]
    · refine Evt.step ih fun k => ?_
      rw [swageref07_Kids.l0, if_pos (by omega), if_pos (by omega), rdN, if_neg h0, wsucc (by omega), kidRows_keep D fun p hp => by omega]
theorem rkids_ev (D : List Int) (hn : D.length ≤ 1000000) : Evt (fun k => swageref07_Kids.f k D) (kidRows D D.length D.length) := by
  refine Evt.congr (rkids_l0 D hn D.length 0 (by omega)) fun k => ?_
  unfold swageref07_Kids.f
  have hz : kidRows D D.length 0 = List.replicate D.length [] := by
    refine List.ext_getElem (by simp [kidRows]) fun i h1 h2 => ?_
    simp [kidRows, kidRow]
  rw [if_pos (by omega), if_pos (by omega), hz, Int.toNat_natCast]
  rfl
theorem rdep_l1 {g : List (List Int)} (hr : rightB g = true) {D : List Int} (hD : DRow g D) {i : Nat} (hi : i < g.length) {x : List Int} (hx : x.length ≤ 100000) {res : List Int}
    (hnext : Evt (fun k => swageref07_Depth.l0 k D (x ++ [depI D (i : Int)]) ((i + 1 : Nat) : Int)) res) :
    Evt (fun k => swageref07_Depth.l1 k D x i 0 i) res := by
  obtain ⟨hr1, hr2, hg⟩ := right_rows hr
  have hl := hD.len
  by_cases hw : Way g 0 i
  · have H : ∀ (n v s : Nat), pos g v ≤ n → Way g 0 v → ((s : Nat) : Int) + depI D v = depI D i → Evt (fun k => swageref07_Depth.l1 k D x i s v) res := by
      have hp0 : ∀ (s : Nat), ((s : Nat) : Int) + depI D 0 = depI D i → Evt (fun k => swageref07_Depth.l1 k D x i s ((0 : Nat) : Int)) res := fun s hs => by
        rw [dep_zero hr hD] at hs
        refine Evt.step hnext fun k => ?_
        rw [swageref07_Depth.l1, if_neg (by omega), if_pos (by omega), if_pos (by omega), wsucc (by omega), ← hs, Int.add_zero]
      intro n
      induction n with
      | zero =>
        intro v s hv hwv hs
        have : v = 0 := pos_inj hr hwv (.refl 0) (by rw [pos_zero hr]; omega)
        subst this
        exact hp0 s hs
      | succ n ih =>
        intro v s hv hwv hs
        by_cases h0 : v = 0
        · subst h0; exact hp0 s hs
        · obtain ⟨b, eb, ib⟩ := hD.yes v hwv h0
          have hlt := ib.lt hr hwv
          obtain ⟨_, hd1, hd2, hd3⟩ := dep_kid hr hD hwv eb
          have hvl := reach_lt hr hwv
          obtain ⟨q, hq⟩ := up_is hr hD _ i (Nat.le_refl _) hw
          have hqd := hq.dep hr hD hw
          have hqp := hq.le
          have hpb := pos_bound hr hw
          refine Evt.step (ih b (s + 1) (by omega) ib.way (by omega)) fun k => ?_
          rw [swageref07_Depth.l1, if_pos (by omega), if_pos (by omega), if_pos (by omega), if_pos (by omega), rdN, eb, wsucc (by omega)]
    exact H _ i 0 (Nat.le_refl _) hw (by omega)
  · have h0 : i ≠ 0 := fun e => hw (by rw [e]; exact .refl 0)
    have hd := dep_no hr hD hi hw
    rw [hd] at hnext
    have h1 : Evt (fun k => swageref07_Depth.l1 k D x i ((1 : Nat) : Int) (-1)) res := by
      refine Evt.step hnext fun k => ?_
      rw [swageref07_Depth.l1, if_neg (by omega), if_neg (by omega), if_pos (by omega), wsucc (by omega)]
    refine Evt.step h1 fun k => ?_
    rw [swageref07_Depth.l1, if_pos (by omega), if_pos (by omega), if_pos (by omega), if_pos (by omega), rdN, hD.no i hi hw, show wrap64 ((0 : Int) + 1) = ((1 : Nat) : Int) by rw [w64 (by omega) (by omega)]; rfl]
theorem rdep_l0 {g : List (List Int)} (hr : rightB g = true) {D : List Int} (hD : DRow g D) : ∀ (d i : Nat), i + d = g.length → Evt (fun k => swageref07_Depth.l0 k D (depths D i) i) (depths D g.length) := by
  obtain ⟨hr1, hr2, hg⟩ := right_rows hr
  have hl := hD.len
  intro d
  induction d with
  | zero =>
    intro i hi
    refine Evt.step (Evt.const rfl) fun k => ?_
    rw [swageref07_Depth.l0, if_neg (by omega), show i = g.length by omega]
  | succ d ih =>
    intro i hi
    have ih := ih (i + 1) (by omega)
    rw [depths_succ] at ih
    refine Evt.step (rdep_l1 hr hD (i := i) (by omega) (x := depths D i) (by rw [depths_len]; omega) ih) fun k => ?_
    rw [swageref07_Depth.l0, if_pos (by omega)]
theorem dom_chain {g : List (List Int)} (hr : rightB g = true) {D : List Int} (hD : DRow g D) {a c : Nat} : ∀ (n v : Nat), pos g v ≤ n → Way g 0 v → Dom g a v → Dom g c v → Dom g a c ∨ Dom g c a := by
  have h00 : Dom g a 0 → Dom g c 0 → Dom g a c ∨ Dom g c a := fun h1 h2 => by
    rw [h1.of_zero, h2.of_zero]; exact .inl (Dom.self g 0)
  intro n
  induction n with
  | zero =>
    intro v hv hw h1 h2
    have : v = 0 := pos_inj hr hw (.refl 0) (by rw [pos_zero hr]; omega)
    subst this
    exact h00 h1 h2
  | succ n ih =>
    intro v hv hw h1 h2
    by_cases h0 : v = 0
    · subst h0; exact h00 h1 h2
    · by_cases ea : a = v
      · subst ea; exact .inr h2
      · by_cases ec : c = v
        · subst ec; exact .inl h1
        · obtain ⟨b, eb, ib⟩ := hD.yes v hw h0
          have hlt := ib.lt hr hw
          exact ih b (by omega) ib.way (ib.near a ea h1) (ib.near c ec h2)
theorem over_ev {g : List (List Int)} (hr : rightB g = true) {a b : Nat} (ha : a < g.length) (hb : b < g.length) : ∃ r, Evt (fun k => swageref07_Over.f k g a b) r ∧ (r = true ↔ Dom g a b) := by
  obtain ⟨hr1, hr2, hg⟩ := right_rows hr
  unfold swageref07_Over.f
  by_cases e : a = b
  · subst e
    exact ⟨true, Evt.congr (Evt.const rfl) fun k => by rw [if_pos rfl], by simp [Dom.self g a]⟩
  · have hcp := copy_ev g (by omega) (fun l hl => by have := right_8 hr l hl; omega)
    have hwo : ∃ r, Evt (fun k => swageref07_without.f k g a b) r ∧ (r = false ↔ Dom g a b) := by
      unfold swageref07_without.f
      by_cases h0 : a = 0
      · subst h0
        exact ⟨false, Evt.bind hcp (Evt.congr (Evt.const rfl) fun k => by rw [if_pos (by omega)]), by simp [Dom.zero g b]⟩
      · have hrc := right_cut hr a
        obtain ⟨_, _, hgc⟩ := right_rows hrc
        have hcl : (g.set a []).length = g.length := List.length_set
        have hs : rdOf false (marks g.length (walkOf (g.set a []) 0)) (b : Int) = true ↔ Way (g.set a []) 0 b := (mk_rd (by rw [marks_len]; exact hb)).trans ((mk_marks hb).trans (walk_mem hgc (by omega) b))
        have es : reachRes (g.set a []) 0 = marks g.length (walkOf (g.set a []) 0) := by unfold reachRes; rw [if_pos ⟨hrc, by omega, by omega⟩, hcl]; rfl
        have hre := reachref_ev (g := g.set a []) (by omega) 0
        rw [es] at hre
        refine ⟨rdOf false (marks g.length (walkOf (g.set a []) 0)) (b : Int), Evt.bind hcp ?_, ?_⟩
        · refine Evt.congr (Evt.bind (h := fun k t638 => (if 0 ≤ (b : Int) then (if (b : Int) < (t638.length : Int) then (some (rdOf false t638 (b : Int))) else (none)) else (none))) hre (Evt.congr (Evt.const rfl) fun k => ?_)) fun k => ?_
          · rw [if_pos (by omega), if_pos (by rw [marks_len]; omega)]
          · rw [if_neg (by omega), if_pos (by omega), if_pos (by omega), if_neg (by omega), Int.toNat_natCast]
        · have h2 := way_cut (g := g) (a := a) (v := b) h0 (fun h => e h.symm)
          constructor
          · intro h k hk
            have : rdOf false (marks g.length (walkOf (g.set a []) 0)) (b : Int) = true := hs.2 (h2.2 ⟨k, hk⟩)
            rw [h] at this; cases this
          · intro h
            have : ¬ rdOf false (marks g.length (walkOf (g.set a []) 0)) (b : Int) = true := fun h3 => by
              obtain ⟨k, hk⟩ := h2.1 (hs.1 h3)
              exact h k hk
            simpa using this
    obtain ⟨r, h1, h2⟩ := hwo
    refine ⟨!r, Evt.congr (Evt.bind (h := fun _ t => some (!t)) h1 (Evt.const rfl)) fun k => ?_, by rw [← h2]; simp⟩
    rw [if_neg (by omega)]
/-- the reference's best so far: none, or the lowest of those that dominate b among the first j -/
def Best (g : List (List Int)) (b j : Nat) (x : Int) : Prop := (x = -1 ∧ ∀ d, d < j → d ≠ b → Way g 0 d → ¬ Dom g d b) ∨ ∃ c : Nat, x = (c : Int) ∧ c < j ∧ c ≠ b ∧ Way g 0 c ∧ Dom g c b ∧ ∀ d, d < j → d ≠ b → Way g 0 d → Dom g d b → Dom g d c
theorem Best.skip {g : List (List Int)} {b j : Nat} {x : Int} (h : Best g b j x) (hn : j = b ∨ ¬ Way g 0 j ∨ ¬ Dom g j b) : Best g b (j + 1) x := by
  have H : ∀ d, d < j + 1 → d ≠ b → Way g 0 d → Dom g d b → d < j := fun d h1 h2 h3 h4 => by
    by_cases e : d = j
    · subst e
      rcases hn with hn | hn | hn
      · exact absurd hn h2
      · exact absurd h3 hn
      · exact absurd h4 hn
    · omega
  rcases h with ⟨h1, h2⟩ | ⟨c, h1, h2, h3, h4, h5, h6⟩
  · exact .inl ⟨h1, fun d a1 a2 a3 a4 => h2 d (H d a1 a2 a3 a4) a2 a3 a4⟩
  · exact .inr ⟨c, h1, by omega, h3, h4, h5, fun d a1 a2 a3 a4 => h6 d (H d a1 a2 a3 a4) a2 a3 a4⟩
section
variable {g : List (List Int)} {D mk : List Int}
theorem rid_l1 (hr : rightB g = true) {D : List Int} (hD : DRow g D) {mk : List Bool} (hml : mk.length = g.length) (hm : ∀ i, i < g.length → (rdOf false mk (i : Int) = true ↔ Way g 0 i)) {i : Nat} (hi : i < g.length) {x : List Int} (hx : x.length ≤ 100000) {res : List Int}
    (hnext : Evt (fun k => swageref07_Idom.l0 k g mk (x ++ [D.getD i 0]) ((i + 1 : Nat) : Int)) res) (hi0 : i ≠ 0) (hw : Way g 0 i) : ∀ (d j : Nat) (b : Int), j + d = g.length → Best g i j b → Evt (fun k => swageref07_Idom.l1 k g mk x i b j) res := by
  obtain ⟨hr1, hr2, hg⟩ := right_rows hr
  have hmi := (hm i hi).2 hw
  intro d
  induction d with
  | zero =>
    intro j b hj hb
    have e : b = D.getD i 0 := by
      rcases hb with ⟨h1, h2⟩ | ⟨c, h1, h2, h3, h4, h5, h6⟩
      · exact absurd (Dom.zero g i) (h2 0 (by omega) (fun e => hi0 e.symm) (.refl 0))
      · obtain ⟨b', eb, ib⟩ := hD.yes i hw hi0
        have : IsIdom g i c := ⟨h4, h3, h5, fun d a1 a2 => by
          have hwd := Dom.way hw a2
          have := reach_lt hr hwd
          exact h6 d (by omega) a1 hwd a2⟩
        rw [h1, eb, this.unique hr ib]
    refine Evt.step (Evt.step hnext (f := fun k => swageref07_Idom.j2 k g mk x i b j false) fun k => ?_) fun k => ?_
    · rw [swageref07_Idom.j2, if_neg (by simp), if_pos (by omega), e, wsucc (by omega)]
    · rw [swageref07_Idom.l1, if_neg (by omega)]
  | succ d ih =>
    intro j b hj hb
    have hj' : j < g.length := by omega
    refine Evt.step (g := fun k => swageref07_Idom.j2 k g mk x i b j true) ?_ fun k => by rw [swageref07_Idom.l1, if_pos (by omega), if_neg (by omega), if_pos (by omega), if_pos (by omega), hmi]
    have hskip : (j = i ∨ ¬ Way g 0 j ∨ ¬ Dom g j i) → Evt (fun k => swageref07_Idom.j3 k g mk x i b j true) res := fun h =>
      Evt.step (ih (j + 1) b (by omega) (hb.skip h)) fun k => by rw [swageref07_Idom.j3, if_pos rfl, wsucc (by omega)]
    by_cases e : j = i
    · refine Evt.step (hskip (.inl e)) fun k => ?_
      rw [swageref07_Idom.j2, if_pos rfl, if_pos (by omega)]
    · by_cases hwj : Way g 0 j
      · have hmj := (hm j hj').2 hwj
        obtain ⟨r, ho, hro⟩ := over_ev hr hj' hi
        have hj3 : Evt (fun k => swageref07_Idom.j3 k g mk x i b j (!r)) res := by
          cases r with
          | false => exact hskip (.inr (.inr fun h => by have := hro.2 h; cases this))
          | true =>
            have hdj := hro.1 rfl
            have htake : (∀ d, d < j → d ≠ i → Way g 0 d → Dom g d i → Dom g d j) → Best g i (j + 1) (j : Int) := fun h => .inr ⟨j, rfl, by omega, e, hwj, hdj, fun d a1 a2 a3 a4 => by
              by_cases ed : d = j
              · subst ed; exact Dom.self g d
              · exact h d (by omega) a2 a3 a4⟩
            rcases hb with ⟨h1, h2⟩ | ⟨c, h1, h2, h3, h4, h5, h6⟩
            · refine Evt.step (ih (j + 1) (j : Int) (by omega) (htake fun d a1 a2 a3 a4 => absurd a4 (h2 d a1 a2 a3))) fun k => ?_
              rw [Bool.not_true, swageref07_Idom.j3, if_neg (by simp), if_pos (by omega), wsucc (by omega)]
            · obtain ⟨r2, ho2, hro2⟩ := over_ev hr (a := c) (b := j) (by omega) hj'
              refine Evt.step (g := fun k => (swageref07_Over.f k g (c : Int) (j : Int)).bind fun t653 => (if t653 = true then (swageref07_Idom.l1 k g mk x i j (wrap64 ((j : Int) + 1))) else (swageref07_Idom.l1 k g mk x i b (wrap64 ((j : Int) + 1))))) (Evt.bind ho2 ?_) fun k => by rw [Bool.not_true, swageref07_Idom.j3, if_neg (by simp), if_neg (by omega), h1]
              cases r2 with
              | true =>
                have hcj := hro2.1 rfl
                refine Evt.congr (ih (j + 1) (j : Int) (by omega) (htake fun d a1 a2 a3 a4 => (h6 d a1 a2 a3 a4).trans hcj)) fun k => ?_
                rw [if_pos rfl, wsucc (by omega)]
              | false =>
                have hcj : Dom g j c := (dom_chain hr hD _ i (Nat.le_refl _) hw h5 hdj).resolve_left fun h => by have := hro2.2 h; cases this
                refine Evt.congr (ih (j + 1) b (by omega) (.inr ⟨c, h1, by omega, h3, h4, h5, fun d a1 a2 a3 a4 => by
                  by_cases ed : d = j
                  · subst ed; exact hcj
                  · exact h6 d (by omega) a2 a3 a4⟩)) fun k => ?_
                rw [if_neg (by simp), wsucc (by omega)]
        refine Evt.step (g := fun k => (swageref07_Over.f k g (j : Int) (i : Int)).bind fun t652 => (swageref07_Idom.j3 k g mk x i b j (!t652))) (Evt.bind ho hj3) fun k => ?_
        rw [swageref07_Idom.j2, if_pos rfl, if_neg (by omega), if_pos (by omega), if_pos (by omega), if_pos hmj]
      · refine Evt.step (hskip (.inr (.inl hwj))) fun k => ?_
        rw [swageref07_Idom.j2, if_pos rfl, if_neg (by omega), if_pos (by omega), if_pos (by omega), if_neg (fun h => hwj ((hm j hj').1 h))]
theorem rid_l0 (hr : rightB g = true) {D : List Int} (hD : DRow g D) {mk : List Bool} (hml : mk.length = g.length) (hm : ∀ i, i < g.length → (rdOf false mk (i : Int) = true ↔ Way g 0 i)) : ∀ (d i : Nat), i + d = g.length → Evt (fun k => swageref07_Idom.l0 k g mk (D.take i) i) D := by
  obtain ⟨hr1, hr2, hg⟩ := right_rows hr
  have hl := hD.len
  intro d
  induction d with
  | zero =>
    intro i hi
    refine Evt.step (Evt.const rfl) fun k => ?_
    rw [swageref07_Idom.l0, if_neg (by omega), List.take_of_length_le (by omega)]
  | succ d ih =>
    intro i hi
    have hi' : i < g.length := by omega
    have ih := ih (i + 1) (by omega)
    have et : D.take (i + 1) = D.take i ++ [D.getD i 0] := by
      rw [List.take_add_one, List.getD_eq_getElem?_getD, List.getElem?_eq_getElem (by omega)]; rfl
    rw [et] at ih
    have hxl : (D.take i).length ≤ 100000 := by rw [List.length_take]; omega
    refine Evt.step (g := fun k => swageref07_Idom.l1 k g mk (D.take i) i (-1) ((0 : Nat) : Int)) ?_ fun k => by rw [swageref07_Idom.l0, if_pos (by omega)]; rfl
    have hno : D.getD i 0 = -1 → Evt (fun k => swageref07_Idom.j2 k g mk (D.take i) i (-1) ((0 : Nat) : Int) false) D := fun e => by
      rw [e] at ih
      refine Evt.step ih fun k => ?_
      rw [swageref07_Idom.j2, if_neg (by simp), if_pos (by omega), wsucc (by omega)]
    by_cases h0 : i = 0
    · refine Evt.step (hno (by rw [h0]; exact hD.root)) fun k => ?_
      rw [swageref07_Idom.l1, if_pos (by omega), if_pos (by omega)]
    · by_cases hw : Way g 0 i
      · exact rid_l1 hr hD hml hm hi' hxl ih h0 hw g.length 0 (-1) (by omega) (.inl ⟨rfl, fun d h => absurd h (by omega)⟩)
      · have hmi : rdOf false mk (i : Int) = false := by
          have : ¬ rdOf false mk (i : Int) = true := fun h => hw ((hm i hi').1 h)
          simpa using this
        refine Evt.step (hno (hD.no i hi' hw)) fun k => ?_
        rw [swageref07_Idom.l1, if_pos (by omega), if_neg (by omega), if_pos (by omega), if_pos (by omega), hmi]
end
theorem rid_ev {g : List (List Int)} (hr : rightB g = true) {D : List Int} (hD : DRow g D) : Evt (fun k => swageref07_Idom.f k g) D := by
  obtain ⟨hr1, hr2, hg⟩ := right_rows hr
  have h1 := rref_ev (g := g) hr1
  rw [hr] at h1
  have h2 := reachref_ev (g := g) hr1 0
  have er : reachRes g 0 = marks g.length (walkOf g 0) := by unfold reachRes; rw [if_pos ⟨hr, by omega, by omega⟩]; rfl
  rw [er] at h2
  have hml : (marks g.length (walkOf g 0)).length = g.length := marks_len _ _
  have hm : ∀ i, i < g.length → (rdOf false (marks g.length (walkOf g 0)) (i : Int) = true ↔ Way g 0 i) := fun i hi => (mk_rd (by omega)).trans ((mk_marks hi).trans (walk_mem hg (by omega) i))
  unfold swageref07_Idom.f
  exact Evt.bind h1 (Evt.congr (Evt.bind (h := fun k t => swageref07_Idom.l0 k g t ([] : List Int) 0) h2 (rid_l0 hr hD hml hm g.length 0 (by omega))) fun k => by rw [if_pos rfl])
theorem drows_pure (g : List (List Int)) (a b : Int) : ∃ k, swagelaw07_DomRows.f k g a b = some true := by
  obtain ⟨r, hf, hr⟩ := few7_ev2 g
  suffices H : Evt (fun k => swagelaw07_DomRows.f k g a b) true from H.get
  unfold swagelaw07_DomRows.f swagelaw07_small.f
  simp only [Option.bind_some]
  refine Evt.bind hf ?_
  cases r with
  | false => exact Evt.congr (Evt.const rfl) fun k => by rw [if_neg (by simp)]
  | true =>
    have hn : g.length ≤ 24 := hr rfl
    have H : ∀ D : List Int, D.length ≤ 1000 → Evt (fun k => dom_Idom.f k g) D → Evt (fun k => swageref07_Idom.f k g) D → Evt (fun k => swageref07_Depth.f k D) (depths D D.length) →
        Evt (fun k => (dom_Idom.f k g).bind fun t687 => ((dom_Dominates.f t687 a b).bind fun t690 => ((swageref07_Idom.f k g).bind fun t691 => ((swageref07_Dominates.f k t691 a b).bind fun t694 => (if (t690 == t694) = true then ((dom_Kids.f k t687).bind fun t695 => ((swageref07_Kids.f k t687).bind fun t698 => ((swageref06_Rows.f k t695 t698).bind fun t701 => (if t701 = true then ((dom_Depth.f t687).bind fun t702 => ((swageref07_Depth.f k t687).bind fun t705 => ((swageref02_Ints.f k t702 t705).bind fun t708 => (some t708)))) else (some false))))) else (some false)))))) true := by
      intro D hDl h1 h2 h3
      have hk := kids_ev D (by omega)
      have hrk := rkids_ev D (by omega)
      have hro := rows_ev (kidRows D D.length D.length) (by simp [kidRows]; omega) (fun x hx => by
        unfold kidRows at hx
        obtain ⟨p, hp, rfl⟩ := List.mem_map.1 hx
        have := kidRow_len D D.length p
        omega)
      have hin := ints_ev (depths D D.length) (by rw [depths_len]; omega)
      have hdm := rdom_ev D (by omega) a b
      obtain ⟨K1, g1⟩ := h1
      obtain ⟨K2, g2⟩ := h2
      obtain ⟨K3, g3⟩ := h3
      obtain ⟨K4, g4⟩ := hk
      obtain ⟨K5, g5⟩ := hrk
      obtain ⟨K6, g6⟩ := hro
      obtain ⟨K7, g7⟩ := hin
      obtain ⟨K8, g8⟩ := hdm
      refine ⟨K1 + K2 + K3 + K4 + K5 + K6 + K7 + K8, fun k hk => ?_⟩
      have q1 := g1 k (by omega)
      have q2 := g2 k (by omega)
      have q3 := g3 k (by omega)
      have q4 := g4 k (by omega)
      have q5 := g5 k (by omega)
      have q6 := g6 k (by omega)
      have q7 := g7 k (by omega)
      have q8 := g8 k (by omega)
      dsimp only at q1 q2 q3 q4 q5 q6 q7 q8 ⊢
      have e1 : dom_Dominates.f D a b = some (domB D a b) := by unfold dom_Dominates.f; rw [if_pos (by omega)]
      have e2 : dom_Depth.f D = some (depths D D.length) := by unfold dom_Depth.f; rw [if_pos (by omega)]
      rw [q1, Option.bind_some, e1, Option.bind_some, q2, Option.bind_some, q8, Option.bind_some, if_pos (by simp), q4, Option.bind_some, q5, Option.bind_some, q6, Option.bind_some, if_pos rfl, e2, Option.bind_some, q3, Option.bind_some, q7, Option.bind_some]
    simp only [if_true]
    cases hrt : rightB g with
    | true =>
      obtain ⟨D, hid, hD⟩ := drow_ev hrt
      have hDl := hD.len
      have hd := rdep_l0 hrt hD g.length 0 (by omega)
      rw [← hDl] at hd
      exact H D (by omega) hid (rid_ev hrt hD) hd
    | false =>
      refine H [] (by simp) ?_ ?_ ?_
      · exact ⟨0, fun k _ => by show dom_Idom.f k g = some []; unfold dom_Idom.f idomO; rw [hrt]; rfl⟩
      · have h1 := rref_ev (g := g) (by omega)
        rw [hrt] at h1
        unfold swageref07_Idom.f
        exact Evt.bind h1 (Evt.congr (Evt.const rfl) fun k => by rw [if_neg (by simp)])
      · exact Evt.step (Evt.const rfl) fun k => by unfold swageref07_Depth.f; rw [swageref07_Depth.l0, if_neg (by simp)]; rfl
theorem law_drows (A : Option Addr) (c : Nat) (g : List (List Int)) (a b : Int) (w : World) (hC : Kd.C (Kd.slice 3 (Kd.int .i64)) w A g.length g) (hc : g.length ≤ c) (hp : ∀ x ∈ g, ∀ y ∈ x, (Lit.int .i64 y).wf = true) (ha : (Lit.int .i64 a).wf = true) (hb : (Lit.int .i64 b).wf = true) :
    Calls Try.prog 9 #[.slice A g.length c, .int .i64 a, .int .i64 b] w fun e w' => e = .returned (.bool true) ∧ Below w.heap.size w w' := by
  obtain ⟨k, hk⟩ := drows_pure g a b
  exact swagelaw07_DomRows.calls k A c g a b true w hC hc hk
end Go.Proofs.Ytkmbhknmjnbanaa.A


namespace Go.Proofs.Ytkmbhknmjnbanaa.A
open Go.Deep Go.RowKit Go.Proofs.YtkmbhknmjnbanaaW.PrintWords Go.Proofs.YtkmbhknmjnbanaaW.PrintLast
set_option linter.unusedVariables false
set_option linter.unusedSimpArgs false

section
variable {H : Type} {enc : TypeId × Value → H} {P : Program} {w : World} {base : Nat} {α : Type} [Inhabited α]

def Opens (enc : TypeId × Value → H) (P : Program) (w : World) (base : Nat) (t : TypeId) (d : Kd α) (p : α → Prop) : Prop :=
  ∀ fuel cs x, DataW.trod enc P w base (fun _ => true) true fuel t cs = some x → ∃ y, d.K w y cs ∧ p y

theorem opens_int {t : TypeId} {k : IntKind} (ht : P.underlying t = some (.int k)) : Opens enc P w base t (Kd.int k) (fun n => (Lit.int k n).wf = true) := by
  intro fuel cs x h
  obtain ⟨n, rfl, _, hw⟩ := DataW.trod_int ht h
  exact ⟨n, rfl, hw⟩

theorem opens_slice {t e : TypeId} {d : Kd α} {p : α → Prop} (ht : P.underlying t = some (.slice e)) (hc : P.cellsOf e = d.sz) (ho : Opens enc P w base e d p) : Opens enc P w base t (Kd.slice e d) (fun xs => ∀ x ∈ xs, p x) := by
  intro fuel cs x h
  rcases open_slice ht h with ⟨rfl, _⟩ | ⟨a, len, cap, m, n, D, Pl, rfl, hb, hl, hm, hmm, _, hx⟩
  · exact ⟨[], ⟨none, 0, rfl, Nat.le_refl _, rfl, by simp, fun h => by simp at h⟩, fun x hx => by simp at hx⟩
  · simp only [if_true] at hmm
    obtain ⟨Y, hY⟩ := choose_lt (α := α) (n := len) (p := fun i y => p y ∧ ∃ c, d.K w y c ∧ ∀ j u, c[j]? = some u → w.cell? (a.add (i * d.sz + j)) = some u) (fun i hi => by
      obtain ⟨cs', h1, h2⟩ := hx i (by omega)
      obtain ⟨y, hy, hp⟩ := ho _ _ _ h2
      obtain ⟨_, hlen, hcell⟩ := World.cells?_some h1
      refine ⟨y, hp, cs', hy, fun j u hj => ?_⟩
      have hj' : j < cs'.length := (List.getElem?_eq_some_iff.1 hj).1
      have := hcell j (by omega)
      rw [hj, hc] at this
      rwa [Addr.add_add] at this)
    have hlen : ((List.range len).map Y).length = len := by simp
    refine ⟨(List.range len).map Y, ⟨some a, cap, by rw [hlen], by rw [hlen]; exact hl, hlen.trans hlen.symm, by rw [hlen]; unfold maxLen at hm; omega, fun _ => ⟨a, rfl, fun j y hj => ?_⟩⟩, fun y hy => ?_⟩
    · have hjl : j < len := by have := (List.getElem?_eq_some_iff.1 hj).1; omega
      rw [List.getElem?_map, List.getElem?_range hjl] at hj
      obtain rfl := Option.some.inj hj
      obtain ⟨_, c, hk, hcell⟩ := hY j hjl
      exact ⟨c, d.K_len hk, hk, hcell⟩
    · obtain ⟨i, hi, rfl⟩ := List.mem_map.1 hy
      exact (hY i (List.mem_range.1 hi)).1
omit [Inhabited α] in
/-- of a parameter: a slice -/
theorem opens_param {t e : TypeId} {d : Kd α} {p : List α → Prop} (ho : Opens enc P w base t (Kd.slice e d) p) {A : Option Addr} {len cap : Nat} {x : DataW H} {ps : List MemPlace} (h : DataW.Trod enc P w base (fun _ => true) true t (.slice A len cap) x ps) :
    ∃ xs : List α, len = xs.length ∧ xs.length ≤ cap ∧ d.C w A xs.length xs ∧ p xs := by
  obtain ⟨fuel, hf⟩ := h
  obtain ⟨xs, ⟨A', c', he, hl, hC⟩, hp⟩ := ho _ _ _ hf
  simp [Value.cells] at he
  obtain ⟨rfl, rfl, rfl⟩ := he
  exact ⟨xs, rfl, hl, hC, hp⟩
end

theorem opens_graph {H : Type} {enc : TypeId × Value → H} {w : World} {base : Nat} : Opens enc Try.prog w base 22 (Kd.slice 27 (Kd.slice 3 (Kd.int .i64))) (fun xs => ∀ x ∈ xs, ∀ y ∈ x, (Lit.int .i64 y).wf = true) :=
  opens_slice Try.underlying22 (by kernel_rfl) (opens_slice Try.underlying27 (by kernel_rfl) (opens_int Try.underlying3))
end Go.Proofs.Ytkmbhknmjnbanaa.A

