/- Parts of the proof, in the order in which they rest on one another. -/
import Derived.Test.YtphmlkbmnmicpaaMHeights2
import Derived.Deep.RegionHeld3
import Derived.Deep.Slices
import Derived.Deep.Cut
import Derived.ChangeArms
/- What the machine does at this function, and a plain Lean function that says the same: written by a program for this claim; Lean checks it. -/
namespace Go.Proofs.Ytphmlkbmnmicpaa.A
open Go.RowKit Go.Proofs.YtphmlkbmnmicpaaW.PrintWords Go.Proofs.YtphmlkbmnmicpaaW.PrintLast Go.Proofs.YtphmlkbmnmicpaaW.PrintMore
attribute [local go_sem] max2_int min2_int max_two min_two max_three min_three max_four min_four   -- for this text's walks alone
set_option linter.unusedVariables false
set_option linter.unusedSimpArgs false

/-! ### sched_copied: function 31 -/
def sched_copied.f (a0_0 : Int) (a0_1 : Int) (a0_2 : Int) (a0_3 : Int) (a0_4 : Int) (l0_5 : List Int) : Option (Int × Int × Int × Int × Int × List Int) := (slices_Clone_int_int.f l0_5).bind fun t168 => (some (a0_0, a0_1, a0_2, a0_3, a0_4, t168))
set_option maxHeartbeats 8000000 in
set_option maxRecDepth 100000 in
theorem sched_copied.calls (a0_0 : Int) (a0_1 : Int) (a0_2 : Int) (a0_3 : Int) (a0_4 : Int) (A0_5 : Option Addr) (c0_5 : Nat) (l0_5 : List Int) (r1 : Int) (r2 : Int) (r3 : Int) (r4 : Int) (r5 : Int) (r6 : List Int) (w : World) (hr0_5 : Kd.C (Kd.int .i64) w A0_5 l0_5.length l0_5) (hc0_5 : l0_5.length ≤ c0_5) (h : sched_copied.f a0_0 a0_1 a0_2 a0_3 a0_4 l0_5 = some (r1, r2, r3, r4, r5, r6)) :
    Calls Try.prog 31 #[.agg #[.int .i64 a0_0, .int .i64 a0_1, .int .i64 a0_2, .int .i64 a0_3, .int .i64 a0_4, .slice A0_5 l0_5.length c0_5]] w fun e w' => ∃ v5_ : Value, e = .returned (.agg #[.int .i64 r1, .int .i64 r2, .int .i64 r3, .int .i64 r4, .int .i64 r5, v5_]) ∧ Kd.R (Kd.int .i64) 3 w' w.heap.size (fun _ => True) v5_ r6 ∧ Below w.heap.size w w' := by
  have hu37 := Try.underlying37
  have HR0_5 := Aside0.mk hr0_5
  have HC0_5 := Aside0.mk hc0_5
  clear hr0_5 hc0_5
  have HB := Aside0.mk (Below.refl w.heap.size w)
  have H : ((slices_Clone_int_int.f l0_5).bind fun t168 => (some (a0_0, a0_1, a0_2, a0_3, a0_4, t168))) = some (r1, r2, r3, r4, r5, r6) := h
  clear h
  replace H := Option.bind_eq_some_iff.mp H
  obtain ⟨t168, A20, H⟩ := H
  replace H : (some (a0_0, a0_1, a0_2, a0_3, a0_4, t168)) = some (r1, r2, r3, r4, r5, r6) := H
  have A2 := Aside0.mk A20
  clear A20
  simp only [Option.some.injEq, Prod.mk.injEq] at H
  obtain ⟨rfl, rfl, rfl, rfl, rfl, rfl⟩ := H
  go_enter Try.func31, Try.ntmps31
  go_wp2_with (first | ((with_reducible refine gate_dst (N := 1) rfl ?_); refine box_event ?hg (N := 1) ?hd (cs := #[.int .i64 a0_0, .int .i64 a0_1, .int .i64 a0_2, .int .i64 a0_3, .int .i64 a0_4, .slice A0_5 l0_5.length c0_5]) (t := 37) ?hr ?_; (case hd => rfl); (case hg => rfl); (case hr => first | (go_simp; done) | (go_simp; rfl)); intro gb166 hg w3 hbox hb; have n0_ := Aside0.mk (below_step (by repeat (first | (with_reducible first | exact HB.out | apply below_alloc | apply pw_below_drewN | apply below_drew1) | exact HB.out)) hb); have n1_ := Aside0.mk (hbox); have n2_ := Aside0.mk ((by rw [hg]; exact (below_size (by repeat (first | (with_reducible first | exact HB.out | apply below_alloc | apply pw_below_drewN | apply below_drew1) | exact HB.out))) : w.heap.size ≤ gb166)); have n3_ := Aside0.mk ((by rw [hg]; exact (below_size (by repeat (first | (with_reducible first | exact HB.out | apply below_alloc | apply pw_below_drewN | apply below_drew1) | exact HB.out))) : w.heap.size ≤ gb166)); clear HB; have HB := n0_; have BK166 := n1_; have GW166 := n2_; have GE166 := n3_; clear n0_ n1_ n2_ n3_; clear hb hbox hg) | ((with_reducible refine gate_dst (N := 2) rfl ?_); refine box_event ?hg (N := 2) ?hd (cs := #[.int .i64 0, .int .i64 0, .int .i64 0, .int .i64 0, .int .i64 0, .slice none 0 0]) (t := 37) ?hr ?_; (case hd => rfl); (case hg => rfl); (case hr => first | (go_simp; done) | (go_simp; rfl)); intro gb167 hg w4 hbox hb; have n0_ := Aside0.mk (blk_below (g := gb166) (o := .cells #[.int .i64 a0_0, .int .i64 a0_1, .int .i64 a0_2, .int .i64 a0_3, .int .i64 a0_4, .slice A0_5 l0_5.length c0_5] 37 (0, 0)) (by (with_reducible repeat (first | refine blk_drewN ?_ _ | refine blk_drew ?_ | refine blk_alloc ?_ _)); exact BK166.out) hb); have n1_ := Aside0.mk (below_step (by repeat (first | (with_reducible first | exact HB.out | apply below_alloc | apply pw_below_drewN | apply below_drew1 | refine below_set ?_ GE166.out) | exact HB.out)) hb); have n2_ := Aside0.mk (hbox); have n3_ := Aside0.mk ((by rw [hg]; exact (below_size (by repeat (first | (with_reducible first | exact HB.out | apply below_alloc | apply pw_below_drewN | apply below_drew1 | refine below_set ?_ GE166.out) | exact HB.out))) : w.heap.size ≤ gb167)); have n4_ := Aside0.mk ((by rw [hg]; exact (below_size (by repeat (first | (with_reducible first | exact HB.out | apply below_alloc | apply pw_below_drewN | apply below_drew1 | refine below_set ?_ GE166.out) | exact HB.out))) : w.heap.size ≤ gb167)); have n5_ := Aside0.mk ((by rw [hg]; exact Nat.ne_of_lt (blk_lt (g := gb166) (o := .cells #[.int .i64 a0_0, .int .i64 a0_1, .int .i64 a0_2, .int .i64 a0_3, .int .i64 a0_4, .slice A0_5 l0_5.length c0_5] 37 (0, 0)) (by (with_reducible repeat (first | refine blk_drewN ?_ _ | refine blk_drew ?_ | refine blk_alloc ?_ _)); exact BK166.out)) : gb166 ≠ gb167)); have n6_ := Aside0.mk ((by rw [hg]; exact Nat.ne_of_gt (blk_lt (g := gb166) (o := .cells #[.int .i64 a0_0, .int .i64 a0_1, .int .i64 a0_2, .int .i64 a0_3, .int .i64 a0_4, .slice A0_5 l0_5.length c0_5] 37 (0, 0)) (by (with_reducible repeat (first | refine blk_drewN ?_ _ | refine blk_drew ?_ | refine blk_alloc ?_ _)); exact BK166.out)) : gb167 ≠ gb166)); clear BK166; clear HB; have BK166 := n0_; have HB := n1_; have BK167 := n2_; have GW167 := n3_; have GE167 := n4_; have NB166_167 := n5_; have NB167_166 := n6_; clear n0_ n1_ n2_ n3_ n4_ n5_ n6_; clear hb hbox hg; have hnb5 := NB166_167.out; have hnc5 := NB167_166.out; have hcz6_0 : w4.cell? ⟨gb166, 0, none⟩ = some (.int .i64 a0_0) := (blk_cell BK166.out 0).trans rfl; have hcz6_1 : w4.cell? ⟨gb166, 1, none⟩ = some (.int .i64 a0_1) := (blk_cell BK166.out 1).trans rfl; have hcz6_2 : w4.cell? ⟨gb166, 2, none⟩ = some (.int .i64 a0_2) := (blk_cell BK166.out 2).trans rfl; have hcz6_3 : w4.cell? ⟨gb166, 3, none⟩ = some (.int .i64 a0_3) := (blk_cell BK166.out 3).trans rfl; have hcz6_4 : w4.cell? ⟨gb166, 4, none⟩ = some (.int .i64 a0_4) := (blk_cell BK166.out 4).trans rfl; have hcz6_5 : w4.cell? ⟨gb166, 5, none⟩ = some (.slice A0_5 l0_5.length c0_5) := (blk_cell BK166.out 5).trans rfl; have hfz6_0 := blk_frozen BK166.out 0; have hfz6_1 := blk_frozen BK166.out 1; have hfz6_2 := blk_frozen BK166.out 2; have hfz6_3 := blk_frozen BK166.out 3; have hfz6_4 := blk_frozen BK166.out 4; have hfz6_5 := blk_frozen BK166.out 5) | ((with_reducible refine gate_callee (f := 48) rfl ?_); refine goesL_ (some 5) rfl rfl Try.func48 (by kernel_rfl) rfl #[.slice A0_5 l0_5.length c0_5] rfl (by (try simp only [List.map_toArray, List.map_cons, List.map_nil]); first | done | rfl | (simp only [List.length_drop, List.length_take]; rfl)) ?_; (with_reducible refine (slices_Clone_int_int.calls _ _ l0_5 t168 _ ?side1 ?side2 A2.out).mono ?_); (case side1 => repeat (first | exact (Kd.C_below HR0_5.out HB.out) | (with_reducible refine Kd.C_alloc ?_ _) | (with_reducible refine Kd.C_drewN ?_ _) | (with_reducible refine Kd.C_drew ?_))); (case side2 => exact HC0_5.out); rintro e w7 ⟨v169, rfl, ho0, hb⟩; refine ⟨_, rfl, ?_⟩; have n0_ := Aside0.mk (Kd.R_lower ho0 (below_size (by repeat (first | (with_reducible first | exact HB.out | apply below_alloc | apply pw_below_drewN | apply below_drew1 | refine below_set ?_ GE166.out | refine below_set ?_ GE167.out) | exact HB.out)))); have n1_ := Aside0.mk (blk_below (g := gb166) (o := .cells #[.int .i64 a0_0, .int .i64 a0_1, .int .i64 a0_2, .int .i64 a0_3, .int .i64 a0_4, .slice A0_5 l0_5.length c0_5] 37 (0, 0)) (by (with_reducible repeat (first | refine blk_drewN ?_ _ | refine blk_drew ?_ | refine blk_alloc ?_ _)); exact BK166.out) hb); have n2_ := Aside0.mk (blk_below (g := gb167) (o := .cells #[.int .i64 0, .int .i64 0, .int .i64 0, .int .i64 0, .int .i64 0, .slice none 0 0] 37 (0, 0)) (by (with_reducible repeat (first | refine blk_drewN ?_ _ | refine blk_drew ?_ | refine blk_alloc ?_ _)); exact BK167.out) hb); have n3_ := Aside0.mk (below_step (by repeat (first | (with_reducible first | exact HB.out | apply below_alloc | apply pw_below_drewN | apply below_drew1 | refine below_set ?_ GE166.out | refine below_set ?_ GE167.out) | exact HB.out)) hb); clear BK166; clear BK167; clear HB; have HO170 := n0_; have BK166 := n1_; have BK167 := n2_; have HB := n3_; clear n0_ n1_ n2_ n3_; (try clear hb); (try clear hb2); (try clear hk); (try clear hi); (try clear ho0); obtain ⟨Ao8, co8, eo8⟩ := Kd.R_slice HO170.out; subst eo8; have hcz9_0 : w7.cell? ⟨gb166, 0, none⟩ = some (.int .i64 a0_0) := (blk_cell BK166.out 0).trans rfl; have hcz9_1 : w7.cell? ⟨gb166, 1, none⟩ = some (.int .i64 a0_1) := (blk_cell BK166.out 1).trans rfl; have hcz9_2 : w7.cell? ⟨gb166, 2, none⟩ = some (.int .i64 a0_2) := (blk_cell BK166.out 2).trans rfl; have hcz9_3 : w7.cell? ⟨gb166, 3, none⟩ = some (.int .i64 a0_3) := (blk_cell BK166.out 3).trans rfl; have hcz9_4 : w7.cell? ⟨gb166, 4, none⟩ = some (.int .i64 a0_4) := (blk_cell BK166.out 4).trans rfl; have hcz9_5 : w7.cell? ⟨gb166, 5, none⟩ = some (.slice A0_5 l0_5.length c0_5) := (blk_cell BK166.out 5).trans rfl; have hfz9_0 := blk_frozen BK166.out 0; have hfz9_1 := blk_frozen BK166.out 1; have hfz9_2 := blk_frozen BK166.out 2; have hfz9_3 := blk_frozen BK166.out 3; have hfz9_4 := blk_frozen BK166.out 4; have hfz9_5 := blk_frozen BK166.out 5; have hcz10_0 : w7.cell? ⟨gb167, 0, none⟩ = some (.int .i64 0) := (blk_cell BK167.out 0).trans rfl; have hcz10_1 : w7.cell? ⟨gb167, 1, none⟩ = some (.int .i64 0) := (blk_cell BK167.out 1).trans rfl; have hcz10_2 : w7.cell? ⟨gb167, 2, none⟩ = some (.int .i64 0) := (blk_cell BK167.out 2).trans rfl; have hcz10_3 : w7.cell? ⟨gb167, 3, none⟩ = some (.int .i64 0) := (blk_cell BK167.out 3).trans rfl; have hcz10_4 : w7.cell? ⟨gb167, 4, none⟩ = some (.int .i64 0) := (blk_cell BK167.out 4).trans rfl; have hcz10_5 : w7.cell? ⟨gb167, 5, none⟩ = some (.slice none 0 0) := (blk_cell BK167.out 5).trans rfl; have hfz10_0 := blk_frozen BK167.out 0; have hfz10_1 := blk_frozen BK167.out 1; have hfz10_2 := blk_frozen BK167.out 2; have hfz10_3 := blk_frozen BK167.out 3; have hfz10_4 := blk_frozen BK167.out 4; have hfz10_5 := blk_frozen BK167.out 5))
  refine bodyPost_ret (results_cell_row rfl _ _ gb167 37 #[.int .i64 a0_0, .int .i64 a0_1, .int .i64 a0_2, .int .i64 a0_3, .int .i64 a0_4, .slice Ao8 t168.length co8] (0, 0) _ rfl (by (with_reducible repeat (first | refine blk_drewN ?_ _ | refine blk_drew ?_ | refine blk_alloc ?_ _)); refine blk_put (cs := #[.int .i64 a0_0, .int .i64 a0_1, .int .i64 a0_2, .int .i64 a0_3, .int .i64 a0_4, .slice none 0 0]) ?_ 5 _ rfl; (with_reducible repeat (first | refine blk_drewN ?_ _ | refine blk_drew ?_ | refine blk_alloc ?_ _)); refine blk_put (cs := #[.int .i64 a0_0, .int .i64 a0_1, .int .i64 a0_2, .int .i64 a0_3, .int .i64 0, .slice none 0 0]) ?_ 4 _ rfl; (with_reducible repeat (first | refine blk_drewN ?_ _ | refine blk_drew ?_ | refine blk_alloc ?_ _)); refine blk_put (cs := #[.int .i64 a0_0, .int .i64 a0_1, .int .i64 a0_2, .int .i64 0, .int .i64 0, .slice none 0 0]) ?_ 3 _ rfl; (with_reducible repeat (first | refine blk_drewN ?_ _ | refine blk_drew ?_ | refine blk_alloc ?_ _)); refine blk_put (cs := #[.int .i64 a0_0, .int .i64 a0_1, .int .i64 0, .int .i64 0, .int .i64 0, .slice none 0 0]) ?_ 2 _ rfl; (with_reducible repeat (first | refine blk_drewN ?_ _ | refine blk_drew ?_ | refine blk_alloc ?_ _)); refine blk_put (cs := #[.int .i64 a0_0, .int .i64 0, .int .i64 0, .int .i64 0, .int .i64 0, .slice none 0 0]) ?_ 1 _ rfl; (with_reducible repeat (first | refine blk_drewN ?_ _ | refine blk_drew ?_ | refine blk_alloc ?_ _)); refine blk_put (cs := #[.int .i64 0, .int .i64 0, .int .i64 0, .int .i64 0, .int .i64 0, .slice none 0 0]) ?_ 0 _ rfl; (with_reducible repeat (first | refine blk_drewN ?_ _ | refine blk_drew ?_ | refine blk_alloc ?_ _)); refine blk_far ?_ NB167_166.out _; (with_reducible repeat (first | refine blk_drewN ?_ _ | refine blk_drew ?_ | refine blk_alloc ?_ _)); exact BK167.out) Try.underlying37 rfl (by kernel_rfl)) rfl ?_
  exact ⟨_, by first | rfl | (simp [errW_none, errW_some] <;> rfl) | (simp [*, errW_none, errW_some] <;> rfl), by (with_reducible repeat (first | apply Kd.R_alloc | apply Kd.R_drewN | apply Kd.R_drew)); exact Kd.R_mono (Kd.R_far (p := ⟨gb167, 5, none⟩) (Kd.R_far (p := ⟨gb167, 4, none⟩) (Kd.R_far (p := ⟨gb167, 3, none⟩) (Kd.R_far (p := ⟨gb167, 2, none⟩) (Kd.R_far (p := ⟨gb167, 1, none⟩) (Kd.R_far (p := ⟨gb167, 0, none⟩) (Kd.R_far (p := ⟨gb166, 5, none⟩) (Kd.R_types (Kd.R_types HO170.out BK166.out (by decide)) BK167.out (by decide)) (fun _ hk => hk.1.2) (.slice Ao8 t168.length co8)) (fun _ hk => hk.2) (.int .i64 a0_0)) (fun _ hk => hk.2) (.int .i64 a0_1)) (fun _ hk => hk.2) (.int .i64 a0_2)) (fun _ hk => hk.2) (.int .i64 a0_3)) (fun _ hk => hk.2) (.int .i64 a0_4)) (fun _ hk => hk.2) (.slice Ao8 t168.length co8)) (fun _ hk => trivial), by repeat (first | (with_reducible first | exact HB.out | apply below_alloc | apply pw_below_drewN | apply below_drew1 | refine below_set ?_ GE166.out | refine below_set ?_ GE167.out) | exact HB.out)⟩

end Go.Proofs.Ytphmlkbmnmicpaa.A

/- sched.Block: what it answers. -/
namespace Go.Proofs.Ytphmlkbmnmicpaa.A
open Go.RowKit Go.Proofs.YtphmlkbmnmicpaaW.PrintWords Go.Proofs.YtphmlkbmnmicpaaW.PrintLast Go.Shelf
set_option linter.unusedVariables false
set_option linter.unusedSimpArgs false

theorem copied_calls (x : S37) (A : Option Addr) (c : Nat) (w : World) (hx : Kd.C (Kd.int .i64) w A x.f5.length x.f5) (hc : x.f5.length ≤ c) (hl : x.f5.length ≤ 1000000) :
    Calls Try.prog 31 #[.agg #[.int .i64 x.f0, .int .i64 x.f1, .int .i64 x.f2, .int .i64 x.f3, .int .i64 x.f4, .slice A x.f5.length c]] w fun e w' =>
      ∃ v5 : Value, e = .returned (.agg #[.int .i64 x.f0, .int .i64 x.f1, .int .i64 x.f2, .int .i64 x.f3, .int .i64 x.f4, v5]) ∧ Kd.R (Kd.int .i64) 3 w' w.heap.size (fun _ => True) v5 x.f5 ∧ Below w.heap.size w w' := by
  refine sched_copied.calls x.f0 x.f1 x.f2 x.f3 x.f4 A c x.f5 _ _ _ _ _ _ w hx hc ?_
  unfold sched_copied.f slices_Clone_int_int.f
  rw [if_pos hl]
  rfl

/-- what lies in memory between two rounds of Block: u is what the cell of out.Ops holds, v the row -/
structure BI (w : World) (A Ao : Option Addr) (c co n : Nat) (t : S27) (O : List Int) (xs : List S37) (u v : Value) (W : World) : Prop where
  hb : W.heap[w.heap.size]? = some (.cells #[.slice A n c, .int .i64 t.f0, .int .i64 t.f1, .int .i64 t.f2, .int .i64 t.f3] 29 (0, 0))
  hz : W.heap[w.heap.size + 1]? = some (.cells #[.slice none 0 0, .int .i64 0, .int .i64 0, .int .i64 0, .int .i64 0] 29 (0, 0))
  ho : W.heap[w.heap.size + 2]? = some (.cells #[u, .int .i64 t.f0, .int .i64 t.f1, .int .i64 t.f2, .int .i64 t.f3] 29 (0, 0))
  hO : Kd.R (Kd.int .i64) 3 W (w.heap.size + 3) (fun k => w.heap.size + 3 ≤ k) (.slice Ao n co) O
  hv : Kd.S k37 37 W w.heap.size (fun k => w.heap.size + 3 ≤ k) v xs
  hB : Below w.heap.size w W
  size : w.heap.size + 3 ≤ W.heap.size
section
variable {w : World} {A Ao : Option Addr} {c co n : Nat} {t : S27} {O : List Int} {xs : List S37} {u v : Value} {W W1 : World}
theorem BI.below (h : BI w A Ao c co n t O xs u v W) (hb : Below W.heap.size W W1) : BI w A Ao c co n t O xs u v W1 :=
  ⟨(hb.block _ (blk_lt h.hb)).trans h.hb, (hb.block _ (blk_lt h.hz)).trans h.hz, (hb.block _ (blk_lt h.ho)).trans h.ho, Kd.R_below h.hO hb, Kd.S_below h.hv hb, below_then h.hB h.hB.size hb, Nat.le_trans h.size hb.size⟩
theorem BI.cellb (h : BI w A Ao c co n t O xs u v W) : W.cell? ⟨w.heap.size, 0, none⟩ = some (.slice A n c) := (blk_cell h.hb 0).trans rfl
theorem BI.cell (h : BI w A Ao c co n t O xs u v W) : W.cell? ⟨w.heap.size + 2, 0, none⟩ = some u := (blk_cell h.ho 0).trans rfl
theorem BI.grown {ys : List S37} {v1 : Value} (h : BI w A Ao c co n t O xs u v W) (hv : Kd.S k37 37 W1 w.heap.size (fun k => w.heap.size + 3 ≤ k) v1 ys) (hB : Below w.heap.size w W1) (hg : W.grownBy W1 v.ownBlock) (hs : W.heap.size ≤ W1.heap.size) : BI w A Ao c co n t O ys u v1 W1 := by
  have hne : ∀ g, g < w.heap.size + 3 → some g ≠ v.ownBlock := fun g hg he => by have := (Kd.S_R h.hv).1 g he.symm; omega
  exact ⟨blk_grown h.hb hg (hne _ (by omega)), blk_grown h.hz hg (hne _ (by omega)), blk_grown h.ho hg (hne _ (by omega)), Kd.R_over' h.hO (by obtain ⟨inner, ho⟩ := Kd.S_own h.hv; exact own_typed ho) (by decide) hg, hv, hB, Nat.le_trans h.size hs⟩
theorem BI.set (h : BI w A Ao c co n t O xs u v W) (z : Value) : BI w A Ao c co n t O xs z v (W.setCell ⟨w.heap.size + 2, 0, none⟩ z) := by
  refine ⟨blk_far h.hb (p := ⟨w.heap.size + 2, 0, none⟩) (by show _ ≠ w.heap.size + 2; omega) _, blk_far h.hz (p := ⟨w.heap.size + 2, 0, none⟩) (by show _ ≠ w.heap.size + 2; omega) _, ?_, Kd.R_far h.hO (p := ⟨w.heap.size + 2, 0, none⟩) (fun k hk => by show k ≠ w.heap.size + 2; omega) _, Kd.S_far h.hv (p := ⟨w.heap.size + 2, 0, none⟩) (fun k hk => by show k ≠ w.heap.size + 2; omega) _, h.hB.setCell (p := ⟨w.heap.size + 2, 0, none⟩) (by show _ ≤ w.heap.size + 2; omega) _, by simpa using h.size⟩
  have := blk_set h.ho 0 z
  simpa using this
end

set_option maxRecDepth 100000 in
set_option maxHeartbeats 4000000 in
theorem block_calls (l : List S37) (t : S27) (hlen : l.length ≤ 4096) (hs : ∀ x ∈ l, x.f5.length ≤ 1000) (A : Option Addr) (c : Nat) (w : World) (hr : Kd.C k37 w A l.length l) (hc : l.length ≤ c)
    (O : List Int) (hord : ∀ W, Below w.heap.size w W → Calls Try.prog 22 #[.slice A l.length c] W fun e w' => ∃ Ao co, e = .returned (.slice Ao l.length co) ∧ Kd.R (Kd.int .i64) 3 w' W.heap.size (fun _ => True) (.slice Ao l.length co) O ∧ Below W.heap.size W w')
    (hO : ∀ k ∈ O, 0 ≤ k ∧ k < l.length) (hOl : O.length = l.length) :
    Calls Try.prog 11 #[.agg #[.slice A l.length c, .int .i64 t.f0, .int .i64 t.f1, .int .i64 t.f2, .int .i64 t.f3]] w fun e w' =>
      ∃ v : Value, e = .returned (.agg #[v, .int .i64 t.f0, .int .i64 t.f1, .int .i64 t.f2, .int .i64 t.f3]) ∧ Kd.S k37 37 w' w.heap.size (fun _ => True) v (O.map fun k => rd_T37 l k) ∧ Below w.heap.size w w' := by
  have hu29 := Try.underlying29
  have hu27 := Try.underlying27
  have hu37 := Try.underlying37
  have Hord := Aside0.mk hord
  have Hs := Aside0.mk hs
  have HO := Aside0.mk hO
  clear hord hs hO
  go_enter Try.func11, Try.ntmps11
  go_wp2_with fail
  have b0 := World.alloc_heap_new w (.cells #[.slice A l.length c, .int .i64 t.f0, .int .i64 t.f1, .int .i64 t.f2, .int .i64 t.f3] 29)
  have b1 := World.alloc_heap_new (w.alloc (.cells #[.slice A l.length c, .int .i64 t.f0, .int .i64 t.f1, .int .i64 t.f2, .int .i64 t.f3] 29)) (.cells #[.slice none 0 0, .int .i64 0, .int .i64 0, .int .i64 0, .int .i64 0] 29)
  have b2 := World.alloc_heap_new ((w.alloc (.cells #[.slice A l.length c, .int .i64 t.f0, .int .i64 t.f1, .int .i64 t.f2, .int .i64 t.f3] 29)).alloc (.cells #[.slice none 0 0, .int .i64 0, .int .i64 0, .int .i64 0, .int .i64 0] 29)) (.cells #[.slice none 0 0, .int .i64 t.f0, .int .i64 t.f1, .int .i64 t.f2, .int .i64 t.f3] 29)
  simp only [World.size_alloc] at b1 b2
  have b01 := blk_alloc (blk_alloc b0 (.cells #[.slice none 0 0, .int .i64 0, .int .i64 0, .int .i64 0, .int .i64 0] 29)) (.cells #[.slice none 0 0, .int .i64 t.f0, .int .i64 t.f1, .int .i64 t.f2, .int .i64 t.f3] 29)
  have b11 := blk_alloc b1 (.cells #[.slice none 0 0, .int .i64 t.f0, .int .i64 t.f1, .int .i64 t.f2, .int .i64 t.f3] 29)
  have hB0 := below_alloc (below_alloc (below_alloc (Below.refl w.heap.size w) (.cells #[.slice A l.length c, .int .i64 t.f0, .int .i64 t.f1, .int .i64 t.f2, .int .i64 t.f3] 29)) (.cells #[.slice none 0 0, .int .i64 0, .int .i64 0, .int .i64 0, .int .i64 0] 29)) (.cells #[.slice none 0 0, .int .i64 t.f0, .int .i64 t.f1, .int .i64 t.f2, .int .i64 t.f3] 29)
  clear b0 b1
  have hsz : (((w.alloc (.cells #[.slice A l.length c, .int .i64 t.f0, .int .i64 t.f1, .int .i64 t.f2, .int .i64 t.f3] 29)).alloc (.cells #[.slice none 0 0, .int .i64 0, .int .i64 0, .int .i64 0, .int .i64 0] 29)).alloc (.cells #[.slice none 0 0, .int .i64 t.f0, .int .i64 t.f1, .int .i64 t.f2, .int .i64 t.f3] 29)).heap.size = w.heap.size + 3 := by simp only [World.size_alloc]
  rw [show w.heap.size + 1 + 1 = w.heap.size + 2 from rfl]
  generalize (((w.alloc (.cells #[.slice A l.length c, .int .i64 t.f0, .int .i64 t.f1, .int .i64 t.f2, .int .i64 t.f3] 29)).alloc (.cells #[.slice none 0 0, .int .i64 0, .int .i64 0, .int .i64 0, .int .i64 0] 29)).alloc (.cells #[.slice none 0 0, .int .i64 t.f0, .int .i64 t.f1, .int .i64 t.f2, .int .i64 t.f3] 29)) = W0 at b01 b11 b2 hB0 hsz ⊢
  refine (Hord.out W0 hB0).mono ?_
  rintro e W1 ⟨Ao, co, rfl, hO1, hB1⟩
  have hL0 : BI w A Ao c co l.length t O [] (.slice none 0 0) (.slice none 0 0) W1 :=
    ⟨(hB1.block _ (blk_lt b01)).trans b01, (hB1.block _ (blk_lt b11)).trans b11, (hB1.block _ (blk_lt b2)).trans b2, by rw [← hsz]; exact Kd.R_mono (Kd.R_bound hO1) (fun k hk => hk.2.1), Kd.S_nil _ _ _ _ _, below_then hB0 hB0.size hB1, by rw [← hsz]; exact hB1.size⟩
  clear hO1 hB1 hB0 b01 b11 b2 hsz
  have h0b := hL0.cellb
  have hL0' := Aside0.mk hL0
  clear hL0
  go_wp2_with fail
  clear h0b
  go_loopw [31] (fun s wr => ∃ (m : Nat) (vo : Value), m ≤ l.length ∧ s = .int .i64 m ∧ Aside0 (BI w A Ao c co l.length t O ((O.take m).map fun k => rd_T37 l k) vo vo wr))
    (fun s _ => l.length - (intOf s).toNat)
  case atStart => exact ⟨0, _, Nat.zero_le _, rfl, hL0'⟩
  case round =>
    clear hL0'
    obtain ⟨m, vo, hm, rfl, hL⟩ := hrel
    by_cases hlt : m < l.length
    · have hmn : (m : Int) < (l.length : Int) := by omega
      have hml : m < O.length := by omega
      obtain ⟨oad, hoe, ho1⟩ := Kd.at_int (Kd.R_reads' hL.out.hO).2.2 (m : Int) (by omega) (by omega)
      subst hoe
      rw [Int.toNat_natCast] at ho1
      have hrdm : rd O (m : Int) = O[m] := by simp [rd, hml]
      rw [hrdm] at ho1
      have htk : ((O.take (m + 1)).map fun k => rd_T37 l k) = ((O.take m).map fun k => rd_T37 l k) ++ [rd_T37 l O[m]] := by
        rw [List.take_succ_eq_append_getElem hml, List.map_append]
        rfl
      have hk := HO.out O[m] (List.getElem_mem hml)
      have htk' := Aside0.mk htk
      clear htk hrdm
      generalize O[m] = k at ho1 hk htk'
      obtain ⟨hk0, hk1⟩ := hk
      have hxs := Aside0.mk (Hs.out (rd_T37 l k) (by unfold rd_T37; rw [List.getD_eq_getElem?_getD, List.getElem?_eq_getElem (show k.toNat < l.length by omega)]; exact List.getElem_mem _))
      obtain ⟨ld, A5, c5, rfl, q0, q1, q2, q3, q4, q5, q6, q7⟩ := at_T37 (Kd.C_below hr hL.out.hB) k hk0 hk1
      have hxl : Aside0 (((O.take m).map fun k => rd_T37 l k).length ≤ 4096) := ⟨by simp; omega⟩
      generalize rd_T37 l k = x at q0 q1 q2 q3 q4 q5 q6 q7 htk' hxs
      generalize ((O.take m).map fun k => rd_T37 l k) = xs at hL htk' hxl
      have hc0 := hL.out.cell
      have hc1 := hL.out.cellb
      go_wp2_with fail
      refine start_ (n := 12) (S := fun w' => w'.cell? ⟨w.heap.size + 2, 0, none⟩ = some vo ∧ w'.cell? ⟨w.heap.size, 0, none⟩ = some (.slice (some ld) l.length c) ∧ w'.cell? (ld.add (k.toNat * 6)) = some (.int .i64 x.f0) ∧ w'.cell? ⟨(ld.add (k.toNat * 6)).block, (ld.add (k.toNat * 6)).off + 1, none⟩ = some (.int .i64 x.f1) ∧ w'.cell? ⟨(ld.add (k.toNat * 6)).block, (ld.add (k.toNat * 6)).off + 2, none⟩ = some (.int .i64 x.f2) ∧ w'.cell? ⟨(ld.add (k.toNat * 6)).block, (ld.add (k.toNat * 6)).off + 3, none⟩ = some (.int .i64 x.f3) ∧ w'.cell? ⟨(ld.add (k.toNat * 6)).block, (ld.add (k.toNat * 6)).off + 4, none⟩ = some (.int .i64 x.f4) ∧ w'.cell? ⟨(ld.add (k.toNat * 6)).block, (ld.add (k.toNat * 6)).off + 5, none⟩ = some (.slice A5 x.f5.length c5)) (ds := [9, 11]) #[false, false, false, false, false, false, false, false, false, false, false, false] (by kernel_rfl) rfl rfl ⟨hc0, hc1, q0, q1, q2, q3, q4, q5⟩ (fun hHeld => ?_)
      have hL1 : Aside0 (BI w (some ld) (some oad) c co l.length t O xs vo vo wr.drew) := ⟨hL.out.below (pw_below_drewN (Below.refl _ _) 1)⟩
      have q7' : (Kd.int .i64).C wr.drew A5 x.f5.length x.f5 := Kd.C_below q7 (pw_below_drewN (Below.refl _ _) 1)
      clear hL hc0 hc1 q0 q1 q2 q3 q4 q5 q7 ho1
      generalize wr.drew = W1 at hL1 q7' hHeld ⊢
      refine pure_ (i := 0) (N := some 35) (v := ?_) (a' := ?_) #[true, false, false, false, false, false, false, false, false, false, false, false] rfl rfl (by kernel_rfl) (fun _ _ _ h => h) (Or.inl ⟨by rfl, ?_⟩) ?_ ?_
      rotate_left
      · intro w'
        go_simp
        try with_reducible rfl
      rotate_left
      · simp only [Act.put, List.setIfInBounds_toArray, List.set_cons_zero, List.set_cons_succ, i64_w, i32_w]
        rfl
      refine pure_ (i := 2) (N := some 37) (v := ?_) (a' := ?_) #[true, false, true, false, false, false, false, false, false, false, false, false] rfl rfl (by kernel_rfl) (fun _ _ _ h => h) (Or.inl ⟨by rfl, ?_⟩) ?_ ?_
      rotate_left
      · intro w'
        go_simp
        try with_reducible rfl
      rotate_left
      · simp only [Act.put, List.setIfInBounds_toArray, List.set_cons_zero, List.set_cons_succ, i64_w, i32_w]
        rfl
      refine pure_ (i := 4) (N := some 39) (v := ?_) (a' := ?_) #[true, false, true, false, true, false, false, false, false, false, false, false] rfl rfl (by kernel_rfl) (fun _ _ _ h => h) (Or.inl ⟨by rfl, ?_⟩) ?_ ?_
      rotate_left
      · intro w'
        go_simp
        try with_reducible rfl
      rotate_left
      · simp only [Act.put, List.setIfInBounds_toArray, List.set_cons_zero, List.set_cons_succ, i64_w, i32_w]
        rfl
      refine take_ (i := 1) (N := some 36) (v := ?_) (a' := ?_) #[true, true, true, false, true, false, false, false, false, false, false, false] rfl rfl (by kernel_rfl) (fun _ _ _ h => h) (Or.inl ⟨by rfl, ?_⟩) hHeld ?_ ?_
      rotate_left
      · rintro w' ⟨s0, s1, s2, s3, s4, s5, s6, s7⟩
        go_simp
        try with_reducible rfl
      rotate_left
      · simp only [Act.put, List.setIfInBounds_toArray, List.set_cons_zero, List.set_cons_succ, i64_w, i32_w]
        rfl
      refine take_ (i := 3) (N := some 38) (v := ?_) (a' := ?_) #[true, true, true, true, true, false, false, false, false, false, false, false] rfl rfl (by kernel_rfl) (fun _ _ _ h => h) (Or.inl ⟨by rfl, ?_⟩) hHeld ?_ ?_
      rotate_left
      · rintro w' ⟨s0, s1, s2, s3, s4, s5, s6, s7⟩
        go_simp
        try with_reducible rfl
      rotate_left
      · simp only [Act.put, List.setIfInBounds_toArray, List.set_cons_zero, List.set_cons_succ, i64_w, i32_w]
        rfl
      refine pure_ (i := 5) (N := some 40) (v := ?_) (a' := ?_) #[true, true, true, true, true, true, false, false, false, false, false, false] rfl rfl (by kernel_rfl) (fun _ _ _ h => h) (Or.inl ⟨by rfl, ?_⟩) ?_ ?_
      rotate_left
      · intro w'
        go_simp
        try with_reducible rfl
      rotate_left
      · simp only [Act.put, List.setIfInBounds_toArray, List.set_cons_zero, List.set_cons_succ, i64_w, i32_w]
        rfl
      refine take_ (i := 6) (N := some 41) (v := ?_) (a' := ?_) #[true, true, true, true, true, true, true, false, false, false, false, false] rfl rfl (by kernel_rfl) (fun _ _ _ h => h) (Or.inl ⟨by rfl, ?_⟩) hHeld ?_ ?_
      rotate_left
      · rintro w' ⟨s0, s1, s2, s3, s4, s5, s6, s7⟩
        go_simp
        try with_reducible rfl
      rotate_left
      · simp only [Act.put, List.setIfInBounds_toArray, List.set_cons_zero, List.set_cons_succ, i64_w, i32_w]
        rfl
      refine one_ (i := 7) (N := some 42) #[true, true, true, true, true, true, true, true, false, false, false, false] rfl rfl (by kernel_rfl) (by decide) (fun K hK => ?_)
      refine call_ 31 _ (by rfl) rfl (by go_simp; rfl) ?_
      refine (copied_calls x A5 c5 _ q7' q6 (by have := hxs.out; omega)).mono ?_
      rintro e w2 ⟨v5, rfl, hv5, hb2⟩
      refine ⟨_, rfl, ?_⟩
      have hL2 := Aside0.mk (hL1.out.below hb2)
      have hv6 : Aside0 (Kd.R (Kd.int .i64) 3 w2 w.heap.size (fun k => W1.heap.size ≤ k) v5 x.f5) := ⟨Kd.R_lower (Kd.R_mono (Kd.R_bound hv5) (fun k hk => hk.2.1)) hL1.out.hB.size⟩
      have hv7 : Aside0 (∀ k, W1.heap.size ≤ k → w.heap.size + 3 ≤ k ∧ some k ≠ vo.ownBlock) := ⟨fun k hk => ⟨Nat.le_trans hL1.out.size hk, Kd.fresh' (Kd.S_lt hL1.out.hv) k hk⟩⟩
      have hv8 : Aside0 (Kd.S k37 37 w2 w.heap.size (fun k => w.heap.size + 3 ≤ k ∧ ¬ W1.heap.size ≤ k) vo xs) := ⟨Kd.S_below (Kd.S_mono (Kd.S_bound hL1.out.hv) (fun k hk => ⟨hk.1, by have := hk.2.2.1; omega⟩)) hb2⟩
      refine hK.out _ _ ⟨pw_cell_below hb2 hHeld.1, pw_cell_below hb2 hHeld.2.1, pw_cell_below hb2 hHeld.2.2.1, pw_cell_below hb2 hHeld.2.2.2.1, pw_cell_below hb2 hHeld.2.2.2.2.1, pw_cell_below hb2 hHeld.2.2.2.2.2.1, pw_cell_below hb2 hHeld.2.2.2.2.2.2.1, pw_cell_below hb2 hHeld.2.2.2.2.2.2.2⟩ (fun hHeld => ?_)
      clear hK K
      refine norm_ (a' := ?_) ?_ ?_
      rotate_left
      · show Act.put _ (some 42) _ = _
        simp only [Act.put, List.setIfInBounds_toArray, List.set_cons_zero, List.set_cons_succ, i64_w, i32_w]
        rfl
      refine one_ (i := 8) (N := some 43) #[true, true, true, true, true, true, true, true, true, false, false, false] rfl rfl (by kernel_rfl) (by decide) (fun K hK => ?_)
      refine value_ (w1 := ?_) (v := ?_) (by rfl) rfl ?_ ?_
      rotate_left 2
      · go_simp
        constructor
        · rfl
        · rfl
      refine hK.out _ _ ⟨pw_cell_below (below_alloc (Below.refl _ _) _) hHeld.1, pw_cell_below (below_alloc (Below.refl _ _) _) hHeld.2.1, pw_cell_below (below_alloc (Below.refl _ _) _) hHeld.2.2.1, pw_cell_below (below_alloc (Below.refl _ _) _) hHeld.2.2.2.1, pw_cell_below (below_alloc (Below.refl _ _) _) hHeld.2.2.2.2.1, pw_cell_below (below_alloc (Below.refl _ _) _) hHeld.2.2.2.2.2.1, pw_cell_below (below_alloc (Below.refl _ _) _) hHeld.2.2.2.2.2.2.1, pw_cell_below (below_alloc (Below.refl _ _) _) hHeld.2.2.2.2.2.2.2⟩ (fun hHeld => ?_)
      clear hK K
      refine norm_ (a' := ?_) ?_ ?_
      rotate_left
      · show Act.put _ (some 43) _ = _
        simp only [Act.put, List.setIfInBounds_toArray, List.set_cons_zero, List.set_cons_succ, i64_w, i32_w]
        rfl
      refine last_ (i := 9) (N := some 44) #[true, true, true, true, true, true, true, true, true, true, false, false] rfl rfl (by kernel_rfl) (by decide) (fun K hK => ?_)
      refine Kd.S_append_step k37 (w0 := w) w.heap.size (by rfl) (.tmp 36) (.tmp 43) 22 37 (.agg #[(.int .i64 0), (.int .i64 0), (.int .i64 0), (.int .i64 0), (.int .i64 0), (.slice none 0 0)]) 64 rfl Try.underlying22 info37 rfl (by decide) (by omega) vo xs x [.int .i64 x.f0, .int .i64 x.f1, .int .i64 x.f2, .int .i64 x.f3, .int .i64 x.f4, v5] (fun k => w.heap.size + 3 ≤ k) (fun k => W1.heap.size ≤ k) rfl rfl ?aP hv7.out ?aF ?aO ?aB ?aS ?aL ?_
      (case aP => exact k37_mkM _ _ _ x (hv6.out))
      (case aF => intro k hk; have := hL2.out.size; omega)
      (case aO => exact hv8.out)
      (case aB => exact hL2.out.hB)
      (case aS => have := hL2.out.size; omega)
      (case aL => have := hxl.out; omega)
      intro v1 w4 hv1 hb4 hg4 hat4
      have hL4 := Aside0.mk (hL2.out.grown hv1 hb4 hg4 hg4.size)
      obtain ⟨Av, cv, hve⟩ := Kd.S_slice hv1
      rw [show (xs ++ [x]).length = xs.length + 1 by simp] at hve
      subst hve
      refine hK.out _ _ ?_
      clear hK K
      refine norm_ (a' := ?_) ?_ ?_
      rotate_left
      · show Act.put _ (some 44) _ = _
        simp only [Act.put, List.setIfInBounds_toArray, List.set_cons_zero, List.set_cons_succ, i64_w, i32_w]
        rfl
      refine pure_ (i := 10) (N := some 45) (v := ?_) (a' := ?_) #[true, true, true, true, true, true, true, true, true, true, true, false] rfl rfl (by kernel_rfl) (fun _ _ _ h => h) (Or.inl ⟨by rfl, ?_⟩) ?_ ?_
      rotate_left
      · intro w'
        go_simp
        try with_reducible rfl
      rotate_left
      · simp only [Act.put, List.setIfInBounds_toArray, List.set_cons_zero, List.set_cons_succ, i64_w, i32_w]
        rfl
      refine last_ (i := 11) (N := none) #[true, true, true, true, true, true, true, true, true, true, true, true] rfl rfl (by kernel_rfl) (by decide) (fun K hK => ?_)
      have s0 := hL4.out.cell
      have s1 := blk_frozen hL4.out.ho 0
      refine skip_ (w1 := ?_) (by rfl) rfl ?_ ?_
      rotate_left
      · go_simp
        rfl
      have hL5 := Aside0.mk (hL4.out.set (.slice Av (xs.length + 1) cv))
      refine hK.out _ _ ?_
      clear hK K
      refine done_ (by kernel_rfl) ?_
      try go_wp2
      go_roundw
      case rel => exact ⟨m + 1, _, by omega, by go_num, by rw [htk'.out]; exact hL5⟩
      case measure => simp [intOf]; omega
    · obtain rfl : m = l.length := by omega
      obtain ⟨Av, cv, hve⟩ := Kd.S_slice hL.out.hv
      rw [show ((O.take l.length).map fun k => rd_T37 l k).length = l.length by simp; omega] at hve
      subst hve
      have hc0 := hL.out.cell
      have hc1 : wr.cell? ⟨w.heap.size + 2, 1, none⟩ = some (.int .i64 t.f0) := (blk_cell hL.out.ho 1).trans rfl
      have hc2 : wr.cell? ⟨w.heap.size + 2, 2, none⟩ = some (.int .i64 t.f1) := (blk_cell hL.out.ho 2).trans rfl
      have hc3 : wr.cell? ⟨w.heap.size + 2, 3, none⟩ = some (.int .i64 t.f2) := (blk_cell hL.out.ho 3).trans rfl
      have hc4 : wr.cell? ⟨w.heap.size + 2, 4, none⟩ = some (.int .i64 t.f3) := (blk_cell hL.out.ho 4).trans rfl
      have hz0 : wr.cell? ⟨w.heap.size + 1, 0, none⟩ = some (.slice none 0 0) := (blk_cell hL.out.hz 0).trans rfl
      have hz1 : wr.cell? ⟨w.heap.size + 1, 1, none⟩ = some (.int .i64 0) := (blk_cell hL.out.hz 1).trans rfl
      have hz2 : wr.cell? ⟨w.heap.size + 1, 2, none⟩ = some (.int .i64 0) := (blk_cell hL.out.hz 2).trans rfl
      have hz3 : wr.cell? ⟨w.heap.size + 1, 3, none⟩ = some (.int .i64 0) := (blk_cell hL.out.hz 3).trans rfl
      have hz4 : wr.cell? ⟨w.heap.size + 1, 4, none⟩ = some (.int .i64 0) := (blk_cell hL.out.hz 4).trans rfl
      have hf0 := blk_frozen hL.out.hz 0
      have hf1 := blk_frozen hL.out.hz 1
      have hf2 := blk_frozen hL.out.hz 2
      have hf3 := blk_frozen hL.out.hz 3
      have hf4 := blk_frozen hL.out.hz 4
      have hend := hL.out.hv
      rw [show List.take l.length O = O by rw [← hOl, List.take_length]] at hend
      have hend' := Aside0.mk hend
      have hB := Aside0.mk hL.out.hB
      clear hend
      have hL' := Aside0.mk hL.out
      clear hL
      go_wp2_with fail
      refine bodyPost_ret (results_cell_row rfl _ _ (w.heap.size + 1) 29 #[.slice Av l.length cv, .int .i64 t.f0, .int .i64 t.f1, .int .i64 t.f2, .int .i64 t.f3] (0, 0) _ rfl (by refine blk_put (cs := #[.slice Av l.length cv, .int .i64 t.f0, .int .i64 t.f1, .int .i64 t.f2, .int .i64 0]) ?_ 4 _ rfl; refine blk_put (cs := #[.slice Av l.length cv, .int .i64 t.f0, .int .i64 t.f1, .int .i64 0, .int .i64 0]) ?_ 3 _ rfl; refine blk_put (cs := #[.slice Av l.length cv, .int .i64 t.f0, .int .i64 0, .int .i64 0, .int .i64 0]) ?_ 2 _ rfl; refine blk_put (cs := #[.slice Av l.length cv, .int .i64 0, .int .i64 0, .int .i64 0, .int .i64 0]) ?_ 1 _ rfl; refine blk_put (cs := #[.slice none 0 0, .int .i64 0, .int .i64 0, .int .i64 0, .int .i64 0]) ?_ 0 _ rfl; exact hL'.out.hz) Try.underlying29 rfl (by kernel_rfl)) rfl ?_
      have ge : w.heap.size ≤ w.heap.size + 1 := Nat.le_succ _
      have hne : ∀ k, w.heap.size + 3 ≤ k → k ≠ w.heap.size + 1 := fun k hk => by omega
      refine ⟨_, rfl, Kd.S_mono (Kd.S_far (p := ⟨w.heap.size + 1, 4, none⟩) (Kd.S_far (p := ⟨w.heap.size + 1, 3, none⟩) (Kd.S_far (p := ⟨w.heap.size + 1, 2, none⟩) (Kd.S_far (p := ⟨w.heap.size + 1, 1, none⟩) (Kd.S_far (p := ⟨w.heap.size + 1, 0, none⟩) hend'.out hne _) hne _) hne _) hne _) hne _) (fun _ _ => trivial), ?_⟩
      exact below_set (below_set (below_set (below_set (below_set hB.out ge) ge) ge) ge) ge
#print axioms block_calls
end Go.Proofs.Ytphmlkbmnmicpaa.A

/- The functions that a program does not print, in the form that printed texts take them. -/
namespace Go.Proofs.Ytphmlkbmnmicpaa.A
open Go.RowKit Go.Proofs.YtphmlkbmnmicpaaW.PrintWords Go.Proofs.YtphmlkbmnmicpaaW.PrintLast Go.Shelf
set_option linter.unusedVariables false
set_option linter.unusedSimpArgs false

def Few (l : List S37) : Prop := l.length ≤ 4096 ∧ ∀ x ∈ l, x.f5.length ≤ 1000
instance (l : List S37) : Decidable (Few l) := by unfold Few; exact inferInstance

def sched_Order.f (l0 : List S37) : Option (List Int) := if Few l0 then some (orderOf l0) else none
theorem sched_Order.calls (A0 : Option Addr) (c0 : Nat) (l0 : List S37) (r : List Int) (w : World) (hr0 : Kd.C k37 w A0 l0.length l0) (hc0 : l0.length ≤ c0) (h : sched_Order.f l0 = some r) :
    Calls Try.prog 22 #[.slice A0 l0.length c0] w fun e w' => ∃ v0_ : Value, e = .returned (v0_) ∧ Kd.R (Kd.int .i64) 3 w' w.heap.size (fun _ => True) v0_ r ∧ Below w.heap.size w w' := by
  unfold sched_Order.f at h
  split at h
  · obtain rfl := Option.some.inj h
    rename_i hf
    exact order_calls l0 hf.1 hf.2 A0 c0 w hr0 hc0
  · cases h

theorem orderOf_rng (l : List S37) : ∀ k ∈ orderOf l, 0 ≤ k ∧ k < l.length := by
  intro k hk
  obtain ⟨i, rfl, hi⟩ := orderBy_rng _ _ (depsOf_back l) k hk
  rw [depsOf_length] at hi
  omega

def sched_Block.f (l0 : List S37) (a b c d : Int) : Option (List S37 × Int × Int × Int × Int) := if Few l0 then some ((orderOf l0).map (fun k => rd_T37 l0 k), a, b, c, d) else none
theorem sched_Block.calls (A0 : Option Addr) (c0 : Nat) (l0 : List S37) (a b c d : Int) (r : List S37) (r1 r2 r3 r4 : Int) (w : World) (hr0 : Kd.C k37 w A0 l0.length l0) (hc0 : l0.length ≤ c0) (h : sched_Block.f l0 a b c d = some (r, r1, r2, r3, r4)) :
    Calls Try.prog 11 #[.agg #[.slice A0 l0.length c0, .int .i64 a, .int .i64 b, .int .i64 c, .int .i64 d]] w fun e w' => ∃ v0_ : Value, e = .returned (.agg #[v0_, .int .i64 r1, .int .i64 r2, .int .i64 r3, .int .i64 r4]) ∧ Kd.S k37 37 w' w.heap.size (fun _ => True) v0_ r ∧ Below w.heap.size w w' := by
  unfold sched_Block.f at h
  split at h
  · rename_i hf
    have h' := Option.some.inj h
    injection h' with e0 h'
    injection h' with e1 h'
    injection h' with e2 h'
    injection h' with e3 e4
    subst e0 e1 e2 e3 e4
    refine block_calls l0 ⟨a, b, c, d⟩ hf.1 hf.2 A0 c0 w hr0 hc0 (orderOf l0) (fun W hW => ?_) (orderOf_rng l0) (orderOf_length l0)
    refine (order_calls l0 hf.1 hf.2 A0 c0 W (Kd.C_below hr0 hW) hc0).mono ?_
    rintro e w' ⟨v, he, hv, hb⟩
    obtain ⟨Ao, co, rfl⟩ := Kd.R_slice hv
    rw [orderOf_length] at he hv
    exact ⟨Ao, co, he, hv, hb⟩
  · cases h

def sched_May.f (l0 : List S37) (o : List Int) : Option Bool := if Few l0 then some (decide (o.length = l0.length) && mayB (depsOf l0) l0.length (List.replicate l0.length false) o) else none
set_option maxHeartbeats 1000000 in
theorem sched_May.calls (A0 : Option Addr) (c0 : Nat) (l0 : List S37) (A1 : Option Addr) (c1 : Nat) (l1 : List Int) (r : Bool) (w : World) (hr0 : Kd.C k37 w A0 l0.length l0) (hc0 : l0.length ≤ c0) (hr1 : Kd.C (Kd.int .i64) w A1 l1.length l1) (hc1 : l1.length ≤ c1) (h : sched_May.f l0 l1 = some r) :
    Calls Try.prog 24 #[.slice A0 l0.length c0, .slice A1 l1.length c1] w fun e w' => e = .returned (.bool r) ∧ Below w.heap.size w w' := by
  unfold sched_May.f at h
  split at h
  · rename_i hf
    obtain rfl := Option.some.inj h
    by_cases hl : l1.length = l0.length
    · rw [decide_eq_true hl, Bool.true_and]
      exact may_calls l0 hf.1 hf.2 A0 c0 w hr0 hc0 l1 A1 c1 hr1 hl
    · rw [decide_eq_false hl, Bool.false_and]
      have h1 := hf.1
      have h2 : ((l1.length : Int) != (l0.length : Int)) = true := by simp; omega
      clear hf hr0 hr1 hc0 hc1 h hl
      go_enter Try.func24, Try.ntmps24
      go_wp2_with fail
      go_ret
      exact ⟨rfl, Below.refl _ _⟩
  · cases h

def sched_heights.f (l0 : List S37) (d : List (List Int)) : Option (List Int) := if Few l0 ∧ d = depsOf l0 then some (hAll l0 d (down l0.length 0)) else none
theorem sched_heights.calls (A0 : Option Addr) (c0 : Nat) (l0 : List S37) (A1 : Option Addr) (c1 : Nat) (l1 : List (List Int)) (r : List Int) (w : World) (hr0 : Kd.C k37 w A0 l0.length l0) (hc0 : l0.length ≤ c0) (hr1 : Kd.C (Kd.slice 3 (Kd.int .i64)) w A1 l1.length l1) (hc1 : l1.length ≤ c1) (h : sched_heights.f l0 l1 = some r) :
    Calls Try.prog 34 #[.slice A0 l0.length c0, .slice A1 l1.length c1] w fun e w' => ∃ v0_ : Value, e = .returned (v0_) ∧ Kd.R (Kd.int .i64) 3 w' w.heap.size (fun _ => True) v0_ r ∧ Below w.heap.size w w' := by
  unfold sched_heights.f at h
  split at h
  · rename_i hf
    obtain rfl := Option.some.inj h
    obtain ⟨hf, hd⟩ := hf
    have hdl : l1.length = l0.length := by rw [hd]; exact depsOf_length l0
    have hbk : Back l1 := by rw [hd]; exact depsOf_back l0
    clear hd h
    have h1 := hf.1
    have := heights_calls l0 l1 A0 A1 c0 c1 w hr0 hc0 hr1 hc1 (by omega) (by omega) (fun i hi k hk => by
      obtain ⟨m, rfl, hm⟩ := hbk i hi k hk
      omega)
    rw [hdl] at this ⊢
    exact this
  · cases h
#print axioms sched_May.calls
#print axioms sched_Block.calls
#print axioms sched_heights.calls
end Go.Proofs.Ytphmlkbmnmicpaa.A

/- What is ordered again stays; Order may be: over plain lists. -/
namespace Go.Proofs.Ytphmlkbmnmicpaa.A
open Go.RowKit Go.Proofs.YtphmlkbmnmicpaaW.PrintWords Go.Proofs.YtphmlkbmnmicpaaW.PrintLast Go.Shelf
set_option linter.unusedVariables false
set_option linter.unusedSimpArgs false

theorem mkL_mem' {n : Nat} {k : Nat} : ((k : Int) ∈ mkL n fun i : Nat => (i : Int)) ↔ k < n := by
  simp only [mkL, List.mem_map, List.mem_range]
  constructor
  · rintro ⟨a, h, e⟩; omega
  · intro h; exact ⟨k, h, rfl⟩

/-- the places of an order -/
structure Places (l : List S37) (ob : Nat → Nat) : Prop where
  get : ∀ i, i < l.length → (orderOf l)[i]? = some ((ob i : Nat) : Int)
  lt : ∀ i, i < l.length → ob i < l.length
  pick : ∀ i, i < l.length → Pick (heightsOf l) (depsOf l) ((orderOf l).take i) (ob i)
  mem : ∀ i k : Nat, i ≤ l.length → ((k : Int) ∈ (orderOf l).take i ↔ ∃ j, j < i ∧ k = ob j)
  inj : ∀ i j, i < l.length → j < l.length → ob i = ob j → i = j
  onto : ∀ k, k < l.length → ∃ i, i < l.length ∧ ob i = k
  back : ∀ i : Nat, i < l.length → ∀ k : Int, k ∈ rd_L1 (depsOf l) (ob i) → ∃ j, j < i ∧ k = (ob j : Nat)

theorem places (l : List S37) : ∃ ob, Places l ob := by
  have hd := depsOf_back l
  have hdl := depsOf_length l
  have hol := orderOf_length l
  obtain ⟨ob, hob⟩ := Go.Deep.choose_lt (α := Nat) (n := l.length) (p := fun i b => (orderOf l)[i]? = some (b : Int) ∧ Pick (heightsOf l) (depsOf l) ((orderOf l).take i) b) (fun i hi => orderBy_get (heightsOf l) (depsOf l) hd i (by omega))
  have hmem : ∀ i k : Nat, i ≤ l.length → ((k : Int) ∈ (orderOf l).take i ↔ ∃ j, j < i ∧ k = ob j) := by
    intro i k hi
    rw [List.mem_iff_getElem?]
    constructor
    · rintro ⟨j, hj⟩
      have hji : j < i := by
        have := (List.getElem?_eq_some_iff.1 hj).1
        rw [List.length_take] at this
        omega
      rw [List.getElem?_take_of_lt hji, (hob j (by omega)).1] at hj
      exact ⟨j, hji, by have := Option.some.inj hj; omega⟩
    · rintro ⟨j, hj, rfl⟩
      exact ⟨j, by rw [List.getElem?_take_of_lt hj]; exact (hob j (by omega)).1⟩
  refine ⟨ob, fun i hi => (hob i hi).1, fun i hi => by have := (hob i hi).2.lt; omega, fun i hi => (hob i hi).2, hmem, ?_, ?_, ?_⟩
  · intro i j hi hj he
    rcases Nat.lt_trichotomy i j with h | h | h
    · exact absurd ((hmem j (ob j) (by omega)).2 ⟨i, h, he.symm⟩) (hob j hj).2.new
    · exact h
    · exact absurd ((hmem i (ob i) (by omega)).2 ⟨j, h, he⟩) (hob i hi).2.new
  · intro k hk
    have := orderBy_all (heightsOf l) (depsOf l) hd k (by omega)
    have h2 : (k : Int) ∈ (orderOf l).take l.length := by rw [List.take_of_length_le (by omega)]; exact this
    obtain ⟨j, hj, e⟩ := (hmem l.length k (Nat.le_refl _)).1 h2
    exact ⟨j, hj, e.symm⟩
  · intro i hi k hk
    obtain ⟨m, rfl, hm⟩ := hd _ (hob i hi).2.lt k hk
    obtain ⟨j, hj, e⟩ := (hmem i m (by omega)).1 ((hob i hi).2.row _ hk)
    exact ⟨j, hj, by rw [e]⟩

theorem afterOf_comm (a b : S37) : afterOf a b = afterOf b a := by
  unfold afterOf
  by_cases h : setsOf a = setsOf b
  · rw [h]
    cases pureOf a <;> cases pureOf b <;> simp [Bool.or_comm, Bool.or_assoc, Bool.or_left_comm]
  · have h' : ¬ setsOf b = setsOf a := fun e => h e.symm
    cases pureOf a <;> cases pureOf b <;> simp [h, h', Bool.or_comm]

theorem dep_iff (l : List S37) (i k : Nat) (hi : i < l.length) : (k : Int) ∈ rd_L1 (depsOf l) (i : Int) ↔ k < i ∧ afterOf (rd_T37 l i) (rd_T37 l k) = true := by
  rw [depsOf_row l i hi, partOf_mem]
  constructor
  · rintro ⟨m, hm, h1, h2⟩
    obtain rfl : m = k := by omega
    exact ⟨h1, h2⟩
  · rintro ⟨h1, h2⟩
    exact ⟨k, rfl, h1, h2⟩

def again (l : List S37) : List S37 := (orderOf l).map fun k => rd_T37 l k
theorem again_length (l : List S37) : (again l).length = l.length := by unfold again; rw [List.length_map, orderOf_length]
theorem again_get {l : List S37} {ob : Nat → Nat} (hp : Places l ob) (i : Nat) (hi : i < l.length) : rd_T37 (again l) (i : Int) = rd_T37 l ((ob i : Nat) : Int) := by
  unfold again
  show (List.map _ _).getD _ _ = _
  rw [Int.toNat_natCast, List.getD_eq_getElem?_getD, List.getElem?_map, hp.get i hi]
  rfl
theorem again_dep {l : List S37} {ob : Nat → Nat} (hp : Places l ob) (i k : Nat) (hi : i < l.length) (hk : k < l.length) : (k : Int) ∈ rd_L1 (depsOf (again l)) (i : Int) ↔ ((ob k : Nat) : Int) ∈ rd_L1 (depsOf l) ((ob i : Nat) : Int) := by
  rw [dep_iff _ _ _ (by rw [again_length]; exact hi), again_get hp i hi, again_get hp k hk]
  constructor
  · rintro ⟨h1, h2⟩
    rw [dep_iff _ _ _ (hp.lt i hi)]
    refine ⟨?_, h2⟩
    rcases Nat.lt_trichotomy (ob k) (ob i) with h | h | h
    · exact h
    · have := hp.inj k i hk hi h; omega
    · rw [afterOf_comm] at h2
      obtain ⟨j, hj, e⟩ := hp.back k hk _ ((dep_iff l (ob k) (ob i) (hp.lt k hk)).2 ⟨h, h2⟩)
      have := hp.inj i j hi (by omega) (by omega)
      omega
  · intro h
    obtain ⟨j, hj, e⟩ := hp.back i hi _ h
    have := hp.inj k j hk (by omega) (by omega)
    exact ⟨by omega, ((dep_iff _ _ _ (hp.lt i hi)).1 h).2⟩

theorem again_high {l : List S37} (hn : l.length ≤ 4096) {ob : Nat → Nat} (hp : Places l ob) : ∀ d i : Nat, l.length - i ≤ d → i < l.length → rd (heightsOf (again l)) (i : Int) = rd (heightsOf l) ((ob i : Nat) : Int) := by
  have H := heightsOf_high l hn
  have H' := heightsOf_high (again l) (by rw [again_length]; exact hn)
  have el := again_length l
  have hlat : ∀ i, i < l.length → lt_ (again l) i = lt_ l (ob i) := fun i hi => by unfold lt_; rw [again_get hp i hi]
  intro d
  induction d with
  | zero => intro i h1 h2; omega
  | succ d ih =>
    intro i h1 h2
    have hoi := hp.lt i h2
    apply Int.le_antisymm
    · rcases H'.why i (by omega) with h3 | ⟨k, h3, h4, h5, h6⟩
      · rw [h3, hlat i h2]; exact H.lo _ hoi
      · rw [el] at h4
        rw [h6, hlat i h2, ih k (by omega) h4]
        exact H.row _ (hp.lt k h4) _ ((again_dep hp k i h4 h2).1 h5)
    · rcases H.why (ob i) hoi with h3 | ⟨kk, h3, h4, h5, h6⟩
      · rw [h3, ← hlat i h2]; exact H'.lo i (by omega)
      · obtain ⟨k, hk, rfl⟩ := hp.onto kk h4
        obtain ⟨j, hj, e⟩ := hp.back k hk _ h5
        have hij := hp.inj i j h2 (by omega) (by omega)
        rw [h6, ← hlat i h2, ← ih k (by omega) hk]
        exact H'.row k (by omega) i ((again_dep hp k i hk h2).2 h5)

theorem again_order (l : List S37) (hn : l.length ≤ 4096) : orderOf (again l) = mkL l.length fun i : Nat => (i : Int) := by
  obtain ⟨ob, hp⟩ := places l
  have el := again_length l
  have hol := orderOf_length (again l)
  have hh := again_high hn hp
  have step : ∀ m, m ≤ l.length → (orderOf (again l)).take m = mkL m fun i : Nat => (i : Int) := by
    intro m
    induction m with
    | zero => intro _; simp [mkL]
    | succ m ih =>
      intro hm
      have hi := ih (by omega)
      obtain ⟨b, hb, hpk⟩ := orderBy_get (heightsOf (again l)) (depsOf (again l)) (depsOf_back _) m (by rw [depsOf_length, el]; omega)
      have hb' : (orderOf (again l))[m]? = some (b : Int) := hb
      have hpk' : Pick (heightsOf (again l)) (depsOf (again l)) ((orderOf (again l)).take m) b := hpk
      rw [hi] at hpk'
      have h1 := hpk'.new
      have hbl := hpk'.lt
      rw [depsOf_length, el] at hbl
      rw [mkL_mem'] at h1
      have hbm : b = m := by
        rcases Nat.lt_or_eq_of_le (Nat.le_of_not_lt h1) with h2 | h2
        · exfalso
          have h3 := hpk'.top m (by rw [depsOf_length, el]; omega) (by rw [mkL_mem']; omega) (fun k hk => by
            obtain ⟨q, rfl, hq⟩ := depsOf_back (again l) m (by rw [depsOf_length, el]; omega) k hk
            rw [mkL_mem']; exact hq)
          have h4 := h3.2 h2
          rw [hh l.length m (by omega) (by omega), hh l.length b (by omega) hbl] at h4
          have h5 := (hp.pick m (by omega)).top (ob b) (by rw [depsOf_length]; exact hp.lt b hbl) (fun hk => by
            obtain ⟨j, hj, e⟩ := (hp.mem m (ob b) (by omega)).1 hk
            have := hp.inj b j hbl (by omega) e
            omega) (fun k hk => by
            obtain ⟨j, hj, rfl⟩ := hp.back b hbl k hk
            have h6 := hpk'.row _ ((again_dep hp b j hbl (by omega)).2 hk)
            rw [mkL_mem'] at h6
            exact (hp.mem m (ob j) (by omega)).2 ⟨j, h6, rfl⟩)
          omega
        · exact h2.symm
      subst hbm
      rw [show mkL (b + 1) (fun i : Nat => (i : Int)) = mkL b (fun i : Nat => (i : Int)) ++ [(b : Int)] by simp [mkL, List.range_succ], List.take_add_one, hi, hb']
      rfl
  have := step l.length (Nat.le_refl _)
  rwa [List.take_of_length_le (by omega)] at this
theorem again_again (l : List S37) (hn : l.length ≤ 4096) : again (again l) = again l := by
  have el := again_length l
  have e : again (again l) = (orderOf (again l)).map fun k => rd_T37 (again l) k := rfl
  rw [e, again_order l hn]
  apply List.ext_getElem
  · simp [mkL, el]
  · intro i h1 h2
    simp only [mkL, List.getElem_map, List.getElem_range, List.map_map]
    show (again l).getD _ _ = _
    show (again l).getD (i : Int).toNat z37 = _
    rw [Int.toNat_natCast, List.getD_eq_getElem?_getD, List.getElem?_eq_getElem h2]
    rfl

theorem may_order (l : List S37) : mayB (depsOf l) l.length (List.replicate l.length false) (orderOf l) = true := by
  obtain ⟨ob, hp⟩ := places l
  have hol := orderOf_length l
  suffices h : ∀ (d m : Nat) (ps : List Bool), m ≤ l.length → l.length - m = d → ps.length = l.length → (∀ i : Nat, i < l.length → (ps.getD i false = true ↔ (i : Int) ∈ (orderOf l).take m)) → mayB (depsOf l) l.length ps ((orderOf l).drop m) = true by
    have := h l.length 0 (List.replicate l.length false) (Nat.zero_le _) rfl (by simp) (fun i hi => by simp [List.getD_eq_getElem?_getD, hi])
    rwa [List.drop_zero] at this
  intro d
  induction d with
  | zero =>
    intro m ps hm hd hl hps
    rw [List.drop_of_length_le (by omega)]
    rfl
  | succ d ih =>
    intro m ps hm hd hl hps
    have hml : m < (orderOf l).length := by omega
    have hg : (orderOf l)[m] = ((ob m : Nat) : Int) := by
      have := hp.get m (by omega)
      rw [List.getElem?_eq_getElem hml] at this
      exact Option.some.inj this
    have hlt := hp.lt m (by omega)
    rw [List.drop_eq_getElem_cons hml, hg, mayB, if_neg (by omega), if_neg (by omega)]
    have h1 : ps.getD (ob m) false = false := by
      have := mt (hps (ob m) hlt).1 (hp.pick m (by omega)).new
      simpa using this
    rw [Int.toNat_natCast, h1, if_neg (by simp)]
    have h2 : ((rd_L1 (depsOf l) ((ob m : Nat) : Int)).any fun a => !(ps.getD a.toNat false)) = false := by
      rw [List.any_eq_false]
      intro k hk
      obtain ⟨j, hj, rfl⟩ := hp.back m (by omega) k hk
      have := (hps (ob j) (hp.lt j (by omega))).2 ((hp.mem m (ob j) (by omega)).2 ⟨j, hj, rfl⟩)
      rw [Int.toNat_natCast, this]
      simp
    rw [h2, if_neg (by simp)]
    refine ih (m + 1) _ (by omega) (by omega) (by simpa using hl) (fun i hi => ?_)
    rw [hp.mem (m + 1) i (by omega)]
    by_cases him : i = ob m
    · subst him
      have hb : ob m < ps.length := by omega
      simp only [List.getD_eq_getElem?_getD, List.getElem?_set_self hb, Option.getD_some, true_iff]
      exact ⟨m, by omega, rfl⟩
    · rw [List.getD_eq_getElem?_getD, List.getElem?_set_ne (by omega), ← List.getD_eq_getElem?_getD, hps i hi, hp.mem m i (by omega)]
      constructor
      · rintro ⟨j, hj, e⟩; exact ⟨j, by omega, e⟩
      · rintro ⟨j, hj, e⟩
        have : j ≠ m := fun h => him (by rw [e, h])
        exact ⟨j, by omega, e⟩

theorem nonpure_order (l : List S37) {ob : Nat → Nat} (hp : Places l ob) (i j : Nat) (hij : i < j) (hj : j < l.length) (h1 : pureOf (rd_T37 l (ob i : Nat)) = false) (h2 : pureOf (rd_T37 l (ob j : Nat)) = false) : ob i < ob j := by
  rcases Nat.lt_trichotomy (ob i) (ob j) with h | h | h
  · exact h
  · have := hp.inj i j (by omega) hj h; omega
  · have h3 : afterOf (rd_T37 l (ob i : Nat)) (rd_T37 l (ob j : Nat)) = true := by unfold afterOf; rw [h1, h2]; rfl
    obtain ⟨q, hq, e⟩ := hp.back i (by omega) _ ((dep_iff l (ob i) (ob j) (hp.lt i (by omega))).2 ⟨h, h3⟩)
    have := hp.inj j q hj (by omega) (by omega)
    omega
#print axioms again_again
#print axioms may_order
#print axioms nonpure_order
end Go.Proofs.Ytphmlkbmnmicpaa.A

/- What costs are at least and at most; rows are sorted: over plain lists. -/
namespace Go.Proofs.Ytphmlkbmnmicpaa.A
open Go.RowKit Go.Proofs.YtphmlkbmnmicpaaW.PrintWords Go.Proofs.YtphmlkbmnmicpaaW.PrintLast Go.Proofs.YtphmlkbmnmicpaaW.PrintMore Go.Shelf
set_option linter.unusedVariables false
set_option linter.unusedSimpArgs false

def sumN (l : List S37) : Nat → Int
  | 0 => 0
  | m + 1 => sumN l m + lt_ l m
def mostN (l : List S37) : Nat → Int
  | 0 => 0
  | m + 1 => mx (mostN l m) (lt_ l m)
theorem sumN_range (l : List S37) (m : Nat) : (m : Int) ≤ sumN l m ∧ sumN l m ≤ 20 * (m : Int) := by
  induction m with
  | zero => simp [sumN]
  | succ m ih =>
    have := latOf_range (rd_T37 l m)
    simp only [sumN]
    unfold lt_
    omega
theorem cRow_range (l : List S37) (ends : List Int) (i : Nat) (U : Int) : ∀ (row : List Int) (a : Int), a ≤ U → (∀ k ∈ row, rd ends k ≤ U) → a ≤ cRow l ends i row a ∧ cRow l ends i row a ≤ U := by
  intro row
  induction row with
  | nil => intro a h _; exact ⟨Int.le_refl _, h⟩
  | cons k row ih =>
    intro a h hr
    have hk := hr k List.mem_cons_self
    have h1 : a ≤ cOne l ends i a k ∧ cOne l ends i a k ≤ U := by
      unfold cOne mx
      split
      · split <;> omega
      · omega
    have := ih (cOne l ends i a k) h1.2 (fun k hk => hr k (List.mem_cons_of_mem _ hk))
    show a ≤ cRow l ends i row (cOne l ends i a k) ∧ cRow l ends i row (cOne l ends i a k) ≤ U
    omega
theorem cost_bounds (l : List S37) (hn : l.length ≤ 4096) : ∀ m, m ≤ l.length →
    (∀ k : Nat, k < l.length → rd (costN l (depsOf l) m).1 (k : Int) ≤ sumN l m + m) ∧ (m : Int) ≤ (costN l (depsOf l) m).2.1 ∧ (costN l (depsOf l) m).2.1 ≤ sumN l m + m ∧
    (m : Int) ≤ (costN l (depsOf l) m).2.2 ∧ mostN l m ≤ (costN l (depsOf l) m).2.2 ∧ (costN l (depsOf l) m).2.2 ≤ sumN l m + m := by
  intro m
  induction m with
  | zero =>
    intro _
    refine ⟨fun k hk => ?_, by simp [costN], by simp [costN, sumN], by simp [costN], by simp [costN, mostN], by simp [costN, sumN]⟩
    rw [rd_nat]
    simp only [costN, List.range_zero, List.foldl_nil, List.getD_eq_getElem?_getD, List.getElem?_replicate, sumN]
    split <;> simp
  | succ m ih =>
    intro hm
    obtain ⟨h1, h2, h3, h4, h5, h6⟩ := ih (by omega)
    have hlen := costN_length l (depsOf l) m
    rw [depsOf_length] at hlen
    rw [costN_succ]
    generalize costN l (depsOf l) m = s at *
    have hs := sumN_range l m
    have hl := latOf_range (rd_T37 l m)
    have hlt : lt_ l m = latOf (rd_T37 l m) := rfl
    have hr := cRow_range l s.1 m (sumN l m + m) (rd_L1 (depsOf l) (m : Int)) s.2.1 h3 (fun k hk => by
      obtain ⟨j, rfl, hj⟩ := depsOf_back l m (by rw [depsOf_length]; omega) k hk
      exact h1 j (by omega))
    unfold costStep
    generalize cRow l s.1 m (rd_L1 (depsOf l) (m : Int)) s.2.1 = a at *
    have e1 : wrap64 (a + lt_ l m) = a + lt_ l m := by unfold wrap64; omega
    have e2 : wrap64 (a + 1) = a + 1 := by unfold wrap64; omega
    rw [e1, e2]
    have es : sumN l (m + 1) = sumN l m + lt_ l m := rfl
    have em : mostN l (m + 1) = mx (mostN l m) (lt_ l m) := rfl
    rw [es, em]
    refine ⟨fun k hk => ?_, ?_, ?_, ?_, ?_, ?_⟩
    · show rd (s.1.set m _) (k : Int) ≤ _
      rw [rd_set]
      split
      · omega
      · have := h1 k hk; omega
    · show _ ≤ a + 1; omega
    · show a + 1 ≤ _; omega
    · show _ ≤ mx s.2.2 _; unfold mx; split <;> omega
    · show _ ≤ mx s.2.2 _; unfold mx; split <;> split <;> omega
    · show mx s.2.2 _ ≤ _; unfold mx; split <;> omega
theorem costOf_bounds (l : List S37) (hn : l.length ≤ 4096) : mostN l l.length ≤ costOf l ∧ (l.length : Int) ≤ costOf l ∧ costOf l ≤ sumN l l.length + l.length := by
  obtain ⟨_, _, _, h4, h5, h6⟩ := cost_bounds l hn l.length (Nat.le_refl _)
  exact ⟨h5, h4, h6⟩
theorem partOf_sorted (l : List S37) (i j : Nat) (k : Nat) (hk : k + 1 < (partOf l i j).length) : rd (partOf l i j) (k : Int) < rd (partOf l i j) ((k + 1 : Nat) : Int) := by
  have hp : (partOf l i j).Pairwise (· < ·) := by
    unfold partOf
    rw [List.pairwise_map]
    refine List.Pairwise.imp (fun h => Int.ofNat_lt.2 h) ?_
    exact (List.pairwise_lt_range (n := j)).sublist List.filter_sublist
  rw [List.pairwise_iff_getElem] at hp
  have := hp k (k + 1) (by omega) hk (by omega)
  rw [rd_nat, rd_nat, List.getD_eq_getElem?_getD, List.getD_eq_getElem?_getD, List.getElem?_eq_getElem (by omega), List.getElem?_eq_getElem hk]
  exact this
#print axioms costOf_bounds
#print axioms partOf_sorted
end Go.Proofs.Ytphmlkbmnmicpaa.A

/- What the machine does at this function, and a plain Lean function that says the same: written by a program for this claim; Lean checks it. -/
namespace Go.Proofs.Ytphmlkbmnmicpaa.A
open Go.RowKit Go.Proofs.YtphmlkbmnmicpaaW.PrintWords Go.Proofs.YtphmlkbmnmicpaaW.PrintLast Go.Proofs.YtphmlkbmnmicpaaW.PrintMore
attribute [local go_sem] max2_int min2_int max_two min_two max_three min_three max_four min_four   -- for this text's walks alone
set_option linter.unusedVariables false
set_option linter.unusedSimpArgs false

/-! ### swagelaw27_some: function 30 -/
def swagelaw27_some.f  : Option ((List (S37))) := some (([(⟨1, 1, 0, 0, 0, ([] : List Int)⟩ : S37), (⟨4, 2, 3, 0, 0, ([] : List Int)⟩ : S37), (⟨2, 4, 1, 2, 1, ([] : List Int)⟩ : S37)] : List (S37)))
set_option maxHeartbeats 8000000 in
set_option maxRecDepth 100000 in
theorem swagelaw27_some.calls  (r : List (S37)) (w : World) (h : swagelaw27_some.f  = some r) :
    Calls Try.prog 30 #[] w fun e w' => ∃ v0_ : Value, e = .returned (v0_) ∧ Kd.S k37 37 w' w.heap.size (fun _ => True) v0_ r ∧ Below w.heap.size w w' := by
  have hu37 := Try.underlying37
  have HB := Aside0.mk (Below.refl w.heap.size w)
  have H : (some (([(⟨1, 1, 0, 0, 0, ([] : List Int)⟩ : S37), (⟨4, 2, 3, 0, 0, ([] : List Int)⟩ : S37), (⟨2, 4, 1, 2, 1, ([] : List Int)⟩ : S37)] : List (S37)))) = some r := h
  clear h
  obtain ⟨y199, hy199⟩ : ∃ y_ : List (S37), y_ = (([(⟨1, 1, 0, 0, 0, ([] : List Int)⟩ : S37), (⟨4, 2, 3, 0, 0, ([] : List Int)⟩ : S37), (⟨2, 4, 1, 2, 1, ([] : List Int)⟩ : S37)] : List (S37))) := ⟨_, rfl⟩
  replace H : (some y199) = some r := by first | (rw [hy199]; with_reducible exact H) | (have H2_ := (Option.bind_some _ _).symm.trans H; rw [hy199]; with_reducible exact H2_) | (have H2_ := (Option.bind_some _ _).symm.trans H; with_reducible exact H2_) | with_reducible exact H | (rw [hy199]; exact H) | exact H
  have Ny199 := Aside0.mk hy199
  clear hy199
  obtain rfl := Option.some.inj H
  go_enter Try.func30, Try.ntmps30
  go_wp2_with (first | ((with_reducible refine gate_dst (N := 4) rfl ?_); refine Kd.S_lit k37 _ 37 ?hg (N := 4) ?hd (xs := ([(⟨1, 1, 0, 0, 0, ([] : List Int)⟩ : S37), (⟨4, 2, 3, 0, 0, ([] : List Int)⟩ : S37), (⟨2, 4, 1, 2, 1, ([] : List Int)⟩ : S37)] : List (S37))) (inner := [.int .i64 1, .int .i64 1, .int .i64 0, .int .i64 0, .int .i64 0, .slice none 0 0, .int .i64 4, .int .i64 2, .int .i64 3, .int .i64 0, .int .i64 0, .slice none 0 0, .int .i64 2, .int .i64 4, .int .i64 1, .int .i64 2, .int .i64 1, .slice none 0 0]) (ok := fun _ => True) (okp := fun _ => True) ?hr ?hp (fun _ hk => hk) trivial (Below.refl _ _) (Nat.le_refl _) (by simp) ?_; (case hd => rfl); (case hg => rfl); (case hr => first | (go_simp; done) | (go_simp; rfl)); (case hp => exact (Reps.c6 (show Kd.M k37 _ _ _ (⟨1, 1, 0, 0, 0, ([] : List Int)⟩ : S37) [.int .i64 1, .int .i64 1, .int .i64 0, .int .i64 0, .int .i64 0, .slice none 0 0] from (k37_mkM _ _ _ (⟨1, 1, 0, 0, 0, ([] : List Int)⟩ : S37) (Kd.R_nil _ _ _ _ _))) (Reps.c6 (show Kd.M k37 _ _ _ (⟨4, 2, 3, 0, 0, ([] : List Int)⟩ : S37) [.int .i64 4, .int .i64 2, .int .i64 3, .int .i64 0, .int .i64 0, .slice none 0 0] from (k37_mkM _ _ _ (⟨4, 2, 3, 0, 0, ([] : List Int)⟩ : S37) (Kd.R_nil _ _ _ _ _))) (Reps.c6 (show Kd.M k37 _ _ _ (⟨2, 4, 1, 2, 1, ([] : List Int)⟩ : S37) [.int .i64 2, .int .i64 4, .int .i64 1, .int .i64 2, .int .i64 1, .slice none 0 0] from (k37_mkM _ _ _ (⟨2, 4, 1, 2, 1, ([] : List Int)⟩ : S37) (Kd.R_nil _ _ _ _ _))) (Reps.none _ _))))); intro v200 w1 ho2 hb hg_ hnew_; clear hg_ hnew_; (first | rw [← Ny199.out] at ho2 | (simp only [Int.reduceToNat] at ho2; rw [← Ny199.out] at ho2)); have n0_ := Aside0.mk (Kd.S_lower ho2 (below_size (by repeat (first | (with_reducible first | exact HB.out | apply below_alloc | apply pw_below_drewN | apply below_drew1) | exact HB.out)))); have n1_ := Aside0.mk (below_step (by repeat (first | (with_reducible first | exact HB.out | apply below_alloc | apply pw_below_drewN | apply below_drew1) | exact HB.out)) hb); clear HB; have HO201 := n0_; have HB := n1_; clear n0_ n1_; clear hb ho2))
  go_ret
  exact ⟨_, by first | rfl | (simp [errW_none, errW_some] <;> rfl) | (simp [*, errW_none, errW_some] <;> rfl), by (with_reducible repeat (first | apply Kd.S_alloc | apply Kd.S_drewN | apply Kd.S_drew)); exact HO201.out, by repeat (first | (with_reducible first | exact HB.out | apply below_alloc | apply pw_below_drewN | apply below_drew1) | exact HB.out)⟩

end Go.Proofs.Ytphmlkbmnmicpaa.A

/- What the machine does at this function, and a plain Lean function that says the same: written by a program for this claim; Lean checks it. -/
namespace Go.Proofs.Ytphmlkbmnmicpaa.A
open Go.RowKit Go.Proofs.YtphmlkbmnmicpaaW.PrintWords Go.Proofs.YtphmlkbmnmicpaaW.PrintLast Go.Proofs.YtphmlkbmnmicpaaW.PrintMore
attribute [local go_sem] max2_int min2_int max_two min_two max_three min_three max_four min_four   -- for this text's walks alone
set_option linter.unusedVariables false
set_option linter.unusedSimpArgs false

/-! ### swageref02_Ints: function 19 -/
def swageref02_Ints.l0 : Nat → List Int → List Int → Int → Option (Bool)
  | 0, _, _, _ => none
  | k + 1, x0, x1, x5 => if x5 < (x0.length : Int) then (if 0 ≤ x5 then (if x5 < (x1.length : Int) then (if (rd x0 x5) = (rd x1 x5) then (swageref02_Ints.l0 k x0 x1 (wrap64 (x5 + 1))) else (some false)) else (none)) else (none)) else (some true)
def swageref02_Ints.f (k : Nat) (l0 : List Int) (l1 : List Int) : Option (Bool) := if (l0.length : Int) = (l1.length : Int) then (swageref02_Ints.l0 k l0 l1 0) else (some false)
theorem swageref02_Ints.mono_l : ∀ k, (∀ y0 y1 y2, LeO (swageref02_Ints.l0 k y0 y1 y2) (swageref02_Ints.l0 (k + 1) y0 y1 y2))
  | 0 => fun _ _ _ r h => by simp [swageref02_Ints.l0] at h
  | k + 1 => by
    have ih0 := swageref02_Ints.mono_l k
    · intro y0 y1 y2
      unfold swageref02_Ints.l0
      repeat' first
      | (with_reducible exact ih0 _ _ _)
      | (with_reducible exact LeO.refl _)
      | (with_reducible exact LeO.none _)
      | (with_reducible refine LeO.ite ?_ ?_)
      | (with_reducible refine LeO.bind ?_ (fun _ => ?_))
      | exact ih0 _ _ _
      | exact LeO.none _
      | refine LeO.ite ?_ ?_
      | refine LeO.bind ?_ (fun _ => ?_)
theorem swageref02_Ints.mono : ∀ a0 a1 k, LeO (swageref02_Ints.f k a0 a1) (swageref02_Ints.f (k + 1) a0 a1) := by
  intro a0 a1 k
  have ih0 := swageref02_Ints.mono_l k
  unfold swageref02_Ints.f
  repeat' first
      | (with_reducible exact ih0 _ _ _)
      | (with_reducible exact LeO.refl _)
      | (with_reducible exact LeO.none _)
      | (with_reducible refine LeO.ite ?_ ?_)
      | (with_reducible refine LeO.bind ?_ (fun _ => ?_))
      | exact ih0 _ _ _
      | exact LeO.none _
      | refine LeO.ite ?_ ?_
      | refine LeO.bind ?_ (fun _ => ?_)
set_option maxHeartbeats 8000000 in
set_option maxRecDepth 100000 in
theorem swageref02_Ints.calls (k : Nat) (A0 : Option Addr) (c0 : Nat) (l0 : List Int) (A1 : Option Addr) (c1 : Nat) (l1 : List Int) (r : Bool) (w : World) (hr0 : Kd.C (Kd.int .i64) w A0 l0.length l0) (hc0 : l0.length ≤ c0) (hr1 : Kd.C (Kd.int .i64) w A1 l1.length l1) (hc1 : l1.length ≤ c1) (h : swageref02_Ints.f k l0 l1 = some r) :
    Calls Try.prog 19 #[.slice A0 l0.length c0, .slice A1 l1.length c1] w fun e w' => e = .returned (.bool r) ∧ Drawn0 w w' := by
  have HR0 := Aside0.mk hr0
  have HC0 := Aside0.mk hc0
  clear hr0 hc0
  have HR1 := Aside0.mk hr1
  have HC1 := Aside0.mk hc1
  clear hr1 hc1
  have H : (if (l0.length : Int) = (l1.length : Int) then (swageref02_Ints.l0 k l0 l1 0) else (some false)) = some r := h
  clear h
  by_cases c3 : (l0.length : Int) = (l1.length : Int)
  · rw [if_pos c3] at H
    have c3b0 : ((l0.length : Int) == (l1.length : Int)) = true := beq_iff_eq.mpr c3
    have c3b1 : ((l0.length : Int) != (l1.length : Int)) = false := bne_eq_false_iff_eq.mpr c3
    have c3b2 : (l0.length == l1.length) = true := by first | simpa using c3 | (simp at c3 ⊢; omega)
    clear c3
    have H' := Aside0.mk H
    clear H
    go_enter Try.func19, Try.ntmps19
    go_wp2
    repeat (go_quiet (fail); try go_wp2)
    go_loopg [5] k (fun kq v5 w' => ∃ (x5_1 : Int), v5 = .int .i64 x5_1 ∧ Aside0 (swageref02_Ints.l0 kq l0 l1 x5_1 = some r) ∧ Aside0 (kq ≤ k) ∧ Drawn0 w w')
    case atStart => exact ⟨(0), (by first | rfl | (simp; done) | (simp [*]; done)), H', ⟨Nat.le_refl _⟩, by repeat (first | exact Drawn0.refl _ | apply Drawn0.step)⟩
    case round =>
      clear H'
      try clear c1
      try clear p2
      try clear c3
      try clear c3b0
      try clear c3b1
      try clear c3b2
      obtain ⟨x5_1, rfl, HA, HK1, ⟨m1, rfl⟩⟩ := hrel
      cases gk with
      | zero => exact absurd HA.out (by simp [swageref02_Ints.l0])
      | succ k1 =>
        have H := HA.out
        clear HA
        simp only [swageref02_Ints.l0] at H
        by_cases c4 : x5_1 < (l0.length : Int)
        · rw [if_pos c4] at H
          have c4b0 : decide (x5_1 < (l0.length : Int)) = true := decide_eq_true c4
          clear c4
          by_cases c5 : 0 ≤ x5_1
          · rw [if_pos c5] at H
            have c5b0 : decide (0 ≤ x5_1) = true := decide_eq_true c5
            clear c5
            by_cases c6 : x5_1 < (l1.length : Int)
            · rw [if_pos c6] at H
              have c6b0 : decide (x5_1 < (l1.length : Int)) = true := decide_eq_true c6
              clear c6
              by_cases c7 : (rd l0 x5_1) = (rd l1 x5_1)
              · rw [if_pos c7] at H
                have c7b0 : ((rd l0 x5_1) == (rd l1 x5_1)) = true := beq_iff_eq.mpr c7
                have c7b1 : ((rd l0 x5_1) != (rd l1 x5_1)) = false := bne_eq_false_iff_eq.mpr c7
                clear c7
                have H' := Aside0.mk H
                clear H
                have p171 : 0 ≤ (x5_1 : Int) := of_decide_eq_true (by first | (with_reducible assumption) | assumption)
                have q171 : x5_1 < (l0.length : Int) := of_decide_eq_true (by first | (with_reducible assumption) | assumption)
                obtain ⟨ad171, e171, hx171_0⟩ := Kd.at_int HR0.out x5_1 p171 q171
                cases e171
                replace p171 := eq_true p171
                replace q171 := eq_true q171
                have p172 : 0 ≤ (x5_1 : Int) := of_decide_eq_true (by first | (with_reducible assumption) | assumption)
                have q172 : x5_1 < (l1.length : Int) := of_decide_eq_true (by first | (with_reducible assumption) | assumption)
                obtain ⟨ad172, e172, hx172_0⟩ := Kd.at_int HR1.out x5_1 p172 q172
                cases e172
                replace p172 := eq_true p172
                replace q172 := eq_true q172
                go_wp2
                repeat (go_quiet (fail); try go_wp2)
                go_roundg k1
                case measure => have := HK1.out; omega
                case rel => exact ⟨(wrap64 (x5_1 + 1)), (by first | rfl | (simp; done) | (simp [*]; done)), H', ⟨by have := HK1.out; omega⟩, by repeat (first | exact Drawn0.refl _ | apply Drawn0.step)⟩
              · rw [if_neg c7] at H
                have c7b0 : ((rd l0 x5_1) == (rd l1 x5_1)) = false := beq_eq_false_iff_ne.mpr c7
                have c7b1 : ((rd l0 x5_1) != (rd l1 x5_1)) = true := bne_iff_ne.mpr c7
                obtain rfl := Option.some.inj H
                have p171 : 0 ≤ (x5_1 : Int) := of_decide_eq_true (by first | (with_reducible assumption) | assumption)
                have q171 : x5_1 < (l0.length : Int) := of_decide_eq_true (by first | (with_reducible assumption) | assumption)
                obtain ⟨ad171, e171, hx171_0⟩ := Kd.at_int HR0.out x5_1 p171 q171
                cases e171
                replace p171 := eq_true p171
                replace q171 := eq_true q171
                have p172 : 0 ≤ (x5_1 : Int) := of_decide_eq_true (by first | (with_reducible assumption) | assumption)
                have q172 : x5_1 < (l1.length : Int) := of_decide_eq_true (by first | (with_reducible assumption) | assumption)
                obtain ⟨ad172, e172, hx172_0⟩ := Kd.at_int HR1.out x5_1 p172 q172
                cases e172
                replace p172 := eq_true p172
                replace q172 := eq_true q172
                go_wp2
                repeat (go_quiet (fail); try go_wp2)
                go_ret
                exact ⟨by first | rfl | (simp; done) | (simp [*]; done), by repeat (first | exact Drawn0.refl _ | apply Drawn0.step)⟩
            · rw [if_neg c6] at H
              exact absurd H (by simp)
          · rw [if_neg c5] at H
            exact absurd H (by simp)
        · rw [if_neg c4] at H
          have c4b0 : decide (x5_1 < (l0.length : Int)) = false := decide_eq_false c4
          clear c4
          obtain rfl := Option.some.inj H
          go_wp2
          repeat (go_quiet (fail); try go_wp2)
          go_ret
          exact ⟨by first | rfl | (simp; done) | (simp [*]; done), by repeat (first | exact Drawn0.refl _ | apply Drawn0.step)⟩
  · rw [if_neg c3] at H
    have c3b0 : ((l0.length : Int) == (l1.length : Int)) = false := beq_eq_false_iff_ne.mpr c3
    have c3b1 : ((l0.length : Int) != (l1.length : Int)) = true := bne_iff_ne.mpr c3
    have c3b2 : (l0.length == l1.length) = false := by first | simpa using c3 | (simp at c3 ⊢; omega)
    obtain rfl := Option.some.inj H
    go_enter Try.func19, Try.ntmps19
    go_wp2
    repeat (go_quiet (fail); try go_wp2)
    go_ret
    exact ⟨by first | rfl | (simp; done) | (simp [*]; done), by repeat (first | exact Drawn0.refl _ | apply Drawn0.step)⟩

end Go.Proofs.Ytphmlkbmnmicpaa.A

/- What the machine does at this function, and a plain Lean function that says the same: written by a program for this claim; Lean checks it. -/
namespace Go.Proofs.Ytphmlkbmnmicpaa.A
open Go.RowKit Go.Proofs.YtphmlkbmnmicpaaW.PrintWords Go.Proofs.YtphmlkbmnmicpaaW.PrintLast Go.Proofs.YtphmlkbmnmicpaaW.PrintMore
attribute [local go_sem] max2_int min2_int max_two min_two max_three min_three max_four min_four   -- for this text's walks alone
set_option linter.unusedVariables false
set_option linter.unusedSimpArgs false

/-! ### swageref06_Rows: function 16 -/
def swageref06_Rows.l0 : Nat → List (List Int) → List (List Int) → Int → Option (Bool)
  | 0, _, _, _ => none
  | k + 1, x0, x1, x5 => if x5 < (x0.length : Int) then (if 0 ≤ x5 then (if x5 < (x1.length : Int) then ((swageref02_Ints.f k (rd_L1 x0 x5) (rd_L1 x1 x5)).bind fun t175 => (if t175 = true then (swageref06_Rows.l0 k x0 x1 (wrap64 (x5 + 1))) else (some false))) else (none)) else (none)) else (some true)
def swageref06_Rows.f (k : Nat) (l0 : List (List Int)) (l1 : List (List Int)) : Option (Bool) := if (l0.length : Int) = (l1.length : Int) then (swageref06_Rows.l0 k l0 l1 0) else (some false)
theorem swageref06_Rows.mono_l : ∀ k, (∀ y0 y1 y2, LeO (swageref06_Rows.l0 k y0 y1 y2) (swageref06_Rows.l0 (k + 1) y0 y1 y2))
  | 0 => fun _ _ _ r h => by simp [swageref06_Rows.l0] at h
  | k + 1 => by
    have ih0 := swageref06_Rows.mono_l k
    · intro y0 y1 y2
      unfold swageref06_Rows.l0
      repeat' first
      | (with_reducible exact ih0 _ _ _)
      | (with_reducible exact swageref02_Ints.mono _ _ _)
      | (with_reducible exact LeO.refl _)
      | (with_reducible exact LeO.none _)
      | (with_reducible refine LeO.ite ?_ ?_)
      | (with_reducible refine LeO.bind ?_ (fun _ => ?_))
      | exact ih0 _ _ _
      | exact swageref02_Ints.mono _ _ _
      | exact LeO.none _
      | refine LeO.ite ?_ ?_
      | refine LeO.bind ?_ (fun _ => ?_)
theorem swageref06_Rows.mono : ∀ a0 a1 k, LeO (swageref06_Rows.f k a0 a1) (swageref06_Rows.f (k + 1) a0 a1) := by
  intro a0 a1 k
  have ih0 := swageref06_Rows.mono_l k
  unfold swageref06_Rows.f
  repeat' first
      | (with_reducible exact ih0 _ _ _)
      | (with_reducible exact swageref02_Ints.mono _ _ _)
      | (with_reducible exact LeO.refl _)
      | (with_reducible exact LeO.none _)
      | (with_reducible refine LeO.ite ?_ ?_)
      | (with_reducible refine LeO.bind ?_ (fun _ => ?_))
      | exact ih0 _ _ _
      | exact swageref02_Ints.mono _ _ _
      | exact LeO.none _
      | refine LeO.ite ?_ ?_
      | refine LeO.bind ?_ (fun _ => ?_)
set_option maxHeartbeats 8000000 in
set_option maxRecDepth 100000 in
theorem swageref06_Rows.calls (k : Nat) (A0 : Option Addr) (c0 : Nat) (l0 : List (List Int)) (A1 : Option Addr) (c1 : Nat) (l1 : List (List Int)) (r : Bool) (w : World) (hr0 : Kd.C (Kd.slice 3 (Kd.int .i64)) w A0 l0.length l0) (hc0 : l0.length ≤ c0) (hr1 : Kd.C (Kd.slice 3 (Kd.int .i64)) w A1 l1.length l1) (hc1 : l1.length ≤ c1) (h : swageref06_Rows.f k l0 l1 = some r) :
    Calls Try.prog 16 #[.slice A0 l0.length c0, .slice A1 l1.length c1] w fun e w' => e = .returned (.bool r) ∧ Drawn0 w w' := by
  have HR0 := Aside0.mk hr0
  have HC0 := Aside0.mk hc0
  clear hr0 hc0
  have HR1 := Aside0.mk hr1
  have HC1 := Aside0.mk hc1
  clear hr1 hc1
  have H : (if (l0.length : Int) = (l1.length : Int) then (swageref06_Rows.l0 k l0 l1 0) else (some false)) = some r := h
  clear h
  by_cases c3 : (l0.length : Int) = (l1.length : Int)
  · rw [if_pos c3] at H
    have c3b0 : ((l0.length : Int) == (l1.length : Int)) = true := beq_iff_eq.mpr c3
    have c3b1 : ((l0.length : Int) != (l1.length : Int)) = false := bne_eq_false_iff_eq.mpr c3
    have c3b2 : (l0.length == l1.length) = true := by first | simpa using c3 | (simp at c3 ⊢; omega)
    clear c3
    have H' := Aside0.mk H
    clear H
    go_enter Try.func16, Try.ntmps16
    go_wp2
    repeat (go_quiet (fail); try go_wp2)
    go_loopg [5] k (fun kq v5 w' => ∃ (x5_1 : Int), v5 = .int .i64 x5_1 ∧ Aside0 (swageref06_Rows.l0 kq l0 l1 x5_1 = some r) ∧ Aside0 (kq ≤ k) ∧ Drawn0 w w')
    case atStart => exact ⟨(0), (by first | rfl | (simp; done) | (simp [*]; done)), H', ⟨Nat.le_refl _⟩, by repeat (first | exact Drawn0.refl _ | apply Drawn0.step)⟩
    case round =>
      clear H'
      try clear c1
      try clear p2
      try clear c3
      try clear c3b0
      try clear c3b1
      try clear c3b2
      obtain ⟨x5_1, rfl, HA, HK1, ⟨m1, rfl⟩⟩ := hrel
      cases gk with
      | zero => exact absurd HA.out (by simp [swageref06_Rows.l0])
      | succ k1 =>
        have H := HA.out
        clear HA
        simp only [swageref06_Rows.l0] at H
        by_cases c4 : x5_1 < (l0.length : Int)
        · rw [if_pos c4] at H
          have c4b0 : decide (x5_1 < (l0.length : Int)) = true := decide_eq_true c4
          clear c4
          by_cases c5 : 0 ≤ x5_1
          · rw [if_pos c5] at H
            have c5b0 : decide (0 ≤ x5_1) = true := decide_eq_true c5
            clear c5
            by_cases c6 : x5_1 < (l1.length : Int)
            · rw [if_pos c6] at H
              have c6b0 : decide (x5_1 < (l1.length : Int)) = true := decide_eq_true c6
              clear c6
              replace H := Option.bind_eq_some_iff.mp H
              obtain ⟨t175, A70, H⟩ := H
              replace H : (if t175 = true then (swageref06_Rows.l0 k1 l0 l1 (wrap64 (x5_1 + 1))) else (some false)) = some r := H
              have A7 := Aside0.mk A70
              clear A70
              by_cases c8 : t175 = true
              · subst c8
                have H1 : (swageref06_Rows.l0 k1 l0 l1 (wrap64 (x5_1 + 1))) = some r := by rw [if_pos rfl] at H; exact H
                clear H
                have H := H1
                clear H1
                have H' := Aside0.mk H
                clear H
                have p173 : 0 ≤ (x5_1 : Int) := of_decide_eq_true (by first | (with_reducible assumption) | assumption)
                have q173 : x5_1 < (l0.length : Int) := of_decide_eq_true (by first | (with_reducible assumption) | assumption)
                obtain ⟨ad173, A173_0, c173_0, e173, hx173_0, hl173_0, hi173_0⟩ := at_L1 HR0.out x5_1 p173 q173
                cases e173
                have HR173_0 := Aside0.mk hi173_0
                have HC173_0 := Aside0.mk hl173_0
                clear hi173_0 hl173_0
                replace p173 := eq_true p173
                replace q173 := eq_true q173
                have p174 : 0 ≤ (x5_1 : Int) := of_decide_eq_true (by first | (with_reducible assumption) | assumption)
                have q174 : x5_1 < (l1.length : Int) := of_decide_eq_true (by first | (with_reducible assumption) | assumption)
                obtain ⟨ad174, A174_0, c174_0, e174, hx174_0, hl174_0, hi174_0⟩ := at_L1 HR1.out x5_1 p174 q174
                cases e174
                have HR174_0 := Aside0.mk hi174_0
                have HC174_0 := Aside0.mk hl174_0
                clear hi174_0 hl174_0
                replace p174 := eq_true p174
                replace q174 := eq_true q174
                go_wp2_with (first | (go_at_call 19; (with_reducible refine (swageref02_Ints.calls k1 _ _ (rd_L1 l0 x5_1) _ _ (rd_L1 l1 x5_1) true _ ?side1 ?side2 ?side3 ?side4 A7.out).mono ?_); (case side1 => repeat (first | exact HR173_0.out | (with_reducible refine Kd.C_alloc ?_ _) | (with_reducible refine Kd.C_drewN ?_ _) | (with_reducible refine Kd.C_drew ?_))); (case side2 => exact HC173_0.out); (case side3 => repeat (first | exact HR174_0.out | (with_reducible refine Kd.C_alloc ?_ _) | (with_reducible refine Kd.C_drewN ?_ _) | (with_reducible refine Kd.C_drew ?_))); (case side4 => exact HC174_0.out); rintro e w' ⟨rfl, ⟨nd, rfl⟩⟩; (try first | exact ⟨rfl, _, World.drewN_drewN _ _ _⟩ | exact ⟨rfl, _, Eq.trans (World.drewN_drewN _ _ _) (congrArg (World.drewN _) (Nat.add_assoc _ _ _))⟩)))
                repeat (go_quiet (first | (go_at_call 19; (with_reducible refine (swageref02_Ints.calls k1 _ _ (rd_L1 l0 x5_1) _ _ (rd_L1 l1 x5_1) true _ ?side1 ?side2 ?side3 ?side4 A7.out).mono ?_); (case side1 => repeat (first | exact HR173_0.out | (with_reducible refine Kd.C_alloc ?_ _) | (with_reducible refine Kd.C_drewN ?_ _) | (with_reducible refine Kd.C_drew ?_))); (case side2 => exact HC173_0.out); (case side3 => repeat (first | exact HR174_0.out | (with_reducible refine Kd.C_alloc ?_ _) | (with_reducible refine Kd.C_drewN ?_ _) | (with_reducible refine Kd.C_drew ?_))); (case side4 => exact HC174_0.out); rintro e w' ⟨rfl, ⟨nd, rfl⟩⟩; (try first | exact ⟨rfl, _, World.drewN_drewN _ _ _⟩ | exact ⟨rfl, _, Eq.trans (World.drewN_drewN _ _ _) (congrArg (World.drewN _) (Nat.add_assoc _ _ _))⟩))); try go_wp2_with (first | (go_at_call 19; (with_reducible refine (swageref02_Ints.calls k1 _ _ (rd_L1 l0 x5_1) _ _ (rd_L1 l1 x5_1) true _ ?side1 ?side2 ?side3 ?side4 A7.out).mono ?_); (case side1 => repeat (first | exact HR173_0.out | (with_reducible refine Kd.C_alloc ?_ _) | (with_reducible refine Kd.C_drewN ?_ _) | (with_reducible refine Kd.C_drew ?_))); (case side2 => exact HC173_0.out); (case side3 => repeat (first | exact HR174_0.out | (with_reducible refine Kd.C_alloc ?_ _) | (with_reducible refine Kd.C_drewN ?_ _) | (with_reducible refine Kd.C_drew ?_))); (case side4 => exact HC174_0.out); rintro e w' ⟨rfl, ⟨nd, rfl⟩⟩; (try first | exact ⟨rfl, _, World.drewN_drewN _ _ _⟩ | exact ⟨rfl, _, Eq.trans (World.drewN_drewN _ _ _) (congrArg (World.drewN _) (Nat.add_assoc _ _ _))⟩))))
                go_roundg k1
                case measure => have := HK1.out; omega
                case rel => exact ⟨(wrap64 (x5_1 + 1)), (by first | rfl | (simp; done) | (simp [*]; done)), H', ⟨by have := HK1.out; omega⟩, by repeat (first | exact Drawn0.refl _ | apply Drawn0.step)⟩
              · replace c8 := Bool.eq_false_iff.mpr c8
                subst c8
                have H1 : (some false) = some r := by rw [if_neg (show ¬ (false = true) by decide)] at H; exact H
                clear H
                have H := H1
                clear H1
                obtain rfl := Option.some.inj H
                have p173 : 0 ≤ (x5_1 : Int) := of_decide_eq_true (by first | (with_reducible assumption) | assumption)
                have q173 : x5_1 < (l0.length : Int) := of_decide_eq_true (by first | (with_reducible assumption) | assumption)
                obtain ⟨ad173, A173_0, c173_0, e173, hx173_0, hl173_0, hi173_0⟩ := at_L1 HR0.out x5_1 p173 q173
                cases e173
                have HR173_0 := Aside0.mk hi173_0
                have HC173_0 := Aside0.mk hl173_0
                clear hi173_0 hl173_0
                replace p173 := eq_true p173
                replace q173 := eq_true q173
                have p174 : 0 ≤ (x5_1 : Int) := of_decide_eq_true (by first | (with_reducible assumption) | assumption)
                have q174 : x5_1 < (l1.length : Int) := of_decide_eq_true (by first | (with_reducible assumption) | assumption)
                obtain ⟨ad174, A174_0, c174_0, e174, hx174_0, hl174_0, hi174_0⟩ := at_L1 HR1.out x5_1 p174 q174
                cases e174
                have HR174_0 := Aside0.mk hi174_0
                have HC174_0 := Aside0.mk hl174_0
                clear hi174_0 hl174_0
                replace p174 := eq_true p174
                replace q174 := eq_true q174
                go_wp2_with (first | (go_at_call 19; (with_reducible refine (swageref02_Ints.calls k1 _ _ (rd_L1 l0 x5_1) _ _ (rd_L1 l1 x5_1) false _ ?side1 ?side2 ?side3 ?side4 A7.out).mono ?_); (case side1 => repeat (first | exact HR173_0.out | (with_reducible refine Kd.C_alloc ?_ _) | (with_reducible refine Kd.C_drewN ?_ _) | (with_reducible refine Kd.C_drew ?_))); (case side2 => exact HC173_0.out); (case side3 => repeat (first | exact HR174_0.out | (with_reducible refine Kd.C_alloc ?_ _) | (with_reducible refine Kd.C_drewN ?_ _) | (with_reducible refine Kd.C_drew ?_))); (case side4 => exact HC174_0.out); rintro e w' ⟨rfl, ⟨nd, rfl⟩⟩; (try first | exact ⟨rfl, _, World.drewN_drewN _ _ _⟩ | exact ⟨rfl, _, Eq.trans (World.drewN_drewN _ _ _) (congrArg (World.drewN _) (Nat.add_assoc _ _ _))⟩)))
                repeat (go_quiet (first | (go_at_call 19; (with_reducible refine (swageref02_Ints.calls k1 _ _ (rd_L1 l0 x5_1) _ _ (rd_L1 l1 x5_1) false _ ?side1 ?side2 ?side3 ?side4 A7.out).mono ?_); (case side1 => repeat (first | exact HR173_0.out | (with_reducible refine Kd.C_alloc ?_ _) | (with_reducible refine Kd.C_drewN ?_ _) | (with_reducible refine Kd.C_drew ?_))); (case side2 => exact HC173_0.out); (case side3 => repeat (first | exact HR174_0.out | (with_reducible refine Kd.C_alloc ?_ _) | (with_reducible refine Kd.C_drewN ?_ _) | (with_reducible refine Kd.C_drew ?_))); (case side4 => exact HC174_0.out); rintro e w' ⟨rfl, ⟨nd, rfl⟩⟩; (try first | exact ⟨rfl, _, World.drewN_drewN _ _ _⟩ | exact ⟨rfl, _, Eq.trans (World.drewN_drewN _ _ _) (congrArg (World.drewN _) (Nat.add_assoc _ _ _))⟩))); try go_wp2_with (first | (go_at_call 19; (with_reducible refine (swageref02_Ints.calls k1 _ _ (rd_L1 l0 x5_1) _ _ (rd_L1 l1 x5_1) false _ ?side1 ?side2 ?side3 ?side4 A7.out).mono ?_); (case side1 => repeat (first | exact HR173_0.out | (with_reducible refine Kd.C_alloc ?_ _) | (with_reducible refine Kd.C_drewN ?_ _) | (with_reducible refine Kd.C_drew ?_))); (case side2 => exact HC173_0.out); (case side3 => repeat (first | exact HR174_0.out | (with_reducible refine Kd.C_alloc ?_ _) | (with_reducible refine Kd.C_drewN ?_ _) | (with_reducible refine Kd.C_drew ?_))); (case side4 => exact HC174_0.out); rintro e w' ⟨rfl, ⟨nd, rfl⟩⟩; (try first | exact ⟨rfl, _, World.drewN_drewN _ _ _⟩ | exact ⟨rfl, _, Eq.trans (World.drewN_drewN _ _ _) (congrArg (World.drewN _) (Nat.add_assoc _ _ _))⟩))))
                go_ret
                exact ⟨by first | rfl | (simp; done) | (simp [*]; done), by repeat (first | exact Drawn0.refl _ | apply Drawn0.step)⟩
            · rw [if_neg c6] at H
              exact absurd H (by simp)
          · rw [if_neg c5] at H
            exact absurd H (by simp)
        · rw [if_neg c4] at H
          have c4b0 : decide (x5_1 < (l0.length : Int)) = false := decide_eq_false c4
          clear c4
          obtain rfl := Option.some.inj H
          go_wp2
          repeat (go_quiet (fail); try go_wp2)
          go_ret
          exact ⟨by first | rfl | (simp; done) | (simp [*]; done), by repeat (first | exact Drawn0.refl _ | apply Drawn0.step)⟩
  · rw [if_neg c3] at H
    have c3b0 : ((l0.length : Int) == (l1.length : Int)) = false := beq_eq_false_iff_ne.mpr c3
    have c3b1 : ((l0.length : Int) != (l1.length : Int)) = true := bne_iff_ne.mpr c3
    have c3b2 : (l0.length == l1.length) = false := by first | simpa using c3 | (simp at c3 ⊢; omega)
    obtain rfl := Option.some.inj H
    go_enter Try.func16, Try.ntmps16
    go_wp2
    repeat (go_quiet (fail); try go_wp2)
    go_ret
    exact ⟨by first | rfl | (simp; done) | (simp [*]; done), by repeat (first | exact Drawn0.refl _ | apply Drawn0.step)⟩

end Go.Proofs.Ytphmlkbmnmicpaa.A

/- What the machine does at this function, and a plain Lean function that says the same: written by a program for this claim; Lean checks it. -/
namespace Go.Proofs.Ytphmlkbmnmicpaa.A
open Go.RowKit Go.Proofs.YtphmlkbmnmicpaaW.PrintWords Go.Proofs.YtphmlkbmnmicpaaW.PrintLast Go.Proofs.YtphmlkbmnmicpaaW.PrintMore
attribute [local go_sem] max2_int min2_int max_two min_two max_three min_three max_four min_four   -- for this text's walks alone
set_option linter.unusedVariables false
set_option linter.unusedSimpArgs false

/-! ### sched_Heights: function 20 -/
def sched_Heights.f (k : Nat) (l0 : List (S37)) : Option (List Int) := (sched_Deps.f k l0).bind fun t176 => ((sched_heights.f l0 t176).bind fun t179 => (some t179))
theorem sched_Heights.mono : ∀ a0 k, LeO (sched_Heights.f k a0) (sched_Heights.f (k + 1) a0) := by
  intro a0 k
  unfold sched_Heights.f
  repeat' first
      | (with_reducible exact sched_Deps.mono _ _)
      | (with_reducible exact LeO.refl _)
      | (with_reducible exact LeO.none _)
      | (with_reducible refine LeO.ite ?_ ?_)
      | (with_reducible refine LeO.bind ?_ (fun _ => ?_))
      | exact sched_Deps.mono _ _
      | exact LeO.none _
      | refine LeO.ite ?_ ?_
      | refine LeO.bind ?_ (fun _ => ?_)
set_option maxHeartbeats 8000000 in
set_option maxRecDepth 100000 in
theorem sched_Heights.calls (k : Nat) (A0 : Option Addr) (c0 : Nat) (l0 : List (S37)) (r : List Int) (w : World) (hr0 : Kd.C k37 w A0 l0.length l0) (hc0 : l0.length ≤ c0) (h : sched_Heights.f k l0 = some r) :
    Calls Try.prog 20 #[.slice A0 l0.length c0] w fun e w' => ∃ v0_ : Value, e = .returned (v0_) ∧ Kd.R (Kd.int .i64) 3 w' w.heap.size (fun _ => True) v0_ r ∧ Below w.heap.size w w' := by
  have HR0 := Aside0.mk hr0
  have HC0 := Aside0.mk hc0
  clear hr0 hc0
  have HB := Aside0.mk (Below.refl w.heap.size w)
  have H : ((sched_Deps.f k l0).bind fun t176 => ((sched_heights.f l0 t176).bind fun t179 => (some t179))) = some r := h
  clear h
  replace H := Option.bind_eq_some_iff.mp H
  obtain ⟨t176, A20, H⟩ := H
  replace H : ((sched_heights.f l0 t176).bind fun t179 => (some t179)) = some r := H
  have A2 := Aside0.mk A20
  clear A20
  replace H := Option.bind_eq_some_iff.mp H
  obtain ⟨t179, A30, H⟩ := H
  replace H : (some t179) = some r := H
  have A3 := Aside0.mk A30
  clear A30
  obtain rfl := Option.some.inj H
  go_enter Try.func20, Try.ntmps20
  go_wp2_with (first | ((with_reducible refine gate_callee (f := 17) rfl ?_); refine goesL_ (some 5) rfl rfl Try.func17 (by kernel_rfl) rfl #[.slice A0 l0.length c0] rfl (by (try simp only [List.map_toArray, List.map_cons, List.map_nil]); first | done | rfl | (simp only [List.length_drop, List.length_take]; rfl)) ?_; (with_reducible refine (sched_Deps.calls k _ _ l0 t176 _ ?side1 ?side2 A2.out).mono ?_); (case side1 => repeat (first | exact HR0.out | (with_reducible refine Kd.C_alloc ?_ _) | (with_reducible refine Kd.C_drewN ?_ _) | (with_reducible refine Kd.C_drew ?_))); (case side2 => exact HC0.out); rintro e w4 ⟨v177, rfl, ho0, hb⟩; refine ⟨_, rfl, ?_⟩; have n0_ := Aside0.mk (Kd.S_lower ho0 (below_size (by repeat (first | (with_reducible first | exact HB.out | apply below_alloc | apply pw_below_drewN | apply below_drew1) | exact HB.out)))); have n1_ := Aside0.mk (below_step (by repeat (first | (with_reducible first | exact HB.out | apply below_alloc | apply pw_below_drewN | apply below_drew1) | exact HB.out)) hb); clear HB; have HO178 := n0_; have HB := n1_; clear n0_ n1_; (try clear hb); (try clear hb2); (try clear hk); (try clear hi); (try clear ho0); obtain ⟨Ao5, co5, eo5⟩ := Kd.S_slice HO178.out; subst eo5) | ((with_reducible refine gate_callee (f := 34) rfl ?_); refine goesL_ (some 6) rfl rfl Try.func34 (by kernel_rfl) rfl #[.slice A0 l0.length c0, .slice Ao5 t176.length co5] rfl (by (try simp only [List.map_toArray, List.map_cons, List.map_nil]); first | done | rfl | (simp only [List.length_drop, List.length_take]; rfl)) ?_; (with_reducible refine (sched_heights.calls _ _ l0 _ _ t176 t179 _ ?side1 ?side2 ?side3 ?side4 A3.out).mono ?_); (case side1 => repeat (first | exact (Kd.C_below HR0.out HB.out) | (with_reducible refine Kd.C_alloc ?_ _) | (with_reducible refine Kd.C_drewN ?_ _) | (with_reducible refine Kd.C_drew ?_))); (case side2 => exact HC0.out); (case side3 => repeat (first | exact (Kd.S_reads' HO178.out).2.2 | (with_reducible refine Kd.C_alloc ?_ _) | (with_reducible refine Kd.C_drewN ?_ _) | (with_reducible refine Kd.C_drew ?_))); (case side4 => exact (Kd.S_reads' HO178.out).2.1); rintro e w6 ⟨v180, rfl, ho0, hb⟩; refine ⟨_, rfl, ?_⟩; have n0_ := Aside0.mk (Kd.S_elder' (by (with_reducible repeat (first | apply Kd.S_alloc | apply Kd.S_drewN | apply Kd.S_drew)); exact HO178.out) (Kd.R_base ho0) hb); have n1_ := Aside0.mk (Kd.R_lower ho0 (below_size (by repeat (first | (with_reducible first | exact HB.out | apply below_alloc | apply pw_below_drewN | apply below_drew1) | exact HB.out)))); have n2_ := Aside0.mk (below_step (by repeat (first | (with_reducible first | exact HB.out | apply below_alloc | apply pw_below_drewN | apply below_drew1) | exact HB.out)) hb); clear HO178; clear HB; have HO178 := n0_; have HO181 := n1_; have HB := n2_; clear n0_ n1_ n2_; (try clear hb); (try clear hb2); (try clear hk); (try clear hi); (try clear ho0)))
  go_ret
  exact ⟨_, by first | rfl | (simp [errW_none, errW_some] <;> rfl) | (simp [*, errW_none, errW_some] <;> rfl), by (with_reducible repeat (first | apply Kd.R_alloc | apply Kd.R_drewN | apply Kd.R_drew)); exact HO181.out, by repeat (first | (with_reducible first | exact HB.out | apply below_alloc | apply pw_below_drewN | apply below_drew1) | exact HB.out)⟩

end Go.Proofs.Ytphmlkbmnmicpaa.A

/- The small case at the head of each law of sched comes out right. -/
namespace Go.Proofs.Ytphmlkbmnmicpaa.A
open Go.RowKit Go.Proofs.YtphmlkbmnmicpaaW.PrintWords Go.Proofs.YtphmlkbmnmicpaaW.PrintLast Go.Shelf
set_option linter.unusedVariables false
set_option linter.unusedSimpArgs false

theorem R_new_lit {α : Type} (d : Kd α) (W : World) (base e : Nat) {xs : List α} {inner : List Value} {ok okp : Nat → Prop}
    (hrep : Reps (d.M W base okp) d.sz xs inner) (hok : ∀ k, okp k → ok k) (hfresh : ok W.heap.size) (hbase : base ≤ W.heap.size) (hm : xs.length ≤ 9223372036854775807) :
    d.R e (W.alloc (.cells inner.toArray e)) base ok (.slice (some ⟨W.heap.size, 0, none⟩) xs.length xs.length) xs := by
  refine ⟨fun k hk => ?_, inner, ?_, ?_⟩
  · have : W.heap.size = k := by simpa [Value.ownBlock] using hk
    subst this
    exact hfresh
  · have h2 := World.ownsRow_lit (base := base) (e := e) (size := d.sz) W inner.toArray xs.length hbase (by simpa [maxLen] using hm) (by simpa using hrep.1)
    simpa using h2
  · refine hrep.imp_ (fun p c hp => d.M_mono (fun k hk => ⟨hok k hk.1, fun he => ?_⟩) (Kd.M_below (d.M_bound hp) (below_alloc (Below.refl _ _) _)))
    have : W.heap.size = k := by simpa [Value.ownBlock] using he.symm
    have := hk.2.2.1
    omega

def L3 : List S37 := [⟨1, 1, 0, 0, 0, []⟩, ⟨4, 2, 3, 0, 0, []⟩, ⟨2, 4, 1, 2, 1, []⟩]
def L3o : List S37 := [⟨4, 2, 3, 0, 0, []⟩, ⟨1, 1, 0, 0, 0, []⟩, ⟨2, 4, 1, 2, 1, []⟩]

theorem some_c (W : World) : Calls Try.prog 30 #[] W fun e w' => ∃ A c, e = .returned (.slice A 3 c) ∧ Kd.C k37 w' A 3 L3 ∧ 3 ≤ c ∧ Below W.heap.size W w' :=
  (swagelaw27_some.calls _ W rfl).mono fun e w' ⟨v, he, hS, hb⟩ => by
    obtain ⟨A, c, rfl, h1, h2⟩ := Kd.S_reads hS
    exact ⟨A, c, he, h2, h1, hb⟩
theorem few3 : Few L3 := by decide
theorem order3 : sched_Order.f L3 = some [1, 0, 2] := by
  unfold sched_Order.f; rw [if_pos few3]; decide +kernel
theorem block3 : sched_Block.f L3 0 0 0 0 = some (L3o, 0, 0, 0, 0) := by
  unfold sched_Block.f; rw [if_pos few3, show orderOf L3 = [1, 0, 2] by decide +kernel]; rfl
theorem may3a : sched_May.f L3 [0, 1, 2] = some true := by
  unfold sched_May.f; rw [if_pos few3]; decide +kernel
theorem may3b : sched_May.f L3 [0, 2, 1] = some false := by
  unfold sched_May.f; rw [if_pos few3]; decide +kernel
theorem deps3 : depsOf L3 = [[], [], [0, 1]] := by decide +kernel
theorem heights3 : heightsOf L3 = [2, 4, 1] := by decide +kernel
theorem cost3 : sched_Cost.f 60 L3 = some 5 := by decide +kernel
theorem fheights3 : sched_Heights.f 60 L3 = some [2, 4, 1] := by decide +kernel
theorem ints3 (xs : List Int) (h : xs.length = 3) : ∃ k, swageref02_Ints.f k xs xs = some true := by
  rcases xs with _ | ⟨a, _ | ⟨b, _ | ⟨c, _ | ⟨d, xs⟩⟩⟩⟩ <;> simp at h
  exact ⟨10, by simp [swageref02_Ints.f, swageref02_Ints.l0, wrap64]⟩
theorem rows3 : swageref06_Rows.f 30 [[], [], [0, 1]] [[], [], [0, 1]] = some true := by decide +kernel

theorem block_c (A : Option Addr) (c : Nat) (W : World) (h : Kd.C k37 W A 3 L3) (hc : 3 ≤ c) : Calls Try.prog 11 #[.agg #[.slice A 3 c, .int .i64 0, .int .i64 0, .int .i64 0, .int .i64 0]] W fun e w' =>
    ∃ A c, e = .returned (.agg #[.slice A 3 c, .int .i64 0, .int .i64 0, .int .i64 0, .int .i64 0]) ∧ Kd.C k37 w' A 3 L3o ∧ 3 ≤ c ∧ Below W.heap.size W w' :=
  (sched_Block.calls A c L3 0 0 0 0 _ _ _ _ _ W h hc block3).mono fun e w' ⟨v, he, hS, hb⟩ => by
    obtain ⟨A, c, rfl, h1, h2⟩ := Kd.S_reads hS
    exact ⟨A, c, he, h2, h1, hb⟩
theorem order_c (A : Option Addr) (c : Nat) (W : World) (h : Kd.C k37 W A 3 L3) (hc : 3 ≤ c) : Calls Try.prog 22 #[.slice A 3 c] W fun e w' =>
    ∃ A c, e = .returned (.slice A 3 c) ∧ Kd.C (Kd.int .i64) w' A 3 [1, 0, 2] ∧ 3 ≤ c ∧ Below W.heap.size W w' :=
  (sched_Order.calls A c L3 _ W h hc order3).mono fun e w' ⟨v, he, hS, hb⟩ => by
    obtain ⟨A, c, rfl, h1, h2⟩ := Kd.R_reads hS
    exact ⟨A, c, he, h2, h1, hb⟩
theorem heights_c (A : Option Addr) (c : Nat) (W : World) (h : Kd.C k37 W A 3 L3) (hc : 3 ≤ c) : Calls Try.prog 20 #[.slice A 3 c] W fun e w' =>
    ∃ A c, e = .returned (.slice A 3 c) ∧ Kd.C (Kd.int .i64) w' A 3 [2, 4, 1] ∧ 3 ≤ c ∧ Below W.heap.size W w' :=
  (sched_Heights.calls 60 A c L3 _ W h hc fheights3).mono fun e w' ⟨v, he, hS, hb⟩ => by
    obtain ⟨A, c, rfl, h1, h2⟩ := Kd.R_reads hS
    exact ⟨A, c, he, h2, h1, hb⟩
theorem deps_c (A : Option Addr) (c : Nat) (W : World) (h : Kd.C k37 W A 3 L3) (hc : 3 ≤ c) : Calls Try.prog 17 #[.slice A 3 c] W fun e w' =>
    ∃ A c, e = .returned (.slice A 3 c) ∧ Kd.C (Kd.slice 3 (Kd.int .i64)) w' A 3 [[], [], [0, 1]] ∧ 3 ≤ c ∧ Below W.heap.size W w' :=
  (deps_calls L3 few3.1 few3.2 A c W h hc).mono fun e w' ⟨v, he, hS, hb⟩ => by
    obtain ⟨A, c, rfl, h1, h2⟩ := Kd.S_reads hS
    rw [deps3] at he h1 h2
    exact ⟨A, c, he, h2, h1, hb⟩
theorem ints_c (xs : List Int) (A B : Option Addr) (c b : Nat) (W : World) (h : Kd.C (Kd.int .i64) W A 3 xs) (hc : 3 ≤ c) (h' : Kd.C (Kd.int .i64) W B 3 xs) (hb : 3 ≤ b) : Calls Try.prog 19 #[.slice A 3 c, .slice B 3 b] W fun e w' =>
    e = .returned (.bool true) ∧ Drawn0 W w' := by
  have hl := Kd.C_len h
  obtain ⟨k, hk⟩ := ints3 xs hl
  have := swageref02_Ints.calls k A c xs B b xs true W (by rw [hl]; exact h) (by omega) (by rw [hl]; exact h') (by omega) hk
  rwa [hl] at this
theorem int_lit_c (a b c : Int) (W : World) : Kd.C (Kd.int .i64) (W.alloc (.cells #[.int .i64 a, .int .i64 b, .int .i64 c] 3)) (some ⟨W.heap.size, 0, none⟩) 3 [a, b, c] :=
  (Kd.R_reads' (R_new_lit (Kd.int .i64) W W.heap.size 3 (xs := [a, b, c]) (inner := [.int .i64 a, .int .i64 b, .int .i64 c]) (ok := fun _ => True) (okp := fun _ => True) (Kd.reps_scalar [a, b, c]) (fun _ h => h) trivial (Nat.le_refl _) (by simp))).2.2

theorem int_lit2 (a b : Int) (W : World) (base : Nat) (hb : base ≤ W.heap.size) : Kd.R (Kd.int .i64) 3 (W.alloc (.cells #[.int .i64 a, .int .i64 b] 3)) base (fun _ => True) (.slice (some ⟨W.heap.size, 0, none⟩) 2 2) [a, b] :=
  R_new_lit (Kd.int .i64) W base 3 (xs := [a, b]) (inner := [.int .i64 a, .int .i64 b]) (ok := fun _ => True) (okp := fun _ => True) (Kd.reps_scalar [a, b]) (fun _ h => h) trivial hb (by simp)
theorem rows_lit (W : World) : Kd.C (Kd.slice 3 (Kd.int .i64)) ((W.alloc (.cells #[.int .i64 0, .int .i64 1] 3)).alloc (.cells #[.slice none 0 0, .slice none 0 0, .slice (some ⟨W.heap.size, 0, none⟩) 2 2] 23)) (some ⟨W.heap.size + 1, 0, none⟩) 3 [[], [], [0, 1]] := by
  have h := (Kd.R_reads' (R_new_lit (Kd.slice 3 (Kd.int .i64)) (W.alloc (.cells #[.int .i64 0, .int .i64 1] 3)) W.heap.size 23 (xs := [[], [], [0, 1]]) (inner := [.slice none 0 0, .slice none 0 0, .slice (some ⟨W.heap.size, 0, none⟩) 2 2]) (ok := fun _ => True) (okp := fun _ => True)
    (Reps.one ⟨_, rfl, Kd.R_nil _ _ _ _ _⟩ (Reps.one ⟨_, rfl, Kd.R_nil _ _ _ _ _⟩ (Reps.one ⟨_, rfl, int_lit2 0 1 W _ (Nat.le_refl _)⟩ (Reps.none _ _)))) (fun _ h => h) trivial (by simp) (by simp))).2.2
  rw [World.size_alloc] at h
  exact h
theorem rows_c (A : Option Addr) (c : Nat) (W : World) (h : Kd.C (Kd.slice 3 (Kd.int .i64)) W A 3 [[], [], [0, 1]]) (hc : 3 ≤ c) :
    Calls Try.prog 16 #[.slice A 3 c, .slice (some ⟨W.heap.size + 1, 0, none⟩) 3 3] ((W.alloc (.cells #[.int .i64 0, .int .i64 1] 3)).alloc (.cells #[.slice none 0 0, .slice none 0 0, .slice (some ⟨W.heap.size, 0, none⟩) 2 2] 23)) fun e w' =>
      e = .returned (.bool true) ∧ Below W.heap.size W w' := by
  have hr := rows_lit W
  have hB : Below W.heap.size W ((W.alloc (.cells #[.int .i64 0, .int .i64 1] 3)).alloc (.cells #[.slice none 0 0, .slice none 0 0, .slice (some ⟨W.heap.size, 0, none⟩) 2 2] 23)) := below_alloc (below_alloc (Below.refl _ _) _) _
  replace h := Kd.C_below h hB
  generalize ((W.alloc (.cells #[.int .i64 0, .int .i64 1] 3)).alloc (.cells #[.slice none 0 0, .slice none 0 0, .slice (some ⟨W.heap.size, 0, none⟩) 2 2] 23)) = W1 at *
  exact (swageref06_Rows.calls 30 A c [[], [], [0, 1]] (some ⟨W.heap.size + 1, 0, none⟩) 3 [[], [], [0, 1]] true W1 h hc hr (Nat.le_refl _) rows3).mono fun e w' ⟨he, hD⟩ => ⟨he, below_then hB hB.size hD.below⟩

/-- what small keeps: the block with the box, its operations -/
structure SI (w : World) (g : Nat) (A : Option Addr) (c : Nat) (W : World) : Prop where
  hb : W.heap[g]? = some (.cells #[.slice A 3 c, .int .i64 0, .int .i64 0, .int .i64 0, .int .i64 0] 29 (0, 0))
  hC : Kd.C k37 W A 3 L3o
  hB : Below w.heap.size w W
theorem SI.below {w W W1 : World} {g : Nat} {A : Option Addr} {c : Nat} (h : SI w g A c W) (hb : Below W.heap.size W W1) : SI w g A c W1 :=
  ⟨(hb.block _ (blk_lt h.hb)).trans h.hb, Kd.C_below h.hC hb, below_then h.hB h.hB.size hb⟩
theorem SI.alloc {w W : World} {g : Nat} {A : Option Addr} {c : Nat} (h : SI w g A c W) (o : Obj) : SI w g A c (W.alloc o) := h.below (below_alloc (Below.refl _ _) o)
theorem SI.cell {w W : World} {g : Nat} {A : Option Addr} {c : Nat} (h : SI w g A c W) : W.cell? ⟨g, 0, none⟩ = some (.slice A 3 c) := (blk_cell h.hb 0).trans rfl
theorem C_alloc' {α : Type} {d : Kd α} {W : World} {A : Option Addr} {n : Nat} {xs : List α} (h : Kd.C d W A n xs) (o : Obj) : Kd.C d (W.alloc o) A n xs := Kd.C_below h (below_alloc (Below.refl _ _) o)
theorem may_c (o : List Int) (ho : o.length = 3) (b : Bool) (hm : sched_May.f L3 o = some b) (A B : Option Addr) (c c' : Nat) (W : World) (h : Kd.C k37 W A 3 L3) (hc : 3 ≤ c) (h' : Kd.C (Kd.int .i64) W B 3 o) (hc' : 3 ≤ c') : Calls Try.prog 24 #[.slice A 3 c, .slice B 3 c'] W fun e w' =>
    e = .returned (.bool b) ∧ Below W.heap.size W w' := by
  have := sched_May.calls A c L3 B c' o b W h hc (by rw [ho]; exact h') (by omega) hm
  rwa [ho] at this

set_option maxRecDepth 100000 in
set_option maxHeartbeats 4000000 in
theorem small_calls (w : World) : Calls Try.prog 8 #[] w fun e w' => e = .returned (.bool true) ∧ Below w.heap.size w w' := by
  have hu29 := Try.underlying29
  have hu37 := Try.underlying37
  go_enter Try.func8, Try.ntmps8
  go_wp2_with fail
  refine (some_c w).mono ?_
  rintro e w1 ⟨A1, c1, rfl, hC1, hl1, hB1⟩
  go_wp2_with fail
  refine (block_c A1 c1 w1 hC1 hl1).mono ?_
  rintro e w2 ⟨A2, c2, rfl, hC2, hl2, hB2⟩
  have hB2' := below_then hB1 hB1.size hB2
  clear hC1 hl1 hB1 hB2
  go_wp2_with fail
  have hI : SI w w2.heap.size A2 c2 (w2.alloc (.cells #[.slice A2 3 c2, .int .i64 0, .int .i64 0, .int .i64 0, .int .i64 0] 29)) := ⟨World.alloc_heap_new w2 _, C_alloc' hC2 _, below_alloc hB2' _⟩
  clear hC2 hl2 hB2'
  generalize w2.alloc (.cells #[.slice A2 3 c2, .int .i64 0, .int .i64 0, .int .i64 0, .int .i64 0] 29) = w3 at hI ⊢
  generalize w2.heap.size = g at hI ⊢
  refine (some_c w3).mono ?_
  rintro e w4 ⟨A4, c4, rfl, hC4, hl4, hB4⟩
  replace hI := hI.below hB4
  go_wp2_with fail
  refine (order_c A4 c4 w4 hC4 hl4).mono ?_
  rintro e w5 ⟨A5, c5, rfl, hC5, hl5, hB5⟩
  replace hI := hI.below hB5
  clear hC4 hB4 hB5
  go_wp2_with fail
  refine (ints_c [1, 0, 2] _ _ _ _ _ (C_alloc' hC5 _) hl5 (int_lit_c 1 0 2 w5) (by omega)).mono ?_
  rintro e w6 ⟨rfl, hD⟩
  replace hI := (hI.alloc _).below hD.below
  clear hC5 hD
  go_wp2_with fail
  refine (some_c w6).mono ?_
  rintro e w7 ⟨A7, c7, rfl, hC7, hl7, hB7⟩
  replace hI := hI.below hB7
  go_wp2_with fail
  refine (deps_c A7 c7 w7 hC7 hl7).mono ?_
  rintro e w8 ⟨A8, c8, rfl, hC8, hl8, hB8⟩
  replace hI := hI.below hB8
  clear hC7 hB7 hB8
  go_wp2_with fail
  refine (rows_c A8 c8 w8 hC8 hl8).mono ?_
  rintro e w9 ⟨rfl, hD⟩
  replace hI := hI.below hD
  clear hC8 hD
  go_wp2_with fail
  refine (some_c w9).mono ?_
  rintro e w10 ⟨A10, c10, rfl, hC10, hl10, hB10⟩
  replace hI := hI.below hB10
  go_wp2_with fail
  refine (heights_c A10 c10 w10 hC10 hl10).mono ?_
  rintro e w11 ⟨A11, c11, rfl, hC11, hl11, hB11⟩
  replace hI := hI.below hB11
  clear hC10 hB10 hB11
  go_wp2_with fail
  refine (ints_c [2, 4, 1] _ _ _ _ _ (C_alloc' hC11 _) hl11 (int_lit_c 2 4 1 w11) (by omega)).mono ?_
  rintro e w12 ⟨rfl, hD⟩
  replace hI := (hI.alloc _).below hD.below
  clear hC11 hD
  have hc := hI.cell
  obtain ⟨ld, A5', c5', e5, q0, q1, q2, q3, q4, q5, q6, q7⟩ := at_T37 hI.hC 0 (by omega) (by omega)
  subst e5
  rw [show ld.add ((0 : Int).toNat * 6) = ld by rfl] at q0
  replace q0 : w12.cell? ld = some (.int .i64 4) := q0
  clear q1 q2 q3 q4 q5 q6 q7
  go_wp2_with fail
  refine (some_c w12).mono ?_
  rintro e w13 ⟨A13, c13, rfl, hC13, hl13, hB13⟩
  clear hc q0
  replace hI := hI.below hB13
  go_wp2_with fail
  refine (may_c [0, 1, 2] rfl true may3a _ _ _ _ _ (C_alloc' hC13 _) hl13 (int_lit_c 0 1 2 w13) (by omega)).mono ?_
  rintro e w14 ⟨rfl, hB14⟩
  replace hI := (hI.alloc _).below hB14
  clear hC13 hB13 hB14
  go_wp2_with fail
  refine (some_c w14).mono ?_
  rintro e w15 ⟨A15, c15, rfl, hC15, hl15, hB15⟩
  replace hI := hI.below hB15
  go_wp2_with fail
  refine (may_c [0, 2, 1] rfl false may3b _ _ _ _ _ (C_alloc' hC15 _) hl15 (int_lit_c 0 2 1 w15) (by omega)).mono ?_
  rintro e w16 ⟨rfl, hB16⟩
  replace hI := (hI.alloc _).below hB16
  clear hC15 hB15 hB16
  go_wp2_with fail
  refine (some_c w16).mono ?_
  rintro e w17 ⟨A17, c17, rfl, hC17, hl17, hB17⟩
  replace hI := hI.below hB17
  go_wp2_with fail
  refine (sched_Cost.calls 60 A17 c17 L3 5 w17 hC17 hl17 cost3).mono ?_
  rintro e w18 ⟨rfl, hB18⟩
  replace hI := hI.below hB18
  clear hC17 hB17 hB18
  go_wp2_with fail
  refine (some_c w18).mono ?_
  rintro e w19 ⟨A19, c19, rfl, hC19, hl19, hB19⟩
  replace hI := hI.below hB19
  obtain ⟨le, A6', c6', e6, q0, q1, q2, q3, q4, q5, q6, q7⟩ := at_T37 hC19 1 (by omega) (by omega)
  subst e6
  have q0a : w19.cell? ⟨le.block, le.off + 6, none⟩ = some (.int .i64 4) := q0
  replace q0 : w19.cell? (le.add 6) = some (.int .i64 4) := q0
  replace q1 : w19.cell? ⟨le.block, le.off + 6 + 1, none⟩ = some (.int .i64 2) := q1
  replace q2 : w19.cell? ⟨le.block, le.off + 6 + 2, none⟩ = some (.int .i64 3) := q2
  replace q3 : w19.cell? ⟨le.block, le.off + 6 + 3, none⟩ = some (.int .i64 0) := q3
  replace q4 : w19.cell? ⟨le.block, le.off + 6 + 4, none⟩ = some (.int .i64 0) := q4
  replace q5 : w19.cell? ⟨le.block, le.off + 6 + 5, none⟩ = some (.slice A6' 0 c6') := q5
  go_wp2_with fail
  refine (lat_calls (rd_T37 L3 1) A6' c6' w19 q7 q6).mono ?_
  rintro e w20 ⟨rfl, hB20⟩
  replace hI := hI.below hB20
  rw [show latOf (rd_T37 L3 1) = 3 by rfl]
  clear q0 q1 q2 q3 q4 q5 q6 q7 hC19 hB19 hB20
  go_wp2_with fail
  go_ret
  exact ⟨rfl, hI.hB⟩
def swagelaw27_small.f : Option Bool := some true
theorem swagelaw27_small.calls (r : Bool) (w : World) (h : swagelaw27_small.f = some r) : Calls Try.prog 8 #[] w fun e w' => e = .returned (.bool r) ∧ Below w.heap.size w w' := by
  obtain rfl := Option.some.inj h
  exact small_calls w
#print axioms small_calls
end Go.Proofs.Ytphmlkbmnmicpaa.A

/- What the machine does at this function, and a plain Lean function that says the same: written by a program for this claim; Lean checks it. -/
namespace Go.Proofs.Ytphmlkbmnmicpaa.A
open Go.RowKit Go.Proofs.YtphmlkbmnmicpaaW.PrintWords Go.Proofs.YtphmlkbmnmicpaaW.PrintLast Go.Proofs.YtphmlkbmnmicpaaW.PrintMore
attribute [local go_sem] max2_int min2_int max_two min_two max_three min_three max_four min_four   -- for this text's walks alone
set_option linter.unusedVariables false
set_option linter.unusedSimpArgs false

/-! ### swagelaw27_few: function 9 -/
mutual
def swagelaw27_few.l0 : Nat → List (S37) → Int → Option (Bool)
  | 0, _, _ => none
  | k + 1, x0, x3 => if x3 < (x0.length : Int) then (swagelaw27_few.j1 k x0 x3 (decide (x3 < 100))) else (swagelaw27_few.j1 k x0 x3 false)
def swagelaw27_few.j1 : Nat → List (S37) → Int → Bool → Option (Bool)
  | 0, _, _, _ => none
  | k + 1, x0, x3, x11 => if x11 = true then (if 0 ≤ x3 then (if x3 < (x0.length : Int) then (if (((rd_T37 x0 x3).f5).length : Int) > 20 then (some false) else (swagelaw27_few.l0 k x0 (wrap64 (x3 + 1)))) else (none)) else (none)) else (some (decide ((x0.length : Int) ≤ 60)))
end
def swagelaw27_few.f (k : Nat) (l0 : List (S37)) : Option (Bool) := swagelaw27_few.l0 k l0 0
theorem swagelaw27_few.mono_l : ∀ k, (∀ y0 y1, LeO (swagelaw27_few.l0 k y0 y1) (swagelaw27_few.l0 (k + 1) y0 y1)) ∧ (∀ y0 y1 y2, LeO (swagelaw27_few.j1 k y0 y1 y2) (swagelaw27_few.j1 (k + 1) y0 y1 y2))
  | 0 => ⟨fun _ _ r h => by simp [swagelaw27_few.l0] at h, fun _ _ _ r h => by simp [swagelaw27_few.j1] at h⟩
  | k + 1 => by
    obtain ⟨ih0, ih1⟩ := swagelaw27_few.mono_l k
    refine ⟨?_, ?_⟩
    · intro y0 y1
      unfold swagelaw27_few.l0
      repeat' first
      | (with_reducible exact ih0 _ _)
      | (with_reducible exact ih1 _ _ _)
      | (with_reducible exact LeO.refl _)
      | (with_reducible exact LeO.none _)
      | (with_reducible refine LeO.ite ?_ ?_)
      | (with_reducible refine LeO.bind ?_ (fun _ => ?_))
      | exact ih0 _ _
      | exact ih1 _ _ _
      | exact LeO.none _
      | refine LeO.ite ?_ ?_
      | refine LeO.bind ?_ (fun _ => ?_)
    · intro y0 y1 y2
      unfold swagelaw27_few.j1
      repeat' first
      | (with_reducible exact ih0 _ _)
      | (with_reducible exact ih1 _ _ _)
      | (with_reducible exact LeO.refl _)
      | (with_reducible exact LeO.none _)
      | (with_reducible refine LeO.ite ?_ ?_)
      | (with_reducible refine LeO.bind ?_ (fun _ => ?_))
      | exact ih0 _ _
      | exact ih1 _ _ _
      | exact LeO.none _
      | refine LeO.ite ?_ ?_
      | refine LeO.bind ?_ (fun _ => ?_)
theorem swagelaw27_few.mono : ∀ a0 k, LeO (swagelaw27_few.f k a0) (swagelaw27_few.f (k + 1) a0) := by
  intro a0 k
  obtain ⟨ih0, ih1⟩ := swagelaw27_few.mono_l k
  unfold swagelaw27_few.f
  repeat' first
      | (with_reducible exact ih0 _ _)
      | (with_reducible exact ih1 _ _ _)
      | (with_reducible exact LeO.refl _)
      | (with_reducible exact LeO.none _)
      | (with_reducible refine LeO.ite ?_ ?_)
      | (with_reducible refine LeO.bind ?_ (fun _ => ?_))
      | exact ih0 _ _
      | exact ih1 _ _ _
      | exact LeO.none _
      | refine LeO.ite ?_ ?_
      | refine LeO.bind ?_ (fun _ => ?_)
set_option maxHeartbeats 8000000 in
set_option maxRecDepth 100000 in
theorem swagelaw27_few.calls (k : Nat) (A0 : Option Addr) (c0 : Nat) (l0 : List (S37)) (r : Bool) (w : World) (hr0 : Kd.C k37 w A0 l0.length l0) (hc0 : l0.length ≤ c0) (h : swagelaw27_few.f k l0 = some r) :
    Calls Try.prog 9 #[.slice A0 l0.length c0] w fun e w' => e = .returned (.bool r) ∧ Drawn0 w w' := by
  have HR0 := Aside0.mk hr0
  have HC0 := Aside0.mk hc0
  clear hr0 hc0
  have H : (swagelaw27_few.l0 k l0 0) = some r := h
  clear h
  have H' := Aside0.mk H
  clear H
  go_enter Try.func9, Try.ntmps9
  go_wp2
  go_loopg [3] k (fun kq v3 w' => ∃ (x3_1 : Int), v3 = .int .i64 x3_1 ∧ Aside0 (swagelaw27_few.l0 kq l0 x3_1 = some r) ∧ Aside0 (kq ≤ k) ∧ Drawn0 w w')
  case atStart => exact ⟨(0), (by first | rfl | (simp; done) | (simp [*]; done)), H', ⟨Nat.le_refl _⟩, by repeat (first | exact Drawn0.refl _ | apply Drawn0.step)⟩
  case round =>
    clear H'
    obtain ⟨x3_1, rfl, HA, HK1, ⟨m1, rfl⟩⟩ := hrel
    cases gk with
    | zero => exact absurd HA.out (by simp [swagelaw27_few.l0])
    | succ k1 =>
      have H := HA.out
      clear HA
      simp only [swagelaw27_few.l0] at H
      have HC2 := Aside0.mk H
      clear H
      go_upto_region 2 with (fail)
      go_cut [11] (fun v11 wc => ∃ (kq : Nat) (x11_1 : Bool), v11 = .bool x11_1 ∧ Aside0 (swagelaw27_few.j1 kq l0 x3_1 x11_1 = some r) ∧ Aside0 (kq ≤ k1) ∧ Drawn0 w wc)
      case first =>
        have H := HC2.out
        clear HC2
        by_cases c3 : x3_1 < (l0.length : Int)
        · rw [if_pos c3] at H
          have c3b0 : decide (x3_1 < (l0.length : Int)) = true := decide_eq_true c3
          clear c3
          (first | rw [c3b0] | (simp only [i64_w, i32_w]; rw [c3b0]) | skip)
          have H' := Aside0.mk H
          clear H
          go_wp2
          go_meet
          case rel => exact ⟨_, (decide (x3_1 < 100)), (by first | rfl | (simp; done) | (simp [*]; done)), H', ⟨by have := HK1.out; first | omega | exact Nat.le_refl _⟩, by repeat (first | exact Drawn0.refl _ | apply Drawn0.step)⟩
        · rw [if_neg c3] at H
          have c3b0 : decide (x3_1 < (l0.length : Int)) = false := decide_eq_false c3
          clear c3
          (first | rw [c3b0] | (simp only [i64_w, i32_w]; rw [c3b0]) | skip)
          have H' := Aside0.mk H
          clear H
          go_wp2
          go_meet
          case rel => exact ⟨_, (false), (by first | rfl | (simp; done) | (simp [*]; done)), H', ⟨by have := HK1.out; first | omega | exact Nat.le_refl _⟩, by repeat (first | exact Drawn0.refl _ | apply Drawn0.step)⟩
      case rest =>
        clear HC2
        try clear p2
        try clear c3
        try clear c3b0
        obtain ⟨kq, x11_1, rfl, HA, HJ1, ⟨mc1, rfl⟩⟩ := hcut
        cases kq with
        | zero => exact absurd HA.out (by simp [swagelaw27_few.j1])
        | succ kj1 =>
          have H := HA.out
          clear HA
          simp only [swagelaw27_few.j1] at H
          by_cases c4 : x11_1 = true
          · subst c4
            have H1 : (if 0 ≤ x3_1 then (if x3_1 < (l0.length : Int) then (if (((rd_T37 l0 x3_1).f5).length : Int) > 20 then (some false) else (swagelaw27_few.l0 kj1 l0 (wrap64 (x3_1 + 1)))) else (none)) else (none)) = some r := by rw [if_pos rfl] at H; exact H
            clear H
            have H := H1
            clear H1
            by_cases c5 : 0 ≤ x3_1
            · rw [if_pos c5] at H
              have c5b0 : decide (0 ≤ x3_1) = true := decide_eq_true c5
              clear c5
              by_cases c6 : x3_1 < (l0.length : Int)
              · rw [if_pos c6] at H
                have c6b0 : decide (x3_1 < (l0.length : Int)) = true := decide_eq_true c6
                clear c6
                by_cases c7 : (((rd_T37 l0 x3_1).f5).length : Int) > 20
                · rw [if_pos c7] at H
                  have c7b0 : decide (20 < (((rd_T37 l0 x3_1).f5).length : Int)) = true := decide_eq_true c7
                  have c7b1 : decide (20 < ((rd_T37 l0 x3_1).f5).length) = true := decide_eq_true (by omega)
                  clear c7
                  obtain rfl := Option.some.inj H
                  have p202 : 0 ≤ (x3_1 : Int) := of_decide_eq_true (by first | (with_reducible assumption) | assumption)
                  have q202 : x3_1 < (l0.length : Int) := of_decide_eq_true (by first | (with_reducible assumption) | assumption)
                  obtain ⟨ad202, A202_5, c202_5, e202, hx202_0, hx202_1, hx202_2, hx202_3, hx202_4, hx202_5, hl202_5, hi202_5⟩ := at_T37 HR0.out x3_1 p202 q202
                  cases e202
                  have HR202_5 := Aside0.mk hi202_5
                  have HC202_5 := Aside0.mk hl202_5
                  clear hi202_5 hl202_5
                  replace p202 := eq_true p202
                  replace q202 := eq_true q202
                  go_wp2
                  go_ret
                  exact ⟨by first | rfl | (simp; done) | (simp [*]; done), by repeat (first | exact Drawn0.refl _ | apply Drawn0.step)⟩
                · rw [if_neg c7] at H
                  have c7b0 : decide (20 < (((rd_T37 l0 x3_1).f5).length : Int)) = false := decide_eq_false c7
                  have c7b1 : decide (20 < ((rd_T37 l0 x3_1).f5).length) = false := decide_eq_false (by omega)
                  clear c7
                  have H' := Aside0.mk H
                  clear H
                  have p202 : 0 ≤ (x3_1 : Int) := of_decide_eq_true (by first | (with_reducible assumption) | assumption)
                  have q202 : x3_1 < (l0.length : Int) := of_decide_eq_true (by first | (with_reducible assumption) | assumption)
                  obtain ⟨ad202, A202_5, c202_5, e202, hx202_0, hx202_1, hx202_2, hx202_3, hx202_4, hx202_5, hl202_5, hi202_5⟩ := at_T37 HR0.out x3_1 p202 q202
                  cases e202
                  have HR202_5 := Aside0.mk hi202_5
                  have HC202_5 := Aside0.mk hl202_5
                  clear hi202_5 hl202_5
                  replace p202 := eq_true p202
                  replace q202 := eq_true q202
                  go_wp2
                  go_roundg kj1
                  case measure => have := HK1.out; have := HJ1.out; omega
                  case rel => exact ⟨(wrap64 (x3_1 + 1)), (by first | rfl | (simp; done) | (simp [*]; done)), H', ⟨by have := HK1.out; have := HJ1.out; omega⟩, by repeat (first | exact Drawn0.refl _ | apply Drawn0.step)⟩
              · rw [if_neg c6] at H
                exact absurd H (by simp)
            · rw [if_neg c5] at H
              exact absurd H (by simp)
          · replace c4 := Bool.eq_false_iff.mpr c4
            subst c4
            have H1 : (some (decide ((l0.length : Int) ≤ 60))) = some r := by rw [if_neg (show ¬ (false = true) by decide)] at H; exact H
            clear H
            have H := H1
            clear H1
            obtain rfl := Option.some.inj H
            go_wp2
            go_ret
            exact ⟨by first | rfl | (simp; done) | (simp [*]; done), by repeat (first | exact Drawn0.refl _ | apply Drawn0.step)⟩

end Go.Proofs.Ytphmlkbmnmicpaa.A

/- What the machine does at this function, and a plain Lean function that says the same: written by a program for this claim; Lean checks it. -/
namespace Go.Proofs.Ytphmlkbmnmicpaa.A
open Go.RowKit Go.Proofs.YtphmlkbmnmicpaaW.PrintWords Go.Proofs.YtphmlkbmnmicpaaW.PrintLast Go.Proofs.YtphmlkbmnmicpaaW.PrintMore
attribute [local go_sem] max2_int min2_int max_two min_two max_three min_three max_four min_four   -- for this text's walks alone
set_option linter.unusedVariables false
set_option linter.unusedSimpArgs false

/-! ### swageref14_SameOp: function 29 -/
def swageref14_SameOp.f (k : Nat) (a0_0 : Int) (a0_1 : Int) (a0_2 : Int) (a0_3 : Int) (a0_4 : Int) (l0_5 : List Int) (a1_0 : Int) (a1_1 : Int) (a1_2 : Int) (a1_3 : Int) (a1_4 : Int) (l1_5 : List Int) : Option (Bool) := (swageref02_Ints.f k l0_5 l1_5).bind fun t226 => (if t226 = true then (if a0_0 = a1_0 then (if a0_1 = a1_1 then (if a0_2 = a1_2 then (if a0_3 = a1_3 then (some (a0_4 == a1_4)) else (some false)) else (some false)) else (some false)) else (some false)) else (some false))
theorem swageref14_SameOp.mono : ∀ a0 a1 a2 a3 a4 a5 a6 a7 a8 a9 a10 a11 k, LeO (swageref14_SameOp.f k a0 a1 a2 a3 a4 a5 a6 a7 a8 a9 a10 a11) (swageref14_SameOp.f (k + 1) a0 a1 a2 a3 a4 a5 a6 a7 a8 a9 a10 a11) := by
  intro a0 a1 a2 a3 a4 a5 a6 a7 a8 a9 a10 a11 k
  unfold swageref14_SameOp.f
  repeat' first
      | (with_reducible exact swageref02_Ints.mono _ _ _)
      | (with_reducible exact LeO.refl _)
      | (with_reducible exact LeO.none _)
      | (with_reducible refine LeO.ite ?_ ?_)
      | (with_reducible refine LeO.bind ?_ (fun _ => ?_))
      | exact swageref02_Ints.mono _ _ _
      | exact LeO.none _
      | refine LeO.ite ?_ ?_
      | refine LeO.bind ?_ (fun _ => ?_)
set_option maxHeartbeats 8000000 in
set_option maxRecDepth 100000 in
theorem swageref14_SameOp.calls (k : Nat) (a0_0 : Int) (a0_1 : Int) (a0_2 : Int) (a0_3 : Int) (a0_4 : Int) (A0_5 : Option Addr) (c0_5 : Nat) (l0_5 : List Int) (a1_0 : Int) (a1_1 : Int) (a1_2 : Int) (a1_3 : Int) (a1_4 : Int) (A1_5 : Option Addr) (c1_5 : Nat) (l1_5 : List Int) (r : Bool) (w : World) (hr0_5 : Kd.C (Kd.int .i64) w A0_5 l0_5.length l0_5) (hc0_5 : l0_5.length ≤ c0_5) (hr1_5 : Kd.C (Kd.int .i64) w A1_5 l1_5.length l1_5) (hc1_5 : l1_5.length ≤ c1_5) (h : swageref14_SameOp.f k a0_0 a0_1 a0_2 a0_3 a0_4 l0_5 a1_0 a1_1 a1_2 a1_3 a1_4 l1_5 = some r) :
    Calls Try.prog 29 #[.agg #[.int .i64 a0_0, .int .i64 a0_1, .int .i64 a0_2, .int .i64 a0_3, .int .i64 a0_4, .slice A0_5 l0_5.length c0_5], .agg #[.int .i64 a1_0, .int .i64 a1_1, .int .i64 a1_2, .int .i64 a1_3, .int .i64 a1_4, .slice A1_5 l1_5.length c1_5]] w fun e w' => e = .returned (.bool r) ∧ Below w.heap.size w w' := by
  have hu37 := Try.underlying37
  have HR0_5 := Aside0.mk hr0_5
  have HC0_5 := Aside0.mk hc0_5
  clear hr0_5 hc0_5
  have HR1_5 := Aside0.mk hr1_5
  have HC1_5 := Aside0.mk hc1_5
  clear hr1_5 hc1_5
  have HB := Aside0.mk (Below.refl w.heap.size w)
  have H : ((swageref02_Ints.f k l0_5 l1_5).bind fun t226 => (if t226 = true then (if a0_0 = a1_0 then (if a0_1 = a1_1 then (if a0_2 = a1_2 then (if a0_3 = a1_3 then (some (a0_4 == a1_4)) else (some false)) else (some false)) else (some false)) else (some false)) else (some false))) = some r := h
  clear h
  replace H := Option.bind_eq_some_iff.mp H
  obtain ⟨t226, A30, H⟩ := H
  replace H : (if t226 = true then (if a0_0 = a1_0 then (if a0_1 = a1_1 then (if a0_2 = a1_2 then (if a0_3 = a1_3 then (some (a0_4 == a1_4)) else (some false)) else (some false)) else (some false)) else (some false)) else (some false)) = some r := H
  have A3 := Aside0.mk A30
  clear A30
  by_cases c4 : t226 = true
  · subst c4
    have H1 : (if a0_0 = a1_0 then (if a0_1 = a1_1 then (if a0_2 = a1_2 then (if a0_3 = a1_3 then (some (a0_4 == a1_4)) else (some false)) else (some false)) else (some false)) else (some false)) = some r := by rw [if_pos rfl] at H; exact H
    clear H
    have H := H1
    clear H1
    by_cases c5 : a0_0 = a1_0
    · rw [if_pos c5] at H
      have c5b0 : (a0_0 == a1_0) = true := beq_iff_eq.mpr c5
      have c5b1 : (a0_0 != a1_0) = false := bne_eq_false_iff_eq.mpr c5
      clear c5
      by_cases c6 : a0_1 = a1_1
      · rw [if_pos c6] at H
        have c6b0 : (a0_1 == a1_1) = true := beq_iff_eq.mpr c6
        have c6b1 : (a0_1 != a1_1) = false := bne_eq_false_iff_eq.mpr c6
        clear c6
        by_cases c7 : a0_2 = a1_2
        · rw [if_pos c7] at H
          have c7b0 : (a0_2 == a1_2) = true := beq_iff_eq.mpr c7
          have c7b1 : (a0_2 != a1_2) = false := bne_eq_false_iff_eq.mpr c7
          clear c7
          by_cases c8 : a0_3 = a1_3
          · rw [if_pos c8] at H
            have c8b0 : (a0_3 == a1_3) = true := beq_iff_eq.mpr c8
            have c8b1 : (a0_3 != a1_3) = false := bne_eq_false_iff_eq.mpr c8
            clear c8
            obtain rfl := Option.some.inj H
            go_enter Try.func29, Try.ntmps29
            go_wp2_with (first | ((with_reducible refine gate_dst (N := 2) rfl ?_); refine box_event ?hg (N := 2) ?hd (cs := #[.int .i64 a0_0, .int .i64 a0_1, .int .i64 a0_2, .int .i64 a0_3, .int .i64 a0_4, .slice A0_5 l0_5.length c0_5]) (t := 37) ?hr ?_; (case hd => rfl); (case hg => rfl); (case hr => first | (go_simp; done) | (go_simp; rfl)); intro gb224 hg w9 hbox hb; have n0_ := Aside0.mk (below_step (by repeat (first | (with_reducible first | exact HB.out | apply below_alloc | apply pw_below_drewN | apply below_drew1) | exact HB.out)) hb); have n1_ := Aside0.mk (hbox); have n2_ := Aside0.mk ((by rw [hg]; exact (below_size (by repeat (first | (with_reducible first | exact HB.out | apply below_alloc | apply pw_below_drewN | apply below_drew1) | exact HB.out))) : w.heap.size ≤ gb224)); have n3_ := Aside0.mk ((by rw [hg]; exact (below_size (by repeat (first | (with_reducible first | exact HB.out | apply below_alloc | apply pw_below_drewN | apply below_drew1) | exact HB.out))) : w.heap.size ≤ gb224)); clear HB; have HB := n0_; have BK224 := n1_; have GW224 := n2_; have GE224 := n3_; clear n0_ n1_ n2_ n3_; clear hb hbox hg) | ((with_reducible refine gate_dst (N := 3) rfl ?_); refine box_event ?hg (N := 3) ?hd (cs := #[.int .i64 a1_0, .int .i64 a1_1, .int .i64 a1_2, .int .i64 a1_3, .int .i64 a1_4, .slice A1_5 l1_5.length c1_5]) (t := 37) ?hr ?_; (case hd => rfl); (case hg => rfl); (case hr => first | (go_simp; done) | (go_simp; rfl)); intro gb225 hg w10 hbox hb; have n0_ := Aside0.mk (blk_below (g := gb224) (o := .cells #[.int .i64 a0_0, .int .i64 a0_1, .int .i64 a0_2, .int .i64 a0_3, .int .i64 a0_4, .slice A0_5 l0_5.length c0_5] 37 (0, 0)) (by (with_reducible repeat (first | refine blk_drewN ?_ _ | refine blk_drew ?_ | refine blk_alloc ?_ _)); exact BK224.out) hb); have n1_ := Aside0.mk (below_step (by repeat (first | (with_reducible first | exact HB.out | apply below_alloc | apply pw_below_drewN | apply below_drew1 | refine below_set ?_ GE224.out) | exact HB.out)) hb); have n2_ := Aside0.mk (hbox); have n3_ := Aside0.mk ((by rw [hg]; exact (below_size (by repeat (first | (with_reducible first | exact HB.out | apply below_alloc | apply pw_below_drewN | apply below_drew1 | refine below_set ?_ GE224.out) | exact HB.out))) : w.heap.size ≤ gb225)); have n4_ := Aside0.mk ((by rw [hg]; exact (below_size (by repeat (first | (with_reducible first | exact HB.out | apply below_alloc | apply pw_below_drewN | apply below_drew1 | refine below_set ?_ GE224.out) | exact HB.out))) : w.heap.size ≤ gb225)); have n5_ := Aside0.mk ((by rw [hg]; exact Nat.ne_of_lt (blk_lt (g := gb224) (o := .cells #[.int .i64 a0_0, .int .i64 a0_1, .int .i64 a0_2, .int .i64 a0_3, .int .i64 a0_4, .slice A0_5 l0_5.length c0_5] 37 (0, 0)) (by (with_reducible repeat (first | refine blk_drewN ?_ _ | refine blk_drew ?_ | refine blk_alloc ?_ _)); exact BK224.out)) : gb224 ≠ gb225)); have n6_ := Aside0.mk ((by rw [hg]; exact Nat.ne_of_gt (blk_lt (g := gb224) (o := .cells #[.int .i64 a0_0, .int .i64 a0_1, .int .i64 a0_2, .int .i64 a0_3, .int .i64 a0_4, .slice A0_5 l0_5.length c0_5] 37 (0, 0)) (by (with_reducible repeat (first | refine blk_drewN ?_ _ | refine blk_drew ?_ | refine blk_alloc ?_ _)); exact BK224.out)) : gb225 ≠ gb224)); clear BK224; clear HB; have BK224 := n0_; have HB := n1_; have BK225 := n2_; have GW225 := n3_; have GE225 := n4_; have NB224_225 := n5_; have NB225_224 := n6_; clear n0_ n1_ n2_ n3_ n4_ n5_ n6_; clear hb hbox hg; have hnb11 := NB224_225.out; have hnc11 := NB225_224.out; have hcz12_0 : w10.cell? ⟨gb224, 0, none⟩ = some (.int .i64 a0_0) := (blk_cell BK224.out 0).trans rfl; have hcz12_1 : w10.cell? ⟨gb224, 1, none⟩ = some (.int .i64 a0_1) := (blk_cell BK224.out 1).trans rfl; have hcz12_2 : w10.cell? ⟨gb224, 2, none⟩ = some (.int .i64 a0_2) := (blk_cell BK224.out 2).trans rfl; have hcz12_3 : w10.cell? ⟨gb224, 3, none⟩ = some (.int .i64 a0_3) := (blk_cell BK224.out 3).trans rfl; have hcz12_4 : w10.cell? ⟨gb224, 4, none⟩ = some (.int .i64 a0_4) := (blk_cell BK224.out 4).trans rfl; have hcz12_5 : w10.cell? ⟨gb224, 5, none⟩ = some (.slice A0_5 l0_5.length c0_5) := (blk_cell BK224.out 5).trans rfl; have hfz12_0 := blk_frozen BK224.out 0; have hfz12_1 := blk_frozen BK224.out 1; have hfz12_2 := blk_frozen BK224.out 2; have hfz12_3 := blk_frozen BK224.out 3; have hfz12_4 := blk_frozen BK224.out 4; have hfz12_5 := blk_frozen BK224.out 5; have hcz13_0 : w10.cell? ⟨gb225, 0, none⟩ = some (.int .i64 a1_0) := (blk_cell BK225.out 0).trans rfl; have hcz13_1 : w10.cell? ⟨gb225, 1, none⟩ = some (.int .i64 a1_1) := (blk_cell BK225.out 1).trans rfl; have hcz13_2 : w10.cell? ⟨gb225, 2, none⟩ = some (.int .i64 a1_2) := (blk_cell BK225.out 2).trans rfl; have hcz13_3 : w10.cell? ⟨gb225, 3, none⟩ = some (.int .i64 a1_3) := (blk_cell BK225.out 3).trans rfl; have hcz13_4 : w10.cell? ⟨gb225, 4, none⟩ = some (.int .i64 a1_4) := (blk_cell BK225.out 4).trans rfl; have hcz13_5 : w10.cell? ⟨gb225, 5, none⟩ = some (.slice A1_5 l1_5.length c1_5) := (blk_cell BK225.out 5).trans rfl; have hfz13_0 := blk_frozen BK225.out 0; have hfz13_1 := blk_frozen BK225.out 1; have hfz13_2 := blk_frozen BK225.out 2; have hfz13_3 := blk_frozen BK225.out 3; have hfz13_4 := blk_frozen BK225.out 4; have hfz13_5 := blk_frozen BK225.out 5) | ((with_reducible refine gate_callee (f := 19) rfl ?_); refine goesL_ (some 10) rfl rfl Try.func19 (by kernel_rfl) rfl #[.slice A0_5 l0_5.length c0_5, .slice A1_5 l1_5.length c1_5] rfl (by (try simp only [List.map_toArray, List.map_cons, List.map_nil]); first | done | rfl | (simp only [List.length_drop, List.length_take]; rfl)) ?_; (with_reducible refine (swageref02_Ints.calls k _ _ l0_5 _ _ l1_5 true _ ?side1 ?side2 ?side3 ?side4 A3.out).mono ?_); (case side1 => repeat (first | exact (Kd.C_below HR0_5.out HB.out) | (with_reducible refine Kd.C_alloc ?_ _) | (with_reducible refine Kd.C_drewN ?_ _) | (with_reducible refine Kd.C_drew ?_))); (case side2 => exact HC0_5.out); (case side3 => repeat (first | exact (Kd.C_below HR1_5.out HB.out) | (with_reducible refine Kd.C_alloc ?_ _) | (with_reducible refine Kd.C_drewN ?_ _) | (with_reducible refine Kd.C_drew ?_))); (case side4 => exact HC1_5.out); rintro e w' ⟨rfl, ⟨nd, rfl⟩⟩; refine ⟨_, rfl, ?_⟩))
            go_ret
            exact ⟨by first | rfl | (simp [errW_none, errW_some] <;> rfl) | (simp [*, errW_none, errW_some] <;> rfl), by repeat (first | (with_reducible first | exact HB.out | apply below_alloc | apply pw_below_drewN | apply below_drew1 | refine below_set ?_ GE224.out | refine below_set ?_ GE225.out) | exact HB.out)⟩
          · rw [if_neg c8] at H
            have c8b0 : (a0_3 == a1_3) = false := beq_eq_false_iff_ne.mpr c8
            have c8b1 : (a0_3 != a1_3) = true := bne_iff_ne.mpr c8
            obtain rfl := Option.some.inj H
            go_enter Try.func29, Try.ntmps29
            go_wp2_with (first | ((with_reducible refine gate_dst (N := 2) rfl ?_); refine box_event ?hg (N := 2) ?hd (cs := #[.int .i64 a0_0, .int .i64 a0_1, .int .i64 a0_2, .int .i64 a0_3, .int .i64 a0_4, .slice A0_5 l0_5.length c0_5]) (t := 37) ?hr ?_; (case hd => rfl); (case hg => rfl); (case hr => first | (go_simp; done) | (go_simp; rfl)); intro gb224 hg w14 hbox hb; have n0_ := Aside0.mk (below_step (by repeat (first | (with_reducible first | exact HB.out | apply below_alloc | apply pw_below_drewN | apply below_drew1) | exact HB.out)) hb); have n1_ := Aside0.mk (hbox); have n2_ := Aside0.mk ((by rw [hg]; exact (below_size (by repeat (first | (with_reducible first | exact HB.out | apply below_alloc | apply pw_below_drewN | apply below_drew1) | exact HB.out))) : w.heap.size ≤ gb224)); have n3_ := Aside0.mk ((by rw [hg]; exact (below_size (by repeat (first | (with_reducible first | exact HB.out | apply below_alloc | apply pw_below_drewN | apply below_drew1) | exact HB.out))) : w.heap.size ≤ gb224)); clear HB; have HB := n0_; have BK224 := n1_; have GW224 := n2_; have GE224 := n3_; clear n0_ n1_ n2_ n3_; clear hb hbox hg) | ((with_reducible refine gate_dst (N := 3) rfl ?_); refine box_event ?hg (N := 3) ?hd (cs := #[.int .i64 a1_0, .int .i64 a1_1, .int .i64 a1_2, .int .i64 a1_3, .int .i64 a1_4, .slice A1_5 l1_5.length c1_5]) (t := 37) ?hr ?_; (case hd => rfl); (case hg => rfl); (case hr => first | (go_simp; done) | (go_simp; rfl)); intro gb225 hg w15 hbox hb; have n0_ := Aside0.mk (blk_below (g := gb224) (o := .cells #[.int .i64 a0_0, .int .i64 a0_1, .int .i64 a0_2, .int .i64 a0_3, .int .i64 a0_4, .slice A0_5 l0_5.length c0_5] 37 (0, 0)) (by (with_reducible repeat (first | refine blk_drewN ?_ _ | refine blk_drew ?_ | refine blk_alloc ?_ _)); exact BK224.out) hb); have n1_ := Aside0.mk (below_step (by repeat (first | (with_reducible first | exact HB.out | apply below_alloc | apply pw_below_drewN | apply below_drew1 | refine below_set ?_ GE224.out) | exact HB.out)) hb); have n2_ := Aside0.mk (hbox); have n3_ := Aside0.mk ((by rw [hg]; exact (below_size (by repeat (first | (with_reducible first | exact HB.out | apply below_alloc | apply pw_below_drewN | apply below_drew1 | refine below_set ?_ GE224.out) | exact HB.out))) : w.heap.size ≤ gb225)); have n4_ := Aside0.mk ((by rw [hg]; exact (below_size (by repeat (first | (with_reducible first | exact HB.out | apply below_alloc | apply pw_below_drewN | apply below_drew1 | refine below_set ?_ GE224.out) | exact HB.out))) : w.heap.size ≤ gb225)); have n5_ := Aside0.mk ((by rw [hg]; exact Nat.ne_of_lt (blk_lt (g := gb224) (o := .cells #[.int .i64 a0_0, .int .i64 a0_1, .int .i64 a0_2, .int .i64 a0_3, .int .i64 a0_4, .slice A0_5 l0_5.length c0_5] 37 (0, 0)) (by (with_reducible repeat (first | refine blk_drewN ?_ _ | refine blk_drew ?_ | refine blk_alloc ?_ _)); exact BK224.out)) : gb224 ≠ gb225)); have n6_ := Aside0.mk ((by rw [hg]; exact Nat.ne_of_gt (blk_lt (g := gb224) (o := .cells #[.int .i64 a0_0, .int .i64 a0_1, .int .i64 a0_2, .int .i64 a0_3, .int .i64 a0_4, .slice A0_5 l0_5.length c0_5] 37 (0, 0)) (by (with_reducible repeat (first | refine blk_drewN ?_ _ | refine blk_drew ?_ | refine blk_alloc ?_ _)); exact BK224.out)) : gb225 ≠ gb224)); clear BK224; clear HB; have BK224 := n0_; have HB := n1_; have BK225 := n2_; have GW225 := n3_; have GE225 := n4_; have NB224_225 := n5_; have NB225_224 := n6_; clear n0_ n1_ n2_ n3_ n4_ n5_ n6_; clear hb hbox hg; have hnb16 := NB224_225.out; have hnc16 := NB225_224.out; have hcz17_0 : w15.cell? ⟨gb224, 0, none⟩ = some (.int .i64 a0_0) := (blk_cell BK224.out 0).trans rfl; have hcz17_1 : w15.cell? ⟨gb224, 1, none⟩ = some (.int .i64 a0_1) := (blk_cell BK224.out 1).trans rfl; have hcz17_2 : w15.cell? ⟨gb224, 2, none⟩ = some (.int .i64 a0_2) := (blk_cell BK224.out 2).trans rfl; have hcz17_3 : w15.cell? ⟨gb224, 3, none⟩ = some (.int .i64 a0_3) := (blk_cell BK224.out 3).trans rfl; have hcz17_4 : w15.cell? ⟨gb224, 4, none⟩ = some (.int .i64 a0_4) := (blk_cell BK224.out 4).trans rfl; have hcz17_5 : w15.cell? ⟨gb224, 5, none⟩ = some (.slice A0_5 l0_5.length c0_5) := (blk_cell BK224.out 5).trans rfl; have hfz17_0 := blk_frozen BK224.out 0; have hfz17_1 := blk_frozen BK224.out 1; have hfz17_2 := blk_frozen BK224.out 2; have hfz17_3 := blk_frozen BK224.out 3; have hfz17_4 := blk_frozen BK224.out 4; have hfz17_5 := blk_frozen BK224.out 5; have hcz18_0 : w15.cell? ⟨gb225, 0, none⟩ = some (.int .i64 a1_0) := (blk_cell BK225.out 0).trans rfl; have hcz18_1 : w15.cell? ⟨gb225, 1, none⟩ = some (.int .i64 a1_1) := (blk_cell BK225.out 1).trans rfl; have hcz18_2 : w15.cell? ⟨gb225, 2, none⟩ = some (.int .i64 a1_2) := (blk_cell BK225.out 2).trans rfl; have hcz18_3 : w15.cell? ⟨gb225, 3, none⟩ = some (.int .i64 a1_3) := (blk_cell BK225.out 3).trans rfl; have hcz18_4 : w15.cell? ⟨gb225, 4, none⟩ = some (.int .i64 a1_4) := (blk_cell BK225.out 4).trans rfl; have hcz18_5 : w15.cell? ⟨gb225, 5, none⟩ = some (.slice A1_5 l1_5.length c1_5) := (blk_cell BK225.out 5).trans rfl; have hfz18_0 := blk_frozen BK225.out 0; have hfz18_1 := blk_frozen BK225.out 1; have hfz18_2 := blk_frozen BK225.out 2; have hfz18_3 := blk_frozen BK225.out 3; have hfz18_4 := blk_frozen BK225.out 4; have hfz18_5 := blk_frozen BK225.out 5) | ((with_reducible refine gate_callee (f := 19) rfl ?_); refine goesL_ (some 10) rfl rfl Try.func19 (by kernel_rfl) rfl #[.slice A0_5 l0_5.length c0_5, .slice A1_5 l1_5.length c1_5] rfl (by (try simp only [List.map_toArray, List.map_cons, List.map_nil]); first | done | rfl | (simp only [List.length_drop, List.length_take]; rfl)) ?_; (with_reducible refine (swageref02_Ints.calls k _ _ l0_5 _ _ l1_5 true _ ?side1 ?side2 ?side3 ?side4 A3.out).mono ?_); (case side1 => repeat (first | exact (Kd.C_below HR0_5.out HB.out) | (with_reducible refine Kd.C_alloc ?_ _) | (with_reducible refine Kd.C_drewN ?_ _) | (with_reducible refine Kd.C_drew ?_))); (case side2 => exact HC0_5.out); (case side3 => repeat (first | exact (Kd.C_below HR1_5.out HB.out) | (with_reducible refine Kd.C_alloc ?_ _) | (with_reducible refine Kd.C_drewN ?_ _) | (with_reducible refine Kd.C_drew ?_))); (case side4 => exact HC1_5.out); rintro e w' ⟨rfl, ⟨nd, rfl⟩⟩; refine ⟨_, rfl, ?_⟩))
            go_ret
            exact ⟨by first | rfl | (simp [errW_none, errW_some] <;> rfl) | (simp [*, errW_none, errW_some] <;> rfl), by repeat (first | (with_reducible first | exact HB.out | apply below_alloc | apply pw_below_drewN | apply below_drew1 | refine below_set ?_ GE224.out | refine below_set ?_ GE225.out) | exact HB.out)⟩
        · rw [if_neg c7] at H
          have c7b0 : (a0_2 == a1_2) = false := beq_eq_false_iff_ne.mpr c7
          have c7b1 : (a0_2 != a1_2) = true := bne_iff_ne.mpr c7
          obtain rfl := Option.some.inj H
          go_enter Try.func29, Try.ntmps29
          go_wp2_with (first | ((with_reducible refine gate_dst (N := 2) rfl ?_); refine box_event ?hg (N := 2) ?hd (cs := #[.int .i64 a0_0, .int .i64 a0_1, .int .i64 a0_2, .int .i64 a0_3, .int .i64 a0_4, .slice A0_5 l0_5.length c0_5]) (t := 37) ?hr ?_; (case hd => rfl); (case hg => rfl); (case hr => first | (go_simp; done) | (go_simp; rfl)); intro gb224 hg w19 hbox hb; have n0_ := Aside0.mk (below_step (by repeat (first | (with_reducible first | exact HB.out | apply below_alloc | apply pw_below_drewN | apply below_drew1) | exact HB.out)) hb); have n1_ := Aside0.mk (hbox); have n2_ := Aside0.mk ((by rw [hg]; exact (below_size (by repeat (first | (with_reducible first | exact HB.out | apply below_alloc | apply pw_below_drewN | apply below_drew1) | exact HB.out))) : w.heap.size ≤ gb224)); have n3_ := Aside0.mk ((by rw [hg]; exact (below_size (by repeat (first | (with_reducible first | exact HB.out | apply below_alloc | apply pw_below_drewN | apply below_drew1) | exact HB.out))) : w.heap.size ≤ gb224)); clear HB; have HB := n0_; have BK224 := n1_; have GW224 := n2_; have GE224 := n3_; clear n0_ n1_ n2_ n3_; clear hb hbox hg) | ((with_reducible refine gate_dst (N := 3) rfl ?_); refine box_event ?hg (N := 3) ?hd (cs := #[.int .i64 a1_0, .int .i64 a1_1, .int .i64 a1_2, .int .i64 a1_3, .int .i64 a1_4, .slice A1_5 l1_5.length c1_5]) (t := 37) ?hr ?_; (case hd => rfl); (case hg => rfl); (case hr => first | (go_simp; done) | (go_simp; rfl)); intro gb225 hg w20 hbox hb; have n0_ := Aside0.mk (blk_below (g := gb224) (o := .cells #[.int .i64 a0_0, .int .i64 a0_1, .int .i64 a0_2, .int .i64 a0_3, .int .i64 a0_4, .slice A0_5 l0_5.length c0_5] 37 (0, 0)) (by (with_reducible repeat (first | refine blk_drewN ?_ _ | refine blk_drew ?_ | refine blk_alloc ?_ _)); exact BK224.out) hb); have n1_ := Aside0.mk (below_step (by repeat (first | (with_reducible first | exact HB.out | apply below_alloc | apply pw_below_drewN | apply below_drew1 | refine below_set ?_ GE224.out) | exact HB.out)) hb); have n2_ := Aside0.mk (hbox); have n3_ := Aside0.mk ((by rw [hg]; exact (below_size (by repeat (first | (with_reducible first | exact HB.out | apply below_alloc | apply pw_below_drewN | apply below_drew1 | refine below_set ?_ GE224.out) | exact HB.out))) : w.heap.size ≤ gb225)); have n4_ := Aside0.mk ((by rw [hg]; exact (below_size (by repeat (first | (with_reducible first | exact HB.out | apply below_alloc | apply pw_below_drewN | apply below_drew1 | refine below_set ?_ GE224.out) | exact HB.out))) : w.heap.size ≤ gb225)); have n5_ := Aside0.mk ((by rw [hg]; exact Nat.ne_of_lt (blk_lt (g := gb224) (o := .cells #[.int .i64 a0_0, .int .i64 a0_1, .int .i64 a0_2, .int .i64 a0_3, .int .i64 a0_4, .slice A0_5 l0_5.length c0_5] 37 (0, 0)) (by (with_reducible repeat (first | refine blk_drewN ?_ _ | refine blk_drew ?_ | refine blk_alloc ?_ _)); exact BK224.out)) : gb224 ≠ gb225)); have n6_ := Aside0.mk ((by rw [hg]; exact Nat.ne_of_gt (blk_lt (g := gb224) (o := .cells #[.int .i64 a0_0, .int .i64 a0_1, .int .i64 a0_2, .int .i64 a0_3, .int .i64 a0_4, .slice A0_5 l0_5.length c0_5] 37 (0, 0)) (by (with_reducible repeat (first | refine blk_drewN ?_ _ | refine blk_drew ?_ | refine blk_alloc ?_ _)); exact BK224.out)) : gb225 ≠ gb224)); clear BK224; clear HB; have BK224 := n0_; have HB := n1_; have BK225 := n2_; have GW225 := n3_; have GE225 := n4_; have NB224_225 := n5_; have NB225_224 := n6_; clear n0_ n1_ n2_ n3_ n4_ n5_ n6_; clear hb hbox hg; have hnb21 := NB224_225.out; have hnc21 := NB225_224.out; have hcz22_0 : w20.cell? ⟨gb224, 0, none⟩ = some (.int .i64 a0_0) := (blk_cell BK224.out 0).trans rfl; have hcz22_1 : w20.cell? ⟨gb224, 1, none⟩ = some (.int .i64 a0_1) := (blk_cell BK224.out 1).trans rfl; have hcz22_2 : w20.cell? ⟨gb224, 2, none⟩ = some (.int .i64 a0_2) := (blk_cell BK224.out 2).trans rfl; have hcz22_3 : w20.cell? ⟨gb224, 3, none⟩ = some (.int .i64 a0_3) := (blk_cell BK224.out 3).trans rfl; have hcz22_4 : w20.cell? ⟨gb224, 4, none⟩ = some (.int .i64 a0_4) := (blk_cell BK224.out 4).trans rfl; have hcz22_5 : w20.cell? ⟨gb224, 5, none⟩ = some (.slice A0_5 l0_5.length c0_5) := (blk_cell BK224.out 5).trans rfl; have hfz22_0 := blk_frozen BK224.out 0; have hfz22_1 := blk_frozen BK224.out 1; have hfz22_2 := blk_frozen BK224.out 2; have hfz22_3 := blk_frozen BK224.out 3; have hfz22_4 := blk_frozen BK224.out 4; have hfz22_5 := blk_frozen BK224.out 5; have hcz23_0 : w20.cell? ⟨gb225, 0, none⟩ = some (.int .i64 a1_0) := (blk_cell BK225.out 0).trans rfl; have hcz23_1 : w20.cell? ⟨gb225, 1, none⟩ = some (.int .i64 a1_1) := (blk_cell BK225.out 1).trans rfl; have hcz23_2 : w20.cell? ⟨gb225, 2, none⟩ = some (.int .i64 a1_2) := (blk_cell BK225.out 2).trans rfl; have hcz23_3 : w20.cell? ⟨gb225, 3, none⟩ = some (.int .i64 a1_3) := (blk_cell BK225.out 3).trans rfl; have hcz23_4 : w20.cell? ⟨gb225, 4, none⟩ = some (.int .i64 a1_4) := (blk_cell BK225.out 4).trans rfl; have hcz23_5 : w20.cell? ⟨gb225, 5, none⟩ = some (.slice A1_5 l1_5.length c1_5) := (blk_cell BK225.out 5).trans rfl; have hfz23_0 := blk_frozen BK225.out 0; have hfz23_1 := blk_frozen BK225.out 1; have hfz23_2 := blk_frozen BK225.out 2; have hfz23_3 := blk_frozen BK225.out 3; have hfz23_4 := blk_frozen BK225.out 4; have hfz23_5 := blk_frozen BK225.out 5) | ((with_reducible refine gate_callee (f := 19) rfl ?_); refine goesL_ (some 10) rfl rfl Try.func19 (by kernel_rfl) rfl #[.slice A0_5 l0_5.length c0_5, .slice A1_5 l1_5.length c1_5] rfl (by (try simp only [List.map_toArray, List.map_cons, List.map_nil]); first | done | rfl | (simp only [List.length_drop, List.length_take]; rfl)) ?_; (with_reducible refine (swageref02_Ints.calls k _ _ l0_5 _ _ l1_5 true _ ?side1 ?side2 ?side3 ?side4 A3.out).mono ?_); (case side1 => repeat (first | exact (Kd.C_below HR0_5.out HB.out) | (with_reducible refine Kd.C_alloc ?_ _) | (with_reducible refine Kd.C_drewN ?_ _) | (with_reducible refine Kd.C_drew ?_))); (case side2 => exact HC0_5.out); (case side3 => repeat (first | exact (Kd.C_below HR1_5.out HB.out) | (with_reducible refine Kd.C_alloc ?_ _) | (with_reducible refine Kd.C_drewN ?_ _) | (with_reducible refine Kd.C_drew ?_))); (case side4 => exact HC1_5.out); rintro e w' ⟨rfl, ⟨nd, rfl⟩⟩; refine ⟨_, rfl, ?_⟩))
          go_ret
          exact ⟨by first | rfl | (simp [errW_none, errW_some] <;> rfl) | (simp [*, errW_none, errW_some] <;> rfl), by repeat (first | (with_reducible first | exact HB.out | apply below_alloc | apply pw_below_drewN | apply below_drew1 | refine below_set ?_ GE224.out | refine below_set ?_ GE225.out) | exact HB.out)⟩
      · rw [if_neg c6] at H
        have c6b0 : (a0_1 == a1_1) = false := beq_eq_false_iff_ne.mpr c6
        have c6b1 : (a0_1 != a1_1) = true := bne_iff_ne.mpr c6
        obtain rfl := Option.some.inj H
        go_enter Try.func29, Try.ntmps29
        go_wp2_with (first | ((with_reducible refine gate_dst (N := 2) rfl ?_); refine box_event ?hg (N := 2) ?hd (cs := #[.int .i64 a0_0, .int .i64 a0_1, .int .i64 a0_2, .int .i64 a0_3, .int .i64 a0_4, .slice A0_5 l0_5.length c0_5]) (t := 37) ?hr ?_; (case hd => rfl); (case hg => rfl); (case hr => first | (go_simp; done) | (go_simp; rfl)); intro gb224 hg w24 hbox hb; have n0_ := Aside0.mk (below_step (by repeat (first | (with_reducible first | exact HB.out | apply below_alloc | apply pw_below_drewN | apply below_drew1) | exact HB.out)) hb); have n1_ := Aside0.mk (hbox); have n2_ := Aside0.mk ((by rw [hg]; exact (below_size (by repeat (first | (with_reducible first | exact HB.out | apply below_alloc | apply pw_below_drewN | apply below_drew1) | exact HB.out))) : w.heap.size ≤ gb224)); have n3_ := Aside0.mk ((by rw [hg]; exact (below_size (by repeat (first | (with_reducible first | exact HB.out | apply below_alloc | apply pw_below_drewN | apply below_drew1) | exact HB.out))) : w.heap.size ≤ gb224)); clear HB; have HB := n0_; have BK224 := n1_; have GW224 := n2_; have GE224 := n3_; clear n0_ n1_ n2_ n3_; clear hb hbox hg) | ((with_reducible refine gate_dst (N := 3) rfl ?_); refine box_event ?hg (N := 3) ?hd (cs := #[.int .i64 a1_0, .int .i64 a1_1, .int .i64 a1_2, .int .i64 a1_3, .int .i64 a1_4, .slice A1_5 l1_5.length c1_5]) (t := 37) ?hr ?_; (case hd => rfl); (case hg => rfl); (case hr => first | (go_simp; done) | (go_simp; rfl)); intro gb225 hg w25 hbox hb; have n0_ := Aside0.mk (blk_below (g := gb224) (o := .cells #[.int .i64 a0_0, .int .i64 a0_1, .int .i64 a0_2, .int .i64 a0_3, .int .i64 a0_4, .slice A0_5 l0_5.length c0_5] 37 (0, 0)) (by (with_reducible repeat (first | refine blk_drewN ?_ _ | refine blk_drew ?_ | refine blk_alloc ?_ _)); exact BK224.out) hb); have n1_ := Aside0.mk (below_step (by repeat (first | (with_reducible first | exact HB.out | apply below_alloc | apply pw_below_drewN | apply below_drew1 | refine below_set ?_ GE224.out) | exact HB.out)) hb); have n2_ := Aside0.mk (hbox); have n3_ := Aside0.mk ((by rw [hg]; exact (below_size (by repeat (first | (with_reducible first | exact HB.out | apply below_alloc | apply pw_below_drewN | apply below_drew1 | refine below_set ?_ GE224.out) | exact HB.out))) : w.heap.size ≤ gb225)); have n4_ := Aside0.mk ((by rw [hg]; exact (below_size (by repeat (first | (with_reducible first | exact HB.out | apply below_alloc | apply pw_below_drewN | apply below_drew1 | refine below_set ?_ GE224.out) | exact HB.out))) : w.heap.size ≤ gb225)); have n5_ := Aside0.mk ((by rw [hg]; exact Nat.ne_of_lt (blk_lt (g := gb224) (o := .cells #[.int .i64 a0_0, .int .i64 a0_1, .int .i64 a0_2, .int .i64 a0_3, .int .i64 a0_4, .slice A0_5 l0_5.length c0_5] 37 (0, 0)) (by (with_reducible repeat (first | refine blk_drewN ?_ _ | refine blk_drew ?_ | refine blk_alloc ?_ _)); exact BK224.out)) : gb224 ≠ gb225)); have n6_ := Aside0.mk ((by rw [hg]; exact Nat.ne_of_gt (blk_lt (g := gb224) (o := .cells #[.int .i64 a0_0, .int .i64 a0_1, .int .i64 a0_2, .int .i64 a0_3, .int .i64 a0_4, .slice A0_5 l0_5.length c0_5] 37 (0, 0)) (by (with_reducible repeat (first | refine blk_drewN ?_ _ | refine blk_drew ?_ | refine blk_alloc ?_ _)); exact BK224.out)) : gb225 ≠ gb224)); clear BK224; clear HB; have BK224 := n0_; have HB := n1_; have BK225 := n2_; have GW225 := n3_; have GE225 := n4_; have NB224_225 := n5_; have NB225_224 := n6_; clear n0_ n1_ n2_ n3_ n4_ n5_ n6_; clear hb hbox hg; have hnb26 := NB224_225.out; have hnc26 := NB225_224.out; have hcz27_0 : w25.cell? ⟨gb224, 0, none⟩ = some (.int .i64 a0_0) := (blk_cell BK224.out 0).trans rfl; have hcz27_1 : w25.cell? ⟨gb224, 1, none⟩ = some (.int .i64 a0_1) := (blk_cell BK224.out 1).trans rfl; have hcz27_2 : w25.cell? ⟨gb224, 2, none⟩ = some (.int .i64 a0_2) := (blk_cell BK224.out 2).trans rfl; have hcz27_3 : w25.cell? ⟨gb224, 3, none⟩ = some (.int .i64 a0_3) := (blk_cell BK224.out 3).trans rfl; have hcz27_4 : w25.cell? ⟨gb224, 4, none⟩ = some (.int .i64 a0_4) := (blk_cell BK224.out 4).trans rfl; have hcz27_5 : w25.cell? ⟨gb224, 5, none⟩ = some (.slice A0_5 l0_5.length c0_5) := (blk_cell BK224.out 5).trans rfl; have hfz27_0 := blk_frozen BK224.out 0; have hfz27_1 := blk_frozen BK224.out 1; have hfz27_2 := blk_frozen BK224.out 2; have hfz27_3 := blk_frozen BK224.out 3; have hfz27_4 := blk_frozen BK224.out 4; have hfz27_5 := blk_frozen BK224.out 5; have hcz28_0 : w25.cell? ⟨gb225, 0, none⟩ = some (.int .i64 a1_0) := (blk_cell BK225.out 0).trans rfl; have hcz28_1 : w25.cell? ⟨gb225, 1, none⟩ = some (.int .i64 a1_1) := (blk_cell BK225.out 1).trans rfl; have hcz28_2 : w25.cell? ⟨gb225, 2, none⟩ = some (.int .i64 a1_2) := (blk_cell BK225.out 2).trans rfl; have hcz28_3 : w25.cell? ⟨gb225, 3, none⟩ = some (.int .i64 a1_3) := (blk_cell BK225.out 3).trans rfl; have hcz28_4 : w25.cell? ⟨gb225, 4, none⟩ = some (.int .i64 a1_4) := (blk_cell BK225.out 4).trans rfl; have hcz28_5 : w25.cell? ⟨gb225, 5, none⟩ = some (.slice A1_5 l1_5.length c1_5) := (blk_cell BK225.out 5).trans rfl; have hfz28_0 := blk_frozen BK225.out 0; have hfz28_1 := blk_frozen BK225.out 1; have hfz28_2 := blk_frozen BK225.out 2; have hfz28_3 := blk_frozen BK225.out 3; have hfz28_4 := blk_frozen BK225.out 4; have hfz28_5 := blk_frozen BK225.out 5) | ((with_reducible refine gate_callee (f := 19) rfl ?_); refine goesL_ (some 10) rfl rfl Try.func19 (by kernel_rfl) rfl #[.slice A0_5 l0_5.length c0_5, .slice A1_5 l1_5.length c1_5] rfl (by (try simp only [List.map_toArray, List.map_cons, List.map_nil]); first | done | rfl | (simp only [List.length_drop, List.length_take]; rfl)) ?_; (with_reducible refine (swageref02_Ints.calls k _ _ l0_5 _ _ l1_5 true _ ?side1 ?side2 ?side3 ?side4 A3.out).mono ?_); (case side1 => repeat (first | exact (Kd.C_below HR0_5.out HB.out) | (with_reducible refine Kd.C_alloc ?_ _) | (with_reducible refine Kd.C_drewN ?_ _) | (with_reducible refine Kd.C_drew ?_))); (case side2 => exact HC0_5.out); (case side3 => repeat (first | exact (Kd.C_below HR1_5.out HB.out) | (with_reducible refine Kd.C_alloc ?_ _) | (with_reducible refine Kd.C_drewN ?_ _) | (with_reducible refine Kd.C_drew ?_))); (case side4 => exact HC1_5.out); rintro e w' ⟨rfl, ⟨nd, rfl⟩⟩; refine ⟨_, rfl, ?_⟩))
        go_ret
        exact ⟨by first | rfl | (simp [errW_none, errW_some] <;> rfl) | (simp [*, errW_none, errW_some] <;> rfl), by repeat (first | (with_reducible first | exact HB.out | apply below_alloc | apply pw_below_drewN | apply below_drew1 | refine below_set ?_ GE224.out | refine below_set ?_ GE225.out) | exact HB.out)⟩
    · rw [if_neg c5] at H
      have c5b0 : (a0_0 == a1_0) = false := beq_eq_false_iff_ne.mpr c5
      have c5b1 : (a0_0 != a1_0) = true := bne_iff_ne.mpr c5
      obtain rfl := Option.some.inj H
      go_enter Try.func29, Try.ntmps29
      go_wp2_with (first | ((with_reducible refine gate_dst (N := 2) rfl ?_); refine box_event ?hg (N := 2) ?hd (cs := #[.int .i64 a0_0, .int .i64 a0_1, .int .i64 a0_2, .int .i64 a0_3, .int .i64 a0_4, .slice A0_5 l0_5.length c0_5]) (t := 37) ?hr ?_; (case hd => rfl); (case hg => rfl); (case hr => first | (go_simp; done) | (go_simp; rfl)); intro gb224 hg w29 hbox hb; have n0_ := Aside0.mk (below_step (by repeat (first | (with_reducible first | exact HB.out | apply below_alloc | apply pw_below_drewN | apply below_drew1) | exact HB.out)) hb); have n1_ := Aside0.mk (hbox); have n2_ := Aside0.mk ((by rw [hg]; exact (below_size (by repeat (first | (with_reducible first | exact HB.out | apply below_alloc | apply pw_below_drewN | apply below_drew1) | exact HB.out))) : w.heap.size ≤ gb224)); have n3_ := Aside0.mk ((by rw [hg]; exact (below_size (by repeat (first | (with_reducible first | exact HB.out | apply below_alloc | apply pw_below_drewN | apply below_drew1) | exact HB.out))) : w.heap.size ≤ gb224)); clear HB; have HB := n0_; have BK224 := n1_; have GW224 := n2_; have GE224 := n3_; clear n0_ n1_ n2_ n3_; clear hb hbox hg) | ((with_reducible refine gate_dst (N := 3) rfl ?_); refine box_event ?hg (N := 3) ?hd (cs := #[.int .i64 a1_0, .int .i64 a1_1, .int .i64 a1_2, .int .i64 a1_3, .int .i64 a1_4, .slice A1_5 l1_5.length c1_5]) (t := 37) ?hr ?_; (case hd => rfl); (case hg => rfl); (case hr => first | (go_simp; done) | (go_simp; rfl)); intro gb225 hg w30 hbox hb; have n0_ := Aside0.mk (blk_below (g := gb224) (o := .cells #[.int .i64 a0_0, .int .i64 a0_1, .int .i64 a0_2, .int .i64 a0_3, .int .i64 a0_4, .slice A0_5 l0_5.length c0_5] 37 (0, 0)) (by (with_reducible repeat (first | refine blk_drewN ?_ _ | refine blk_drew ?_ | refine blk_alloc ?_ _)); exact BK224.out) hb); have n1_ := Aside0.mk (below_step (by repeat (first | (with_reducible first | exact HB.out | apply below_alloc | apply pw_below_drewN | apply below_drew1 | refine below_set ?_ GE224.out) | exact HB.out)) hb); have n2_ := Aside0.mk (hbox); have n3_ := Aside0.mk ((by rw [hg]; exact (below_size (by repeat (first | (with_reducible first | exact HB.out | apply below_alloc | apply pw_below_drewN | apply below_drew1 | refine below_set ?_ GE224.out) | exact HB.out))) : w.heap.size ≤ gb225)); have n4_ := Aside0.mk ((by rw [hg]; exact (below_size (by repeat (first | (with_reducible first | exact HB.out | apply below_alloc | apply pw_below_drewN | apply below_drew1 | refine below_set ?_ GE224.out) | exact HB.out))) : w.heap.size ≤ gb225)); have n5_ := Aside0.mk ((by rw [hg]; exact Nat.ne_of_lt (blk_lt (g := gb224) (o := .cells #[.int .i64 a0_0, .int .i64 a0_1, .int .i64 a0_2, .int .i64 a0_3, .int .i64 a0_4, .slice A0_5 l0_5.length c0_5] 37 (0, 0)) (by (with_reducible repeat (first | refine blk_drewN ?_ _ | refine blk_drew ?_ | refine blk_alloc ?_ _)); exact BK224.out)) : gb224 ≠ gb225)); have n6_ := Aside0.mk ((by rw [hg]; exact Nat.ne_of_gt (blk_lt (g := gb224) (o := .cells #[.int .i64 a0_0, .int .i64 a0_1, .int .i64 a0_2, .int .i64 a0_3, .int .i64 a0_4, .slice A0_5 l0_5.length c0_5] 37 (0, 0)) (by (with_reducible repeat (first | refine blk_drewN ?_ _ | refine blk_drew ?_ | refine blk_alloc ?_ _)); exact BK224.out)) : gb225 ≠ gb224)); clear BK224; clear HB; have BK224 := n0_; have HB := n1_; have BK225 := n2_; have GW225 := n3_; have GE225 := n4_; have NB224_225 := n5_; have NB225_224 := n6_; clear n0_ n1_ n2_ n3_ n4_ n5_ n6_; clear hb hbox hg; have hnb31 := NB224_225.out; have hnc31 := NB225_224.out; have hcz32_0 : w30.cell? ⟨gb224, 0, none⟩ = some (.int .i64 a0_0) := (blk_cell BK224.out 0).trans rfl; have hcz32_1 : w30.cell? ⟨gb224, 1, none⟩ = some (.int .i64 a0_1) := (blk_cell BK224.out 1).trans rfl; have hcz32_2 : w30.cell? ⟨gb224, 2, none⟩ = some (.int .i64 a0_2) := (blk_cell BK224.out 2).trans rfl; have hcz32_3 : w30.cell? ⟨gb224, 3, none⟩ = some (.int .i64 a0_3) := (blk_cell BK224.out 3).trans rfl; have hcz32_4 : w30.cell? ⟨gb224, 4, none⟩ = some (.int .i64 a0_4) := (blk_cell BK224.out 4).trans rfl; have hcz32_5 : w30.cell? ⟨gb224, 5, none⟩ = some (.slice A0_5 l0_5.length c0_5) := (blk_cell BK224.out 5).trans rfl; have hfz32_0 := blk_frozen BK224.out 0; have hfz32_1 := blk_frozen BK224.out 1; have hfz32_2 := blk_frozen BK224.out 2; have hfz32_3 := blk_frozen BK224.out 3; have hfz32_4 := blk_frozen BK224.out 4; have hfz32_5 := blk_frozen BK224.out 5; have hcz33_0 : w30.cell? ⟨gb225, 0, none⟩ = some (.int .i64 a1_0) := (blk_cell BK225.out 0).trans rfl; have hcz33_1 : w30.cell? ⟨gb225, 1, none⟩ = some (.int .i64 a1_1) := (blk_cell BK225.out 1).trans rfl; have hcz33_2 : w30.cell? ⟨gb225, 2, none⟩ = some (.int .i64 a1_2) := (blk_cell BK225.out 2).trans rfl; have hcz33_3 : w30.cell? ⟨gb225, 3, none⟩ = some (.int .i64 a1_3) := (blk_cell BK225.out 3).trans rfl; have hcz33_4 : w30.cell? ⟨gb225, 4, none⟩ = some (.int .i64 a1_4) := (blk_cell BK225.out 4).trans rfl; have hcz33_5 : w30.cell? ⟨gb225, 5, none⟩ = some (.slice A1_5 l1_5.length c1_5) := (blk_cell BK225.out 5).trans rfl; have hfz33_0 := blk_frozen BK225.out 0; have hfz33_1 := blk_frozen BK225.out 1; have hfz33_2 := blk_frozen BK225.out 2; have hfz33_3 := blk_frozen BK225.out 3; have hfz33_4 := blk_frozen BK225.out 4; have hfz33_5 := blk_frozen BK225.out 5) | ((with_reducible refine gate_callee (f := 19) rfl ?_); refine goesL_ (some 10) rfl rfl Try.func19 (by kernel_rfl) rfl #[.slice A0_5 l0_5.length c0_5, .slice A1_5 l1_5.length c1_5] rfl (by (try simp only [List.map_toArray, List.map_cons, List.map_nil]); first | done | rfl | (simp only [List.length_drop, List.length_take]; rfl)) ?_; (with_reducible refine (swageref02_Ints.calls k _ _ l0_5 _ _ l1_5 true _ ?side1 ?side2 ?side3 ?side4 A3.out).mono ?_); (case side1 => repeat (first | exact (Kd.C_below HR0_5.out HB.out) | (with_reducible refine Kd.C_alloc ?_ _) | (with_reducible refine Kd.C_drewN ?_ _) | (with_reducible refine Kd.C_drew ?_))); (case side2 => exact HC0_5.out); (case side3 => repeat (first | exact (Kd.C_below HR1_5.out HB.out) | (with_reducible refine Kd.C_alloc ?_ _) | (with_reducible refine Kd.C_drewN ?_ _) | (with_reducible refine Kd.C_drew ?_))); (case side4 => exact HC1_5.out); rintro e w' ⟨rfl, ⟨nd, rfl⟩⟩; refine ⟨_, rfl, ?_⟩))
      go_ret
      exact ⟨by first | rfl | (simp [errW_none, errW_some] <;> rfl) | (simp [*, errW_none, errW_some] <;> rfl), by repeat (first | (with_reducible first | exact HB.out | apply below_alloc | apply pw_below_drewN | apply below_drew1 | refine below_set ?_ GE224.out | refine below_set ?_ GE225.out) | exact HB.out)⟩
  · replace c4 := Bool.eq_false_iff.mpr c4
    subst c4
    have H1 : (some false) = some r := by rw [if_neg (show ¬ (false = true) by decide)] at H; exact H
    clear H
    have H := H1
    clear H1
    obtain rfl := Option.some.inj H
    go_enter Try.func29, Try.ntmps29
    go_wp2_with (first | ((with_reducible refine gate_dst (N := 2) rfl ?_); refine box_event ?hg (N := 2) ?hd (cs := #[.int .i64 a0_0, .int .i64 a0_1, .int .i64 a0_2, .int .i64 a0_3, .int .i64 a0_4, .slice A0_5 l0_5.length c0_5]) (t := 37) ?hr ?_; (case hd => rfl); (case hg => rfl); (case hr => first | (go_simp; done) | (go_simp; rfl)); intro gb224 hg w34 hbox hb; have n0_ := Aside0.mk (below_step (by repeat (first | (with_reducible first | exact HB.out | apply below_alloc | apply pw_below_drewN | apply below_drew1) | exact HB.out)) hb); have n1_ := Aside0.mk (hbox); have n2_ := Aside0.mk ((by rw [hg]; exact (below_size (by repeat (first | (with_reducible first | exact HB.out | apply below_alloc | apply pw_below_drewN | apply below_drew1) | exact HB.out))) : w.heap.size ≤ gb224)); have n3_ := Aside0.mk ((by rw [hg]; exact (below_size (by repeat (first | (with_reducible first | exact HB.out | apply below_alloc | apply pw_below_drewN | apply below_drew1) | exact HB.out))) : w.heap.size ≤ gb224)); clear HB; have HB := n0_; have BK224 := n1_; have GW224 := n2_; have GE224 := n3_; clear n0_ n1_ n2_ n3_; clear hb hbox hg) | ((with_reducible refine gate_dst (N := 3) rfl ?_); refine box_event ?hg (N := 3) ?hd (cs := #[.int .i64 a1_0, .int .i64 a1_1, .int .i64 a1_2, .int .i64 a1_3, .int .i64 a1_4, .slice A1_5 l1_5.length c1_5]) (t := 37) ?hr ?_; (case hd => rfl); (case hg => rfl); (case hr => first | (go_simp; done) | (go_simp; rfl)); intro gb225 hg w35 hbox hb; have n0_ := Aside0.mk (blk_below (g := gb224) (o := .cells #[.int .i64 a0_0, .int .i64 a0_1, .int .i64 a0_2, .int .i64 a0_3, .int .i64 a0_4, .slice A0_5 l0_5.length c0_5] 37 (0, 0)) (by (with_reducible repeat (first | refine blk_drewN ?_ _ | refine blk_drew ?_ | refine blk_alloc ?_ _)); exact BK224.out) hb); have n1_ := Aside0.mk (below_step (by repeat (first | (with_reducible first | exact HB.out | apply below_alloc | apply pw_below_drewN | apply below_drew1 | refine below_set ?_ GE224.out) | exact HB.out)) hb); have n2_ := Aside0.mk (hbox); have n3_ := Aside0.mk ((by rw [hg]; exact (below_size (by repeat (first | (with_reducible first | exact HB.out | apply below_alloc | apply pw_below_drewN | apply below_drew1 | refine below_set ?_ GE224.out) | exact HB.out))) : w.heap.size ≤ gb225)); have n4_ := Aside0.mk ((by rw [hg]; exact (below_size (by repeat (first | (with_reducible first | exact HB.out | apply below_alloc | apply pw_below_drewN | apply below_drew1 | refine below_set ?_ GE224.out) | exact HB.out))) : w.heap.size ≤ gb225)); have n5_ := Aside0.mk ((by rw [hg]; exact Nat.ne_of_lt (blk_lt (g := gb224) (o := .cells #[.int .i64 a0_0, .int .i64 a0_1, .int .i64 a0_2, .int .i64 a0_3, .int .i64 a0_4, .slice A0_5 l0_5.length c0_5] 37 (0, 0)) (by (with_reducible repeat (first | refine blk_drewN ?_ _ | refine blk_drew ?_ | refine blk_alloc ?_ _)); exact BK224.out)) : gb224 ≠ gb225)); have n6_ := Aside0.mk ((by rw [hg]; exact Nat.ne_of_gt (blk_lt (g := gb224) (o := .cells #[.int .i64 a0_0, .int .i64 a0_1, .int .i64 a0_2, .int .i64 a0_3, .int .i64 a0_4, .slice A0_5 l0_5.length c0_5] 37 (0, 0)) (by (with_reducible repeat (first | refine blk_drewN ?_ _ | refine blk_drew ?_ | refine blk_alloc ?_ _)); exact BK224.out)) : gb225 ≠ gb224)); clear BK224; clear HB; have BK224 := n0_; have HB := n1_; have BK225 := n2_; have GW225 := n3_; have GE225 := n4_; have NB224_225 := n5_; have NB225_224 := n6_; clear n0_ n1_ n2_ n3_ n4_ n5_ n6_; clear hb hbox hg; have hnb36 := NB224_225.out; have hnc36 := NB225_224.out; have hcz37_0 : w35.cell? ⟨gb224, 0, none⟩ = some (.int .i64 a0_0) := (blk_cell BK224.out 0).trans rfl; have hcz37_1 : w35.cell? ⟨gb224, 1, none⟩ = some (.int .i64 a0_1) := (blk_cell BK224.out 1).trans rfl; have hcz37_2 : w35.cell? ⟨gb224, 2, none⟩ = some (.int .i64 a0_2) := (blk_cell BK224.out 2).trans rfl; have hcz37_3 : w35.cell? ⟨gb224, 3, none⟩ = some (.int .i64 a0_3) := (blk_cell BK224.out 3).trans rfl; have hcz37_4 : w35.cell? ⟨gb224, 4, none⟩ = some (.int .i64 a0_4) := (blk_cell BK224.out 4).trans rfl; have hcz37_5 : w35.cell? ⟨gb224, 5, none⟩ = some (.slice A0_5 l0_5.length c0_5) := (blk_cell BK224.out 5).trans rfl; have hfz37_0 := blk_frozen BK224.out 0; have hfz37_1 := blk_frozen BK224.out 1; have hfz37_2 := blk_frozen BK224.out 2; have hfz37_3 := blk_frozen BK224.out 3; have hfz37_4 := blk_frozen BK224.out 4; have hfz37_5 := blk_frozen BK224.out 5; have hcz38_0 : w35.cell? ⟨gb225, 0, none⟩ = some (.int .i64 a1_0) := (blk_cell BK225.out 0).trans rfl; have hcz38_1 : w35.cell? ⟨gb225, 1, none⟩ = some (.int .i64 a1_1) := (blk_cell BK225.out 1).trans rfl; have hcz38_2 : w35.cell? ⟨gb225, 2, none⟩ = some (.int .i64 a1_2) := (blk_cell BK225.out 2).trans rfl; have hcz38_3 : w35.cell? ⟨gb225, 3, none⟩ = some (.int .i64 a1_3) := (blk_cell BK225.out 3).trans rfl; have hcz38_4 : w35.cell? ⟨gb225, 4, none⟩ = some (.int .i64 a1_4) := (blk_cell BK225.out 4).trans rfl; have hcz38_5 : w35.cell? ⟨gb225, 5, none⟩ = some (.slice A1_5 l1_5.length c1_5) := (blk_cell BK225.out 5).trans rfl; have hfz38_0 := blk_frozen BK225.out 0; have hfz38_1 := blk_frozen BK225.out 1; have hfz38_2 := blk_frozen BK225.out 2; have hfz38_3 := blk_frozen BK225.out 3; have hfz38_4 := blk_frozen BK225.out 4; have hfz38_5 := blk_frozen BK225.out 5) | ((with_reducible refine gate_callee (f := 19) rfl ?_); refine goesL_ (some 10) rfl rfl Try.func19 (by kernel_rfl) rfl #[.slice A0_5 l0_5.length c0_5, .slice A1_5 l1_5.length c1_5] rfl (by (try simp only [List.map_toArray, List.map_cons, List.map_nil]); first | done | rfl | (simp only [List.length_drop, List.length_take]; rfl)) ?_; (with_reducible refine (swageref02_Ints.calls k _ _ l0_5 _ _ l1_5 false _ ?side1 ?side2 ?side3 ?side4 A3.out).mono ?_); (case side1 => repeat (first | exact (Kd.C_below HR0_5.out HB.out) | (with_reducible refine Kd.C_alloc ?_ _) | (with_reducible refine Kd.C_drewN ?_ _) | (with_reducible refine Kd.C_drew ?_))); (case side2 => exact HC0_5.out); (case side3 => repeat (first | exact (Kd.C_below HR1_5.out HB.out) | (with_reducible refine Kd.C_alloc ?_ _) | (with_reducible refine Kd.C_drewN ?_ _) | (with_reducible refine Kd.C_drew ?_))); (case side4 => exact HC1_5.out); rintro e w' ⟨rfl, ⟨nd, rfl⟩⟩; refine ⟨_, rfl, ?_⟩))
    go_ret
    exact ⟨by first | rfl | (simp [errW_none, errW_some] <;> rfl) | (simp [*, errW_none, errW_some] <;> rfl), by repeat (first | (with_reducible first | exact HB.out | apply below_alloc | apply pw_below_drewN | apply below_drew1 | refine below_set ?_ GE224.out | refine below_set ?_ GE225.out) | exact HB.out)⟩

end Go.Proofs.Ytphmlkbmnmicpaa.A

/- few, SameOp and Pure: what they answer. -/
namespace Go.Proofs.Ytphmlkbmnmicpaa.A
open Go.RowKit Go.Proofs.YtphmlkbmnmicpaaW.PrintWords Go.Proofs.YtphmlkbmnmicpaaW.PrintLast Go.Shelf
set_option linter.unusedVariables false
set_option linter.unusedSimpArgs false

def fewB (l : List S37) : Bool := ((l.take 100).all fun x => decide (x.f5.length ≤ 20)) && decide (l.length ≤ 60)
theorem fewB_true (l : List S37) : fewB l = true → l.length ≤ 60 ∧ ∀ x ∈ l, x.f5.length ≤ 20 := by
  unfold fewB
  simp only [Bool.and_eq_true, List.all_eq_true, decide_eq_true_eq]
  rintro ⟨h1, h2⟩
  exact ⟨h2, fun x hx => h1 x (by rw [List.take_of_length_le (by omega)]; exact hx)⟩

theorem few_ev (l : List S37) : ∀ (d i : Nat), i ≤ min l.length 100 → min l.length 100 - i = d → Ev (fun k => swagelaw27_few.l0 k l (i : Int)) ((((l.take 100).drop i).all fun x => decide (x.f5.length ≤ 20)) && decide (l.length ≤ 60)) := by
  intro d
  induction d with
  | zero =>
    intro i hi hd
    refine ⟨2, fun k hk => ?_⟩
    obtain ⟨k, rfl⟩ : ∃ m, k = m + 2 := ⟨k - 2, by omega⟩
    have he : (l.take 100).drop i = [] := List.drop_eq_nil_of_le (by rw [List.length_take]; omega)
    rw [he]
    simp only [swagelaw27_few.l0, List.all_nil, Bool.true_and]
    by_cases h : (i : Int) < (l.length : Int)
    · rw [if_pos h, decide_eq_false (by omega)]
      simp only [swagelaw27_few.j1]
      rw [if_neg (by simp)]
      congr 1
      exact decide_eq_decide.2 (by omega)
    · rw [if_neg h]
      simp only [swagelaw27_few.j1]
      rw [if_neg (by simp)]
      congr 1
      exact decide_eq_decide.2 (by omega)
  | succ d ih =>
    intro i hi hd
    obtain ⟨K, hK⟩ := ih (i + 1) (by omega) (by omega)
    refine ⟨K + 2, fun k hk => ?_⟩
    obtain ⟨k, rfl⟩ : ∃ m, k = m + 2 := ⟨k - 2, by omega⟩
    have hK' := hK k (by omega)
    have hil : i < l.length := by omega
    have hit : i < (l.take 100).length := by rw [List.length_take]; omega
    rw [List.drop_eq_getElem_cons hit, List.getElem_take, List.all_cons]
    simp only [swagelaw27_few.l0]
    rw [if_pos (by omega), decide_eq_true (by omega)]
    simp only [swagelaw27_few.j1]
    rw [if_pos trivial, if_pos (by omega), if_pos (by omega)]
    have hr : rd_T37 l (i : Int) = l[i] := by unfold rd_T37; simp [hil]
    rw [hr, show wrap64 ((i : Int) + 1) = ((i + 1 : Nat) : Int) from by unfold wrap64; omega]
    by_cases h : ((l[i].f5.length : Nat) : Int) > 20
    · rw [if_pos h, decide_eq_false (by omega)]
      simp
    · rw [if_neg h, decide_eq_true (by omega), Bool.true_and]
      exact hK'

theorem few_calls (A : Option Addr) (c : Nat) (l : List S37) (w : World) (h : Kd.C k37 w A l.length l) (hc : l.length ≤ c) :
    Calls Try.prog 9 #[.slice A l.length c] w fun e w' => e = .returned (.bool (fewB l)) ∧ Drawn0 w w' := by
  obtain ⟨k, hk⟩ := (few_ev l _ 0 (Nat.zero_le _) rfl).rounds
  exact swagelaw27_few.calls k A c l _ w h hc hk

theorem pure_calls (x : S37) (A : Option Addr) (c : Nat) (w : World) (hx : Kd.C (Kd.int .i64) w A x.f5.length x.f5) (hc : x.f5.length ≤ c) :
    Calls Try.prog 28 #[.agg #[.int .i64 x.f0, .int .i64 x.f1, .int .i64 x.f2, .int .i64 x.f3, .int .i64 x.f4, .slice A x.f5.length c]] w fun e w' => e = .returned (.bool (pureOf x)) ∧ Below w.heap.size w w' :=
  code_Pure.calls 10 x.f0 x.f1 x.f2 x.f3 x.f4 A c x.f5 (pureOf x) w hx hc (pure_ev x 10 (by omega))

theorem ints_same (xs : List Int) (hl : xs.length ≤ 1000) : ∀ (d i : Nat), i ≤ xs.length → xs.length - i = d → Ev (fun k => swageref02_Ints.l0 k xs xs (i : Int)) true := by
  intro d
  induction d with
  | zero =>
    intro i hi hd
    refine ⟨1, fun k hk => ?_⟩
    obtain ⟨k, rfl⟩ : ∃ m, k = m + 1 := ⟨k - 1, by omega⟩
    simp only [swageref02_Ints.l0]
    rw [if_neg (by omega)]
  | succ d ih =>
    intro i hi hd
    obtain ⟨K, hK⟩ := ih (i + 1) (by omega) (by omega)
    refine ⟨K + 1, fun k hk => ?_⟩
    obtain ⟨k, rfl⟩ : ∃ m, k = m + 1 := ⟨k - 1, by omega⟩
    simp only [swageref02_Ints.l0]
    rw [if_pos (by omega), if_pos (by omega), if_pos (by omega), if_pos trivial, show wrap64 ((i : Int) + 1) = ((i + 1 : Nat) : Int) from by unfold wrap64; omega]
    exact hK k (by omega)
theorem same_calls' (x : S37) (A : Option Addr) (c : Nat) (B : Option Addr) (b : Nat) (w : World) (hx : Kd.C (Kd.int .i64) w A x.f5.length x.f5) (hc : x.f5.length ≤ c) (hy : Kd.C (Kd.int .i64) w B x.f5.length x.f5) (hb : x.f5.length ≤ b) (hl : x.f5.length ≤ 1000) :
    Calls Try.prog 29 #[.agg #[.int .i64 x.f0, .int .i64 x.f1, .int .i64 x.f2, .int .i64 x.f3, .int .i64 x.f4, .slice A x.f5.length c], .agg #[.int .i64 x.f0, .int .i64 x.f1, .int .i64 x.f2, .int .i64 x.f3, .int .i64 x.f4, .slice B x.f5.length b]] w fun e w' => e = .returned (.bool true) ∧ Below w.heap.size w w' := by
  obtain ⟨k, hk⟩ := (ints_same x.f5 hl _ 0 (Nat.zero_le _) rfl).rounds
  refine swageref14_SameOp.calls k _ _ _ _ _ A c x.f5 _ _ _ _ _ B b x.f5 true w hx hc hy hb ?_
  unfold swageref14_SameOp.f swageref02_Ints.f
  rw [if_pos rfl]
  have hk' : swageref02_Ints.l0 k x.f5 x.f5 0 = some true := hk
  rw [hk']
  simp
#print axioms few_calls
#print axioms same_calls'
end Go.Proofs.Ytphmlkbmnmicpaa.A

/- The law SchedHeights: it returns true. -/
namespace Go.Proofs.Ytphmlkbmnmicpaa.A
open Go.RowKit Go.Proofs.YtphmlkbmnmicpaaW.PrintWords Go.Proofs.YtphmlkbmnmicpaaW.PrintLast Go.Proofs.YtphmlkbmnmicpaaW.PrintMore Go.Shelf
attribute [local go_sem] max2_int min2_int max_two min_two
set_option linter.unusedVariables false
set_option linter.unusedSimpArgs false

/-- what lies in memory -/
structure LH (w : World) (A Ad Ah : Option Addr) (n : Nat) (l : List S37) (D : List (List Int)) (H : List Int) (W : World) : Prop where
  hl : Kd.C k37 W A n l
  hD : Kd.C (Kd.slice 3 (Kd.int .i64)) W Ad n D
  hH : Kd.C (Kd.int .i64) W Ah n H
  hB : Below w.heap.size w W
theorem LH.below {w : World} {A Ad Ah : Option Addr} {n : Nat} {l : List S37} {D : List (List Int)} {H : List Int} {W W1 : World} (h : LH w A Ad Ah n l D H W) (hb : Below W.heap.size W W1) : LH w A Ad Ah n l D H W1 :=
  ⟨Kd.C_below h.hl hb, Kd.C_below h.hD hb, Kd.C_below h.hH hb, below_then h.hB h.hB.size hb⟩
theorem lat_c (x : S37) (v : Int) (A : Option Addr) (c : Nat) (w : World) (hx : Kd.C (Kd.int .i64) w A x.f5.length x.f5) (hc : x.f5.length ≤ c) (hv : latOf x = v) :
    Calls Try.prog 14 #[.agg #[.int .i64 x.f0, .int .i64 x.f1, .int .i64 x.f2, .int .i64 x.f3, .int .i64 x.f4, .slice A x.f5.length c]] w fun e w' => e = .returned (.int .i64 v) ∧ Below w.heap.size w w' := by
  subst hv
  exact lat_calls x A c w hx hc

theorem hf_rounds (l : List S37) (hF : Few l) : ∃ k, sched_Heights.f k l = some (heightsOf l) := by
  obtain ⟨k, hk⟩ := (deps_ev l hF.1 hF.2).rounds
  refine ⟨k, ?_⟩
  have hk' : sched_Deps.f k l = some (depsOf l) := hk
  unfold sched_Heights.f
  rw [hk']
  simp only [Option.bind_some]
  unfold sched_heights.f
  rw [if_pos ⟨hF, rfl⟩]
  rfl

set_option maxRecDepth 100000 in
set_option maxHeartbeats 2000000 in
theorem law_heights (A : Option Addr) (c : Nat) (l : List S37) (w : World) (h : Kd.C k37 w A l.length l) (hc : l.length ≤ c) :
    Calls Try.prog 5 #[.slice A l.length c] w fun e w' => e = .returned (.bool true) ∧ Below w.heap.size w w' := by
  have hu37 := Try.underlying37
  have hfew := fun W h => few_calls A c l W h hc
  have hfb := fewB_true l
  generalize fewB l = fb at hfew hfb
  go_enter Try.func5, Try.ntmps5
  go_wp2_with fail
  refine (small_calls w).mono ?_
  rintro e w1 ⟨rfl, hB1⟩
  have h1 := Kd.C_below h hB1
  go_wp2_with fail
  refine (hfew w1 h1).mono ?_
  rintro e w2 ⟨rfl, hD2⟩
  have h2 := Kd.C_below h1 hD2.below
  have hB2 := below_then hB1 hB1.size hD2.below
  clear h1 hB1 hD2 hfew h
  cases fb
  · go_wp2_with fail
    go_ret
    exact ⟨rfl, hB2⟩
  obtain ⟨h60, h20⟩ := hfb rfl
  clear hfb
  have hF : Few l := ⟨by omega, fun x hx => by have := h20 x hx; omega⟩
  have HH := Aside0.mk (heightsOf_high l (by omega))
  have HC := Aside0.mk (costOf_bounds l (by omega))
  have hback : Aside0 (∀ i : Nat, i < l.length → ∀ k : Nat, k < (rd_L1 (depsOf l) (i : Int)).length → ∃ a : Nat, rd (rd_L1 (depsOf l) (i : Int)) (k : Int) = (a : Int) ∧ a < i ∧ (a : Int) ∈ rd_L1 (depsOf l) (i : Int)) := ⟨fun i hi k hk => by
    have hm : rd (rd_L1 (depsOf l) (i : Int)) (k : Int) ∈ rd_L1 (depsOf l) (i : Int) := by
      rw [rd_nat, List.getD_eq_getElem?_getD, List.getElem?_eq_getElem hk]
      exact List.getElem_mem _
    obtain ⟨a, e, ha⟩ := depsOf_back l i (by rw [depsOf_length]; exact hi) _ hm
    exact ⟨a, e, ha, by rw [← e]; exact hm⟩⟩
  have hsort : Aside0 (∀ i : Nat, i < l.length → ∀ k : Nat, k + 1 < (rd_L1 (depsOf l) (i : Int)).length → rd (rd_L1 (depsOf l) (i : Int)) (k : Int) < rd (rd_L1 (depsOf l) (i : Int)) ((k + 1 : Nat) : Int)) := ⟨fun i hi k hk => by
    rw [depsOf_row l i hi] at hk ⊢
    exact partOf_sorted l i i k hk⟩
  have hdepc : Calls Try.prog 17 #[.slice A l.length c] w2 fun e w' => ∃ Ad cd, e = .returned (.slice Ad l.length cd) ∧ Kd.C (Kd.slice 3 (Kd.int .i64)) w' Ad l.length (depsOf l) ∧ l.length ≤ cd ∧ Below w2.heap.size w2 w' :=
    (deps_calls l hF.1 hF.2 A c w2 h2 hc).mono fun e w' ⟨v, he, hv, hb⟩ => by
      obtain ⟨Ao, co, rfl, h1, h2⟩ := Kd.S_reads hv
      rw [depsOf_length] at he h1 h2
      exact ⟨Ao, co, he, h2, h1, hb⟩
  have hheic : ∀ W, Kd.C k37 W A l.length l → Calls Try.prog 20 #[.slice A l.length c] W fun e w' => ∃ Ah ch, e = .returned (.slice Ah l.length ch) ∧ Kd.C (Kd.int .i64) w' Ah l.length (heightsOf l) ∧ l.length ≤ ch ∧ Below W.heap.size W w' := fun W hW => by
    obtain ⟨k, hk⟩ := hf_rounds l hF
    exact (sched_Heights.calls k A c l _ W hW hc hk).mono fun e w' ⟨v, he, hv, hb⟩ => by
      obtain ⟨Ao, co, rfl, h1, h2⟩ := Kd.R_reads hv
      rw [HH.out.len] at he h1 h2
      exact ⟨Ao, co, he, h2, h1, hb⟩
  have hcostc : Aside0 (∀ W, Kd.C k37 W A l.length l → Calls Try.prog 26 #[.slice A l.length c] W fun e w' => e = .returned (.int .i64 (costOf l)) ∧ Below W.heap.size W w') := ⟨fun W hW => by
    obtain ⟨k, hk⟩ := cost_rounds l hF.1 hF.2
    exact sched_Cost.calls k A c l _ W hW hc hk⟩
  generalize depsOf l = D at *
  generalize heightsOf l = H at *
  go_wp2_with fail
  refine hdepc.mono ?_
  rintro e w3 ⟨Ad, cd, rfl, hD3, hcd, hB3⟩
  have h3 := Kd.C_below h2 hB3
  have hB3' := below_then hB2 hB2.size hB3
  clear hdepc h2 hB2 hB3
  go_wp2_with fail
  refine (hheic w3 h3).mono ?_
  rintro e w4 ⟨Ah, ch, rfl, hH4, hch, hB4⟩
  have hI : Aside0 (LH w A Ad Ah l.length l D H w4) := ⟨⟨Kd.C_below h3 hB4, Kd.C_below hD3 hB4, hH4, below_then hB3' hB3'.size hB4⟩⟩
  clear hheic h3 hD3 hB3' hH4 hB4
  go_wp2_with fail
  go_loopw [7, 8, 9] (fun s7 s8 s9 wr => ∃ (i : Nat), i ≤ l.length ∧ s7 = .int .i64 (mostN l i) ∧ s8 = .int .i64 (sumN l i) ∧ s9 = .int .i64 i ∧ Aside0 (LH w A Ad Ah l.length l D H wr))
    (fun _ _ s9 _ => l.length - (intOf s9).toNat)
  case atStart => exact ⟨0, Nat.zero_le _, rfl, rfl, rfl, hI⟩
  case round =>
    clear hI
    obtain ⟨i, hi_, rfl, rfl, rfl, hI⟩ := hrel
    by_cases hlt : i < l.length
    · have hin : (i : Int) < (l.length : Int) := by omega
      have hi0 : (0 : Int) ≤ (i : Int) := by omega
      obtain ⟨dh, hhe, h0⟩ := Kd.at_int hI.out.hH (i : Int) hi0 hin
      subst hhe
      rw [Int.toNat_natCast] at h0
      obtain ⟨dl, Al, cl, rfl, l0, l1, l2, l3, l4, l5, ll, ql⟩ := at_T37 hI.out.hl (i : Int) hi0 hin
      rw [Int.toNat_natCast] at l0 l1 l2 l3 l4 l5
      have hlo := HH.out.lo i hlt
      have hlr := latOf_range (rd_T37 l (i : Int))
      have hes : Aside0 (sumN l (i + 1) = sumN l i + lt_ l i) := ⟨rfl⟩
      have hem : Aside0 (mostN l (i + 1) = mx (mostN l i) (lt_ l i)) := ⟨rfl⟩
      have hsr := sumN_range l i
      have Hlx : Aside0 (latOf (rd_T37 l (i : Int)) = lt_ l i) := ⟨rfl⟩
      rw [Hlx.out] at hlr
      generalize hy : rd H (i : Int) = hi at h0 hlo
      have hy' := Aside0.mk hy
      clear hy
      generalize lt_ l i = lat at hlo hlr hes hem Hlx
      generalize sumN l i = su at hes hsr
      generalize mostN l i = mo at hem
      generalize hx : rd_T37 l (i : Int) = x at l0 l1 l2 l3 l4 l5 ll ql Hlx
      have hx' := Aside0.mk hx
      clear hx
      have hnl : ¬ hi < lat := by omega
      have hn1 : ¬ lat < 1 := by omega
      go_wp2_with fail
      refine start_ (n := 18) (S := fun w' => w'.cell? (dh.add i) = some (.int .i64 hi) ∧ w'.cell? (dl.add (i * 6)) = some (.int .i64 x.f0) ∧ w'.cell? ⟨(dl.add (i * 6)).block, (dl.add (i * 6)).off + 1, none⟩ = some (.int .i64 x.f1) ∧ w'.cell? ⟨(dl.add (i * 6)).block, (dl.add (i * 6)).off + 2, none⟩ = some (.int .i64 x.f2) ∧ w'.cell? ⟨(dl.add (i * 6)).block, (dl.add (i * 6)).off + 3, none⟩ = some (.int .i64 x.f3) ∧ w'.cell? ⟨(dl.add (i * 6)).block, (dl.add (i * 6)).off + 4, none⟩ = some (.int .i64 x.f4) ∧ w'.cell? ⟨(dl.add (i * 6)).block, (dl.add (i * 6)).off + 5, none⟩ = some (.slice Al x.f5.length cl)) (ds := []) #[false, false, false, false, false, false, false, false, false, false, false, false, false, false, false, false, false, false] (by kernel_rfl) rfl rfl ⟨h0, l0, l1, l2, l3, l4, l5⟩ (fun hHeld => ?_)
      have hd1 := pw_below_drewN (Below.refl wr.heap.size wr) 1
      have hJ := Aside0.mk (hI.out.below hd1)
      replace ql := Aside0.mk (Kd.C_below ql hd1)
      change Aside0 (LH _ _ _ _ _ _ _ _ wr.drew) at hJ
      change Aside0 (Kd.C _ wr.drew _ _ _) at ql
      clear hI hd1 h0 l0 l1 l2 l3 l4 l5
      generalize wr.drew = W1 at hJ ql hHeld ⊢
      refine pure_ (i := 0) (N := some 41) (v := ?_) (a' := ?_) #[true, false, false, false, false, false, false, false, false, false, false, false, false, false, false, false, false, false] rfl rfl (by kernel_rfl) (fun _ _ _ h => h) (Or.inl ⟨by rfl, ?_⟩) ?_ ?_
      rotate_left
      · intro w'
        go_simp
        try with_reducible rfl
      rotate_left
      · simp only [Act.put, List.setIfInBounds_toArray, List.set_cons_zero, List.set_cons_succ, i64_w, i32_w]
        rfl
      refine pure_ (i := 1) (N := some 42) (v := ?_) (a' := ?_) #[true, true, false, false, false, false, false, false, false, false, false, false, false, false, false, false, false, false] rfl rfl (by kernel_rfl) (fun _ _ _ h => h) (Or.inl ⟨by rfl, ?_⟩) ?_ ?_
      rotate_left
      · intro w'
        go_simp
        try with_reducible rfl
      rotate_left
      · simp only [Act.put, List.setIfInBounds_toArray, List.set_cons_zero, List.set_cons_succ, i64_w, i32_w]
        rfl
      refine pure_ (i := 4) (N := some 45) (v := ?_) (a' := ?_) #[true, true, false, false, true, false, false, false, false, false, false, false, false, false, false, false, false, false] rfl rfl (by kernel_rfl) (fun _ _ _ h => h) (Or.inl ⟨by rfl, ?_⟩) ?_ ?_
      rotate_left
      · intro w'
        go_simp
        try with_reducible rfl
      rotate_left
      · simp only [Act.put, List.setIfInBounds_toArray, List.set_cons_zero, List.set_cons_succ, i64_w, i32_w]
        rfl
      refine pure_ (i := 5) (N := some 46) (v := ?_) (a' := ?_) #[true, true, false, false, true, true, false, false, false, false, false, false, false, false, false, false, false, false] rfl rfl (by kernel_rfl) (fun _ _ _ h => h) (Or.inl ⟨by rfl, ?_⟩) ?_ ?_
      rotate_left
      · intro w'
        go_simp
        try with_reducible rfl
      rotate_left
      · simp only [Act.put, List.setIfInBounds_toArray, List.set_cons_zero, List.set_cons_succ, i64_w, i32_w]
        rfl
      refine pure_ (i := 2) (N := some 43) (v := ?_) (a' := ?_) #[true, true, true, false, true, true, false, false, false, false, false, false, false, false, false, false, false, false] rfl rfl (by kernel_rfl) (fun _ _ _ h => h) (Or.inl ⟨by rfl, ?_⟩) ?_ ?_
      rotate_left
      · intro w'
        go_simp
        try with_reducible rfl
      rotate_left
      · simp only [Act.put, List.setIfInBounds_toArray, List.set_cons_zero, List.set_cons_succ, i64_w, i32_w]
        rfl
      refine pure_ (i := 6) (N := some 47) (v := ?_) (a' := ?_) #[true, true, true, false, true, true, true, false, false, false, false, false, false, false, false, false, false, false] rfl rfl (by kernel_rfl) (fun _ _ _ h => h) (Or.inl ⟨by rfl, ?_⟩) ?_ ?_
      rotate_left
      · intro w'
        go_simp
        try with_reducible rfl
      rotate_left
      · simp only [Act.put, List.setIfInBounds_toArray, List.set_cons_zero, List.set_cons_succ, i64_w, i32_w]
        rfl
      refine take_ (i := 3) (N := some 44) (v := ?_) (a' := ?_) #[true, true, true, true, true, true, true, false, false, false, false, false, false, false, false, false, false, false] rfl rfl (by kernel_rfl) (fun _ _ _ h => h) (Or.inl ⟨by rfl, ?_⟩) hHeld ?_ ?_
      rotate_left
      · rintro w' ⟨s0, s1, s2, s3, s4, s5, s6⟩
        go_simp
        try with_reducible rfl
      rotate_left
      · simp only [Act.put, List.setIfInBounds_toArray, List.set_cons_zero, List.set_cons_succ, i64_w, i32_w]
        rfl
      refine take_ (i := 7) (N := some 48) (v := ?_) (a' := ?_) #[true, true, true, true, true, true, true, true, false, false, false, false, false, false, false, false, false, false] rfl rfl (by kernel_rfl) (fun _ _ _ h => h) (Or.inl ⟨by rfl, ?_⟩) hHeld ?_ ?_
      rotate_left
      · rintro w' ⟨s0, s1, s2, s3, s4, s5, s6⟩
        go_simp
        try with_reducible rfl
      rotate_left
      · simp only [Act.put, List.setIfInBounds_toArray, List.set_cons_zero, List.set_cons_succ, i64_w, i32_w]
        rfl
      refine one_ (i := 8) (N := some 49) #[true, true, true, true, true, true, true, true, true, false, false, false, false, false, false, false, false, false] rfl rfl (by kernel_rfl) (by decide) (fun K hK => ?_)
      refine call_ 14 _ (by rfl) rfl (by go_simp; rfl) ?_
      refine (lat_c x _ Al cl _ (ql.out) ll Hlx.out).mono ?_
      rintro e w2 ⟨rfl, hb2⟩
      refine ⟨_, rfl, ?_⟩
      have hJ2 := Aside0.mk (hJ.out.below hb2)
      have ql2 := Aside0.mk (Kd.C_below ql.out hb2)
      refine hK.out _ _ ⟨pw_cell_below hb2 hHeld.1, pw_cell_below hb2 hHeld.2.1, pw_cell_below hb2 hHeld.2.2.1, pw_cell_below hb2 hHeld.2.2.2.1, pw_cell_below hb2 hHeld.2.2.2.2.1, pw_cell_below hb2 hHeld.2.2.2.2.2.1, pw_cell_below hb2 hHeld.2.2.2.2.2.2⟩ (fun hHeld => ?_)
      clear hJ ql
      have hJ := hJ2
      have ql := ql2
      clear hJ2 ql2 hb2
      clear hK K
      refine norm_ (a' := ?_) ?_ ?_
      rotate_left
      · show Act.put _ (some 49) _ = _
        simp only [Act.put, List.setIfInBounds_toArray, List.set_cons_zero, List.set_cons_succ, i64_w, i32_w]
        rfl
      refine pure_ (i := 9) (N := some 50) (v := .bool false) (a' := ?_) #[true, true, true, true, true, true, true, true, true, true, false, false, false, false, false, false, false, false] rfl rfl (by kernel_rfl) (fun _ _ _ h => h) (Or.inl ⟨by rfl, ?_⟩) ?_ ?_
      · intro w'
        go_simp
        first | done | (with_reducible rfl) | (simp only [*, decide_true, decide_false, if_true, if_false]; done) | (simp [*]; done) | omega | (unfold wrap64; omega)
      rotate_left
      · simp only [Act.put, List.setIfInBounds_toArray, List.set_cons_zero, List.set_cons_succ, i64_w, i32_w]
        rfl
      refine pure_ (i := 10) (N := some 51) (v := ?_) (a' := ?_) #[true, true, true, true, true, true, true, true, true, true, true, false, false, false, false, false, false, false] rfl rfl (by kernel_rfl) (fun _ _ _ h => h) (Or.inl ⟨by rfl, ?_⟩) ?_ ?_
      rotate_left
      · intro w'
        go_simp
        try with_reducible rfl
      rotate_left
      · simp only [Act.put, List.setIfInBounds_toArray, List.set_cons_zero, List.set_cons_succ, i64_w, i32_w]
        rfl
      refine pure_ (i := 11) (N := some 52) (v := ?_) (a' := ?_) #[true, true, true, true, true, true, true, true, true, true, true, true, false, false, false, false, false, false] rfl rfl (by kernel_rfl) (fun _ _ _ h => h) (Or.inl ⟨by rfl, ?_⟩) ?_ ?_
      rotate_left
      · intro w'
        go_simp
        try with_reducible rfl
      rotate_left
      · simp only [Act.put, List.setIfInBounds_toArray, List.set_cons_zero, List.set_cons_succ, i64_w, i32_w]
        rfl
      refine pure_ (i := 12) (N := some 53) (v := ?_) (a' := ?_) #[true, true, true, true, true, true, true, true, true, true, true, true, true, false, false, false, false, false] rfl rfl (by kernel_rfl) (fun _ _ _ h => h) (Or.inl ⟨by rfl, ?_⟩) ?_ ?_
      rotate_left
      · intro w'
        go_simp
        try with_reducible rfl
      rotate_left
      · simp only [Act.put, List.setIfInBounds_toArray, List.set_cons_zero, List.set_cons_succ, i64_w, i32_w]
        rfl
      refine pure_ (i := 13) (N := some 54) (v := ?_) (a' := ?_) #[true, true, true, true, true, true, true, true, true, true, true, true, true, true, false, false, false, false] rfl rfl (by kernel_rfl) (fun _ _ _ h => h) (Or.inl ⟨by rfl, ?_⟩) ?_ ?_
      rotate_left
      · intro w'
        go_simp
        try with_reducible rfl
      rotate_left
      · simp only [Act.put, List.setIfInBounds_toArray, List.set_cons_zero, List.set_cons_succ, i64_w, i32_w]
        rfl
      refine take_ (i := 14) (N := some 55) (v := ?_) (a' := ?_) #[true, true, true, true, true, true, true, true, true, true, true, true, true, true, true, false, false, false] rfl rfl (by kernel_rfl) (fun _ _ _ h => h) (Or.inl ⟨by rfl, ?_⟩) hHeld ?_ ?_
      rotate_left
      · rintro w' ⟨s0, s1, s2, s3, s4, s5, s6⟩
        go_simp
        try with_reducible rfl
      rotate_left
      · simp only [Act.put, List.setIfInBounds_toArray, List.set_cons_zero, List.set_cons_succ, i64_w, i32_w]
        rfl
      refine one_ (i := 15) (N := some 56) #[true, true, true, true, true, true, true, true, true, true, true, true, true, true, true, true, false, false] rfl rfl (by kernel_rfl) (by decide) (fun K hK => ?_)
      refine call_ 14 _ (by rfl) rfl (by go_simp; rfl) ?_
      refine (lat_c x _ Al cl _ (ql.out) ll Hlx.out).mono ?_
      rintro e w2 ⟨rfl, hb2⟩
      refine ⟨_, rfl, ?_⟩
      have hJ2 := Aside0.mk (hJ.out.below hb2)
      have ql2 := Aside0.mk (Kd.C_below ql.out hb2)
      refine hK.out _ _ ⟨pw_cell_below hb2 hHeld.1, pw_cell_below hb2 hHeld.2.1, pw_cell_below hb2 hHeld.2.2.1, pw_cell_below hb2 hHeld.2.2.2.1, pw_cell_below hb2 hHeld.2.2.2.2.1, pw_cell_below hb2 hHeld.2.2.2.2.2.1, pw_cell_below hb2 hHeld.2.2.2.2.2.2⟩ (fun hHeld => ?_)
      clear hJ ql
      have hJ := hJ2
      have ql := ql2
      clear hJ2 ql2 hb2
      clear hK K
      refine norm_ (a' := ?_) ?_ ?_
      rotate_left
      · show Act.put _ (some 56) _ = _
        simp only [Act.put, List.setIfInBounds_toArray, List.set_cons_zero, List.set_cons_succ, i64_w, i32_w]
        rfl
      refine pure_ (i := 16) (N := some 57) (v := .bool false) (a' := ?_) #[true, true, true, true, true, true, true, true, true, true, true, true, true, true, true, true, true, false] rfl rfl (by kernel_rfl) (fun _ _ _ h => h) (Or.inl ⟨by rfl, ?_⟩) ?_ ?_
      · intro w'
        go_simp
        first | done | (with_reducible rfl) | (simp only [*, decide_true, decide_false, if_true, if_false]; done) | (simp [*]; done) | omega | (unfold wrap64; omega)
      rotate_left
      · simp only [Act.put, List.setIfInBounds_toArray, List.set_cons_zero, List.set_cons_succ, i64_w, i32_w]
        rfl
      refine pure_ (i := 17) (N := some 58) (v := ?_) (a' := ?_) #[true, true, true, true, true, true, true, true, true, true, true, true, true, true, true, true, true, true] rfl rfl (by kernel_rfl) (fun _ _ _ h => h) (Or.inl ⟨by rfl, ?_⟩) ?_ ?_
      rotate_left
      · intro w'
        go_simp
        try with_reducible rfl
      rotate_left
      · simp only [Act.put, List.setIfInBounds_toArray, List.set_cons_zero, List.set_cons_succ, i64_w, i32_w]
        rfl
      refine done_ (by kernel_rfl) ?_
      clear hHeld ql
      have Hli := Hlx
      clear Hlx
      go_wp2_with fail
      go_loopw [10] (fun s10 wr => ∃ (k : Nat), k ≤ (rd_L1 D (i : Int)).length ∧ s10 = .int .i64 k ∧ Aside0 (LH w (some dl) Ad (some dh) l.length l D H wr))
        (fun s10 _ => (rd_L1 D (i : Int)).length - (intOf s10).toNat)
      case atStart => exact ⟨0, Nat.zero_le _, rfl, hJ⟩
      case round =>
        clear hJ
        obtain ⟨k, hk_, rfl, hI⟩ := hrel
        obtain ⟨dd, Ar, cr, rfl, q0, qr1, qr2⟩ := at_L1 hI.out.hD (i : Int) hi0 hin
        rw [Int.toNat_natCast] at q0
        by_cases hkl : k < (rd_L1 D (i : Int)).length
        · have hkn : (k : Int) < ((rd_L1 D (i : Int)).length : Int) := by omega
          have hk0 : (0 : Int) ≤ (k : Int) := by omega
          obtain ⟨dr, hre, r0⟩ := Kd.at_int qr2 (k : Int) hk0 hkn
          subst hre
          rw [Int.toNat_natCast] at r0
          obtain ⟨a, ea, hai, ham⟩ := hback.out i hlt k hkl
          rw [ea] at r0
          have han : (a : Int) < (l.length : Int) := by omega
          have ha0 : (0 : Int) ≤ (a : Int) := by omega
          have ha1 : ¬ (a : Int) < 0 := by omega
          have ha2 : ¬ (i : Int) ≤ (a : Int) := by omega
          obtain ⟨dh2, hhe, h1⟩ := Kd.at_int hI.out.hH (i : Int) hi0 hin
          obtain rfl : dh = dh2 := Option.some.inj hhe
          clear hhe
          obtain ⟨dh2, hhe, h0⟩ := Kd.at_int hI.out.hH (a : Int) ha0 han
          obtain rfl : dh = dh2 := Option.some.inj hhe
          clear hhe
          rw [Int.toNat_natCast] at h0 h1
          rw [hy'.out] at h1
          obtain ⟨dl2, Al, cl, hle, l0, l1, l2, l3, l4, l5, ll, ql⟩ := at_T37 hI.out.hl (a : Int) ha0 han
          obtain rfl : dl = dl2 := Option.some.inj hle
          clear hle
          rw [Int.toNat_natCast] at l0 l1 l2 l3 l4 l5
          have hrw := HH.out.row i hlt a ham
          rw [hy'.out] at hrw
          have hup := HH.out.up i hlt
          rw [hy'.out] at hup
          have hlr2 := latOf_range (rd_T37 l (a : Int))
          have Hlx : Aside0 (latOf (rd_T37 l (a : Int)) = lt_ l a) := ⟨rfl⟩
          rw [Hlx.out] at hlr2
          generalize rd H (a : Int) = ha at h0 hrw
          generalize lt_ l a = lata at hrw hlr2 Hlx
          generalize rd_T37 l (a : Int) = x at l0 l1 l2 l3 l4 l5 ll ql Hlx
          have hhh : ¬ ha < hi + lata := by omega
          have hprev : Aside0 (0 < k → ∃ pv, wr.cell? (dr.add (k - 1)) = some (.int .i64 pv) ∧ ¬ (a : Int) ≤ pv) := ⟨fun hk => by
            obtain ⟨dr2, hre, r1⟩ := Kd.at_int qr2 ((k - 1 : Nat) : Int) (by omega) (by omega)
            obtain rfl : dr = dr2 := Option.some.inj hre
            rw [Int.toNat_natCast] at r1
            refine ⟨_, r1, ?_⟩
            have := hsort.out i hlt (k - 1) (by omega)
            rw [show k - 1 + 1 = k by omega, ea] at this
            omega⟩
          have hrmax := Aside0.mk (Kd.C_max qr2)
          clear hai ham ea hrw qr2
          generalize hrl : (rd_L1 D (i : Int)).length = rl at q0 qr1 hkn hkl hrmax
          have hrl' := Aside0.mk hrl
          have hkb : (k : Int) ≤ 9223372036854775806 := by have := hrmax.out; omega
          clear hrl
          by_cases hkz : k = 0
          · have hkp : ¬ (0 : Int) < (k : Int) := by omega
            clear hprev hkz
            go_wp2_with fail
            refine start_ (n := 40) (S := fun w' => w'.cell? (dh.add a) = some (.int .i64 ha) ∧ w'.cell? (dh.add i) = some (.int .i64 hi) ∧ w'.cell? (dl.add (a * 6)) = some (.int .i64 x.f0) ∧ w'.cell? ⟨(dl.add (a * 6)).block, (dl.add (a * 6)).off + 1, none⟩ = some (.int .i64 x.f1) ∧ w'.cell? ⟨(dl.add (a * 6)).block, (dl.add (a * 6)).off + 2, none⟩ = some (.int .i64 x.f2) ∧ w'.cell? ⟨(dl.add (a * 6)).block, (dl.add (a * 6)).off + 3, none⟩ = some (.int .i64 x.f3) ∧ w'.cell? ⟨(dl.add (a * 6)).block, (dl.add (a * 6)).off + 4, none⟩ = some (.int .i64 x.f4) ∧ w'.cell? ⟨(dl.add (a * 6)).block, (dl.add (a * 6)).off + 5, none⟩ = some (.slice Al x.f5.length cl)) (ds := []) #[false, false, false, false, false, false, false, false, false, false, false, false, false, false, false, false, false, false, false, false, false, false, false, false, false, false, false, false, false, false, false, false, false, false, false, false, false, false, false, false] (by kernel_rfl) rfl rfl ⟨h0, h1, l0, l1, l2, l3, l4, l5⟩ (fun hHeld => ?_)
            have hd1 := pw_below_drewN (Below.refl wr.heap.size wr) 1
            have hJ := Aside0.mk (hI.out.below hd1)
            replace ql := Aside0.mk (Kd.C_below ql hd1)
            change Aside0 (LH _ _ _ _ _ _ _ _ wr.drew) at hJ
            change Aside0 (Kd.C _ wr.drew _ _ _) at ql
            clear hI hd1 h0 h1 l0 l1 l2 l3 l4 l5 q0 r0
            generalize wr.drew = W1 at hJ ql hHeld ⊢
            refine pure_ (i := 0) (N := some 75) (v := ?_) (a' := ?_) #[true, false, false, false, false, false, false, false, false, false, false, false, false, false, false, false, false, false, false, false, false, false, false, false, false, false, false, false, false, false, false, false, false, false, false, false, false, false, false, false] rfl rfl (by kernel_rfl) (fun _ _ _ h => h) (Or.inl ⟨by rfl, ?_⟩) ?_ ?_
            rotate_left
            · intro w'
              go_simp
              try with_reducible rfl
            rotate_left
            · simp only [Act.put, List.setIfInBounds_toArray, List.set_cons_zero, List.set_cons_succ, i64_w, i32_w]
              rfl
            refine pure_ (i := 1) (N := some 76) (v := .bool false) (a' := ?_) #[true, true, false, false, false, false, false, false, false, false, false, false, false, false, false, false, false, false, false, false, false, false, false, false, false, false, false, false, false, false, false, false, false, false, false, false, false, false, false, false] rfl rfl (by kernel_rfl) (fun _ _ _ h => h) (Or.inl ⟨by rfl, ?_⟩) ?_ ?_
            · intro w'
              go_simp
              first | done | (with_reducible rfl) | (simp only [*, decide_true, decide_false, if_true, if_false]; done) | (simp [*]; done) | omega | (unfold wrap64; omega)
            rotate_left
            · simp only [Act.put, List.setIfInBounds_toArray, List.set_cons_zero, List.set_cons_succ, i64_w, i32_w]
              rfl
            refine pure_ (i := 2) (N := some 77) (v := ?_) (a' := ?_) #[true, true, true, false, false, false, false, false, false, false, false, false, false, false, false, false, false, false, false, false, false, false, false, false, false, false, false, false, false, false, false, false, false, false, false, false, false, false, false, false] rfl rfl (by kernel_rfl) (fun _ _ _ h => h) (Or.inl ⟨by rfl, ?_⟩) ?_ ?_
            rotate_left
            · intro w'
              go_simp
              try with_reducible rfl
            rotate_left
            · simp only [Act.put, List.setIfInBounds_toArray, List.set_cons_zero, List.set_cons_succ, i64_w, i32_w]
              rfl
            refine pure_ (i := 3) (N := some 78) (v := ?_) (a' := ?_) #[true, true, true, true, false, false, false, false, false, false, false, false, false, false, false, false, false, false, false, false, false, false, false, false, false, false, false, false, false, false, false, false, false, false, false, false, false, false, false, false] rfl rfl (by kernel_rfl) (fun _ _ _ h => h) (Or.inl ⟨by rfl, ?_⟩) ?_ ?_
            rotate_left
            · intro w'
              go_simp
              try with_reducible rfl
            rotate_left
            · simp only [Act.put, List.setIfInBounds_toArray, List.set_cons_zero, List.set_cons_succ, i64_w, i32_w]
              rfl
            refine pure_ (i := 4) (N := some 79) (v := ?_) (a' := ?_) #[true, true, true, true, true, false, false, false, false, false, false, false, false, false, false, false, false, false, false, false, false, false, false, false, false, false, false, false, false, false, false, false, false, false, false, false, false, false, false, false] rfl rfl (by kernel_rfl) (fun _ _ _ h => h) (Or.inl ⟨by rfl, ?_⟩) ?_ ?_
            rotate_left
            · intro w'
              go_simp
              try with_reducible rfl
            rotate_left
            · simp only [Act.put, List.setIfInBounds_toArray, List.set_cons_zero, List.set_cons_succ, i64_w, i32_w]
              rfl
            refine pure_ (i := 5) (N := some 80) (v := .bool false) (a' := ?_) #[true, true, true, true, true, true, false, false, false, false, false, false, false, false, false, false, false, false, false, false, false, false, false, false, false, false, false, false, false, false, false, false, false, false, false, false, false, false, false, false] rfl rfl (by kernel_rfl) (fun _ _ _ h => h) (Or.inl ⟨by rfl, ?_⟩) ?_ ?_
            · intro w'
              go_simp
              first | done | (with_reducible rfl) | (simp only [*, decide_true, decide_false, if_true, if_false]; done) | (simp [*]; done) | omega | (unfold wrap64; omega)
            rotate_left
            · simp only [Act.put, List.setIfInBounds_toArray, List.set_cons_zero, List.set_cons_succ, i64_w, i32_w]
              rfl
            refine pure_ (i := 6) (N := some 81) (v := ?_) (a' := ?_) #[true, true, true, true, true, true, true, false, false, false, false, false, false, false, false, false, false, false, false, false, false, false, false, false, false, false, false, false, false, false, false, false, false, false, false, false, false, false, false, false] rfl rfl (by kernel_rfl) (fun _ _ _ h => h) (Or.inl ⟨by rfl, ?_⟩) ?_ ?_
            rotate_left
            · intro w'
              go_simp
              try with_reducible rfl
            rotate_left
            · simp only [Act.put, List.setIfInBounds_toArray, List.set_cons_zero, List.set_cons_succ, i64_w, i32_w]
              rfl
            refine pure_ (i := 7) (N := some 82) (v := ?_) (a' := ?_) #[true, true, true, true, true, true, true, true, false, false, false, false, false, false, false, false, false, false, false, false, false, false, false, false, false, false, false, false, false, false, false, false, false, false, false, false, false, false, false, false] rfl rfl (by kernel_rfl) (fun _ _ _ h => h) (Or.inl ⟨by rfl, ?_⟩) ?_ ?_
            rotate_left
            · intro w'
              go_simp
              try with_reducible rfl
            rotate_left
            · simp only [Act.put, List.setIfInBounds_toArray, List.set_cons_zero, List.set_cons_succ, i64_w, i32_w]
              rfl
            refine pure_ (i := 8) (N := some 83) (v := ?_) (a' := ?_) #[true, true, true, true, true, true, true, true, true, false, false, false, false, false, false, false, false, false, false, false, false, false, false, false, false, false, false, false, false, false, false, false, false, false, false, false, false, false, false, false] rfl rfl (by kernel_rfl) (fun _ _ _ h => h) (Or.inl ⟨by rfl, ?_⟩) ?_ ?_
            rotate_left
            · intro w'
              go_simp
              try with_reducible rfl
            rotate_left
            · simp only [Act.put, List.setIfInBounds_toArray, List.set_cons_zero, List.set_cons_succ, i64_w, i32_w]
              rfl
            refine pure_ (i := 9) (N := some 84) (v := ?_) (a' := ?_) #[true, true, true, true, true, true, true, true, true, true, false, false, false, false, false, false, false, false, false, false, false, false, false, false, false, false, false, false, false, false, false, false, false, false, false, false, false, false, false, false] rfl rfl (by kernel_rfl) (fun _ _ _ h => h) (Or.inl ⟨by rfl, ?_⟩) ?_ ?_
            rotate_left
            · intro w'
              go_simp
              try with_reducible rfl
            rotate_left
            · simp only [Act.put, List.setIfInBounds_toArray, List.set_cons_zero, List.set_cons_succ, i64_w, i32_w]
              rfl
            refine pure_ (i := 10) (N := some 85) (v := ?_) (a' := ?_) #[true, true, true, true, true, true, true, true, true, true, true, false, false, false, false, false, false, false, false, false, false, false, false, false, false, false, false, false, false, false, false, false, false, false, false, false, false, false, false, false] rfl rfl (by kernel_rfl) (fun _ _ _ h => h) (Or.inl ⟨by rfl, ?_⟩) ?_ ?_
            rotate_left
            · intro w'
              go_simp
              try with_reducible rfl
            rotate_left
            · simp only [Act.put, List.setIfInBounds_toArray, List.set_cons_zero, List.set_cons_succ, i64_w, i32_w]
              rfl
            refine pure_ (i := 12) (N := some 87) (v := ?_) (a' := ?_) #[true, true, true, true, true, true, true, true, true, true, true, false, true, false, false, false, false, false, false, false, false, false, false, false, false, false, false, false, false, false, false, false, false, false, false, false, false, false, false, false] rfl rfl (by kernel_rfl) (fun _ _ _ h => h) (Or.inl ⟨by rfl, ?_⟩) ?_ ?_
            rotate_left
            · intro w'
              go_simp
              try with_reducible rfl
            rotate_left
            · simp only [Act.put, List.setIfInBounds_toArray, List.set_cons_zero, List.set_cons_succ, i64_w, i32_w]
              rfl
            refine pure_ (i := 13) (N := some 88) (v := ?_) (a' := ?_) #[true, true, true, true, true, true, true, true, true, true, true, false, true, true, false, false, false, false, false, false, false, false, false, false, false, false, false, false, false, false, false, false, false, false, false, false, false, false, false, false] rfl rfl (by kernel_rfl) (fun _ _ _ h => h) (Or.inl ⟨by rfl, ?_⟩) ?_ ?_
            rotate_left
            · intro w'
              go_simp
              try with_reducible rfl
            rotate_left
            · simp only [Act.put, List.setIfInBounds_toArray, List.set_cons_zero, List.set_cons_succ, i64_w, i32_w]
              rfl
            refine pure_ (i := 14) (N := some 89) (v := ?_) (a' := ?_) #[true, true, true, true, true, true, true, true, true, true, true, false, true, true, true, false, false, false, false, false, false, false, false, false, false, false, false, false, false, false, false, false, false, false, false, false, false, false, false, false] rfl rfl (by kernel_rfl) (fun _ _ _ h => h) (Or.inl ⟨by rfl, ?_⟩) ?_ ?_
            rotate_left
            · intro w'
              go_simp
              try with_reducible rfl
            rotate_left
            · simp only [Act.put, List.setIfInBounds_toArray, List.set_cons_zero, List.set_cons_succ, i64_w, i32_w]
              rfl
            refine pure_ (i := 16) (N := some 91) (v := ?_) (a' := ?_) #[true, true, true, true, true, true, true, true, true, true, true, false, true, true, true, false, true, false, false, false, false, false, false, false, false, false, false, false, false, false, false, false, false, false, false, false, false, false, false, false] rfl rfl (by kernel_rfl) (fun _ _ _ h => h) (Or.inl ⟨by rfl, ?_⟩) ?_ ?_
            rotate_left
            · intro w'
              go_simp
              try with_reducible rfl
            rotate_left
            · simp only [Act.put, List.setIfInBounds_toArray, List.set_cons_zero, List.set_cons_succ, i64_w, i32_w]
              rfl
            refine pure_ (i := 17) (N := some 92) (v := ?_) (a' := ?_) #[true, true, true, true, true, true, true, true, true, true, true, false, true, true, true, false, true, true, false, false, false, false, false, false, false, false, false, false, false, false, false, false, false, false, false, false, false, false, false, false] rfl rfl (by kernel_rfl) (fun _ _ _ h => h) (Or.inl ⟨by rfl, ?_⟩) ?_ ?_
            rotate_left
            · intro w'
              go_simp
              try with_reducible rfl
            rotate_left
            · simp only [Act.put, List.setIfInBounds_toArray, List.set_cons_zero, List.set_cons_succ, i64_w, i32_w]
              rfl
            refine pure_ (i := 18) (N := some 93) (v := ?_) (a' := ?_) #[true, true, true, true, true, true, true, true, true, true, true, false, true, true, true, false, true, true, true, false, false, false, false, false, false, false, false, false, false, false, false, false, false, false, false, false, false, false, false, false] rfl rfl (by kernel_rfl) (fun _ _ _ h => h) (Or.inl ⟨by rfl, ?_⟩) ?_ ?_
            rotate_left
            · intro w'
              go_simp
              try with_reducible rfl
            rotate_left
            · simp only [Act.put, List.setIfInBounds_toArray, List.set_cons_zero, List.set_cons_succ, i64_w, i32_w]
              rfl
            refine take_ (i := 11) (N := some 86) (v := ?_) (a' := ?_) #[true, true, true, true, true, true, true, true, true, true, true, true, true, true, true, false, true, true, true, false, false, false, false, false, false, false, false, false, false, false, false, false, false, false, false, false, false, false, false, false] rfl rfl (by kernel_rfl) (fun _ _ _ h => h) (Or.inl ⟨by rfl, ?_⟩) hHeld ?_ ?_
            rotate_left
            · rintro w' ⟨s0, s1, s2, s3, s4, s5, s6, s7⟩
              go_simp
              try with_reducible rfl
            rotate_left
            · simp only [Act.put, List.setIfInBounds_toArray, List.set_cons_zero, List.set_cons_succ, i64_w, i32_w]
              rfl
            refine take_ (i := 15) (N := some 90) (v := ?_) (a' := ?_) #[true, true, true, true, true, true, true, true, true, true, true, true, true, true, true, true, true, true, true, false, false, false, false, false, false, false, false, false, false, false, false, false, false, false, false, false, false, false, false, false] rfl rfl (by kernel_rfl) (fun _ _ _ h => h) (Or.inl ⟨by rfl, ?_⟩) hHeld ?_ ?_
            rotate_left
            · rintro w' ⟨s0, s1, s2, s3, s4, s5, s6, s7⟩
              go_simp
              try with_reducible rfl
            rotate_left
            · simp only [Act.put, List.setIfInBounds_toArray, List.set_cons_zero, List.set_cons_succ, i64_w, i32_w]
              rfl
            refine take_ (i := 19) (N := some 94) (v := ?_) (a' := ?_) #[true, true, true, true, true, true, true, true, true, true, true, true, true, true, true, true, true, true, true, true, false, false, false, false, false, false, false, false, false, false, false, false, false, false, false, false, false, false, false, false] rfl rfl (by kernel_rfl) (fun _ _ _ h => h) (Or.inl ⟨by rfl, ?_⟩) hHeld ?_ ?_
            rotate_left
            · rintro w' ⟨s0, s1, s2, s3, s4, s5, s6, s7⟩
              go_simp
              try with_reducible rfl
            rotate_left
            · simp only [Act.put, List.setIfInBounds_toArray, List.set_cons_zero, List.set_cons_succ, i64_w, i32_w]
              rfl
            refine one_ (i := 20) (N := some 95) #[true, true, true, true, true, true, true, true, true, true, true, true, true, true, true, true, true, true, true, true, true, false, false, false, false, false, false, false, false, false, false, false, false, false, false, false, false, false, false, false] rfl rfl (by kernel_rfl) (by decide) (fun K hK => ?_)
            refine call_ 14 _ (by rfl) rfl (by go_simp; rfl) ?_
            refine (lat_c x _ Al cl _ (ql.out) ll Hlx.out).mono ?_
            rintro e w2 ⟨rfl, hb2⟩
            refine ⟨_, rfl, ?_⟩
            have hJ2 := Aside0.mk (hJ.out.below hb2)
            have ql2 := Aside0.mk (Kd.C_below ql.out hb2)
            refine hK.out _ _ ⟨pw_cell_below hb2 hHeld.1, pw_cell_below hb2 hHeld.2.1, pw_cell_below hb2 hHeld.2.2.1, pw_cell_below hb2 hHeld.2.2.2.1, pw_cell_below hb2 hHeld.2.2.2.2.1, pw_cell_below hb2 hHeld.2.2.2.2.2.1, pw_cell_below hb2 hHeld.2.2.2.2.2.2.1, pw_cell_below hb2 hHeld.2.2.2.2.2.2.2⟩ (fun hHeld => ?_)
            clear hJ ql
            have hJ := hJ2
            have ql := ql2
            clear hJ2 ql2 hb2
            clear hK K
            refine norm_ (a' := ?_) ?_ ?_
            rotate_left
            · show Act.put _ (some 95) _ = _
              simp only [Act.put, List.setIfInBounds_toArray, List.set_cons_zero, List.set_cons_succ, i64_w, i32_w]
              rfl
            refine pure_ (i := 21) (N := some 96) (v := ?_) (a' := ?_) #[true, true, true, true, true, true, true, true, true, true, true, true, true, true, true, true, true, true, true, true, true, true, false, false, false, false, false, false, false, false, false, false, false, false, false, false, false, false, false, false] rfl rfl (by kernel_rfl) (fun _ _ _ h => h) (Or.inl ⟨by rfl, ?_⟩) ?_ ?_
            rotate_left
            · intro w'
              go_simp
              try with_reducible rfl
            rotate_left
            · simp only [Act.put, List.setIfInBounds_toArray, List.set_cons_zero, List.set_cons_succ, i64_w, i32_w]
              rfl
            refine pure_ (i := 22) (N := some 97) (v := .bool false) (a' := ?_) #[true, true, true, true, true, true, true, true, true, true, true, true, true, true, true, true, true, true, true, true, true, true, true, false, false, false, false, false, false, false, false, false, false, false, false, false, false, false, false, false] rfl rfl (by kernel_rfl) (fun _ _ _ h => h) (Or.inl ⟨by rfl, ?_⟩) ?_ ?_
            · intro w'
              go_simp
              first | done | (with_reducible rfl) | (simp only [*, decide_true, decide_false, if_true, if_false]; done) | (simp [*]; done) | omega | (unfold wrap64; omega)
            rotate_left
            · simp only [Act.put, List.setIfInBounds_toArray, List.set_cons_zero, List.set_cons_succ, i64_w, i32_w]
              rfl
            refine pure_ (i := 23) (N := some 98) (v := ?_) (a' := ?_) #[true, true, true, true, true, true, true, true, true, true, true, true, true, true, true, true, true, true, true, true, true, true, true, true, false, false, false, false, false, false, false, false, false, false, false, false, false, false, false, false] rfl rfl (by kernel_rfl) (fun _ _ _ h => h) (Or.inl ⟨by rfl, ?_⟩) ?_ ?_
            rotate_left
            · intro w'
              go_simp
              try with_reducible rfl
            rotate_left
            · simp only [Act.put, List.setIfInBounds_toArray, List.set_cons_zero, List.set_cons_succ, i64_w, i32_w]
              rfl
            refine pure_ (i := 24) (N := some 99) (v := ?_) (a' := ?_) #[true, true, true, true, true, true, true, true, true, true, true, true, true, true, true, true, true, true, true, true, true, true, true, true, true, false, false, false, false, false, false, false, false, false, false, false, false, false, false, false] rfl rfl (by kernel_rfl) (fun _ _ _ h => h) (Or.inl ⟨by rfl, ?_⟩) ?_ ?_
            rotate_left
            · intro w'
              go_simp
              try with_reducible rfl
            rotate_left
            · simp only [Act.put, List.setIfInBounds_toArray, List.set_cons_zero, List.set_cons_succ, i64_w, i32_w]
              rfl
            refine pure_ (i := 25) (N := some 100) (v := ?_) (a' := ?_) #[true, true, true, true, true, true, true, true, true, true, true, true, true, true, true, true, true, true, true, true, true, true, true, true, true, true, false, false, false, false, false, false, false, false, false, false, false, false, false, false] rfl rfl (by kernel_rfl) (fun _ _ _ h => h) (Or.inl ⟨by rfl, ?_⟩) ?_ ?_
            rotate_left
            · intro w'
              go_simp
              try with_reducible rfl
            rotate_left
            · simp only [Act.put, List.setIfInBounds_toArray, List.set_cons_zero, List.set_cons_succ, i64_w, i32_w]
              rfl
            refine pure_ (i := 26) (N := some 101) (v := .bool false) (a' := ?_) #[true, true, true, true, true, true, true, true, true, true, true, true, true, true, true, true, true, true, true, true, true, true, true, true, true, true, true, false, false, false, false, false, false, false, false, false, false, false, false, false] rfl rfl (by kernel_rfl) (fun _ _ _ h => h) (Or.inl ⟨by rfl, ?_⟩) ?_ ?_
            · intro w'
              go_simp
              first | done | (with_reducible rfl) | (simp only [*, decide_true, decide_false, if_true, if_false]; done) | (simp [*]; done) | omega | (unfold wrap64; omega)
            rotate_left
            · simp only [Act.put, List.setIfInBounds_toArray, List.set_cons_zero, List.set_cons_succ, i64_w, i32_w]
              rfl
            refine pure_ (i := 27) (N := some 102) (v := ?_) (a' := ?_) #[true, true, true, true, true, true, true, true, true, true, true, true, true, true, true, true, true, true, true, true, true, true, true, true, true, true, true, true, false, false, false, false, false, false, false, false, false, false, false, false] rfl rfl (by kernel_rfl) (fun _ _ _ h => h) (Or.inl ⟨by rfl, ?_⟩) ?_ ?_
            rotate_left
            · intro w'
              go_simp
              try with_reducible rfl
            rotate_left
            · simp only [Act.put, List.setIfInBounds_toArray, List.set_cons_zero, List.set_cons_succ, i64_w, i32_w]
              rfl
            refine pure_ (i := 28) (N := some 103) (v := undef) (a' := ?_) #[true, true, true, true, true, true, true, true, true, true, true, true, true, true, true, true, true, true, true, true, true, true, true, true, true, true, true, true, true, false, false, false, false, false, false, false, false, false, false, false] rfl rfl (by kernel_rfl) (fun _ _ _ h => h) (Or.inr ⟨by rfl, rfl⟩) ?_ ?_
            rotate_left
            · simp only [Act.put, List.setIfInBounds_toArray, List.set_cons_zero, List.set_cons_succ, i64_w, i32_w]
              rfl
            refine pure_ (i := 29) (N := some 104) (v := undef) (a' := ?_) #[true, true, true, true, true, true, true, true, true, true, true, true, true, true, true, true, true, true, true, true, true, true, true, true, true, true, true, true, true, true, false, false, false, false, false, false, false, false, false, false] rfl rfl (by kernel_rfl) (fun _ _ _ h => h) (Or.inr ⟨by rfl, rfl⟩) ?_ ?_
            rotate_left
            · simp only [Act.put, List.setIfInBounds_toArray, List.set_cons_zero, List.set_cons_succ, i64_w, i32_w]
              rfl
            refine pure_ (i := 30) (N := some 105) (v := undef) (a' := ?_) #[true, true, true, true, true, true, true, true, true, true, true, true, true, true, true, true, true, true, true, true, true, true, true, true, true, true, true, true, true, true, true, false, false, false, false, false, false, false, false, false] rfl rfl (by kernel_rfl) (fun _ _ _ h => h) (Or.inr ⟨by rfl, rfl⟩) ?_ ?_
            rotate_left
            · simp only [Act.put, List.setIfInBounds_toArray, List.set_cons_zero, List.set_cons_succ, i64_w, i32_w]
              rfl
            refine pure_ (i := 31) (N := some 106) (v := undef) (a' := ?_) #[true, true, true, true, true, true, true, true, true, true, true, true, true, true, true, true, true, true, true, true, true, true, true, true, true, true, true, true, true, true, true, true, false, false, false, false, false, false, false, false] rfl rfl (by kernel_rfl) (fun _ _ _ h => h) (Or.inr ⟨by rfl, rfl⟩) ?_ ?_
            rotate_left
            · simp only [Act.put, List.setIfInBounds_toArray, List.set_cons_zero, List.set_cons_succ, i64_w, i32_w]
              rfl
            refine pure_ (i := 32) (N := some 107) (v := undef) (a' := ?_) #[true, true, true, true, true, true, true, true, true, true, true, true, true, true, true, true, true, true, true, true, true, true, true, true, true, true, true, true, true, true, true, true, true, false, false, false, false, false, false, false] rfl rfl (by kernel_rfl) (fun _ _ _ h => h) (Or.inr ⟨by rfl, rfl⟩) ?_ ?_
            rotate_left
            · simp only [Act.put, List.setIfInBounds_toArray, List.set_cons_zero, List.set_cons_succ, i64_w, i32_w]
              rfl
            refine pure_ (i := 33) (N := some 108) (v := undef) (a' := ?_) #[true, true, true, true, true, true, true, true, true, true, true, true, true, true, true, true, true, true, true, true, true, true, true, true, true, true, true, true, true, true, true, true, true, true, false, false, false, false, false, false] rfl rfl (by kernel_rfl) (fun _ _ _ h => h) (Or.inr ⟨by rfl, rfl⟩) ?_ ?_
            rotate_left
            · simp only [Act.put, List.setIfInBounds_toArray, List.set_cons_zero, List.set_cons_succ, i64_w, i32_w]
              rfl
            refine pure_ (i := 34) (N := some 109) (v := undef) (a' := ?_) #[true, true, true, true, true, true, true, true, true, true, true, true, true, true, true, true, true, true, true, true, true, true, true, true, true, true, true, true, true, true, true, true, true, true, true, false, false, false, false, false] rfl rfl (by kernel_rfl) (fun _ _ _ h => h) (Or.inr ⟨by rfl, rfl⟩) ?_ ?_
            rotate_left
            · simp only [Act.put, List.setIfInBounds_toArray, List.set_cons_zero, List.set_cons_succ, i64_w, i32_w]
              rfl
            refine pure_ (i := 35) (N := some 110) (v := undef) (a' := ?_) #[true, true, true, true, true, true, true, true, true, true, true, true, true, true, true, true, true, true, true, true, true, true, true, true, true, true, true, true, true, true, true, true, true, true, true, true, false, false, false, false] rfl rfl (by kernel_rfl) (fun _ _ _ h => h) (Or.inr ⟨by rfl, rfl⟩) ?_ ?_
            rotate_left
            · simp only [Act.put, List.setIfInBounds_toArray, List.set_cons_zero, List.set_cons_succ, i64_w, i32_w]
              rfl
            refine pure_ (i := 36) (N := some 111) (v := undef) (a' := ?_) #[true, true, true, true, true, true, true, true, true, true, true, true, true, true, true, true, true, true, true, true, true, true, true, true, true, true, true, true, true, true, true, true, true, true, true, true, true, false, false, false] rfl rfl (by kernel_rfl) (fun _ _ _ h => h) (Or.inr ⟨by rfl, rfl⟩) ?_ ?_
            rotate_left
            · simp only [Act.put, List.setIfInBounds_toArray, List.set_cons_zero, List.set_cons_succ, i64_w, i32_w]
              rfl
            refine pure_ (i := 37) (N := some 112) (v := undef) (a' := ?_) #[true, true, true, true, true, true, true, true, true, true, true, true, true, true, true, true, true, true, true, true, true, true, true, true, true, true, true, true, true, true, true, true, true, true, true, true, true, true, false, false] rfl rfl (by kernel_rfl) (fun _ _ _ h => h) (Or.inr ⟨by rfl, rfl⟩) ?_ ?_
            rotate_left
            · simp only [Act.put, List.setIfInBounds_toArray, List.set_cons_zero, List.set_cons_succ, i64_w, i32_w]
              rfl
            refine pure_ (i := 38) (N := some 113) (v := ?_) (a' := ?_) #[true, true, true, true, true, true, true, true, true, true, true, true, true, true, true, true, true, true, true, true, true, true, true, true, true, true, true, true, true, true, true, true, true, true, true, true, true, true, true, false] rfl rfl (by kernel_rfl) (fun _ _ _ h => h) (Or.inl ⟨by rfl, ?_⟩) ?_ ?_
            rotate_left
            · intro w'
              go_simp
              try with_reducible rfl
            rotate_left
            · simp only [Act.put, List.setIfInBounds_toArray, List.set_cons_zero, List.set_cons_succ, i64_w, i32_w]
              rfl
            refine pure_ (i := 39) (N := some 114) (v := ?_) (a' := ?_) #[true, true, true, true, true, true, true, true, true, true, true, true, true, true, true, true, true, true, true, true, true, true, true, true, true, true, true, true, true, true, true, true, true, true, true, true, true, true, true, true] rfl rfl (by kernel_rfl) (fun _ _ _ h => h) (Or.inl ⟨by rfl, ?_⟩) ?_ ?_
            rotate_left
            · intro w'
              go_simp
              try with_reducible rfl
            rotate_left
            · simp only [Act.put, List.setIfInBounds_toArray, List.set_cons_zero, List.set_cons_succ, i64_w, i32_w]
              rfl
            refine done_ (by kernel_rfl) ?_
            try go_wp2
            go_roundw
            case rel => exact ⟨k + 1, by have := hrl'.out; omega, by go_num, hJ⟩
            case measure => have := hrl'.out; simp [intOf]; omega
          · have hkp : (0 : Int) < (k : Int) := by omega
            obtain ⟨pv, q1, hpv⟩ := hprev.out (by omega)
            clear hprev
            have hkm0 : (0 : Int) ≤ (k : Int) - 1 := by omega
            have hkm1 : ((k - 1 : Nat) : Int) < (rl : Int) := by omega
            have hkw : wrap64 ((k : Int) - 1) = ((k - 1 : Nat) : Int) := by have := hrmax.out; unfold wrap64; omega
            go_wp2_with fail
            refine start_ (n := 40) (S := fun w' => w'.cell? (dh.add a) = some (.int .i64 ha) ∧ w'.cell? (dh.add i) = some (.int .i64 hi) ∧ w'.cell? (dl.add (a * 6)) = some (.int .i64 x.f0) ∧ w'.cell? ⟨(dl.add (a * 6)).block, (dl.add (a * 6)).off + 1, none⟩ = some (.int .i64 x.f1) ∧ w'.cell? ⟨(dl.add (a * 6)).block, (dl.add (a * 6)).off + 2, none⟩ = some (.int .i64 x.f2) ∧ w'.cell? ⟨(dl.add (a * 6)).block, (dl.add (a * 6)).off + 3, none⟩ = some (.int .i64 x.f3) ∧ w'.cell? ⟨(dl.add (a * 6)).block, (dl.add (a * 6)).off + 4, none⟩ = some (.int .i64 x.f4) ∧ w'.cell? ⟨(dl.add (a * 6)).block, (dl.add (a * 6)).off + 5, none⟩ = some (.slice Al x.f5.length cl) ∧ w'.cell? (dd.add i) = some (.slice (some dr) rl cr) ∧ w'.cell? (dr.add (k - 1)) = some (.int .i64 pv)) (ds := []) #[false, false, false, false, false, false, false, false, false, false, false, false, false, false, false, false, false, false, false, false, false, false, false, false, false, false, false, false, false, false, false, false, false, false, false, false, false, false, false, false] (by kernel_rfl) rfl rfl ⟨h0, h1, l0, l1, l2, l3, l4, l5, q0, q1⟩ (fun hHeld => ?_)
            have hd1 := pw_below_drewN (Below.refl wr.heap.size wr) 1
            have hJ := Aside0.mk (hI.out.below hd1)
            replace ql := Aside0.mk (Kd.C_below ql hd1)
            change Aside0 (LH _ _ _ _ _ _ _ _ wr.drew) at hJ
            change Aside0 (Kd.C _ wr.drew _ _ _) at ql
            clear hI hd1 h0 h1 l0 l1 l2 l3 l4 l5 q0 q1 r0
            generalize wr.drew = W1 at hJ ql hHeld ⊢
            refine pure_ (i := 0) (N := some 75) (v := ?_) (a' := ?_) #[true, false, false, false, false, false, false, false, false, false, false, false, false, false, false, false, false, false, false, false, false, false, false, false, false, false, false, false, false, false, false, false, false, false, false, false, false, false, false, false] rfl rfl (by kernel_rfl) (fun _ _ _ h => h) (Or.inl ⟨by rfl, ?_⟩) ?_ ?_
            rotate_left
            · intro w'
              go_simp
              try with_reducible rfl
            rotate_left
            · simp only [Act.put, List.setIfInBounds_toArray, List.set_cons_zero, List.set_cons_succ, i64_w, i32_w]
              rfl
            refine pure_ (i := 1) (N := some 76) (v := .bool false) (a' := ?_) #[true, true, false, false, false, false, false, false, false, false, false, false, false, false, false, false, false, false, false, false, false, false, false, false, false, false, false, false, false, false, false, false, false, false, false, false, false, false, false, false] rfl rfl (by kernel_rfl) (fun _ _ _ h => h) (Or.inl ⟨by rfl, ?_⟩) ?_ ?_
            · intro w'
              go_simp
              first | done | (with_reducible rfl) | (simp only [*, decide_true, decide_false, if_true, if_false]; done) | (simp [*]; done) | omega | (unfold wrap64; omega)
            rotate_left
            · simp only [Act.put, List.setIfInBounds_toArray, List.set_cons_zero, List.set_cons_succ, i64_w, i32_w]
              rfl
            refine pure_ (i := 2) (N := some 77) (v := ?_) (a' := ?_) #[true, true, true, false, false, false, false, false, false, false, false, false, false, false, false, false, false, false, false, false, false, false, false, false, false, false, false, false, false, false, false, false, false, false, false, false, false, false, false, false] rfl rfl (by kernel_rfl) (fun _ _ _ h => h) (Or.inl ⟨by rfl, ?_⟩) ?_ ?_
            rotate_left
            · intro w'
              go_simp
              try with_reducible rfl
            rotate_left
            · simp only [Act.put, List.setIfInBounds_toArray, List.set_cons_zero, List.set_cons_succ, i64_w, i32_w]
              rfl
            refine pure_ (i := 3) (N := some 78) (v := ?_) (a' := ?_) #[true, true, true, true, false, false, false, false, false, false, false, false, false, false, false, false, false, false, false, false, false, false, false, false, false, false, false, false, false, false, false, false, false, false, false, false, false, false, false, false] rfl rfl (by kernel_rfl) (fun _ _ _ h => h) (Or.inl ⟨by rfl, ?_⟩) ?_ ?_
            rotate_left
            · intro w'
              go_simp
              try with_reducible rfl
            rotate_left
            · simp only [Act.put, List.setIfInBounds_toArray, List.set_cons_zero, List.set_cons_succ, i64_w, i32_w]
              rfl
            refine pure_ (i := 4) (N := some 79) (v := ?_) (a' := ?_) #[true, true, true, true, true, false, false, false, false, false, false, false, false, false, false, false, false, false, false, false, false, false, false, false, false, false, false, false, false, false, false, false, false, false, false, false, false, false, false, false] rfl rfl (by kernel_rfl) (fun _ _ _ h => h) (Or.inl ⟨by rfl, ?_⟩) ?_ ?_
            rotate_left
            · intro w'
              go_simp
              try with_reducible rfl
            rotate_left
            · simp only [Act.put, List.setIfInBounds_toArray, List.set_cons_zero, List.set_cons_succ, i64_w, i32_w]
              rfl
            refine pure_ (i := 5) (N := some 80) (v := .bool false) (a' := ?_) #[true, true, true, true, true, true, false, false, false, false, false, false, false, false, false, false, false, false, false, false, false, false, false, false, false, false, false, false, false, false, false, false, false, false, false, false, false, false, false, false] rfl rfl (by kernel_rfl) (fun _ _ _ h => h) (Or.inl ⟨by rfl, ?_⟩) ?_ ?_
            · intro w'
              go_simp
              first | done | (with_reducible rfl) | (simp only [*, decide_true, decide_false, if_true, if_false]; done) | (simp [*]; done) | omega | (unfold wrap64; omega)
            rotate_left
            · simp only [Act.put, List.setIfInBounds_toArray, List.set_cons_zero, List.set_cons_succ, i64_w, i32_w]
              rfl
            refine pure_ (i := 6) (N := some 81) (v := ?_) (a' := ?_) #[true, true, true, true, true, true, true, false, false, false, false, false, false, false, false, false, false, false, false, false, false, false, false, false, false, false, false, false, false, false, false, false, false, false, false, false, false, false, false, false] rfl rfl (by kernel_rfl) (fun _ _ _ h => h) (Or.inl ⟨by rfl, ?_⟩) ?_ ?_
            rotate_left
            · intro w'
              go_simp
              try with_reducible rfl
            rotate_left
            · simp only [Act.put, List.setIfInBounds_toArray, List.set_cons_zero, List.set_cons_succ, i64_w, i32_w]
              rfl
            refine pure_ (i := 7) (N := some 82) (v := ?_) (a' := ?_) #[true, true, true, true, true, true, true, true, false, false, false, false, false, false, false, false, false, false, false, false, false, false, false, false, false, false, false, false, false, false, false, false, false, false, false, false, false, false, false, false] rfl rfl (by kernel_rfl) (fun _ _ _ h => h) (Or.inl ⟨by rfl, ?_⟩) ?_ ?_
            rotate_left
            · intro w'
              go_simp
              try with_reducible rfl
            rotate_left
            · simp only [Act.put, List.setIfInBounds_toArray, List.set_cons_zero, List.set_cons_succ, i64_w, i32_w]
              rfl
            refine pure_ (i := 8) (N := some 83) (v := ?_) (a' := ?_) #[true, true, true, true, true, true, true, true, true, false, false, false, false, false, false, false, false, false, false, false, false, false, false, false, false, false, false, false, false, false, false, false, false, false, false, false, false, false, false, false] rfl rfl (by kernel_rfl) (fun _ _ _ h => h) (Or.inl ⟨by rfl, ?_⟩) ?_ ?_
            rotate_left
            · intro w'
              go_simp
              try with_reducible rfl
            rotate_left
            · simp only [Act.put, List.setIfInBounds_toArray, List.set_cons_zero, List.set_cons_succ, i64_w, i32_w]
              rfl
            refine pure_ (i := 9) (N := some 84) (v := ?_) (a' := ?_) #[true, true, true, true, true, true, true, true, true, true, false, false, false, false, false, false, false, false, false, false, false, false, false, false, false, false, false, false, false, false, false, false, false, false, false, false, false, false, false, false] rfl rfl (by kernel_rfl) (fun _ _ _ h => h) (Or.inl ⟨by rfl, ?_⟩) ?_ ?_
            rotate_left
            · intro w'
              go_simp
              try with_reducible rfl
            rotate_left
            · simp only [Act.put, List.setIfInBounds_toArray, List.set_cons_zero, List.set_cons_succ, i64_w, i32_w]
              rfl
            refine pure_ (i := 10) (N := some 85) (v := ?_) (a' := ?_) #[true, true, true, true, true, true, true, true, true, true, true, false, false, false, false, false, false, false, false, false, false, false, false, false, false, false, false, false, false, false, false, false, false, false, false, false, false, false, false, false] rfl rfl (by kernel_rfl) (fun _ _ _ h => h) (Or.inl ⟨by rfl, ?_⟩) ?_ ?_
            rotate_left
            · intro w'
              go_simp
              try with_reducible rfl
            rotate_left
            · simp only [Act.put, List.setIfInBounds_toArray, List.set_cons_zero, List.set_cons_succ, i64_w, i32_w]
              rfl
            refine pure_ (i := 12) (N := some 87) (v := ?_) (a' := ?_) #[true, true, true, true, true, true, true, true, true, true, true, false, true, false, false, false, false, false, false, false, false, false, false, false, false, false, false, false, false, false, false, false, false, false, false, false, false, false, false, false] rfl rfl (by kernel_rfl) (fun _ _ _ h => h) (Or.inl ⟨by rfl, ?_⟩) ?_ ?_
            rotate_left
            · intro w'
              go_simp
              try with_reducible rfl
            rotate_left
            · simp only [Act.put, List.setIfInBounds_toArray, List.set_cons_zero, List.set_cons_succ, i64_w, i32_w]
              rfl
            refine pure_ (i := 13) (N := some 88) (v := ?_) (a' := ?_) #[true, true, true, true, true, true, true, true, true, true, true, false, true, true, false, false, false, false, false, false, false, false, false, false, false, false, false, false, false, false, false, false, false, false, false, false, false, false, false, false] rfl rfl (by kernel_rfl) (fun _ _ _ h => h) (Or.inl ⟨by rfl, ?_⟩) ?_ ?_
            rotate_left
            · intro w'
              go_simp
              try with_reducible rfl
            rotate_left
            · simp only [Act.put, List.setIfInBounds_toArray, List.set_cons_zero, List.set_cons_succ, i64_w, i32_w]
              rfl
            refine pure_ (i := 14) (N := some 89) (v := ?_) (a' := ?_) #[true, true, true, true, true, true, true, true, true, true, true, false, true, true, true, false, false, false, false, false, false, false, false, false, false, false, false, false, false, false, false, false, false, false, false, false, false, false, false, false] rfl rfl (by kernel_rfl) (fun _ _ _ h => h) (Or.inl ⟨by rfl, ?_⟩) ?_ ?_
            rotate_left
            · intro w'
              go_simp
              try with_reducible rfl
            rotate_left
            · simp only [Act.put, List.setIfInBounds_toArray, List.set_cons_zero, List.set_cons_succ, i64_w, i32_w]
              rfl
            refine pure_ (i := 16) (N := some 91) (v := ?_) (a' := ?_) #[true, true, true, true, true, true, true, true, true, true, true, false, true, true, true, false, true, false, false, false, false, false, false, false, false, false, false, false, false, false, false, false, false, false, false, false, false, false, false, false] rfl rfl (by kernel_rfl) (fun _ _ _ h => h) (Or.inl ⟨by rfl, ?_⟩) ?_ ?_
            rotate_left
            · intro w'
              go_simp
              try with_reducible rfl
            rotate_left
            · simp only [Act.put, List.setIfInBounds_toArray, List.set_cons_zero, List.set_cons_succ, i64_w, i32_w]
              rfl
            refine pure_ (i := 17) (N := some 92) (v := ?_) (a' := ?_) #[true, true, true, true, true, true, true, true, true, true, true, false, true, true, true, false, true, true, false, false, false, false, false, false, false, false, false, false, false, false, false, false, false, false, false, false, false, false, false, false] rfl rfl (by kernel_rfl) (fun _ _ _ h => h) (Or.inl ⟨by rfl, ?_⟩) ?_ ?_
            rotate_left
            · intro w'
              go_simp
              try with_reducible rfl
            rotate_left
            · simp only [Act.put, List.setIfInBounds_toArray, List.set_cons_zero, List.set_cons_succ, i64_w, i32_w]
              rfl
            refine pure_ (i := 18) (N := some 93) (v := ?_) (a' := ?_) #[true, true, true, true, true, true, true, true, true, true, true, false, true, true, true, false, true, true, true, false, false, false, false, false, false, false, false, false, false, false, false, false, false, false, false, false, false, false, false, false] rfl rfl (by kernel_rfl) (fun _ _ _ h => h) (Or.inl ⟨by rfl, ?_⟩) ?_ ?_
            rotate_left
            · intro w'
              go_simp
              try with_reducible rfl
            rotate_left
            · simp only [Act.put, List.setIfInBounds_toArray, List.set_cons_zero, List.set_cons_succ, i64_w, i32_w]
              rfl
            refine take_ (i := 11) (N := some 86) (v := ?_) (a' := ?_) #[true, true, true, true, true, true, true, true, true, true, true, true, true, true, true, false, true, true, true, false, false, false, false, false, false, false, false, false, false, false, false, false, false, false, false, false, false, false, false, false] rfl rfl (by kernel_rfl) (fun _ _ _ h => h) (Or.inl ⟨by rfl, ?_⟩) hHeld ?_ ?_
            rotate_left
            · rintro w' ⟨s0, s1, s2, s3, s4, s5, s6, s7, s8, s9⟩
              go_simp
              try with_reducible rfl
            rotate_left
            · simp only [Act.put, List.setIfInBounds_toArray, List.set_cons_zero, List.set_cons_succ, i64_w, i32_w]
              rfl
            refine take_ (i := 15) (N := some 90) (v := ?_) (a' := ?_) #[true, true, true, true, true, true, true, true, true, true, true, true, true, true, true, true, true, true, true, false, false, false, false, false, false, false, false, false, false, false, false, false, false, false, false, false, false, false, false, false] rfl rfl (by kernel_rfl) (fun _ _ _ h => h) (Or.inl ⟨by rfl, ?_⟩) hHeld ?_ ?_
            rotate_left
            · rintro w' ⟨s0, s1, s2, s3, s4, s5, s6, s7, s8, s9⟩
              go_simp
              try with_reducible rfl
            rotate_left
            · simp only [Act.put, List.setIfInBounds_toArray, List.set_cons_zero, List.set_cons_succ, i64_w, i32_w]
              rfl
            refine take_ (i := 19) (N := some 94) (v := ?_) (a' := ?_) #[true, true, true, true, true, true, true, true, true, true, true, true, true, true, true, true, true, true, true, true, false, false, false, false, false, false, false, false, false, false, false, false, false, false, false, false, false, false, false, false] rfl rfl (by kernel_rfl) (fun _ _ _ h => h) (Or.inl ⟨by rfl, ?_⟩) hHeld ?_ ?_
            rotate_left
            · rintro w' ⟨s0, s1, s2, s3, s4, s5, s6, s7, s8, s9⟩
              go_simp
              try with_reducible rfl
            rotate_left
            · simp only [Act.put, List.setIfInBounds_toArray, List.set_cons_zero, List.set_cons_succ, i64_w, i32_w]
              rfl
            refine one_ (i := 20) (N := some 95) #[true, true, true, true, true, true, true, true, true, true, true, true, true, true, true, true, true, true, true, true, true, false, false, false, false, false, false, false, false, false, false, false, false, false, false, false, false, false, false, false] rfl rfl (by kernel_rfl) (by decide) (fun K hK => ?_)
            refine call_ 14 _ (by rfl) rfl (by go_simp; rfl) ?_
            refine (lat_c x _ Al cl _ (ql.out) ll Hlx.out).mono ?_
            rintro e w2 ⟨rfl, hb2⟩
            refine ⟨_, rfl, ?_⟩
            have hJ2 := Aside0.mk (hJ.out.below hb2)
            have ql2 := Aside0.mk (Kd.C_below ql.out hb2)
            refine hK.out _ _ ⟨pw_cell_below hb2 hHeld.1, pw_cell_below hb2 hHeld.2.1, pw_cell_below hb2 hHeld.2.2.1, pw_cell_below hb2 hHeld.2.2.2.1, pw_cell_below hb2 hHeld.2.2.2.2.1, pw_cell_below hb2 hHeld.2.2.2.2.2.1, pw_cell_below hb2 hHeld.2.2.2.2.2.2.1, pw_cell_below hb2 hHeld.2.2.2.2.2.2.2.1, pw_cell_below hb2 hHeld.2.2.2.2.2.2.2.2.1, pw_cell_below hb2 hHeld.2.2.2.2.2.2.2.2.2⟩ (fun hHeld => ?_)
            clear hJ ql
            have hJ := hJ2
            have ql := ql2
            clear hJ2 ql2 hb2
            clear hK K
            refine norm_ (a' := ?_) ?_ ?_
            rotate_left
            · show Act.put _ (some 95) _ = _
              simp only [Act.put, List.setIfInBounds_toArray, List.set_cons_zero, List.set_cons_succ, i64_w, i32_w]
              rfl
            refine pure_ (i := 21) (N := some 96) (v := ?_) (a' := ?_) #[true, true, true, true, true, true, true, true, true, true, true, true, true, true, true, true, true, true, true, true, true, true, false, false, false, false, false, false, false, false, false, false, false, false, false, false, false, false, false, false] rfl rfl (by kernel_rfl) (fun _ _ _ h => h) (Or.inl ⟨by rfl, ?_⟩) ?_ ?_
            rotate_left
            · intro w'
              go_simp
              try with_reducible rfl
            rotate_left
            · simp only [Act.put, List.setIfInBounds_toArray, List.set_cons_zero, List.set_cons_succ, i64_w, i32_w]
              rfl
            refine pure_ (i := 22) (N := some 97) (v := .bool false) (a' := ?_) #[true, true, true, true, true, true, true, true, true, true, true, true, true, true, true, true, true, true, true, true, true, true, true, false, false, false, false, false, false, false, false, false, false, false, false, false, false, false, false, false] rfl rfl (by kernel_rfl) (fun _ _ _ h => h) (Or.inl ⟨by rfl, ?_⟩) ?_ ?_
            · intro w'
              go_simp
              first | done | (with_reducible rfl) | (simp only [*, decide_true, decide_false, if_true, if_false]; done) | (simp [*]; done) | omega | (unfold wrap64; omega)
            rotate_left
            · simp only [Act.put, List.setIfInBounds_toArray, List.set_cons_zero, List.set_cons_succ, i64_w, i32_w]
              rfl
            refine pure_ (i := 23) (N := some 98) (v := ?_) (a' := ?_) #[true, true, true, true, true, true, true, true, true, true, true, true, true, true, true, true, true, true, true, true, true, true, true, true, false, false, false, false, false, false, false, false, false, false, false, false, false, false, false, false] rfl rfl (by kernel_rfl) (fun _ _ _ h => h) (Or.inl ⟨by rfl, ?_⟩) ?_ ?_
            rotate_left
            · intro w'
              go_simp
              try with_reducible rfl
            rotate_left
            · simp only [Act.put, List.setIfInBounds_toArray, List.set_cons_zero, List.set_cons_succ, i64_w, i32_w]
              rfl
            refine pure_ (i := 24) (N := some 99) (v := ?_) (a' := ?_) #[true, true, true, true, true, true, true, true, true, true, true, true, true, true, true, true, true, true, true, true, true, true, true, true, true, false, false, false, false, false, false, false, false, false, false, false, false, false, false, false] rfl rfl (by kernel_rfl) (fun _ _ _ h => h) (Or.inl ⟨by rfl, ?_⟩) ?_ ?_
            rotate_left
            · intro w'
              go_simp
              try with_reducible rfl
            rotate_left
            · simp only [Act.put, List.setIfInBounds_toArray, List.set_cons_zero, List.set_cons_succ, i64_w, i32_w]
              rfl
            refine pure_ (i := 25) (N := some 100) (v := ?_) (a' := ?_) #[true, true, true, true, true, true, true, true, true, true, true, true, true, true, true, true, true, true, true, true, true, true, true, true, true, true, false, false, false, false, false, false, false, false, false, false, false, false, false, false] rfl rfl (by kernel_rfl) (fun _ _ _ h => h) (Or.inl ⟨by rfl, ?_⟩) ?_ ?_
            rotate_left
            · intro w'
              go_simp
              try with_reducible rfl
            rotate_left
            · simp only [Act.put, List.setIfInBounds_toArray, List.set_cons_zero, List.set_cons_succ, i64_w, i32_w]
              rfl
            refine pure_ (i := 26) (N := some 101) (v := .bool true) (a' := ?_) #[true, true, true, true, true, true, true, true, true, true, true, true, true, true, true, true, true, true, true, true, true, true, true, true, true, true, true, false, false, false, false, false, false, false, false, false, false, false, false, false] rfl rfl (by kernel_rfl) (fun _ _ _ h => h) (Or.inl ⟨by rfl, ?_⟩) ?_ ?_
            · intro w'
              go_simp
              first | done | (with_reducible rfl) | (simp only [*, decide_true, decide_false, if_true, if_false]; done) | (simp [*]; done) | omega | (unfold wrap64; omega)
            rotate_left
            · simp only [Act.put, List.setIfInBounds_toArray, List.set_cons_zero, List.set_cons_succ, i64_w, i32_w]
              rfl
            refine pure_ (i := 27) (N := some 102) (v := ?_) (a' := ?_) #[true, true, true, true, true, true, true, true, true, true, true, true, true, true, true, true, true, true, true, true, true, true, true, true, true, true, true, true, false, false, false, false, false, false, false, false, false, false, false, false] rfl rfl (by kernel_rfl) (fun _ _ _ h => h) (Or.inl ⟨by rfl, ?_⟩) ?_ ?_
            rotate_left
            · intro w'
              go_simp
              try with_reducible rfl
            rotate_left
            · simp only [Act.put, List.setIfInBounds_toArray, List.set_cons_zero, List.set_cons_succ, i64_w, i32_w]
              rfl
            refine pure_ (i := 28) (N := some 103) (v := ?_) (a' := ?_) #[true, true, true, true, true, true, true, true, true, true, true, true, true, true, true, true, true, true, true, true, true, true, true, true, true, true, true, true, true, false, false, false, false, false, false, false, false, false, false, false] rfl rfl (by kernel_rfl) (fun _ _ _ h => h) (Or.inl ⟨by rfl, ?_⟩) ?_ ?_
            rotate_left
            · intro w'
              go_simp
              try with_reducible rfl
            rotate_left
            · simp only [Act.put, List.setIfInBounds_toArray, List.set_cons_zero, List.set_cons_succ, i64_w, i32_w]
              rfl
            refine pure_ (i := 29) (N := some 104) (v := ?_) (a' := ?_) #[true, true, true, true, true, true, true, true, true, true, true, true, true, true, true, true, true, true, true, true, true, true, true, true, true, true, true, true, true, true, false, false, false, false, false, false, false, false, false, false] rfl rfl (by kernel_rfl) (fun _ _ _ h => h) (Or.inl ⟨by rfl, ?_⟩) ?_ ?_
            rotate_left
            · intro w'
              go_simp
              try with_reducible rfl
            rotate_left
            · simp only [Act.put, List.setIfInBounds_toArray, List.set_cons_zero, List.set_cons_succ, i64_w, i32_w]
              rfl
            refine pure_ (i := 30) (N := some 105) (v := ?_) (a' := ?_) #[true, true, true, true, true, true, true, true, true, true, true, true, true, true, true, true, true, true, true, true, true, true, true, true, true, true, true, true, true, true, true, false, false, false, false, false, false, false, false, false] rfl rfl (by kernel_rfl) (fun _ _ _ h => h) (Or.inl ⟨by rfl, ?_⟩) ?_ ?_
            rotate_left
            · intro w'
              go_simp
              try with_reducible rfl
            rotate_left
            · simp only [Act.put, List.setIfInBounds_toArray, List.set_cons_zero, List.set_cons_succ, i64_w, i32_w]
              rfl
            refine take_ (i := 31) (N := some 106) (v := ?_) (a' := ?_) #[true, true, true, true, true, true, true, true, true, true, true, true, true, true, true, true, true, true, true, true, true, true, true, true, true, true, true, true, true, true, true, true, false, false, false, false, false, false, false, false] rfl rfl (by kernel_rfl) (fun _ _ _ h => h) (Or.inl ⟨by rfl, ?_⟩) hHeld ?_ ?_
            rotate_left
            · rintro w' ⟨s0, s1, s2, s3, s4, s5, s6, s7, s8, s9⟩
              go_simp
              try with_reducible rfl
            rotate_left
            · simp only [Act.put, List.setIfInBounds_toArray, List.set_cons_zero, List.set_cons_succ, i64_w, i32_w]
              rfl
            refine pure_ (i := 32) (N := some 107) (v := ?_) (a' := ?_) #[true, true, true, true, true, true, true, true, true, true, true, true, true, true, true, true, true, true, true, true, true, true, true, true, true, true, true, true, true, true, true, true, true, false, false, false, false, false, false, false] rfl rfl (by kernel_rfl) (fun _ _ _ h => h) (Or.inl ⟨by rfl, ?_⟩) ?_ ?_
            rotate_left
            · intro w'
              go_simp
              try with_reducible rfl
            rotate_left
            · simp only [Act.put, List.setIfInBounds_toArray, List.set_cons_zero, List.set_cons_succ, i64_w, i32_w]
              rfl
            refine pure_ (i := 33) (N := some 108) (v := ?_) (a' := ?_) #[true, true, true, true, true, true, true, true, true, true, true, true, true, true, true, true, true, true, true, true, true, true, true, true, true, true, true, true, true, true, true, true, true, true, false, false, false, false, false, false] rfl rfl (by kernel_rfl) (fun _ _ _ h => h) (Or.inl ⟨by rfl, ?_⟩) ?_ ?_
            rotate_left
            · intro w'
              go_simp
              try with_reducible rfl
            rotate_left
            · simp only [Act.put, List.setIfInBounds_toArray, List.set_cons_zero, List.set_cons_succ, i64_w, i32_w]
              rfl
            refine pure_ (i := 34) (N := some 109) (v := ?_) (a' := ?_) #[true, true, true, true, true, true, true, true, true, true, true, true, true, true, true, true, true, true, true, true, true, true, true, true, true, true, true, true, true, true, true, true, true, true, true, false, false, false, false, false] rfl rfl (by kernel_rfl) (fun _ _ _ h => h) (Or.inl ⟨by rfl, ?_⟩) ?_ ?_
            rotate_left
            · intro w'
              go_simp
              try with_reducible rfl
            rotate_left
            · simp only [Act.put, List.setIfInBounds_toArray, List.set_cons_zero, List.set_cons_succ, i64_w, i32_w]
              rfl
            refine take_ (i := 35) (N := some 110) (v := ?_) (a' := ?_) #[true, true, true, true, true, true, true, true, true, true, true, true, true, true, true, true, true, true, true, true, true, true, true, true, true, true, true, true, true, true, true, true, true, true, true, true, false, false, false, false] rfl rfl (by kernel_rfl) (fun _ _ _ h => h) (Or.inl ⟨by rfl, ?_⟩) hHeld ?_ ?_
            rotate_left
            · rintro w' ⟨s0, s1, s2, s3, s4, s5, s6, s7, s8, s9⟩
              go_simp
              try with_reducible rfl
            rotate_left
            · simp only [Act.put, List.setIfInBounds_toArray, List.set_cons_zero, List.set_cons_succ, i64_w, i32_w]
              rfl
            refine pure_ (i := 36) (N := some 111) (v := ?_) (a' := ?_) #[true, true, true, true, true, true, true, true, true, true, true, true, true, true, true, true, true, true, true, true, true, true, true, true, true, true, true, true, true, true, true, true, true, true, true, true, true, false, false, false] rfl rfl (by kernel_rfl) (fun _ _ _ h => h) (Or.inl ⟨by rfl, ?_⟩) ?_ ?_
            rotate_left
            · intro w'
              go_simp
              try with_reducible rfl
            rotate_left
            · simp only [Act.put, List.setIfInBounds_toArray, List.set_cons_zero, List.set_cons_succ, i64_w, i32_w]
              rfl
            refine pure_ (i := 37) (N := some 112) (v := .bool false) (a' := ?_) #[true, true, true, true, true, true, true, true, true, true, true, true, true, true, true, true, true, true, true, true, true, true, true, true, true, true, true, true, true, true, true, true, true, true, true, true, true, true, false, false] rfl rfl (by kernel_rfl) (fun _ _ _ h => h) (Or.inl ⟨by rfl, ?_⟩) ?_ ?_
            · intro w'
              go_simp
              first | done | (with_reducible rfl) | (simp only [*, decide_true, decide_false, if_true, if_false]; done) | (simp [*]; done) | omega | (unfold wrap64; omega)
            rotate_left
            · simp only [Act.put, List.setIfInBounds_toArray, List.set_cons_zero, List.set_cons_succ, i64_w, i32_w]
              rfl
            refine pure_ (i := 38) (N := some 113) (v := ?_) (a' := ?_) #[true, true, true, true, true, true, true, true, true, true, true, true, true, true, true, true, true, true, true, true, true, true, true, true, true, true, true, true, true, true, true, true, true, true, true, true, true, true, true, false] rfl rfl (by kernel_rfl) (fun _ _ _ h => h) (Or.inl ⟨by rfl, ?_⟩) ?_ ?_
            rotate_left
            · intro w'
              go_simp
              try with_reducible rfl
            rotate_left
            · simp only [Act.put, List.setIfInBounds_toArray, List.set_cons_zero, List.set_cons_succ, i64_w, i32_w]
              rfl
            refine pure_ (i := 39) (N := some 114) (v := ?_) (a' := ?_) #[true, true, true, true, true, true, true, true, true, true, true, true, true, true, true, true, true, true, true, true, true, true, true, true, true, true, true, true, true, true, true, true, true, true, true, true, true, true, true, true] rfl rfl (by kernel_rfl) (fun _ _ _ h => h) (Or.inl ⟨by rfl, ?_⟩) ?_ ?_
            rotate_left
            · intro w'
              go_simp
              try with_reducible rfl
            rotate_left
            · simp only [Act.put, List.setIfInBounds_toArray, List.set_cons_zero, List.set_cons_succ, i64_w, i32_w]
              rfl
            refine done_ (by kernel_rfl) ?_
            try go_wp2
            go_roundw
            case rel => exact ⟨k + 1, by have := hrl'.out; omega, by go_num, hJ⟩
            case measure => have := hrl'.out; simp [intOf]; omega
        · obtain rfl : k = (rd_L1 D (i : Int)).length := by omega
          have hrmax := Aside0.mk (Kd.C_max qr2)
          obtain ⟨dl2, Al, cl, hle, l0, l1, l2, l3, l4, l5, ll, ql⟩ := at_T37 hI.out.hl (i : Int) hi0 hin
          obtain rfl : dl = dl2 := Option.some.inj hle
          clear hle qr2 qr1
          rw [Int.toNat_natCast] at l0 l1 l2 l3 l4 l5
          rw [hx'.out] at l0 l1 l2 l3 l4 l5 ll ql
          generalize (rd_L1 D (i : Int)).length = rl at q0
          have hlat := lat_c x lat Al cl wr ql ll Hli.out
          by_cases hml : mo < lat
          · have hmx : mx mo lat = lat := by unfold mx; rw [if_pos hml]
            go_wp2_with fail
            refine hlat.mono ?_
            rintro e w5 ⟨rfl, hB5⟩
            have hI5 := Aside0.mk (hI.out.below hB5)
            clear hI hlat l0 l1 l2 l3 l4 l5 ll ql q0 hB5
            obtain ⟨dl2, Al, cl, hle, l0, l1, l2, l3, l4, l5, ll, ql⟩ := at_T37 hI5.out.hl (i : Int) hi0 hin
            obtain rfl : dl = dl2 := Option.some.inj hle
            clear hle
            rw [Int.toNat_natCast] at l0 l1 l2 l3 l4 l5
            rw [hx'.out] at l0 l1 l2 l3 l4 l5 ll ql
            have hlat := lat_c x lat Al cl w5 ql ll Hli.out
            go_wp2_with fail
            refine hlat.mono ?_
            rintro e w6 ⟨rfl, hB6⟩
            have hI6 := Aside0.mk (hI5.out.below hB6)
            clear hI5 hlat l0 l1 l2 l3 l4 l5 ll ql hB6
            go_wp2_with fail
            go_roundw
            case rel => exact ⟨i + 1, by omega, by rw [hem.out, hmx], by rw [hes.out], by go_num, hI6⟩
            case measure => simp [intOf]; omega
          · have hmx : mx mo lat = mo := by unfold mx; rw [if_neg hml]
            go_wp2_with fail
            refine hlat.mono ?_
            rintro e w5 ⟨rfl, hB5⟩
            have hI5 := Aside0.mk (hI.out.below hB5)
            clear hI hlat l0 l1 l2 l3 l4 l5 ll ql q0 hB5
            obtain ⟨dl2, Al, cl, hle, l0, l1, l2, l3, l4, l5, ll, ql⟩ := at_T37 hI5.out.hl (i : Int) hi0 hin
            obtain rfl : dl = dl2 := Option.some.inj hle
            clear hle
            rw [Int.toNat_natCast] at l0 l1 l2 l3 l4 l5
            rw [hx'.out] at l0 l1 l2 l3 l4 l5 ll ql
            have hlat := lat_c x lat Al cl w5 ql ll Hli.out
            go_wp2_with fail
            refine hlat.mono ?_
            rintro e w6 ⟨rfl, hB6⟩
            have hI6 := Aside0.mk (hI5.out.below hB6)
            clear hI5 hlat l0 l1 l2 l3 l4 l5 ll ql hB6
            go_wp2_with fail
            go_roundw
            case rel => exact ⟨i + 1, by omega, by rw [hem.out, hmx], by rw [hes.out], by go_num, hI6⟩
            case measure => simp [intOf]; omega
    · obtain rfl : i = l.length := by omega
      have hcc := hcostc.out wr hI.out.hl
      have hcb := HC.out
      generalize costOf l = co at hcc hcb
      generalize mostN l l.length = mo at hcb ⊢
      have hsr := sumN_range l l.length
      generalize sumN l l.length = su at hcb hsr ⊢
      obtain ⟨hc1, hc2, hc3⟩ := hcb
      go_wp2_with fail
      refine hcc.mono ?_
      rintro e w5 ⟨rfl, hB5⟩
      have hB := Aside0.mk (hI.out.below hB5).hB
      clear hI hcc hB5
      go_wp2_with fail
      go_ret
      exact ⟨rfl, hB.out⟩
#print axioms law_heights
end Go.Proofs.Ytphmlkbmnmicpaa.A

/- What comes in, opened: a datum that is trodden at a type is a value of the kind. -/
namespace Go.Proofs.Ytphmlkbmnmicpaa.A
open Go.Deep Go.RowKit Go.Proofs.YtphmlkbmnmicpaaW.PrintWords Go.Proofs.YtphmlkbmnmicpaaW.PrintLast
set_option linter.unusedVariables false
set_option linter.unusedSimpArgs false

section
variable {H : Type} {enc : TypeId × Value → H} {P : Program} {w : World} {base : Nat} {α : Type} [Inhabited α]

def Opens (enc : TypeId × Value → H) (P : Program) (w : World) (base : Nat) (t : TypeId) (d : Kd α) (p : α → Prop) : Prop :=
  ∀ fuel cs x, DataW.trod enc P w base (fun _ => true) true fuel t cs = some x → ∃ y, d.K w y cs ∧ p y

theorem opens_int {t : TypeId} {k : IntKind} (ht : P.underlying t = some (.int k)) : Opens enc P w base t (Kd.int k) (fun n => (Lit.int k n).wf = true) := by
  intro fuel cs x h
  obtain ⟨n, rfl, _, hw⟩ := DataW.trod_int ht h
  exact ⟨n, rfl, hw⟩

theorem opens_slice {t e : TypeId} {d : Kd α} {p : α → Prop} (ht : P.underlying t = some (.slice e)) (hc : P.cellsOf e = d.sz) (ho : Opens enc P w base e d p) : Opens enc P w base t (Kd.slice e d) (fun xs => ∀ x ∈ xs, p x) := by
  intro fuel cs x h
  rcases open_slice ht h with ⟨rfl, _⟩ | ⟨a, len, cap, m, n, D, Pl, rfl, hb, hl, hm, hmm, _, hx⟩
  · exact ⟨[], ⟨none, 0, rfl, Nat.le_refl _, rfl, by simp, fun h => by simp at h⟩, fun x hx => by simp at hx⟩
  · simp only [if_true] at hmm
    obtain ⟨Y, hY⟩ := choose_lt (α := α) (n := len) (p := fun i y => p y ∧ ∃ c, d.K w y c ∧ ∀ j u, c[j]? = some u → w.cell? (a.add (i * d.sz + j)) = some u) (fun i hi => by
      obtain ⟨cs', h1, h2⟩ := hx i (by omega)
      obtain ⟨y, hy, hp⟩ := ho _ _ _ h2
      obtain ⟨_, hlen, hcell⟩ := World.cells?_some h1
      refine ⟨y, hp, cs', hy, fun j u hj => ?_⟩
      have hj' : j < cs'.length := (List.getElem?_eq_some_iff.1 hj).1
      have := hcell j (by omega)
      rw [hj, hc] at this
      rwa [Addr.add_add] at this)
    have hlen : ((List.range len).map Y).length = len := by simp
    refine ⟨(List.range len).map Y, ⟨some a, cap, by rw [hlen], by rw [hlen]; exact hl, hlen.trans hlen.symm, by rw [hlen]; unfold maxLen at hm; omega, fun _ => ⟨a, rfl, fun j y hj => ?_⟩⟩, fun y hy => ?_⟩
    · have hjl : j < len := by have := (List.getElem?_eq_some_iff.1 hj).1; omega
      rw [List.getElem?_map, List.getElem?_range hjl] at hj
      obtain rfl := Option.some.inj hj
      obtain ⟨_, c, hk, hcell⟩ := hY j hjl
      exact ⟨c, d.K_len hk, hk, hcell⟩
    · obtain ⟨i, hi, rfl⟩ := List.mem_map.1 hy
      exact (hY i (List.mem_range.1 hi)).1
omit [Inhabited α] in
/-- of a parameter: a slice -/
theorem opens_param {t e : TypeId} {d : Kd α} {p : List α → Prop} (ho : Opens enc P w base t (Kd.slice e d) p) {A : Option Addr} {len cap : Nat} {x : DataW H} {ps : List MemPlace} (h : DataW.Trod enc P w base (fun _ => true) true t (.slice A len cap) x ps) :
    ∃ xs : List α, len = xs.length ∧ xs.length ≤ cap ∧ d.C w A xs.length xs ∧ p xs := by
  obtain ⟨fuel, hf⟩ := h
  obtain ⟨xs, ⟨A', c', he, hl, hC⟩, hp⟩ := ho _ _ _ hf
  simp [Value.cells] at he
  obtain ⟨rfl, rfl, rfl⟩ := he
  exact ⟨xs, rfl, hl, hC, hp⟩
end

instance : Inhabited S37 := ⟨z37⟩
theorem opens_op {H : Type} {enc : TypeId × Value → H} {w : World} {base : Nat} : Opens enc Try.prog w base 37 k37 (fun _ => True) := by
  intro fuel cs x h
  obtain ⟨xs, n, _, _, hl, hlen, hf⟩ := DataW.trod_struct Try.underlying37 h
  have hl' : cs.length = 6 := hl.trans (by kernel_rfl)
  match cs, hl' with
  | [c0, c1, c2, c3, c4, c5], _ =>
    have int_ : ∀ (i : Nat) (c : Value), DataW.trod enc Try.prog w base (fun _ => true) true n 3 [c] = xs[i]? → i < 6 → ∃ m, c = .int .i64 m := by
      intro i c h hi
      have : i < xs.length := by rw [hlen]; exact hi
      rw [List.getElem?_eq_getElem this] at h
      obtain ⟨m, hm, _, _⟩ := DataW.trod_int Try.underlying3 h
      exact ⟨m, by simpa using hm⟩
    have h0 : DataW.trod enc Try.prog w base (fun _ => true) true n 3 (([c0, c1, c2, c3, c4, c5].drop 0).take (Try.prog.cellsOf 3)) = xs[0]? := hf 0 _ rfl
    have h1 : DataW.trod enc Try.prog w base (fun _ => true) true n 3 (([c0, c1, c2, c3, c4, c5].drop 1).take (Try.prog.cellsOf 3)) = xs[1]? := hf 1 _ rfl
    have h2 : DataW.trod enc Try.prog w base (fun _ => true) true n 3 (([c0, c1, c2, c3, c4, c5].drop 2).take (Try.prog.cellsOf 3)) = xs[2]? := hf 2 _ rfl
    have h3 : DataW.trod enc Try.prog w base (fun _ => true) true n 3 (([c0, c1, c2, c3, c4, c5].drop 3).take (Try.prog.cellsOf 3)) = xs[3]? := hf 3 _ rfl
    have h4 : DataW.trod enc Try.prog w base (fun _ => true) true n 3 (([c0, c1, c2, c3, c4, c5].drop 4).take (Try.prog.cellsOf 3)) = xs[4]? := hf 4 _ rfl
    have h5 : DataW.trod enc Try.prog w base (fun _ => true) true n 23 (([c0, c1, c2, c3, c4, c5].drop 5).take (Try.prog.cellsOf 23)) = xs[5]? := hf 5 _ rfl
    rw [show Try.prog.cellsOf 3 = 1 by kernel_rfl] at h0 h1 h2 h3 h4
    rw [show Try.prog.cellsOf 23 = 1 by kernel_rfl] at h5
    obtain ⟨m0, rfl⟩ := int_ 0 c0 h0 (by omega)
    obtain ⟨m1, rfl⟩ := int_ 1 c1 h1 (by omega)
    obtain ⟨m2, rfl⟩ := int_ 2 c2 h2 (by omega)
    obtain ⟨m3, rfl⟩ := int_ 3 c3 h3 (by omega)
    obtain ⟨m4, rfl⟩ := int_ 4 c4 h4 (by omega)
    have h5' : 5 < xs.length := by rw [hlen]; decide
    rw [List.getElem?_eq_getElem h5'] at h5
    obtain ⟨ys, ⟨A, c, he, hl5, hC⟩, _⟩ := opens_slice (d := Kd.int .i64) Try.underlying23 (by kernel_rfl) (opens_int Try.underlying3) _ _ _ h5
    have he' : c5 = .slice A ys.length c := by simpa using he
    subst he'
    exact ⟨⟨m0, m1, m2, m3, m4, ys⟩, k37_mk w ⟨m0, m1, m2, m3, m4, ys⟩ hl5 hC, trivial⟩
theorem opens_ops {H : Type} {enc : TypeId × Value → H} {w : World} {base : Nat} : Opens enc Try.prog w base 22 (Kd.slice 37 k37) (fun xs => ∀ x ∈ xs, True) := opens_slice Try.underlying22 (by kernel_rfl) opens_op
theorem opens_ints {H : Type} {enc : TypeId × Value → H} {w : World} {base : Nat} : Opens enc Try.prog w base 23 (Kd.slice 3 (Kd.int .i64)) (fun xs => ∀ x ∈ xs, (Lit.int .i64 x).wf = true) := opens_slice Try.underlying23 (by kernel_rfl) (opens_int Try.underlying3)
#print axioms opens_ops
end Go.Proofs.Ytphmlkbmnmicpaa.A
