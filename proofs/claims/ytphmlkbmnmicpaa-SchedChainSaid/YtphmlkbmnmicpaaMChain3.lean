/- Parts of the proof, in the order in which they rest on one another. -/
import Derived.Test.YtphmlkbmnmicpaaMChain2
import Derived.Deep.RegionHeld3
import Derived.Deep.Slices
import Derived.ChangeArms
/- What the machine does at this function, and a plain Lean function that says the same: written by a program for this claim; Lean checks it. -/
namespace Go.Proofs.Ytphmlkbmnmicpaa.A
open Go.RowKit Go.Proofs.YtphmlkbmnmicpaaW.PrintWords Go.Proofs.YtphmlkbmnmicpaaW.PrintLast Go.Proofs.YtphmlkbmnmicpaaW.PrintMore
attribute [local go_sem] max2_int min2_int max_two min_two max_three min_three max_four min_four   -- for this text's walks alone
set_option linter.unusedVariables false
set_option linter.unusedSimpArgs false

/-! ### sched_copied: function 31 -/
def sched_copied.f (a0_0 : Int) (a0_1 : Int) (a0_2 : Int) (a0_3 : Int) (a0_4 : Int) (l0_5 : List Int) : Option (Int × Int × Int × Int × Int × List Int) := (slices_Clone_int_int.f l0_5).bind fun t168 => (some (a0_0, a0_1, a0_2, a0_3, a0_4, t168))
set_option maxHeartbeats 8000000 in
set_option maxRecDepth 100000 in
theorem sched_copied.calls (a0_0 : Int) (a0_1 : Int) (a0_2 : Int) (a0_3 : Int) (a0_4 : Int) (A0_5 : Option Addr) (c0_5 : Nat) (l0_5 : List Int) (r1 : Int) (r2 : Int) (r3 : Int) (r4 : Int) (r5 : Int) (r6 : List Int) (w : World) (hr0_5 : Kd.C (Kd.int .i64) w A0_5 l0_5.length l0_5) (hc0_5 : l0_5.length ≤ c0_5) (h : sched_copied.f a0_0 a0_1 a0_2 a0_3 a0_4 l0_5 = some (r1, r2, r3, r4, r5, r6)) :
    Calls Try.prog 31 #[.agg #[.int .i64 a0_0, .int .i64 a0_1, .int .i64 a0_2, .int .i64 a0_3, .int .i64 a0_4, .slice A0_5 l0_5.length c0_5]] w fun e w' => ∃ v5_ : Value, e = .returned (.agg #[.int .i64 r1, .int .i64 r2, .int .i64 r3, .int .i64 r4, .int .i64 r5, v5_]) ∧ Kd.R (Kd.int .i64) 3 w' w.heap.size (fun _ => True) v5_ r6 ∧ Below w.heap.size w w' := by
  have hu37 := Try.underlying37
  have HR0_5 := Aside0.mk hr0_5
  have HC0_5 := Aside0.mk hc0_5
  clear hr0_5 hc0_5
  have HB := Aside0.mk (Below.refl w.heap.size w)
  have H : ((slices_Clone_int_int.f l0_5).bind fun t168 => (some (a0_0, a0_1, a0_2, a0_3, a0_4, t168))) = some (r1, r2, r3, r4, r5, r6) := h
  clear h
  replace H := Option.bind_eq_some_iff.mp H
  obtain ⟨t168, A20, H⟩ := H
  replace H : (some (a0_0, a0_1, a0_2, a0_3, a0_4, t168)) = some (r1, r2, r3, r4, r5, r6) := H
  have A2 := Aside0.mk A20
  clear A20
  simp only [Option.some.injEq, Prod.mk.injEq] at H
  obtain ⟨rfl, rfl, rfl, rfl, rfl, rfl⟩ := H
  go_enter Try.func31, Try.ntmps31
  go_wp2_with (first | ((with_reducible refine gate_dst (N := 1) rfl ?_); refine box_event ?hg (N := 1) ?hd (cs := #[.int .i64 a0_0, .int .i64 a0_1, .int .i64 a0_2, .int .i64 a0_3, .int .i64 a0_4, .slice A0_5 l0_5.length c0_5]) (t := 37) ?hr ?_; (case hd => rfl); (case hg => rfl); (case hr => first | (go_simp; done) | (go_simp; rfl)); intro gb166 hg w3 hbox hb; have n0_ := Aside0.mk (below_step (by repeat (first | (with_reducible first | exact HB.out | apply below_alloc | apply pw_below_drewN | apply below_drew1) | exact HB.out)) hb); have n1_ := Aside0.mk (hbox); have n2_ := Aside0.mk ((by rw [hg]; exact (below_size (by repeat (first | (with_reducible first | exact HB.out | apply below_alloc | apply pw_below_drewN | apply below_drew1) | exact HB.out))) : w.heap.size ≤ gb166)); have n3_ := Aside0.mk ((by rw [hg]; exact (below_size (by repeat (first | (with_reducible first | exact HB.out | apply below_alloc | apply pw_below_drewN | apply below_drew1) | exact HB.out))) : w.heap.size ≤ gb166)); clear HB; have HB := n0_; have BK166 := n1_; have GW166 := n2_; have GE166 := n3_; clear n0_ n1_ n2_ n3_; clear hb hbox hg) | ((with_reducible refine gate_dst (N := 2) rfl ?_); refine box_event ?hg (N := 2) ?hd (cs := #[.int .i64 0, .int .i64 0, .int .i64 0, .int .i64 0, .int .i64 0, .slice none 0 0]) (t := 37) ?hr ?_; (case hd => rfl); (case hg => rfl); (case hr => first | (go_simp; done) | (go_simp; rfl)); intro gb167 hg w4 hbox hb; have n0_ := Aside0.mk (blk_below (g := gb166) (o := .cells #[.int .i64 a0_0, .int .i64 a0_1, .int .i64 a0_2, .int .i64 a0_3, .int .i64 a0_4, .slice A0_5 l0_5.length c0_5] 37 (0, 0)) (by (with_reducible repeat (first | refine blk_drewN ?_ _ | refine blk_drew ?_ | refine blk_alloc ?_ _)); exact BK166.out) hb); have n1_ := Aside0.mk (below_step (by repeat (first | (with_reducible first | exact HB.out | apply below_alloc | apply pw_below_drewN | apply below_drew1 | refine below_set ?_ GE166.out) | exact HB.out)) hb); have n2_ := Aside0.mk (hbox); have n3_ := Aside0.mk ((by rw [hg]; exact (below_size (by repeat (first | (with_reducible first | exact HB.out | apply below_alloc | apply pw_below_drewN | apply below_drew1 | refine below_set ?_ GE166.out) | exact HB.out))) : w.heap.size ≤ gb167)); have n4_ := Aside0.mk ((by rw [hg]; exact (below_size (by repeat (first | (with_reducible first | exact HB.out | apply below_alloc | apply pw_below_drewN | apply below_drew1 | refine below_set ?_ GE166.out) | exact HB.out))) : w.heap.size ≤ gb167)); have n5_ := Aside0.mk ((by rw [hg]; exact Nat.ne_of_lt (blk_lt (g := gb166) (o := .cells #[.int .i64 a0_0, .int .i64 a0_1, .int .i64 a0_2, .int .i64 a0_3, .int .i64 a0_4, .slice A0_5 l0_5.length c0_5] 37 (0, 0)) (by (with_reducible repeat (first | refine blk_drewN ?_ _ | refine blk_drew ?_ | refine blk_alloc ?_ _)); exact BK166.out)) : gb166 ≠ gb167)); have n6_ := Aside0.mk ((by rw [hg]; exact Nat.ne_of_gt (blk_lt (g := gb166) (o := .cells #[.int .i64 a0_0, .int .i64 a0_1, .int .i64 a0_2, .int .i64 a0_3, .int .i64 a0_4, .slice A0_5 l0_5.length c0_5] 37 (0, 0)) (by (with_reducible repeat (first | refine blk_drewN ?_ _ | refine blk_drew ?_ | refine blk_alloc ?_ _)); exact BK166.out)) : gb167 ≠ gb166)); clear BK166; clear HB; have BK166 := n0_; have HB := n1_; have BK167 := n2_; have GW167 := n3_; have GE167 := n4_; have NB166_167 := n5_; have NB167_166 := n6_; clear n0_ n1_ n2_ n3_ n4_ n5_ n6_; clear hb hbox hg; have hnb5 := NB166_167.out; have hnc5 := NB167_166.out; have hcz6_0 : w4.cell? ⟨gb166, 0, none⟩ = some (.int .i64 a0_0) := (blk_cell BK166.out 0).trans rfl; have hcz6_1 : w4.cell? ⟨gb166, 1, none⟩ = some (.int .i64 a0_1) := (blk_cell BK166.out 1).trans rfl; have hcz6_2 : w4.cell? ⟨gb166, 2, none⟩ = some (.int .i64 a0_2) := (blk_cell BK166.out 2).trans rfl; have hcz6_3 : w4.cell? ⟨gb166, 3, none⟩ = some (.int .i64 a0_3) := (blk_cell BK166.out 3).trans rfl; have hcz6_4 : w4.cell? ⟨gb166, 4, none⟩ = some (.int .i64 a0_4) := (blk_cell BK166.out 4).trans rfl; have hcz6_5 : w4.cell? ⟨gb166, 5, none⟩ = some (.slice A0_5 l0_5.length c0_5) := (blk_cell BK166.out 5).trans rfl; have hfz6_0 := blk_frozen BK166.out 0; have hfz6_1 := blk_frozen BK166.out 1; have hfz6_2 := blk_frozen BK166.out 2; have hfz6_3 := blk_frozen BK166.out 3; have hfz6_4 := blk_frozen BK166.out 4; have hfz6_5 := blk_frozen BK166.out 5) | ((with_reducible refine gate_callee (f := 48) rfl ?_); refine goesL_ (some 5) rfl rfl Try.func48 (by kernel_rfl) rfl #[.slice A0_5 l0_5.length c0_5] rfl (by (try simp only [List.map_toArray, List.map_cons, List.map_nil]); first | done | rfl | (simp only [List.length_drop, List.length_take]; rfl)) ?_; (with_reducible refine (slices_Clone_int_int.calls _ _ l0_5 t168 _ ?side1 ?side2 A2.out).mono ?_); (case side1 => repeat (first | exact (Kd.C_below HR0_5.out HB.out) | (with_reducible refine Kd.C_alloc ?_ _) | (with_reducible refine Kd.C_drewN ?_ _) | (with_reducible refine Kd.C_drew ?_))); (case side2 => exact HC0_5.out); rintro e w7 ⟨v169, rfl, ho0, hb⟩; refine ⟨_, rfl, ?_⟩; have n0_ := Aside0.mk (Kd.R_lower ho0 (below_size (by repeat (first | (with_reducible first | exact HB.out | apply below_alloc | apply pw_below_drewN | apply below_drew1 | refine below_set ?_ GE166.out | refine below_set ?_ GE167.out) | exact HB.out)))); have n1_ := Aside0.mk (blk_below (g := gb166) (o := .cells #[.int .i64 a0_0, .int .i64 a0_1, .int .i64 a0_2, .int .i64 a0_3, .int .i64 a0_4, .slice A0_5 l0_5.length c0_5] 37 (0, 0)) (by (with_reducible repeat (first | refine blk_drewN ?_ _ | refine blk_drew ?_ | refine blk_alloc ?_ _)); exact BK166.out) hb); have n2_ := Aside0.mk (blk_below (g := gb167) (o := .cells #[.int .i64 0, .int .i64 0, .int .i64 0, .int .i64 0, .int .i64 0, .slice none 0 0] 37 (0, 0)) (by (with_reducible repeat (first | refine blk_drewN ?_ _ | refine blk_drew ?_ | refine blk_alloc ?_ _)); exact BK167.out) hb); have n3_ := Aside0.mk (below_step (by repeat (first | (with_reducible first | exact HB.out | apply below_alloc | apply pw_below_drewN | apply below_drew1 | refine below_set ?_ GE166.out | refine below_set ?_ GE167.out) | exact HB.out)) hb); clear BK166; clear BK167; clear HB; have HO170 := n0_; have BK166 := n1_; have BK167 := n2_; have HB := n3_; clear n0_ n1_ n2_ n3_; (try clear hb); (try clear hb2); (try clear hk); (try clear hi); (try clear ho0); obtain ⟨Ao8, co8, eo8⟩ := Kd.R_slice HO170.out; subst eo8; have hcz9_0 : w7.cell? ⟨gb166, 0, none⟩ = some (.int .i64 a0_0) := (blk_cell BK166.out 0).trans rfl; have hcz9_1 : w7.cell? ⟨gb166, 1, none⟩ = some (.int .i64 a0_1) := (blk_cell BK166.out 1).trans rfl; have hcz9_2 : w7.cell? ⟨gb166, 2, none⟩ = some (.int .i64 a0_2) := (blk_cell BK166.out 2).trans rfl; have hcz9_3 : w7.cell? ⟨gb166, 3, none⟩ = some (.int .i64 a0_3) := (blk_cell BK166.out 3).trans rfl; have hcz9_4 : w7.cell? ⟨gb166, 4, none⟩ = some (.int .i64 a0_4) := (blk_cell BK166.out 4).trans rfl; have hcz9_5 : w7.cell? ⟨gb166, 5, none⟩ = some (.slice A0_5 l0_5.length c0_5) := (blk_cell BK166.out 5).trans rfl; have hfz9_0 := blk_frozen BK166.out 0; have hfz9_1 := blk_frozen BK166.out 1; have hfz9_2 := blk_frozen BK166.out 2; have hfz9_3 := blk_frozen BK166.out 3; have hfz9_4 := blk_frozen BK166.out 4; have hfz9_5 := blk_frozen BK166.out 5; have hcz10_0 : w7.cell? ⟨gb167, 0, none⟩ = some (.int .i64 0) := (blk_cell BK167.out 0).trans rfl; have hcz10_1 : w7.cell? ⟨gb167, 1, none⟩ = some (.int .i64 0) := (blk_cell BK167.out 1).trans rfl; have hcz10_2 : w7.cell? ⟨gb167, 2, none⟩ = some (.int .i64 0) := (blk_cell BK167.out 2).trans rfl; have hcz10_3 : w7.cell? ⟨gb167, 3, none⟩ = some (.int .i64 0) := (blk_cell BK167.out 3).trans rfl; have hcz10_4 : w7.cell? ⟨gb167, 4, none⟩ = some (.int .i64 0) := (blk_cell BK167.out 4).trans rfl; have hcz10_5 : w7.cell? ⟨gb167, 5, none⟩ = some (.slice none 0 0) := (blk_cell BK167.out 5).trans rfl; have hfz10_0 := blk_frozen BK167.out 0; have hfz10_1 := blk_frozen BK167.out 1; have hfz10_2 := blk_frozen BK167.out 2; have hfz10_3 := blk_frozen BK167.out 3; have hfz10_4 := blk_frozen BK167.out 4; have hfz10_5 := blk_frozen BK167.out 5))
  refine bodyPost_ret (results_cell_row rfl _ _ gb167 37 #[.int .i64 a0_0, .int .i64 a0_1, .int .i64 a0_2, .int .i64 a0_3, .int .i64 a0_4, .slice Ao8 t168.length co8] (0, 0) _ rfl (by (with_reducible repeat (first | refine blk_drewN ?_ _ | refine blk_drew ?_ | refine blk_alloc ?_ _)); refine blk_put (cs := #[.int .i64 a0_0, .int .i64 a0_1, .int .i64 a0_2, .int .i64 a0_3, .int .i64 a0_4, .slice none 0 0]) ?_ 5 _ rfl; (with_reducible repeat (first | refine blk_drewN ?_ _ | refine blk_drew ?_ | refine blk_alloc ?_ _)); refine blk_put (cs := #[.int .i64 a0_0, .int .i64 a0_1, .int .i64 a0_2, .int .i64 a0_3, .int .i64 0, .slice none 0 0]) ?_ 4 _ rfl; (with_reducible repeat (first | refine blk_drewN ?_ _ | refine blk_drew ?_ | refine blk_alloc ?_ _)); refine blk_put (cs := #[.int .i64 a0_0, .int .i64 a0_1, .int .i64 a0_2, .int .i64 0, .int .i64 0, .slice none 0 0]) ?_ 3 _ rfl; (with_reducible repeat (first | refine blk_drewN ?_ _ | refine blk_drew ?_ | refine blk_alloc ?_ _)); refine blk_put (cs := #[.int .i64 a0_0, .int .i64 a0_1, .int .i64 0, .int .i64 0, .int .i64 0, .slice none 0 0]) ?_ 2 _ rfl; (with_reducible repeat (first | refine blk_drewN ?_ _ | refine blk_drew ?_ | refine blk_alloc ?_ _)); refine blk_put (cs := #[.int .i64 a0_0, .int .i64 0, .int .i64 0, .int .i64 0, .int .i64 0, .slice none 0 0]) ?_ 1 _ rfl; (with_reducible repeat (first | refine blk_drewN ?_ _ | refine blk_drew ?_ | refine blk_alloc ?_ _)); refine blk_put (cs := #[.int .i64 0, .int .i64 0, .int .i64 0, .int .i64 0, .int .i64 0, .slice none 0 0]) ?_ 0 _ rfl; (with_reducible repeat (first | refine blk_drewN ?_ _ | refine blk_drew ?_ | refine blk_alloc ?_ _)); refine blk_far ?_ NB167_166.out _; (with_reducible repeat (first | refine blk_drewN ?_ _ | refine blk_drew ?_ | refine blk_alloc ?_ _)); exact BK167.out) Try.underlying37 rfl (by kernel_rfl)) rfl ?_
  exact ⟨_, by first | rfl | (simp [errW_none, errW_some] <;> rfl) | (simp [*, errW_none, errW_some] <;> rfl), by (with_reducible repeat (first | apply Kd.R_alloc | apply Kd.R_drewN | apply Kd.R_drew)); exact Kd.R_mono (Kd.R_far (p := ⟨gb167, 5, none⟩) (Kd.R_far (p := ⟨gb167, 4, none⟩) (Kd.R_far (p := ⟨gb167, 3, none⟩) (Kd.R_far (p := ⟨gb167, 2, none⟩) (Kd.R_far (p := ⟨gb167, 1, none⟩) (Kd.R_far (p := ⟨gb167, 0, none⟩) (Kd.R_far (p := ⟨gb166, 5, none⟩) (Kd.R_types (Kd.R_types HO170.out BK166.out (by decide)) BK167.out (by decide)) (fun _ hk => hk.1.2) (.slice Ao8 t168.length co8)) (fun _ hk => hk.2) (.int .i64 a0_0)) (fun _ hk => hk.2) (.int .i64 a0_1)) (fun _ hk => hk.2) (.int .i64 a0_2)) (fun _ hk => hk.2) (.int .i64 a0_3)) (fun _ hk => hk.2) (.int .i64 a0_4)) (fun _ hk => hk.2) (.slice Ao8 t168.length co8)) (fun _ hk => trivial), by repeat (first | (with_reducible first | exact HB.out | apply below_alloc | apply pw_below_drewN | apply below_drew1 | refine below_set ?_ GE166.out | refine below_set ?_ GE167.out) | exact HB.out)⟩

end Go.Proofs.Ytphmlkbmnmicpaa.A

/- sched.Block: what it answers. -/
namespace Go.Proofs.Ytphmlkbmnmicpaa.A
open Go.RowKit Go.Proofs.YtphmlkbmnmicpaaW.PrintWords Go.Proofs.YtphmlkbmnmicpaaW.PrintLast Go.Shelf
set_option linter.unusedVariables false
set_option linter.unusedSimpArgs false

theorem copied_calls (x : S37) (A : Option Addr) (c : Nat) (w : World) (hx : Kd.C (Kd.int .i64) w A x.f5.length x.f5) (hc : x.f5.length ≤ c) (hl : x.f5.length ≤ 1000000) :
    Calls Try.prog 31 #[.agg #[.int .i64 x.f0, .int .i64 x.f1, .int .i64 x.f2, .int .i64 x.f3, .int .i64 x.f4, .slice A x.f5.length c]] w fun e w' =>
      ∃ v5 : Value, e = .returned (.agg #[.int .i64 x.f0, .int .i64 x.f1, .int .i64 x.f2, .int .i64 x.f3, .int .i64 x.f4, v5]) ∧ Kd.R (Kd.int .i64) 3 w' w.heap.size (fun _ => True) v5 x.f5 ∧ Below w.heap.size w w' := by
  refine sched_copied.calls x.f0 x.f1 x.f2 x.f3 x.f4 A c x.f5 _ _ _ _ _ _ w hx hc ?_
  unfold sched_copied.f slices_Clone_int_int.f
  rw [if_pos hl]
  rfl

/-- what lies in memory between two rounds of Block: u is what the cell of out.Ops holds, v the row -/
structure BI (w : World) (A Ao : Option Addr) (c co n : Nat) (t : S27) (O : List Int) (xs : List S37) (u v : Value) (W : World) : Prop where
  hb : W.heap[w.heap.size]? = some (.cells #[.slice A n c, .int .i64 t.f0, .int .i64 t.f1, .int .i64 t.f2, .int .i64 t.f3] 29 (0, 0))
  hz : W.heap[w.heap.size + 1]? = some (.cells #[.slice none 0 0, .int .i64 0, .int .i64 0, .int .i64 0, .int .i64 0] 29 (0, 0))
  ho : W.heap[w.heap.size + 2]? = some (.cells #[u, .int .i64 t.f0, .int .i64 t.f1, .int .i64 t.f2, .int .i64 t.f3] 29 (0, 0))
  hO : Kd.R (Kd.int .i64) 3 W (w.heap.size + 3) (fun k => w.heap.size + 3 ≤ k) (.slice Ao n co) O
  hv : Kd.S k37 37 W w.heap.size (fun k => w.heap.size + 3 ≤ k) v xs
  hB : Below w.heap.size w W
  size : w.heap.size + 3 ≤ W.heap.size
section
variable {w : World} {A Ao : Option Addr} {c co n : Nat} {t : S27} {O : List Int} {xs : List S37} {u v : Value} {W W1 : World}
theorem BI.below (h : BI w A Ao c co n t O xs u v W) (hb : Below W.heap.size W W1) : BI w A Ao c co n t O xs u v W1 :=
  ⟨(hb.block _ (blk_lt h.hb)).trans h.hb, (hb.block _ (blk_lt h.hz)).trans h.hz, (hb.block _ (blk_lt h.ho)).trans h.ho, Kd.R_below h.hO hb, Kd.S_below h.hv hb, below_then h.hB h.hB.size hb, Nat.le_trans h.size hb.size⟩
theorem BI.cellb (h : BI w A Ao c co n t O xs u v W) : W.cell? ⟨w.heap.size, 0, none⟩ = some (.slice A n c) := (blk_cell h.hb 0).trans rfl
theorem BI.cell (h : BI w A Ao c co n t O xs u v W) : W.cell? ⟨w.heap.size + 2, 0, none⟩ = some u := (blk_cell h.ho 0).trans rfl
theorem BI.grown {ys : List S37} {v1 : Value} (h : BI w A Ao c co n t O xs u v W) (hv : Kd.S k37 37 W1 w.heap.size (fun k => w.heap.size + 3 ≤ k) v1 ys) (hB : Below w.heap.size w W1) (hg : W.grownBy W1 v.ownBlock) (hs : W.heap.size ≤ W1.heap.size) : BI w A Ao c co n t O ys u v1 W1 := by
  have hne : ∀ g, g < w.heap.size + 3 → some g ≠ v.ownBlock := fun g hg he => by have := (Kd.S_R h.hv).1 g he.symm; omega
  exact ⟨blk_grown h.hb hg (hne _ (by omega)), blk_grown h.hz hg (hne _ (by omega)), blk_grown h.ho hg (hne _ (by omega)), Kd.R_over' h.hO (by obtain ⟨inner, ho⟩ := Kd.S_own h.hv; exact own_typed ho) (by decide) hg, hv, hB, Nat.le_trans h.size hs⟩
theorem BI.set (h : BI w A Ao c co n t O xs u v W) (z : Value) : BI w A Ao c co n t O xs z v (W.setCell ⟨w.heap.size + 2, 0, none⟩ z) := by
  refine ⟨blk_far h.hb (p := ⟨w.heap.size + 2, 0, none⟩) (by show _ ≠ w.heap.size + 2; omega) _, blk_far h.hz (p := ⟨w.heap.size + 2, 0, none⟩) (by show _ ≠ w.heap.size + 2; omega) _, ?_, Kd.R_far h.hO (p := ⟨w.heap.size + 2, 0, none⟩) (fun k hk => by show k ≠ w.heap.size + 2; omega) _, Kd.S_far h.hv (p := ⟨w.heap.size + 2, 0, none⟩) (fun k hk => by show k ≠ w.heap.size + 2; omega) _, h.hB.setCell (p := ⟨w.heap.size + 2, 0, none⟩) (by show _ ≤ w.heap.size + 2; omega) _, by simpa using h.size⟩
  have := blk_set h.ho 0 z
  simpa using this
end

set_option maxRecDepth 100000 in
set_option maxHeartbeats 4000000 in
theorem block_calls (l : List S37) (t : S27) (hlen : l.length ≤ 4096) (hs : ∀ x ∈ l, x.f5.length ≤ 1000) (A : Option Addr) (c : Nat) (w : World) (hr : Kd.C k37 w A l.length l) (hc : l.length ≤ c)
    (O : List Int) (hord : ∀ W, Below w.heap.size w W → Calls Try.prog 22 #[.slice A l.length c] W fun e w' => ∃ Ao co, e = .returned (.slice Ao l.length co) ∧ Kd.R (Kd.int .i64) 3 w' W.heap.size (fun _ => True) (.slice Ao l.length co) O ∧ Below W.heap.size W w')
    (hO : ∀ k ∈ O, 0 ≤ k ∧ k < l.length) (hOl : O.length = l.length) :
    Calls Try.prog 11 #[.agg #[.slice A l.length c, .int .i64 t.f0, .int .i64 t.f1, .int .i64 t.f2, .int .i64 t.f3]] w fun e w' =>
      ∃ v : Value, e = .returned (.agg #[v, .int .i64 t.f0, .int .i64 t.f1, .int .i64 t.f2, .int .i64 t.f3]) ∧ Kd.S k37 37 w' w.heap.size (fun _ => True) v (O.map fun k => rd_T37 l k) ∧ Below w.heap.size w w' := by
  have hu29 := Try.underlying29
  have hu27 := Try.underlying27
  have hu37 := Try.underlying37
  have Hord := Aside0.mk hord
  have Hs := Aside0.mk hs
  have HO := Aside0.mk hO
  clear hord hs hO
  go_enter Try.func11, Try.ntmps11
  go_wp2_with fail
  have b0 := World.alloc_heap_new w (.cells #[.slice A l.length c, .int .i64 t.f0, .int .i64 t.f1, .int .i64 t.f2, .int .i64 t.f3] 29)
  have b1 := World.alloc_heap_new (w.alloc (.cells #[.slice A l.length c, .int .i64 t.f0, .int .i64 t.f1, .int .i64 t.f2, .int .i64 t.f3] 29)) (.cells #[.slice none 0 0, .int .i64 0, .int .i64 0, .int .i64 0, .int .i64 0] 29)
  have b2 := World.alloc_heap_new ((w.alloc (.cells #[.slice A l.length c, .int .i64 t.f0, .int .i64 t.f1, .int .i64 t.f2, .int .i64 t.f3] 29)).alloc (.cells #[.slice none 0 0, .int .i64 0, .int .i64 0, .int .i64 0, .int .i64 0] 29)) (.cells #[.slice none 0 0, .int .i64 t.f0, .int .i64 t.f1, .int .i64 t.f2, .int .i64 t.f3] 29)
  simp only [World.size_alloc] at b1 b2
  have b01 := blk_alloc (blk_alloc b0 (.cells #[.slice none 0 0, .int .i64 0, .int .i64 0, .int .i64 0, .int .i64 0] 29)) (.cells #[.slice none 0 0, .int .i64 t.f0, .int .i64 t.f1, .int .i64 t.f2, .int .i64 t.f3] 29)
  have b11 := blk_alloc b1 (.cells #[.slice none 0 0, .int .i64 t.f0, .int .i64 t.f1, .int .i64 t.f2, .int .i64 t.f3] 29)
  have hB0 := below_alloc (below_alloc (below_alloc (Below.refl w.heap.size w) (.cells #[.slice A l.length c, .int .i64 t.f0, .int .i64 t.f1, .int .i64 t.f2, .int .i64 t.f3] 29)) (.cells #[.slice none 0 0, .int .i64 0, .int .i64 0, .int .i64 0, .int .i64 0] 29)) (.cells #[.slice none 0 0, .int .i64 t.f0, .int .i64 t.f1, .int .i64 t.f2, .int .i64 t.f3] 29)
  clear b0 b1
  have hsz : (((w.alloc (.cells #[.slice A l.length c, .int .i64 t.f0, .int .i64 t.f1, .int .i64 t.f2, .int .i64 t.f3] 29)).alloc (.cells #[.slice none 0 0, .int .i64 0, .int .i64 0, .int .i64 0, .int .i64 0] 29)).alloc (.cells #[.slice none 0 0, .int .i64 t.f0, .int .i64 t.f1, .int .i64 t.f2, .int .i64 t.f3] 29)).heap.size = w.heap.size + 3 := by simp only [World.size_alloc]
  rw [show w.heap.size + 1 + 1 = w.heap.size + 2 from rfl]
  generalize (((w.alloc (.cells #[.slice A l.length c, .int .i64 t.f0, .int .i64 t.f1, .int .i64 t.f2, .int .i64 t.f3] 29)).alloc (.cells #[.slice none 0 0, .int .i64 0, .int .i64 0, .int .i64 0, .int .i64 0] 29)).alloc (.cells #[.slice none 0 0, .int .i64 t.f0, .int .i64 t.f1, .int .i64 t.f2, .int .i64 t.f3] 29)) = W0 at b01 b11 b2 hB0 hsz ⊢
  refine (Hord.out W0 hB0).mono ?_
  rintro e W1 ⟨Ao, co, rfl, hO1, hB1⟩
  have hL0 : BI w A Ao c co l.length t O [] (.slice none 0 0) (.slice none 0 0) W1 :=
    ⟨(hB1.block _ (blk_lt b01)).trans b01, (hB1.block _ (blk_lt b11)).trans b11, (hB1.block _ (blk_lt b2)).trans b2, by rw [← hsz]; exact Kd.R_mono (Kd.R_bound hO1) (fun k hk => hk.2.1), Kd.S_nil _ _ _ _ _, below_then hB0 hB0.size hB1, by rw [← hsz]; exact hB1.size⟩
  clear hO1 hB1 hB0 b01 b11 b2 hsz
  have h0b := hL0.cellb
  have hL0' := Aside0.mk hL0
  clear hL0
  go_wp2_with fail
  clear h0b
  go_loopw [31] (fun s wr => ∃ (m : Nat) (vo : Value), m ≤ l.length ∧ s = .int .i64 m ∧ Aside0 (BI w A Ao c co l.length t O ((O.take m).map fun k => rd_T37 l k) vo vo wr))
    (fun s _ => l.length - (intOf s).toNat)
  case atStart => exact ⟨0, _, Nat.zero_le _, rfl, hL0'⟩
  case round =>
    clear hL0'
    obtain ⟨m, vo, hm, rfl, hL⟩ := hrel
    by_cases hlt : m < l.length
    · have hmn : (m : Int) < (l.length : Int) := by omega
      have hml : m < O.length := by omega
      obtain ⟨oad, hoe, ho1⟩ := Kd.at_int (Kd.R_reads' hL.out.hO).2.2 (m : Int) (by omega) (by omega)
      subst hoe
      rw [Int.toNat_natCast] at ho1
      have hrdm : rd O (m : Int) = O[m] := by simp [rd, hml]
      rw [hrdm] at ho1
      have htk : ((O.take (m + 1)).map fun k => rd_T37 l k) = ((O.take m).map fun k => rd_T37 l k) ++ [rd_T37 l O[m]] := by
        rw [List.take_succ_eq_append_getElem hml, List.map_append]
        rfl
      have hk := HO.out O[m] (List.getElem_mem hml)
      have htk' := Aside0.mk htk
      clear htk hrdm
      generalize O[m] = k at ho1 hk htk'
      obtain ⟨hk0, hk1⟩ := hk
      have hxs := Aside0.mk (Hs.out (rd_T37 l k) (by unfold rd_T37; rw [List.getD_eq_getElem?_getD, List.getElem?_eq_getElem (show k.toNat < l.length by omega)]; exact List.getElem_mem _))
      obtain ⟨ld, A5, c5, rfl, q0, q1, q2, q3, q4, q5, q6, q7⟩ := at_T37 (Kd.C_below hr hL.out.hB) k hk0 hk1
      have hxl : Aside0 (((O.take m).map fun k => rd_T37 l k).length ≤ 4096) := ⟨by simp; omega⟩
      generalize rd_T37 l k = x at q0 q1 q2 q3 q4 q5 q6 q7 htk' hxs
      generalize ((O.take m).map fun k => rd_T37 l k) = xs at hL htk' hxl
      have hc0 := hL.out.cell
      have hc1 := hL.out.cellb
      go_wp2_with fail
      refine start_ (n := 12) (S := fun w' => w'.cell? ⟨w.heap.size + 2, 0, none⟩ = some vo ∧ w'.cell? ⟨w.heap.size, 0, none⟩ = some (.slice (some ld) l.length c) ∧ w'.cell? (ld.add (k.toNat * 6)) = some (.int .i64 x.f0) ∧ w'.cell? ⟨(ld.add (k.toNat * 6)).block, (ld.add (k.toNat * 6)).off + 1, none⟩ = some (.int .i64 x.f1) ∧ w'.cell? ⟨(ld.add (k.toNat * 6)).block, (ld.add (k.toNat * 6)).off + 2, none⟩ = some (.int .i64 x.f2) ∧ w'.cell? ⟨(ld.add (k.toNat * 6)).block, (ld.add (k.toNat * 6)).off + 3, none⟩ = some (.int .i64 x.f3) ∧ w'.cell? ⟨(ld.add (k.toNat * 6)).block, (ld.add (k.toNat * 6)).off + 4, none⟩ = some (.int .i64 x.f4) ∧ w'.cell? ⟨(ld.add (k.toNat * 6)).block, (ld.add (k.toNat * 6)).off + 5, none⟩ = some (.slice A5 x.f5.length c5)) (ds := [9, 11]) #[false, false, false, false, false, false, false, false, false, false, false, false] (by kernel_rfl) rfl rfl ⟨hc0, hc1, q0, q1, q2, q3, q4, q5⟩ (fun hHeld => ?_)
      have hL1 : Aside0 (BI w (some ld) (some oad) c co l.length t O xs vo vo wr.drew) := ⟨hL.out.below (pw_below_drewN (Below.refl _ _) 1)⟩
      have q7' : (Kd.int .i64).C wr.drew A5 x.f5.length x.f5 := Kd.C_below q7 (pw_below_drewN (Below.refl _ _) 1)
      clear hL hc0 hc1 q0 q1 q2 q3 q4 q5 q7 ho1
      generalize wr.drew = W1 at hL1 q7' hHeld ⊢
      refine pure_ (i := 0) (N := some 35) (v := ?_) (a' := ?_) #[true, false, false, false, false, false, false, false, false, false, false, false] rfl rfl (by kernel_rfl) (fun _ _ _ h => h) (Or.inl ⟨by rfl, ?_⟩) ?_ ?_
      rotate_left
      · intro w'
        go_simp
        try with_reducible rfl
      rotate_left
      · simp only [Act.put, List.setIfInBounds_toArray, List.set_cons_zero, List.set_cons_succ, i64_w, i32_w]
        rfl
      refine pure_ (i := 2) (N := some 37) (v := ?_) (a' := ?_) #[true, false, true, false, false, false, false, false, false, false, false, false] rfl rfl (by kernel_rfl) (fun _ _ _ h => h) (Or.inl ⟨by rfl, ?_⟩) ?_ ?_
      rotate_left
      · intro w'
        go_simp
        try with_reducible rfl
      rotate_left
      · simp only [Act.put, List.setIfInBounds_toArray, List.set_cons_zero, List.set_cons_succ, i64_w, i32_w]
        rfl
      refine pure_ (i := 4) (N := some 39) (v := ?_) (a' := ?_) #[true, false, true, false, true, false, false, false, false, false, false, false] rfl rfl (by kernel_rfl) (fun _ _ _ h => h) (Or.inl ⟨by rfl, ?_⟩) ?_ ?_
      rotate_left
      · intro w'
        go_simp
        try with_reducible rfl
      rotate_left
      · simp only [Act.put, List.setIfInBounds_toArray, List.set_cons_zero, List.set_cons_succ, i64_w, i32_w]
        rfl
      refine take_ (i := 1) (N := some 36) (v := ?_) (a' := ?_) #[true, true, true, false, true, false, false, false, false, false, false, false] rfl rfl (by kernel_rfl) (fun _ _ _ h => h) (Or.inl ⟨by rfl, ?_⟩) hHeld ?_ ?_
      rotate_left
      · rintro w' ⟨s0, s1, s2, s3, s4, s5, s6, s7⟩
        go_simp
        try with_reducible rfl
      rotate_left
      · simp only [Act.put, List.setIfInBounds_toArray, List.set_cons_zero, List.set_cons_succ, i64_w, i32_w]
        rfl
      refine take_ (i := 3) (N := some 38) (v := ?_) (a' := ?_) #[true, true, true, true, true, false, false, false, false, false, false, false] rfl rfl (by kernel_rfl) (fun _ _ _ h => h) (Or.inl ⟨by rfl, ?_⟩) hHeld ?_ ?_
      rotate_left
      · rintro w' ⟨s0, s1, s2, s3, s4, s5, s6, s7⟩
        go_simp
        try with_reducible rfl
      rotate_left
      · simp only [Act.put, List.setIfInBounds_toArray, List.set_cons_zero, List.set_cons_succ, i64_w, i32_w]
        rfl
      refine pure_ (i := 5) (N := some 40) (v := ?_) (a' := ?_) #[true, true, true, true, true, true, false, false, false, false, false, false] rfl rfl (by kernel_rfl) (fun _ _ _ h => h) (Or.inl ⟨by rfl, ?_⟩) ?_ ?_
      rotate_left
      · intro w'
        go_simp
        try with_reducible rfl
      rotate_left
      · simp only [Act.put, List.setIfInBounds_toArray, List.set_cons_zero, List.set_cons_succ, i64_w, i32_w]
        rfl
      refine take_ (i := 6) (N := some 41) (v := ?_) (a' := ?_) #[true, true, true, true, true, true, true, false, false, false, false, false] rfl rfl (by kernel_rfl) (fun _ _ _ h => h) (Or.inl ⟨by rfl, ?_⟩) hHeld ?_ ?_
      rotate_left
      · rintro w' ⟨s0, s1, s2, s3, s4, s5, s6, s7⟩
        go_simp
        try with_reducible rfl
      rotate_left
      · simp only [Act.put, List.setIfInBounds_toArray, List.set_cons_zero, List.set_cons_succ, i64_w, i32_w]
        rfl
      refine one_ (i := 7) (N := some 42) #[true, true, true, true, true, true, true, true, false, false, false, false] rfl rfl (by kernel_rfl) (by decide) (fun K hK => ?_)
      refine call_ 31 _ (by rfl) rfl (by go_simp; rfl) ?_
      refine (copied_calls x A5 c5 _ q7' q6 (by have := hxs.out; omega)).mono ?_
      rintro e w2 ⟨v5, rfl, hv5, hb2⟩
      refine ⟨_, rfl, ?_⟩
      have hL2 := Aside0.mk (hL1.out.below hb2)
      have hv6 : Aside0 (Kd.R (Kd.int .i64) 3 w2 w.heap.size (fun k => W1.heap.size ≤ k) v5 x.f5) := ⟨Kd.R_lower (Kd.R_mono (Kd.R_bound hv5) (fun k hk => hk.2.1)) hL1.out.hB.size⟩
      have hv7 : Aside0 (∀ k, W1.heap.size ≤ k → w.heap.size + 3 ≤ k ∧ some k ≠ vo.ownBlock) := ⟨fun k hk => ⟨Nat.le_trans hL1.out.size hk, Kd.fresh' (Kd.S_lt hL1.out.hv) k hk⟩⟩
      have hv8 : Aside0 (Kd.S k37 37 w2 w.heap.size (fun k => w.heap.size + 3 ≤ k ∧ ¬ W1.heap.size ≤ k) vo xs) := ⟨Kd.S_below (Kd.S_mono (Kd.S_bound hL1.out.hv) (fun k hk => ⟨hk.1, by have := hk.2.2.1; omega⟩)) hb2⟩
      refine hK.out _ _ ⟨pw_cell_below hb2 hHeld.1, pw_cell_below hb2 hHeld.2.1, pw_cell_below hb2 hHeld.2.2.1, pw_cell_below hb2 hHeld.2.2.2.1, pw_cell_below hb2 hHeld.2.2.2.2.1, pw_cell_below hb2 hHeld.2.2.2.2.2.1, pw_cell_below hb2 hHeld.2.2.2.2.2.2.1, pw_cell_below hb2 hHeld.2.2.2.2.2.2.2⟩ (fun hHeld => ?_)
      clear hK K
      refine norm_ (a' := ?_) ?_ ?_
      rotate_left
      · show Act.put _ (some 42) _ = _
        simp only [Act.put, List.setIfInBounds_toArray, List.set_cons_zero, List.set_cons_succ, i64_w, i32_w]
        rfl
      refine one_ (i := 8) (N := some 43) #[true, true, true, true, true, true, true, true, true, false, false, false] rfl rfl (by kernel_rfl) (by decide) (fun K hK => ?_)
      refine value_ (w1 := ?_) (v := ?_) (by rfl) rfl ?_ ?_
      rotate_left 2
      · go_simp
        constructor
        · rfl
        · rfl
      refine hK.out _ _ ⟨pw_cell_below (below_alloc (Below.refl _ _) _) hHeld.1, pw_cell_below (below_alloc (Below.refl _ _) _) hHeld.2.1, pw_cell_below (below_alloc (Below.refl _ _) _) hHeld.2.2.1, pw_cell_below (below_alloc (Below.refl _ _) _) hHeld.2.2.2.1, pw_cell_below (below_alloc (Below.refl _ _) _) hHeld.2.2.2.2.1, pw_cell_below (below_alloc (Below.refl _ _) _) hHeld.2.2.2.2.2.1, pw_cell_below (below_alloc (Below.refl _ _) _) hHeld.2.2.2.2.2.2.1, pw_cell_below (below_alloc (Below.refl _ _) _) hHeld.2.2.2.2.2.2.2⟩ (fun hHeld => ?_)
      clear hK K
      refine norm_ (a' := ?_) ?_ ?_
      rotate_left
      · show Act.put _ (some 43) _ = _
        simp only [Act.put, List.setIfInBounds_toArray, List.set_cons_zero, List.set_cons_succ, i64_w, i32_w]
        rfl
      refine last_ (i := 9) (N := some 44) #[true, true, true, true, true, true, true, true, true, true, false, false] rfl rfl (by kernel_rfl) (by decide) (fun K hK => ?_)
      refine Kd.S_append_step k37 (w0 := w) w.heap.size (by rfl) (.tmp 36) (.tmp 43) 22 37 (.agg #[(.int .i64 0), (.int .i64 0), (.int .i64 0), (.int .i64 0), (.int .i64 0), (.slice none 0 0)]) 64 rfl Try.underlying22 info37 rfl (by decide) (by omega) vo xs x [.int .i64 x.f0, .int .i64 x.f1, .int .i64 x.f2, .int .i64 x.f3, .int .i64 x.f4, v5] (fun k => w.heap.size + 3 ≤ k) (fun k => W1.heap.size ≤ k) rfl rfl ?aP hv7.out ?aF ?aO ?aB ?aS ?aL ?_
      (case aP => exact k37_mkM _ _ _ x (hv6.out))
      (case aF => intro k hk; have := hL2.out.size; omega)
      (case aO => exact hv8.out)
      (case aB => exact hL2.out.hB)
      (case aS => have := hL2.out.size; omega)
      (case aL => have := hxl.out; omega)
      intro v1 w4 hv1 hb4 hg4 hat4
      have hL4 := Aside0.mk (hL2.out.grown hv1 hb4 hg4 hg4.size)
      obtain ⟨Av, cv, hve⟩ := Kd.S_slice hv1
      rw [show (xs ++ [x]).length = xs.length + 1 by simp] at hve
      subst hve
      refine hK.out _ _ ?_
      clear hK K
      refine norm_ (a' := ?_) ?_ ?_
      rotate_left
      · show Act.put _ (some 44) _ = _
        simp only [Act.put, List.setIfInBounds_toArray, List.set_cons_zero, List.set_cons_succ, i64_w, i32_w]
        rfl
      refine pure_ (i := 10) (N := some 45) (v := ?_) (a' := ?_) #[true, true, true, true, true, true, true, true, true, true, true, false] rfl rfl (by kernel_rfl) (fun _ _ _ h => h) (Or.inl ⟨by rfl, ?_⟩) ?_ ?_
      rotate_left
      · intro w'
        go_simp
        try with_reducible rfl
      rotate_left
      · simp only [Act.put, List.setIfInBounds_toArray, List.set_cons_zero, List.set_cons_succ, i64_w, i32_w]
        rfl
      refine last_ (i := 11) (N := none) #[true, true, true, true, true, true, true, true, true, true, true, true] rfl rfl (by kernel_rfl) (by decide) (fun K hK => ?_)
      have s0 := hL4.out.cell
      have s1 := blk_frozen hL4.out.ho 0
      refine skip_ (w1 := ?_) (by rfl) rfl ?_ ?_
      rotate_left
      · go_simp
        rfl
      have hL5 := Aside0.mk (hL4.out.set (.slice Av (xs.length + 1) cv))
      refine hK.out _ _ ?_
      clear hK K
      refine done_ (by kernel_rfl) ?_
      try go_wp2
      go_roundw
      case rel => exact ⟨m + 1, _, by omega, by go_num, by rw [htk'.out]; exact hL5⟩
      case measure => simp [intOf]; omega
    · obtain rfl : m = l.length := by omega
      obtain ⟨Av, cv, hve⟩ := Kd.S_slice hL.out.hv
      rw [show ((O.take l.length).map fun k => rd_T37 l k).length = l.length by simp; omega] at hve
      subst hve
      have hc0 := hL.out.cell
      have hc1 : wr.cell? ⟨w.heap.size + 2, 1, none⟩ = some (.int .i64 t.f0) := (blk_cell hL.out.ho 1).trans rfl
      have hc2 : wr.cell? ⟨w.heap.size + 2, 2, none⟩ = some (.int .i64 t.f1) := (blk_cell hL.out.ho 2).trans rfl
      have hc3 : wr.cell? ⟨w.heap.size + 2, 3, none⟩ = some (.int .i64 t.f2) := (blk_cell hL.out.ho 3).trans rfl
      have hc4 : wr.cell? ⟨w.heap.size + 2, 4, none⟩ = some (.int .i64 t.f3) := (blk_cell hL.out.ho 4).trans rfl
      have hz0 : wr.cell? ⟨w.heap.size + 1, 0, none⟩ = some (.slice none 0 0) := (blk_cell hL.out.hz 0).trans rfl
      have hz1 : wr.cell? ⟨w.heap.size + 1, 1, none⟩ = some (.int .i64 0) := (blk_cell hL.out.hz 1).trans rfl
      have hz2 : wr.cell? ⟨w.heap.size + 1, 2, none⟩ = some (.int .i64 0) := (blk_cell hL.out.hz 2).trans rfl
      have hz3 : wr.cell? ⟨w.heap.size + 1, 3, none⟩ = some (.int .i64 0) := (blk_cell hL.out.hz 3).trans rfl
      have hz4 : wr.cell? ⟨w.heap.size + 1, 4, none⟩ = some (.int .i64 0) := (blk_cell hL.out.hz 4).trans rfl
      have hf0 := blk_frozen hL.out.hz 0
      have hf1 := blk_frozen hL.out.hz 1
      have hf2 := blk_frozen hL.out.hz 2
      have hf3 := blk_frozen hL.out.hz 3
      have hf4 := blk_frozen hL.out.hz 4
      have hend := hL.out.hv
      rw [show List.take l.length O = O by rw [← hOl, List.take_length]] at hend
      have hend' := Aside0.mk hend
      have hB := Aside0.mk hL.out.hB
      clear hend
      have hL' := Aside0.mk hL.out
      clear hL
      go_wp2_with fail
      refine bodyPost_ret (results_cell_row rfl _ _ (w.heap.size + 1) 29 #[.slice Av l.length cv, .int .i64 t.f0, .int .i64 t.f1, .int .i64 t.f2, .int .i64 t.f3] (0, 0) _ rfl (by refine blk_put (cs := #[.slice Av l.length cv, .int .i64 t.f0, .int .i64 t.f1, .int .i64 t.f2, .int .i64 0]) ?_ 4 _ rfl; refine blk_put (cs := #[.slice Av l.length cv, .int .i64 t.f0, .int .i64 t.f1, .int .i64 0, .int .i64 0]) ?_ 3 _ rfl; refine blk_put (cs := #[.slice Av l.length cv, .int .i64 t.f0, .int .i64 0, .int .i64 0, .int .i64 0]) ?_ 2 _ rfl; refine blk_put (cs := #[.slice Av l.length cv, .int .i64 0, .int .i64 0, .int .i64 0, .int .i64 0]) ?_ 1 _ rfl; refine blk_put (cs := #[.slice none 0 0, .int .i64 0, .int .i64 0, .int .i64 0, .int .i64 0]) ?_ 0 _ rfl; exact hL'.out.hz) Try.underlying29 rfl (by kernel_rfl)) rfl ?_
      have ge : w.heap.size ≤ w.heap.size + 1 := Nat.le_succ _
      have hne : ∀ k, w.heap.size + 3 ≤ k → k ≠ w.heap.size + 1 := fun k hk => by omega
      refine ⟨_, rfl, Kd.S_mono (Kd.S_far (p := ⟨w.heap.size + 1, 4, none⟩) (Kd.S_far (p := ⟨w.heap.size + 1, 3, none⟩) (Kd.S_far (p := ⟨w.heap.size + 1, 2, none⟩) (Kd.S_far (p := ⟨w.heap.size + 1, 1, none⟩) (Kd.S_far (p := ⟨w.heap.size + 1, 0, none⟩) hend'.out hne _) hne _) hne _) hne _) hne _) (fun _ _ => trivial), ?_⟩
      exact below_set (below_set (below_set (below_set (below_set hB.out ge) ge) ge) ge) ge
#print axioms block_calls
end Go.Proofs.Ytphmlkbmnmicpaa.A

/- The functions that a program does not print, in the form that printed texts take them. -/
namespace Go.Proofs.Ytphmlkbmnmicpaa.A
open Go.RowKit Go.Proofs.YtphmlkbmnmicpaaW.PrintWords Go.Proofs.YtphmlkbmnmicpaaW.PrintLast Go.Shelf
set_option linter.unusedVariables false
set_option linter.unusedSimpArgs false

def Few (l : List S37) : Prop := l.length ≤ 4096 ∧ ∀ x ∈ l, x.f5.length ≤ 1000
instance (l : List S37) : Decidable (Few l) := by unfold Few; exact inferInstance

def sched_Order.f (l0 : List S37) : Option (List Int) := if Few l0 then some (orderOf l0) else none
theorem sched_Order.calls (A0 : Option Addr) (c0 : Nat) (l0 : List S37) (r : List Int) (w : World) (hr0 : Kd.C k37 w A0 l0.length l0) (hc0 : l0.length ≤ c0) (h : sched_Order.f l0 = some r) :
    Calls Try.prog 22 #[.slice A0 l0.length c0] w fun e w' => ∃ v0_ : Value, e = .returned (v0_) ∧ Kd.R (Kd.int .i64) 3 w' w.heap.size (fun _ => True) v0_ r ∧ Below w.heap.size w w' := by
  unfold sched_Order.f at h
  split at h
  · obtain rfl := Option.some.inj h
    rename_i hf
    exact order_calls l0 hf.1 hf.2 A0 c0 w hr0 hc0
  · cases h

theorem orderOf_rng (l : List S37) : ∀ k ∈ orderOf l, 0 ≤ k ∧ k < l.length := by
  intro k hk
  obtain ⟨i, rfl, hi⟩ := orderBy_rng _ _ (depsOf_back l) k hk
  rw [depsOf_length] at hi
  omega

def sched_Block.f (l0 : List S37) (a b c d : Int) : Option (List S37 × Int × Int × Int × Int) := if Few l0 then some ((orderOf l0).map (fun k => rd_T37 l0 k), a, b, c, d) else none
theorem sched_Block.calls (A0 : Option Addr) (c0 : Nat) (l0 : List S37) (a b c d : Int) (r : List S37) (r1 r2 r3 r4 : Int) (w : World) (hr0 : Kd.C k37 w A0 l0.length l0) (hc0 : l0.length ≤ c0) (h : sched_Block.f l0 a b c d = some (r, r1, r2, r3, r4)) :
    Calls Try.prog 11 #[.agg #[.slice A0 l0.length c0, .int .i64 a, .int .i64 b, .int .i64 c, .int .i64 d]] w fun e w' => ∃ v0_ : Value, e = .returned (.agg #[v0_, .int .i64 r1, .int .i64 r2, .int .i64 r3, .int .i64 r4]) ∧ Kd.S k37 37 w' w.heap.size (fun _ => True) v0_ r ∧ Below w.heap.size w w' := by
  unfold sched_Block.f at h
  split at h
  · rename_i hf
    have h' := Option.some.inj h
    injection h' with e0 h'
    injection h' with e1 h'
    injection h' with e2 h'
    injection h' with e3 e4
    subst e0 e1 e2 e3 e4
    refine block_calls l0 ⟨a, b, c, d⟩ hf.1 hf.2 A0 c0 w hr0 hc0 (orderOf l0) (fun W hW => ?_) (orderOf_rng l0) (orderOf_length l0)
    refine (order_calls l0 hf.1 hf.2 A0 c0 W (Kd.C_below hr0 hW) hc0).mono ?_
    rintro e w' ⟨v, he, hv, hb⟩
    obtain ⟨Ao, co, rfl⟩ := Kd.R_slice hv
    rw [orderOf_length] at he hv
    exact ⟨Ao, co, he, hv, hb⟩
  · cases h

def sched_May.f (l0 : List S37) (o : List Int) : Option Bool := if Few l0 then some (decide (o.length = l0.length) && mayB (depsOf l0) l0.length (List.replicate l0.length false) o) else none
set_option maxHeartbeats 1000000 in
theorem sched_May.calls (A0 : Option Addr) (c0 : Nat) (l0 : List S37) (A1 : Option Addr) (c1 : Nat) (l1 : List Int) (r : Bool) (w : World) (hr0 : Kd.C k37 w A0 l0.length l0) (hc0 : l0.length ≤ c0) (hr1 : Kd.C (Kd.int .i64) w A1 l1.length l1) (hc1 : l1.length ≤ c1) (h : sched_May.f l0 l1 = some r) :
    Calls Try.prog 24 #[.slice A0 l0.length c0, .slice A1 l1.length c1] w fun e w' => e = .returned (.bool r) ∧ Below w.heap.size w w' := by
  unfold sched_May.f at h
  split at h
  · rename_i hf
    obtain rfl := Option.some.inj h
    by_cases hl : l1.length = l0.length
    · rw [decide_eq_true hl, Bool.true_and]
      exact may_calls l0 hf.1 hf.2 A0 c0 w hr0 hc0 l1 A1 c1 hr1 hl
    · rw [decide_eq_false hl, Bool.false_and]
      have h1 := hf.1
      have h2 : ((l1.length : Int) != (l0.length : Int)) = true := by simp; omega
      clear hf hr0 hr1 hc0 hc1 h hl
      go_enter Try.func24, Try.ntmps24
      go_wp2_with fail
      go_ret
      exact ⟨rfl, Below.refl _ _⟩
  · cases h

def sched_heights.f (l0 : List S37) (d : List (List Int)) : Option (List Int) := if Few l0 ∧ d = depsOf l0 then some (hAll l0 d (down l0.length 0)) else none
theorem sched_heights.calls (A0 : Option Addr) (c0 : Nat) (l0 : List S37) (A1 : Option Addr) (c1 : Nat) (l1 : List (List Int)) (r : List Int) (w : World) (hr0 : Kd.C k37 w A0 l0.length l0) (hc0 : l0.length ≤ c0) (hr1 : Kd.C (Kd.slice 3 (Kd.int .i64)) w A1 l1.length l1) (hc1 : l1.length ≤ c1) (h : sched_heights.f l0 l1 = some r) :
    Calls Try.prog 34 #[.slice A0 l0.length c0, .slice A1 l1.length c1] w fun e w' => ∃ v0_ : Value, e = .returned (v0_) ∧ Kd.R (Kd.int .i64) 3 w' w.heap.size (fun _ => True) v0_ r ∧ Below w.heap.size w w' := by
  unfold sched_heights.f at h
  split at h
  · rename_i hf
    obtain rfl := Option.some.inj h
    obtain ⟨hf, hd⟩ := hf
    have hdl : l1.length = l0.length := by rw [hd]; exact depsOf_length l0
    have hbk : Back l1 := by rw [hd]; exact depsOf_back l0
    clear hd h
    have h1 := hf.1
    have := heights_calls l0 l1 A0 A1 c0 c1 w hr0 hc0 hr1 hc1 (by omega) (by omega) (fun i hi k hk => by
      obtain ⟨m, rfl, hm⟩ := hbk i hi k hk
      omega)
    rw [hdl] at this ⊢
    exact this
  · cases h
#print axioms sched_May.calls
#print axioms sched_Block.calls
#print axioms sched_heights.calls
end Go.Proofs.Ytphmlkbmnmicpaa.A

/- What the machine does at this function, and a plain Lean function that says the same: written by a program for this claim; Lean checks it. -/
namespace Go.Proofs.Ytphmlkbmnmicpaa.A
open Go.RowKit Go.Proofs.YtphmlkbmnmicpaaW.PrintWords Go.Proofs.YtphmlkbmnmicpaaW.PrintLast Go.Proofs.YtphmlkbmnmicpaaW.PrintMore
attribute [local go_sem] max2_int min2_int max_two min_two max_three min_three max_four min_four   -- for this text's walks alone
set_option linter.unusedVariables false
set_option linter.unusedSimpArgs false

/-! ### swagelaw27_some: function 30 -/
def swagelaw27_some.f  : Option ((List (S37))) := some (([(⟨1, 1, 0, 0, 0, ([] : List Int)⟩ : S37), (⟨4, 2, 3, 0, 0, ([] : List Int)⟩ : S37), (⟨2, 4, 1, 2, 1, ([] : List Int)⟩ : S37)] : List (S37)))
set_option maxHeartbeats 8000000 in
set_option maxRecDepth 100000 in
theorem swagelaw27_some.calls  (r : List (S37)) (w : World) (h : swagelaw27_some.f  = some r) :
    Calls Try.prog 30 #[] w fun e w' => ∃ v0_ : Value, e = .returned (v0_) ∧ Kd.S k37 37 w' w.heap.size (fun _ => True) v0_ r ∧ Below w.heap.size w w' := by
  have hu37 := Try.underlying37
  have HB := Aside0.mk (Below.refl w.heap.size w)
  have H : (some (([(⟨1, 1, 0, 0, 0, ([] : List Int)⟩ : S37), (⟨4, 2, 3, 0, 0, ([] : List Int)⟩ : S37), (⟨2, 4, 1, 2, 1, ([] : List Int)⟩ : S37)] : List (S37)))) = some r := h
  clear h
  obtain ⟨y199, hy199⟩ : ∃ y_ : List (S37), y_ = (([(⟨1, 1, 0, 0, 0, ([] : List Int)⟩ : S37), (⟨4, 2, 3, 0, 0, ([] : List Int)⟩ : S37), (⟨2, 4, 1, 2, 1, ([] : List Int)⟩ : S37)] : List (S37))) := ⟨_, rfl⟩
  replace H : (some y199) = some r := by first | (rw [hy199]; with_reducible exact H) | (have H2_ := (Option.bind_some _ _).symm.trans H; rw [hy199]; with_reducible exact H2_) | (have H2_ := (Option.bind_some _ _).symm.trans H; with_reducible exact H2_) | with_reducible exact H | (rw [hy199]; exact H) | exact H
  have Ny199 := Aside0.mk hy199
  clear hy199
  obtain rfl := Option.some.inj H
  go_enter Try.func30, Try.ntmps30
  go_wp2_with (first | ((with_reducible refine gate_dst (N := 4) rfl ?_); refine Kd.S_lit k37 _ 37 ?hg (N := 4) ?hd (xs := ([(⟨1, 1, 0, 0, 0, ([] : List Int)⟩ : S37), (⟨4, 2, 3, 0, 0, ([] : List Int)⟩ : S37), (⟨2, 4, 1, 2, 1, ([] : List Int)⟩ : S37)] : List (S37))) (inner := [.int .i64 1, .int .i64 1, .int .i64 0, .int .i64 0, .int .i64 0, .slice none 0 0, .int .i64 4, .int .i64 2, .int .i64 3, .int .i64 0, .int .i64 0, .slice none 0 0, .int .i64 2, .int .i64 4, .int .i64 1, .int .i64 2, .int .i64 1, .slice none 0 0]) (ok := fun _ => True) (okp := fun _ => True) ?hr ?hp (fun _ hk => hk) trivial (Below.refl _ _) (Nat.le_refl _) (by simp) ?_; (case hd => rfl); (case hg => rfl); (case hr => first | (go_simp; done) | (go_simp; rfl)); (case hp => exact (Reps.c6 (show Kd.M k37 _ _ _ (⟨1, 1, 0, 0, 0, ([] : List Int)⟩ : S37) [.int .i64 1, .int .i64 1, .int .i64 0, .int .i64 0, .int .i64 0, .slice none 0 0] from (k37_mkM _ _ _ (⟨1, 1, 0, 0, 0, ([] : List Int)⟩ : S37) (Kd.R_nil _ _ _ _ _))) (Reps.c6 (show Kd.M k37 _ _ _ (⟨4, 2, 3, 0, 0, ([] : List Int)⟩ : S37) [.int .i64 4, .int .i64 2, .int .i64 3, .int .i64 0, .int .i64 0, .slice none 0 0] from (k37_mkM _ _ _ (⟨4, 2, 3, 0, 0, ([] : List Int)⟩ : S37) (Kd.R_nil _ _ _ _ _))) (Reps.c6 (show Kd.M k37 _ _ _ (⟨2, 4, 1, 2, 1, ([] : List Int)⟩ : S37) [.int .i64 2, .int .i64 4, .int .i64 1, .int .i64 2, .int .i64 1, .slice none 0 0] from (k37_mkM _ _ _ (⟨2, 4, 1, 2, 1, ([] : List Int)⟩ : S37) (Kd.R_nil _ _ _ _ _))) (Reps.none _ _))))); intro v200 w1 ho2 hb hg_ hnew_; clear hg_ hnew_; (first | rw [← Ny199.out] at ho2 | (simp only [Int.reduceToNat] at ho2; rw [← Ny199.out] at ho2)); have n0_ := Aside0.mk (Kd.S_lower ho2 (below_size (by repeat (first | (with_reducible first | exact HB.out | apply below_alloc | apply pw_below_drewN | apply below_drew1) | exact HB.out)))); have n1_ := Aside0.mk (below_step (by repeat (first | (with_reducible first | exact HB.out | apply below_alloc | apply pw_below_drewN | apply below_drew1) | exact HB.out)) hb); clear HB; have HO201 := n0_; have HB := n1_; clear n0_ n1_; clear hb ho2))
  go_ret
  exact ⟨_, by first | rfl | (simp [errW_none, errW_some] <;> rfl) | (simp [*, errW_none, errW_some] <;> rfl), by (with_reducible repeat (first | apply Kd.S_alloc | apply Kd.S_drewN | apply Kd.S_drew)); exact HO201.out, by repeat (first | (with_reducible first | exact HB.out | apply below_alloc | apply pw_below_drewN | apply below_drew1) | exact HB.out)⟩

end Go.Proofs.Ytphmlkbmnmicpaa.A

/- What the machine does at this function, and a plain Lean function that says the same: written by a program for this claim; Lean checks it. -/
namespace Go.Proofs.Ytphmlkbmnmicpaa.A
open Go.RowKit Go.Proofs.YtphmlkbmnmicpaaW.PrintWords Go.Proofs.YtphmlkbmnmicpaaW.PrintLast Go.Proofs.YtphmlkbmnmicpaaW.PrintMore
attribute [local go_sem] max2_int min2_int max_two min_two max_three min_three max_four min_four   -- for this text's walks alone
set_option linter.unusedVariables false
set_option linter.unusedSimpArgs false

/-! ### swageref02_Ints: function 19 -/
def swageref02_Ints.l0 : Nat → List Int → List Int → Int → Option (Bool)
  | 0, _, _, _ => none
  | k + 1, x0, x1, x5 => if x5 < (x0.length : Int) then (if 0 ≤ x5 then (if x5 < (x1.length : Int) then (if (rd x0 x5) = (rd x1 x5) then (swageref02_Ints.l0 k x0 x1 (wrap64 (x5 + 1))) else (some false)) else (none)) else (none)) else (some true)
def swageref02_Ints.f (k : Nat) (l0 : List Int) (l1 : List Int) : Option (Bool) := if (l0.length : Int) = (l1.length : Int) then (swageref02_Ints.l0 k l0 l1 0) else (some false)
theorem swageref02_Ints.mono_l : ∀ k, (∀ y0 y1 y2, LeO (swageref02_Ints.l0 k y0 y1 y2) (swageref02_Ints.l0 (k + 1) y0 y1 y2))
  | 0 => fun _ _ _ r h => by simp [swageref02_Ints.l0] at h
  | k + 1 => by
    have ih0 := swageref02_Ints.mono_l k
    · intro y0 y1 y2
      unfold swageref02_Ints.l0
      repeat' first
      | (with_reducible exact ih0 _ _ _)
      | (with_reducible exact LeO.refl _)
      | (with_reducible exact LeO.none _)
      | (with_reducible refine LeO.ite ?_ ?_)
      | (with_reducible refine LeO.bind ?_ (fun _ => ?_))
      | exact ih0 _ _ _
      | exact LeO.none _
      | refine LeO.ite ?_ ?_
      | refine LeO.bind ?_ (fun _ => ?_)
theorem swageref02_Ints.mono : ∀ a0 a1 k, LeO (swageref02_Ints.f k a0 a1) (swageref02_Ints.f (k + 1) a0 a1) := by
  intro a0 a1 k
  have ih0 := swageref02_Ints.mono_l k
  unfold swageref02_Ints.f
  repeat' first
      | (with_reducible exact ih0 _ _ _)
      | (with_reducible exact LeO.refl _)
      | (with_reducible exact LeO.none _)
      | (with_reducible refine LeO.ite ?_ ?_)
      | (with_reducible refine LeO.bind ?_ (fun _ => ?_))
      | exact ih0 _ _ _
      | exact LeO.none _
      | refine LeO.ite ?_ ?_
      | refine LeO.bind ?_ (fun _ => ?_)
set_option maxHeartbeats 8000000 in
set_option maxRecDepth 100000 in
theorem swageref02_Ints.calls (k : Nat) (A0 : Option Addr) (c0 : Nat) (l0 : List Int) (A1 : Option Addr) (c1 : Nat) (l1 : List Int) (r : Bool) (w : World) (hr0 : Kd.C (Kd.int .i64) w A0 l0.length l0) (hc0 : l0.length ≤ c0) (hr1 : Kd.C (Kd.int .i64) w A1 l1.length l1) (hc1 : l1.length ≤ c1) (h : swageref02_Ints.f k l0 l1 = some r) :
    Calls Try.prog 19 #[.slice A0 l0.length c0, .slice A1 l1.length c1] w fun e w' => e = .returned (.bool r) ∧ Drawn0 w w' := by
  have HR0 := Aside0.mk hr0
  have HC0 := Aside0.mk hc0
  clear hr0 hc0
  have HR1 := Aside0.mk hr1
  have HC1 := Aside0.mk hc1
  clear hr1 hc1
  have H : (if (l0.length : Int) = (l1.length : Int) then (swageref02_Ints.l0 k l0 l1 0) else (some false)) = some r := h
  clear h
  by_cases c3 : (l0.length : Int) = (l1.length : Int)
  · rw [if_pos c3] at H
    have c3b0 : ((l0.length : Int) == (l1.length : Int)) = true := beq_iff_eq.mpr c3
    have c3b1 : ((l0.length : Int) != (l1.length : Int)) = false := bne_eq_false_iff_eq.mpr c3
    have c3b2 : (l0.length == l1.length) = true := by first | simpa using c3 | (simp at c3 ⊢; omega)
    clear c3
    have H' := Aside0.mk H
    clear H
    go_enter Try.func19, Try.ntmps19
    go_wp2
    repeat (go_quiet (fail); try go_wp2)
    go_loopg [5] k (fun kq v5 w' => ∃ (x5_1 : Int), v5 = .int .i64 x5_1 ∧ Aside0 (swageref02_Ints.l0 kq l0 l1 x5_1 = some r) ∧ Aside0 (kq ≤ k) ∧ Drawn0 w w')
    case atStart => exact ⟨(0), (by first | rfl | (simp; done) | (simp [*]; done)), H', ⟨Nat.le_refl _⟩, by repeat (first | exact Drawn0.refl _ | apply Drawn0.step)⟩
    case round =>
      clear H'
      try clear c1
      try clear p2
      try clear c3
      try clear c3b0
      try clear c3b1
      try clear c3b2
      obtain ⟨x5_1, rfl, HA, HK1, ⟨m1, rfl⟩⟩ := hrel
      cases gk with
      | zero => exact absurd HA.out (by simp [swageref02_Ints.l0])
      | succ k1 =>
        have H := HA.out
        clear HA
        simp only [swageref02_Ints.l0] at H
        by_cases c4 : x5_1 < (l0.length : Int)
        · rw [if_pos c4] at H
          have c4b0 : decide (x5_1 < (l0.length : Int)) = true := decide_eq_true c4
          clear c4
          by_cases c5 : 0 ≤ x5_1
          · rw [if_pos c5] at H
            have c5b0 : decide (0 ≤ x5_1) = true := decide_eq_true c5
            clear c5
            by_cases c6 : x5_1 < (l1.length : Int)
            · rw [if_pos c6] at H
              have c6b0 : decide (x5_1 < (l1.length : Int)) = true := decide_eq_true c6
              clear c6
              by_cases c7 : (rd l0 x5_1) = (rd l1 x5_1)
              · rw [if_pos c7] at H
                have c7b0 : ((rd l0 x5_1) == (rd l1 x5_1)) = true := beq_iff_eq.mpr c7
                have c7b1 : ((rd l0 x5_1) != (rd l1 x5_1)) = false := bne_eq_false_iff_eq.mpr c7
                clear c7
                have H' := Aside0.mk H
                clear H
                have p171 : 0 ≤ (x5_1 : Int) := of_decide_eq_true (by first | (with_reducible assumption) | assumption)
                have q171 : x5_1 < (l0.length : Int) := of_decide_eq_true (by first | (with_reducible assumption) | assumption)
                obtain ⟨ad171, e171, hx171_0⟩ := Kd.at_int HR0.out x5_1 p171 q171
                cases e171
                replace p171 := eq_true p171
                replace q171 := eq_true q171
                have p172 : 0 ≤ (x5_1 : Int) := of_decide_eq_true (by first | (with_reducible assumption) | assumption)
                have q172 : x5_1 < (l1.length : Int) := of_decide_eq_true (by first | (with_reducible assumption) | assumption)
                obtain ⟨ad172, e172, hx172_0⟩ := Kd.at_int HR1.out x5_1 p172 q172
                cases e172
                replace p172 := eq_true p172
                replace q172 := eq_true q172
                go_wp2
                repeat (go_quiet (fail); try go_wp2)
                go_roundg k1
                case measure => have := HK1.out; omega
                case rel => exact ⟨(wrap64 (x5_1 + 1)), (by first | rfl | (simp; done) | (simp [*]; done)), H', ⟨by have := HK1.out; omega⟩, by repeat (first | exact Drawn0.refl _ | apply Drawn0.step)⟩
              · rw [if_neg c7] at H
                have c7b0 : ((rd l0 x5_1) == (rd l1 x5_1)) = false := beq_eq_false_iff_ne.mpr c7
                have c7b1 : ((rd l0 x5_1) != (rd l1 x5_1)) = true := bne_iff_ne.mpr c7
                obtain rfl := Option.some.inj H
                have p171 : 0 ≤ (x5_1 : Int) := of_decide_eq_true (by first | (with_reducible assumption) | assumption)
                have q171 : x5_1 < (l0.length : Int) := of_decide_eq_true (by first | (with_reducible assumption) | assumption)
                obtain ⟨ad171, e171, hx171_0⟩ := Kd.at_int HR0.out x5_1 p171 q171
                cases e171
                replace p171 := eq_true p171
                replace q171 := eq_true q171
                have p172 : 0 ≤ (x5_1 : Int) := of_decide_eq_true (by first | (with_reducible assumption) | assumption)
                have q172 : x5_1 < (l1.length : Int) := of_decide_eq_true (by first | (with_reducible assumption) | assumption)
                obtain ⟨ad172, e172, hx172_0⟩ := Kd.at_int HR1.out x5_1 p172 q172
                cases e172
                replace p172 := eq_true p172
                replace q172 := eq_true q172
                go_wp2
                repeat (go_quiet (fail); try go_wp2)
                go_ret
                exact ⟨by first | rfl | (simp; done) | (simp [*]; done), by repeat (first | exact Drawn0.refl _ | apply Drawn0.step)⟩
            · rw [if_neg c6] at H
              exact absurd H (by simp)
          · rw [if_neg c5] at H
            exact absurd H (by simp)
        · rw [if_neg c4] at H
          have c4b0 : decide (x5_1 < (l0.length : Int)) = false := decide_eq_false c4
          clear c4
          obtain rfl := Option.some.inj H
          go_wp2
          repeat (go_quiet (fail); try go_wp2)
          go_ret
          exact ⟨by first | rfl | (simp; done) | (simp [*]; done), by repeat (first | exact Drawn0.refl _ | apply Drawn0.step)⟩
  · rw [if_neg c3] at H
    have c3b0 : ((l0.length : Int) == (l1.length : Int)) = false := beq_eq_false_iff_ne.mpr c3
    have c3b1 : ((l0.length : Int) != (l1.length : Int)) = true := bne_iff_ne.mpr c3
    have c3b2 : (l0.length == l1.length) = false := by first | simpa using c3 | (simp at c3 ⊢; omega)
    obtain rfl := Option.some.inj H
    go_enter Try.func19, Try.ntmps19
    go_wp2
    repeat (go_quiet (fail); try go_wp2)
    go_ret
    exact ⟨by first | rfl | (simp; done) | (simp [*]; done), by repeat (first | exact Drawn0.refl _ | apply Drawn0.step)⟩

end Go.Proofs.Ytphmlkbmnmicpaa.A

/- What the machine does at this function, and a plain Lean function that says the same: written by a program for this claim; Lean checks it. -/
namespace Go.Proofs.Ytphmlkbmnmicpaa.A
open Go.RowKit Go.Proofs.YtphmlkbmnmicpaaW.PrintWords Go.Proofs.YtphmlkbmnmicpaaW.PrintLast Go.Proofs.YtphmlkbmnmicpaaW.PrintMore
attribute [local go_sem] max2_int min2_int max_two min_two max_three min_three max_four min_four   -- for this text's walks alone
set_option linter.unusedVariables false
set_option linter.unusedSimpArgs false

/-! ### swageref06_Rows: function 16 -/
def swageref06_Rows.l0 : Nat → List (List Int) → List (List Int) → Int → Option (Bool)
  | 0, _, _, _ => none
  | k + 1, x0, x1, x5 => if x5 < (x0.length : Int) then (if 0 ≤ x5 then (if x5 < (x1.length : Int) then ((swageref02_Ints.f k (rd_L1 x0 x5) (rd_L1 x1 x5)).bind fun t175 => (if t175 = true then (swageref06_Rows.l0 k x0 x1 (wrap64 (x5 + 1))) else (some false))) else (none)) else (none)) else (some true)
def swageref06_Rows.f (k : Nat) (l0 : List (List Int)) (l1 : List (List Int)) : Option (Bool) := if (l0.length : Int) = (l1.length : Int) then (swageref06_Rows.l0 k l0 l1 0) else (some false)
theorem swageref06_Rows.mono_l : ∀ k, (∀ y0 y1 y2, LeO (swageref06_Rows.l0 k y0 y1 y2) (swageref06_Rows.l0 (k + 1) y0 y1 y2))
  | 0 => fun _ _ _ r h => by simp [swageref06_Rows.l0] at h
  | k + 1 => by
    have ih0 := swageref06_Rows.mono_l k
    · intro y0 y1 y2
      unfold swageref06_Rows.l0
      repeat' first
      | (with_reducible exact ih0 _ _ _)
      | (with_reducible exact swageref02_Ints.mono _ _ _)
      | (with_reducible exact LeO.refl _)
      | (with_reducible exact LeO.none _)
      | (with_reducible refine LeO.ite ?_ ?_)
      | (with_reducible refine LeO.bind ?_ (fun _ => ?_))
      | exact ih0 _ _ _
      | exact swageref02_Ints.mono _ _ _
      | exact LeO.none _
      | refine LeO.ite ?_ ?_
      | refine LeO.bind ?_ (fun _ => ?_)
theorem swageref06_Rows.mono : ∀ a0 a1 k, LeO (swageref06_Rows.f k a0 a1) (swageref06_Rows.f (k + 1) a0 a1) := by
  intro a0 a1 k
  have ih0 := swageref06_Rows.mono_l k
  unfold swageref06_Rows.f
  repeat' first
      | (with_reducible exact ih0 _ _ _)
      | (with_reducible exact swageref02_Ints.mono _ _ _)
      | (with_reducible exact LeO.refl _)
      | (with_reducible exact LeO.none _)
      | (with_reducible refine LeO.ite ?_ ?_)
      | (with_reducible refine LeO.bind ?_ (fun _ => ?_))
      | exact ih0 _ _ _
      | exact swageref02_Ints.mono _ _ _
      | exact LeO.none _
      | refine LeO.ite ?_ ?_
      | refine LeO.bind ?_ (fun _ => ?_)
set_option maxHeartbeats 8000000 in
set_option maxRecDepth 100000 in
theorem swageref06_Rows.calls (k : Nat) (A0 : Option Addr) (c0 : Nat) (l0 : List (List Int)) (A1 : Option Addr) (c1 : Nat) (l1 : List (List Int)) (r : Bool) (w : World) (hr0 : Kd.C (Kd.slice 3 (Kd.int .i64)) w A0 l0.length l0) (hc0 : l0.length ≤ c0) (hr1 : Kd.C (Kd.slice 3 (Kd.int .i64)) w A1 l1.length l1) (hc1 : l1.length ≤ c1) (h : swageref06_Rows.f k l0 l1 = some r) :
    Calls Try.prog 16 #[.slice A0 l0.length c0, .slice A1 l1.length c1] w fun e w' => e = .returned (.bool r) ∧ Drawn0 w w' := by
  have HR0 := Aside0.mk hr0
  have HC0 := Aside0.mk hc0
  clear hr0 hc0
  have HR1 := Aside0.mk hr1
  have HC1 := Aside0.mk hc1
  clear hr1 hc1
  have H : (if (l0.length : Int) = (l1.length : Int) then (swageref06_Rows.l0 k l0 l1 0) else (some false)) = some r := h
  clear h
  by_cases c3 : (l0.length : Int) = (l1.length : Int)
  · rw [if_pos c3] at H
    have c3b0 : ((l0.length : Int) == (l1.length : Int)) = true := beq_iff_eq.mpr c3
    have c3b1 : ((l0.length : Int) != (l1.length : Int)) = false := bne_eq_false_iff_eq.mpr c3
    have c3b2 : (l0.length == l1.length) = true := by first | simpa using c3 | (simp at c3 ⊢; omega)
    clear c3
    have H' := Aside0.mk H
    clear H
    go_enter Try.func16, Try.ntmps16
    go_wp2
    repeat (go_quiet (fail); try go_wp2)
    go_loopg [5] k (fun kq v5 w' => ∃ (x5_1 : Int), v5 = .int .i64 x5_1 ∧ Aside0 (swageref06_Rows.l0 kq l0 l1 x5_1 = some r) ∧ Aside0 (kq ≤ k) ∧ Drawn0 w w')
    case atStart => exact ⟨(0), (by first | rfl | (simp; done) | (simp [*]; done)), H', ⟨Nat.le_refl _⟩, by repeat (first | exact Drawn0.refl _ | apply Drawn0.step)⟩
    case round =>
      clear H'
      try clear c1
      try clear p2
      try clear c3
      try clear c3b0
      try clear c3b1
      try clear c3b2
      obtain ⟨x5_1, rfl, HA, HK1, ⟨m1, rfl⟩⟩ := hrel
      cases gk with
      | zero => exact absurd HA.out (by simp [swageref06_Rows.l0])
      | succ k1 =>
        have H := HA.out
        clear HA
        simp only [swageref06_Rows.l0] at H
        by_cases c4 : x5_1 < (l0.length : Int)
        · rw [if_pos c4] at H
          have c4b0 : decide (x5_1 < (l0.length : Int)) = true := decide_eq_true c4
          clear c4
          by_cases c5 : 0 ≤ x5_1
          · rw [if_pos c5] at H
            have c5b0 : decide (0 ≤ x5_1) = true := decide_eq_true c5
            clear c5
            by_cases c6 : x5_1 < (l1.length : Int)
            · rw [if_pos c6] at H
              have c6b0 : decide (x5_1 < (l1.length : Int)) = true := decide_eq_true c6
              clear c6
              replace H := Option.bind_eq_some_iff.mp H
              obtain ⟨t175, A70, H⟩ := H
              replace H : (if t175 = true then (swageref06_Rows.l0 k1 l0 l1 (wrap64 (x5_1 + 1))) else (some false)) = some r := H
              have A7 := Aside0.mk A70
              clear A70
              by_cases c8 : t175 = true
              · subst c8
                have H1 : (swageref06_Rows.l0 k1 l0 l1 (wrap64 (x5_1 + 1))) = some r := by rw [if_pos rfl] at H; exact H
                clear H
                have H := H1
                clear H1
                have H' := Aside0.mk H
                clear H
                have p173 : 0 ≤ (x5_1 : Int) := of_decide_eq_true (by first | (with_reducible assumption) | assumption)
                have q173 : x5_1 < (l0.length : Int) := of_decide_eq_true (by first | (with_reducible assumption) | assumption)
                obtain ⟨ad173, A173_0, c173_0, e173, hx173_0, hl173_0, hi173_0⟩ := at_L1 HR0.out x5_1 p173 q173
                cases e173
                have HR173_0 := Aside0.mk hi173_0
                have HC173_0 := Aside0.mk hl173_0
                clear hi173_0 hl173_0
                replace p173 := eq_true p173
                replace q173 := eq_true q173
                have p174 : 0 ≤ (x5_1 : Int) := of_decide_eq_true (by first | (with_reducible assumption) | assumption)
                have q174 : x5_1 < (l1.length : Int) := of_decide_eq_true (by first | (with_reducible assumption) | assumption)
                obtain ⟨ad174, A174_0, c174_0, e174, hx174_0, hl174_0, hi174_0⟩ := at_L1 HR1.out x5_1 p174 q174
                cases e174
                have HR174_0 := Aside0.mk hi174_0
                have HC174_0 := Aside0.mk hl174_0
                clear hi174_0 hl174_0
                replace p174 := eq_true p174
                replace q174 := eq_true q174
                go_wp2_with (first | (go_at_call 19; (with_reducible refine (swageref02_Ints.calls k1 _ _ (rd_L1 l0 x5_1) _ _ (rd_L1 l1 x5_1) true _ ?side1 ?side2 ?side3 ?side4 A7.out).mono ?_); (case side1 => repeat (first | exact HR173_0.out | (with_reducible refine Kd.C_alloc ?_ _) | (with_reducible refine Kd.C_drewN ?_ _) | (with_reducible refine Kd.C_drew ?_))); (case side2 => exact HC173_0.out); (case side3 => repeat (first | exact HR174_0.out | (with_reducible refine Kd.C_alloc ?_ _) | (with_reducible refine Kd.C_drewN ?_ _) | (with_reducible refine Kd.C_drew ?_))); (case side4 => exact HC174_0.out); rintro e w' ⟨rfl, ⟨nd, rfl⟩⟩; (try first | exact ⟨rfl, _, World.drewN_drewN _ _ _⟩ | exact ⟨rfl, _, Eq.trans (World.drewN_drewN _ _ _) (congrArg (World.drewN _) (Nat.add_assoc _ _ _))⟩)))
                repeat (go_quiet (first | (go_at_call 19; (with_reducible refine (swageref02_Ints.calls k1 _ _ (rd_L1 l0 x5_1) _ _ (rd_L1 l1 x5_1) true _ ?side1 ?side2 ?side3 ?side4 A7.out).mono ?_); (case side1 => repeat (first | exact HR173_0.out | (with_reducible refine Kd.C_alloc ?_ _) | (with_reducible refine Kd.C_drewN ?_ _) | (with_reducible refine Kd.C_drew ?_))); (case side2 => exact HC173_0.out); (case side3 => repeat (first | exact HR174_0.out | (with_reducible refine Kd.C_alloc ?_ _) | (with_reducible refine Kd.C_drewN ?_ _) | (with_reducible refine Kd.C_drew ?_))); (case side4 => exact HC174_0.out); rintro e w' ⟨rfl, ⟨nd, rfl⟩⟩; (try first | exact ⟨rfl, _, World.drewN_drewN _ _ _⟩ | exact ⟨rfl, _, Eq.trans (World.drewN_drewN _ _ _) (congrArg (World.drewN _) (Nat.add_assoc _ _ _))⟩))); try go_wp2_with (first | (go_at_call 19; (with_reducible refine (swageref02_Ints.calls k1 _ _ (rd_L1 l0 x5_1) _ _ (rd_L1 l1 x5_1) true _ ?side1 ?side2 ?side3 ?side4 A7.out).mono ?_); (case side1 => repeat (first | exact HR173_0.out | (with_reducible refine Kd.C_alloc ?_ _) | (with_reducible refine Kd.C_drewN ?_ _) | (with_reducible refine Kd.C_drew ?_))); (case side2 => exact HC173_0.out); (case side3 => repeat (first | exact HR174_0.out | (with_reducible refine Kd.C_alloc ?_ _) | (with_reducible refine Kd.C_drewN ?_ _) | (with_reducible refine Kd.C_drew ?_))); (case side4 => exact HC174_0.out); rintro e w' ⟨rfl, ⟨nd, rfl⟩⟩; (try first | exact ⟨rfl, _, World.drewN_drewN _ _ _⟩ | exact ⟨rfl, _, Eq.trans (World.drewN_drewN _ _ _) (congrArg (World.drewN _) (Nat.add_assoc _ _ _))⟩))))
                go_roundg k1
                case measure => have := HK1.out; omega
                case rel => exact ⟨(wrap64 (x5_1 + 1)), (by first | rfl | (simp; done) | (simp [*]; done)), H', ⟨by have := HK1.out; omega⟩, by repeat (first | exact Drawn0.refl _ | apply Drawn0.step)⟩
              · replace c8 := Bool.eq_false_iff.mpr c8
                subst c8
                have H1 : (some false) = some r := by rw [if_neg (show ¬ (false = true) by decide)] at H; exact H
                clear H
                have H := H1
                clear H1
                obtain rfl := Option.some.inj H
                have p173 : 0 ≤ (x5_1 : Int) := of_decide_eq_true (by first | (with_reducible assumption) | assumption)
                have q173 : x5_1 < (l0.length : Int) := of_decide_eq_true (by first | (with_reducible assumption) | assumption)
                obtain ⟨ad173, A173_0, c173_0, e173, hx173_0, hl173_0, hi173_0⟩ := at_L1 HR0.out x5_1 p173 q173
                cases e173
                have HR173_0 := Aside0.mk hi173_0
                have HC173_0 := Aside0.mk hl173_0
                clear hi173_0 hl173_0
                replace p173 := eq_true p173
                replace q173 := eq_true q173
                have p174 : 0 ≤ (x5_1 : Int) := of_decide_eq_true (by first | (with_reducible assumption) | assumption)
                have q174 : x5_1 < (l1.length : Int) := of_decide_eq_true (by first | (with_reducible assumption) | assumption)
                obtain ⟨ad174, A174_0, c174_0, e174, hx174_0, hl174_0, hi174_0⟩ := at_L1 HR1.out x5_1 p174 q174
                cases e174
                have HR174_0 := Aside0.mk hi174_0
                have HC174_0 := Aside0.mk hl174_0
                clear hi174_0 hl174_0
                replace p174 := eq_true p174
                replace q174 := eq_true q174
                go_wp2_with (first | (go_at_call 19; (with_reducible refine (swageref02_Ints.calls k1 _ _ (rd_L1 l0 x5_1) _ _ (rd_L1 l1 x5_1) false _ ?side1 ?side2 ?side3 ?side4 A7.out).mono ?_); (case side1 => repeat (first | exact HR173_0.out | (with_reducible refine Kd.C_alloc ?_ _) | (with_reducible refine Kd.C_drewN ?_ _) | (with_reducible refine Kd.C_drew ?_))); (case side2 => exact HC173_0.out); (case side3 => repeat (first | exact HR174_0.out | (with_reducible refine Kd.C_alloc ?_ _) | (with_reducible refine Kd.C_drewN ?_ _) | (with_reducible refine Kd.C_drew ?_))); (case side4 => exact HC174_0.out); rintro e w' ⟨rfl, ⟨nd, rfl⟩⟩; (try first | exact ⟨rfl, _, World.drewN_drewN _ _ _⟩ | exact ⟨rfl, _, Eq.trans (World.drewN_drewN _ _ _) (congrArg (World.drewN _) (Nat.add_assoc _ _ _))⟩)))
                repeat (go_quiet (first | (go_at_call 19; (with_reducible refine (swageref02_Ints.calls k1 _ _ (rd_L1 l0 x5_1) _ _ (rd_L1 l1 x5_1) false _ ?side1 ?side2 ?side3 ?side4 A7.out).mono ?_); (case side1 => repeat (first | exact HR173_0.out | (with_reducible refine Kd.C_alloc ?_ _) | (with_reducible refine Kd.C_drewN ?_ _) | (with_reducible refine Kd.C_drew ?_))); (case side2 => exact HC173_0.out); (case side3 => repeat (first | exact HR174_0.out | (with_reducible refine Kd.C_alloc ?_ _) | (with_reducible refine Kd.C_drewN ?_ _) | (with_reducible refine Kd.C_drew ?_))); (case side4 => exact HC174_0.out); rintro e w' ⟨rfl, ⟨nd, rfl⟩⟩; (try first | exact ⟨rfl, _, World.drewN_drewN _ _ _⟩ | exact ⟨rfl, _, Eq.trans (World.drewN_drewN _ _ _) (congrArg (World.drewN _) (Nat.add_assoc _ _ _))⟩))); try go_wp2_with (first | (go_at_call 19; (with_reducible refine (swageref02_Ints.calls k1 _ _ (rd_L1 l0 x5_1) _ _ (rd_L1 l1 x5_1) false _ ?side1 ?side2 ?side3 ?side4 A7.out).mono ?_); (case side1 => repeat (first | exact HR173_0.out | (with_reducible refine Kd.C_alloc ?_ _) | (with_reducible refine Kd.C_drewN ?_ _) | (with_reducible refine Kd.C_drew ?_))); (case side2 => exact HC173_0.out); (case side3 => repeat (first | exact HR174_0.out | (with_reducible refine Kd.C_alloc ?_ _) | (with_reducible refine Kd.C_drewN ?_ _) | (with_reducible refine Kd.C_drew ?_))); (case side4 => exact HC174_0.out); rintro e w' ⟨rfl, ⟨nd, rfl⟩⟩; (try first | exact ⟨rfl, _, World.drewN_drewN _ _ _⟩ | exact ⟨rfl, _, Eq.trans (World.drewN_drewN _ _ _) (congrArg (World.drewN _) (Nat.add_assoc _ _ _))⟩))))
                go_ret
                exact ⟨by first | rfl | (simp; done) | (simp [*]; done), by repeat (first | exact Drawn0.refl _ | apply Drawn0.step)⟩
            · rw [if_neg c6] at H
              exact absurd H (by simp)
          · rw [if_neg c5] at H
            exact absurd H (by simp)
        · rw [if_neg c4] at H
          have c4b0 : decide (x5_1 < (l0.length : Int)) = false := decide_eq_false c4
          clear c4
          obtain rfl := Option.some.inj H
          go_wp2
          repeat (go_quiet (fail); try go_wp2)
          go_ret
          exact ⟨by first | rfl | (simp; done) | (simp [*]; done), by repeat (first | exact Drawn0.refl _ | apply Drawn0.step)⟩
  · rw [if_neg c3] at H
    have c3b0 : ((l0.length : Int) == (l1.length : Int)) = false := beq_eq_false_iff_ne.mpr c3
    have c3b1 : ((l0.length : Int) != (l1.length : Int)) = true := bne_iff_ne.mpr c3
    have c3b2 : (l0.length == l1.length) = false := by first | simpa using c3 | (simp at c3 ⊢; omega)
    obtain rfl := Option.some.inj H
    go_enter Try.func16, Try.ntmps16
    go_wp2
    repeat (go_quiet (fail); try go_wp2)
    go_ret
    exact ⟨by first | rfl | (simp; done) | (simp [*]; done), by repeat (first | exact Drawn0.refl _ | apply Drawn0.step)⟩

end Go.Proofs.Ytphmlkbmnmicpaa.A

/- What the machine does at this function, and a plain Lean function that says the same: written by a program for this claim; Lean checks it. -/
namespace Go.Proofs.Ytphmlkbmnmicpaa.A
open Go.RowKit Go.Proofs.YtphmlkbmnmicpaaW.PrintWords Go.Proofs.YtphmlkbmnmicpaaW.PrintLast Go.Proofs.YtphmlkbmnmicpaaW.PrintMore
attribute [local go_sem] max2_int min2_int max_two min_two max_three min_three max_four min_four   -- for this text's walks alone
set_option linter.unusedVariables false
set_option linter.unusedSimpArgs false

/-! ### sched_Heights: function 20 -/
def sched_Heights.f (k : Nat) (l0 : List (S37)) : Option (List Int) := (sched_Deps.f k l0).bind fun t176 => ((sched_heights.f l0 t176).bind fun t179 => (some t179))
theorem sched_Heights.mono : ∀ a0 k, LeO (sched_Heights.f k a0) (sched_Heights.f (k + 1) a0) := by
  intro a0 k
  unfold sched_Heights.f
  repeat' first
      | (with_reducible exact sched_Deps.mono _ _)
      | (with_reducible exact LeO.refl _)
      | (with_reducible exact LeO.none _)
      | (with_reducible refine LeO.ite ?_ ?_)
      | (with_reducible refine LeO.bind ?_ (fun _ => ?_))
      | exact sched_Deps.mono _ _
      | exact LeO.none _
      | refine LeO.ite ?_ ?_
      | refine LeO.bind ?_ (fun _ => ?_)
set_option maxHeartbeats 8000000 in
set_option maxRecDepth 100000 in
theorem sched_Heights.calls (k : Nat) (A0 : Option Addr) (c0 : Nat) (l0 : List (S37)) (r : List Int) (w : World) (hr0 : Kd.C k37 w A0 l0.length l0) (hc0 : l0.length ≤ c0) (h : sched_Heights.f k l0 = some r) :
    Calls Try.prog 20 #[.slice A0 l0.length c0] w fun e w' => ∃ v0_ : Value, e = .returned (v0_) ∧ Kd.R (Kd.int .i64) 3 w' w.heap.size (fun _ => True) v0_ r ∧ Below w.heap.size w w' := by
  have HR0 := Aside0.mk hr0
  have HC0 := Aside0.mk hc0
  clear hr0 hc0
  have HB := Aside0.mk (Below.refl w.heap.size w)
  have H : ((sched_Deps.f k l0).bind fun t176 => ((sched_heights.f l0 t176).bind fun t179 => (some t179))) = some r := h
  clear h
  replace H := Option.bind_eq_some_iff.mp H
  obtain ⟨t176, A20, H⟩ := H
  replace H : ((sched_heights.f l0 t176).bind fun t179 => (some t179)) = some r := H
  have A2 := Aside0.mk A20
  clear A20
  replace H := Option.bind_eq_some_iff.mp H
  obtain ⟨t179, A30, H⟩ := H
  replace H : (some t179) = some r := H
  have A3 := Aside0.mk A30
  clear A30
  obtain rfl := Option.some.inj H
  go_enter Try.func20, Try.ntmps20
  go_wp2_with (first | ((with_reducible refine gate_callee (f := 17) rfl ?_); refine goesL_ (some 5) rfl rfl Try.func17 (by kernel_rfl) rfl #[.slice A0 l0.length c0] rfl (by (try simp only [List.map_toArray, List.map_cons, List.map_nil]); first | done | rfl | (simp only [List.length_drop, List.length_take]; rfl)) ?_; (with_reducible refine (sched_Deps.calls k _ _ l0 t176 _ ?side1 ?side2 A2.out).mono ?_); (case side1 => repeat (first | exact HR0.out | (with_reducible refine Kd.C_alloc ?_ _) | (with_reducible refine Kd.C_drewN ?_ _) | (with_reducible refine Kd.C_drew ?_))); (case side2 => exact HC0.out); rintro e w4 ⟨v177, rfl, ho0, hb⟩; refine ⟨_, rfl, ?_⟩; have n0_ := Aside0.mk (Kd.S_lower ho0 (below_size (by repeat (first | (with_reducible first | exact HB.out | apply below_alloc | apply pw_below_drewN | apply below_drew1) | exact HB.out)))); have n1_ := Aside0.mk (below_step (by repeat (first | (with_reducible first | exact HB.out | apply below_alloc | apply pw_below_drewN | apply below_drew1) | exact HB.out)) hb); clear HB; have HO178 := n0_; have HB := n1_; clear n0_ n1_; (try clear hb); (try clear hb2); (try clear hk); (try clear hi); (try clear ho0); obtain ⟨Ao5, co5, eo5⟩ := Kd.S_slice HO178.out; subst eo5) | ((with_reducible refine gate_callee (f := 34) rfl ?_); refine goesL_ (some 6) rfl rfl Try.func34 (by kernel_rfl) rfl #[.slice A0 l0.length c0, .slice Ao5 t176.length co5] rfl (by (try simp only [List.map_toArray, List.map_cons, List.map_nil]); first | done | rfl | (simp only [List.length_drop, List.length_take]; rfl)) ?_; (with_reducible refine (sched_heights.calls _ _ l0 _ _ t176 t179 _ ?side1 ?side2 ?side3 ?side4 A3.out).mono ?_); (case side1 => repeat (first | exact (Kd.C_below HR0.out HB.out) | (with_reducible refine Kd.C_alloc ?_ _) | (with_reducible refine Kd.C_drewN ?_ _) | (with_reducible refine Kd.C_drew ?_))); (case side2 => exact HC0.out); (case side3 => repeat (first | exact (Kd.S_reads' HO178.out).2.2 | (with_reducible refine Kd.C_alloc ?_ _) | (with_reducible refine Kd.C_drewN ?_ _) | (with_reducible refine Kd.C_drew ?_))); (case side4 => exact (Kd.S_reads' HO178.out).2.1); rintro e w6 ⟨v180, rfl, ho0, hb⟩; refine ⟨_, rfl, ?_⟩; have n0_ := Aside0.mk (Kd.S_elder' (by (with_reducible repeat (first | apply Kd.S_alloc | apply Kd.S_drewN | apply Kd.S_drew)); exact HO178.out) (Kd.R_base ho0) hb); have n1_ := Aside0.mk (Kd.R_lower ho0 (below_size (by repeat (first | (with_reducible first | exact HB.out | apply below_alloc | apply pw_below_drewN | apply below_drew1) | exact HB.out)))); have n2_ := Aside0.mk (below_step (by repeat (first | (with_reducible first | exact HB.out | apply below_alloc | apply pw_below_drewN | apply below_drew1) | exact HB.out)) hb); clear HO178; clear HB; have HO178 := n0_; have HO181 := n1_; have HB := n2_; clear n0_ n1_ n2_; (try clear hb); (try clear hb2); (try clear hk); (try clear hi); (try clear ho0)))
  go_ret
  exact ⟨_, by first | rfl | (simp [errW_none, errW_some] <;> rfl) | (simp [*, errW_none, errW_some] <;> rfl), by (with_reducible repeat (first | apply Kd.R_alloc | apply Kd.R_drewN | apply Kd.R_drew)); exact HO181.out, by repeat (first | (with_reducible first | exact HB.out | apply below_alloc | apply pw_below_drewN | apply below_drew1) | exact HB.out)⟩

end Go.Proofs.Ytphmlkbmnmicpaa.A

/- The small case at the head of each law of sched comes out right. -/
namespace Go.Proofs.Ytphmlkbmnmicpaa.A
open Go.RowKit Go.Proofs.YtphmlkbmnmicpaaW.PrintWords Go.Proofs.YtphmlkbmnmicpaaW.PrintLast Go.Shelf
set_option linter.unusedVariables false
set_option linter.unusedSimpArgs false

theorem R_new_lit {α : Type} (d : Kd α) (W : World) (base e : Nat) {xs : List α} {inner : List Value} {ok okp : Nat → Prop}
    (hrep : Reps (d.M W base okp) d.sz xs inner) (hok : ∀ k, okp k → ok k) (hfresh : ok W.heap.size) (hbase : base ≤ W.heap.size) (hm : xs.length ≤ 9223372036854775807) :
    d.R e (W.alloc (.cells inner.toArray e)) base ok (.slice (some ⟨W.heap.size, 0, none⟩) xs.length xs.length) xs := by
  refine ⟨fun k hk => ?_, inner, ?_, ?_⟩
  · have : W.heap.size = k := by simpa [Value.ownBlock] using hk
    subst this
    exact hfresh
  · have h2 := World.ownsRow_lit (base := base) (e := e) (size := d.sz) W inner.toArray xs.length hbase (by simpa [maxLen] using hm) (by simpa using hrep.1)
    simpa using h2
  · refine hrep.imp_ (fun p c hp => d.M_mono (fun k hk => ⟨hok k hk.1, fun he => ?_⟩) (Kd.M_below (d.M_bound hp) (below_alloc (Below.refl _ _) _)))
    have : W.heap.size = k := by simpa [Value.ownBlock] using he.symm
    have := hk.2.2.1
    omega

def L3 : List S37 := [⟨1, 1, 0, 0, 0, []⟩, ⟨4, 2, 3, 0, 0, []⟩, ⟨2, 4, 1, 2, 1, []⟩]
def L3o : List S37 := [⟨4, 2, 3, 0, 0, []⟩, ⟨1, 1, 0, 0, 0, []⟩, ⟨2, 4, 1, 2, 1, []⟩]

theorem some_c (W : World) : Calls Try.prog 30 #[] W fun e w' => ∃ A c, e = .returned (.slice A 3 c) ∧ Kd.C k37 w' A 3 L3 ∧ 3 ≤ c ∧ Below W.heap.size W w' :=
  (swagelaw27_some.calls _ W rfl).mono fun e w' ⟨v, he, hS, hb⟩ => by
    obtain ⟨A, c, rfl, h1, h2⟩ := Kd.S_reads hS
    exact ⟨A, c, he, h2, h1, hb⟩
theorem few3 : Few L3 := by decide
theorem order3 : sched_Order.f L3 = some [1, 0, 2] := by
  unfold sched_Order.f; rw [if_pos few3]; decide +kernel
theorem block3 : sched_Block.f L3 0 0 0 0 = some (L3o, 0, 0, 0, 0) := by
  unfold sched_Block.f; rw [if_pos few3, show orderOf L3 = [1, 0, 2] by decide +kernel]; rfl
theorem may3a : sched_May.f L3 [0, 1, 2] = some true := by
  unfold sched_May.f; rw [if_pos few3]; decide +kernel
theorem may3b : sched_May.f L3 [0, 2, 1] = some false := by
  unfold sched_May.f; rw [if_pos few3]; decide +kernel
theorem deps3 : depsOf L3 = [[], [], [0, 1]] := by decide +kernel
theorem heights3 : heightsOf L3 = [2, 4, 1] := by decide +kernel
theorem cost3 : sched_Cost.f 60 L3 = some 5 := by decide +kernel
theorem fheights3 : sched_Heights.f 60 L3 = some [2, 4, 1] := by decide +kernel
theorem ints3 (xs : List Int) (h : xs.length = 3) : ∃ k, swageref02_Ints.f k xs xs = some true := by
  rcases xs with _ | ⟨a, _ | ⟨b, _ | ⟨c, _ | ⟨d, xs⟩⟩⟩⟩ <;> simp at h
  exact ⟨10, by simp [swageref02_Ints.f, swageref02_Ints.l0, wrap64]⟩
theorem rows3 : swageref06_Rows.f 30 [[], [], [0, 1]] [[], [], [0, 1]] = some true := by decide +kernel

theorem block_c (A : Option Addr) (c : Nat) (W : World) (h : Kd.C k37 W A 3 L3) (hc : 3 ≤ c) : Calls Try.prog 11 #[.agg #[.slice A 3 c, .int .i64 0, .int .i64 0, .int .i64 0, .int .i64 0]] W fun e w' =>
    ∃ A c, e = .returned (.agg #[.slice A 3 c, .int .i64 0, .int .i64 0, .int .i64 0, .int .i64 0]) ∧ Kd.C k37 w' A 3 L3o ∧ 3 ≤ c ∧ Below W.heap.size W w' :=
  (sched_Block.calls A c L3 0 0 0 0 _ _ _ _ _ W h hc block3).mono fun e w' ⟨v, he, hS, hb⟩ => by
    obtain ⟨A, c, rfl, h1, h2⟩ := Kd.S_reads hS
    exact ⟨A, c, he, h2, h1, hb⟩
theorem order_c (A : Option Addr) (c : Nat) (W : World) (h : Kd.C k37 W A 3 L3) (hc : 3 ≤ c) : Calls Try.prog 22 #[.slice A 3 c] W fun e w' =>
    ∃ A c, e = .returned (.slice A 3 c) ∧ Kd.C (Kd.int .i64) w' A 3 [1, 0, 2] ∧ 3 ≤ c ∧ Below W.heap.size W w' :=
  (sched_Order.calls A c L3 _ W h hc order3).mono fun e w' ⟨v, he, hS, hb⟩ => by
    obtain ⟨A, c, rfl, h1, h2⟩ := Kd.R_reads hS
    exact ⟨A, c, he, h2, h1, hb⟩
theorem heights_c (A : Option Addr) (c : Nat) (W : World) (h : Kd.C k37 W A 3 L3) (hc : 3 ≤ c) : Calls Try.prog 20 #[.slice A 3 c] W fun e w' =>
    ∃ A c, e = .returned (.slice A 3 c) ∧ Kd.C (Kd.int .i64) w' A 3 [2, 4, 1] ∧ 3 ≤ c ∧ Below W.heap.size W w' :=
  (sched_Heights.calls 60 A c L3 _ W h hc fheights3).mono fun e w' ⟨v, he, hS, hb⟩ => by
    obtain ⟨A, c, rfl, h1, h2⟩ := Kd.R_reads hS
    exact ⟨A, c, he, h2, h1, hb⟩
theorem deps_c (A : Option Addr) (c : Nat) (W : World) (h : Kd.C k37 W A 3 L3) (hc : 3 ≤ c) : Calls Try.prog 17 #[.slice A 3 c] W fun e w' =>
    ∃ A c, e = .returned (.slice A 3 c) ∧ Kd.C (Kd.slice 3 (Kd.int .i64)) w' A 3 [[], [], [0, 1]] ∧ 3 ≤ c ∧ Below W.heap.size W w' :=
  (deps_calls L3 few3.1 few3.2 A c W h hc).mono fun e w' ⟨v, he, hS, hb⟩ => by
    obtain ⟨A, c, rfl, h1, h2⟩ := Kd.S_reads hS
    rw [deps3] at he h1 h2
    exact ⟨A, c, he, h2, h1, hb⟩
theorem ints_c (xs : List Int) (A B : Option Addr) (c b : Nat) (W : World) (h : Kd.C (Kd.int .i64) W A 3 xs) (hc : 3 ≤ c) (h' : Kd.C (Kd.int .i64) W B 3 xs) (hb : 3 ≤ b) : Calls Try.prog 19 #[.slice A 3 c, .slice B 3 b] W fun e w' =>
    e = .returned (.bool true) ∧ Drawn0 W w' := by
  have hl := Kd.C_len h
  obtain ⟨k, hk⟩ := ints3 xs hl
  have := swageref02_Ints.calls k A c xs B b xs true W (by rw [hl]; exact h) (by omega) (by rw [hl]; exact h') (by omega) hk
  rwa [hl] at this
theorem int_lit_c (a b c : Int) (W : World) : Kd.C (Kd.int .i64) (W.alloc (.cells #[.int .i64 a, .int .i64 b, .int .i64 c] 3)) (some ⟨W.heap.size, 0, none⟩) 3 [a, b, c] :=
  (Kd.R_reads' (R_new_lit (Kd.int .i64) W W.heap.size 3 (xs := [a, b, c]) (inner := [.int .i64 a, .int .i64 b, .int .i64 c]) (ok := fun _ => True) (okp := fun _ => True) (Kd.reps_scalar [a, b, c]) (fun _ h => h) trivial (Nat.le_refl _) (by simp))).2.2

theorem int_lit2 (a b : Int) (W : World) (base : Nat) (hb : base ≤ W.heap.size) : Kd.R (Kd.int .i64) 3 (W.alloc (.cells #[.int .i64 a, .int .i64 b] 3)) base (fun _ => True) (.slice (some ⟨W.heap.size, 0, none⟩) 2 2) [a, b] :=
  R_new_lit (Kd.int .i64) W base 3 (xs := [a, b]) (inner := [.int .i64 a, .int .i64 b]) (ok := fun _ => True) (okp := fun _ => True) (Kd.reps_scalar [a, b]) (fun _ h => h) trivial hb (by simp)
theorem rows_lit (W : World) : Kd.C (Kd.slice 3 (Kd.int .i64)) ((W.alloc (.cells #[.int .i64 0, .int .i64 1] 3)).alloc (.cells #[.slice none 0 0, .slice none 0 0, .slice (some ⟨W.heap.size, 0, none⟩) 2 2] 23)) (some ⟨W.heap.size + 1, 0, none⟩) 3 [[], [], [0, 1]] := by
  have h := (Kd.R_reads' (R_new_lit (Kd.slice 3 (Kd.int .i64)) (W.alloc (.cells #[.int .i64 0, .int .i64 1] 3)) W.heap.size 23 (xs := [[], [], [0, 1]]) (inner := [.slice none 0 0, .slice none 0 0, .slice (some ⟨W.heap.size, 0, none⟩) 2 2]) (ok := fun _ => True) (okp := fun _ => True)
    (Reps.one ⟨_, rfl, Kd.R_nil _ _ _ _ _⟩ (Reps.one ⟨_, rfl, Kd.R_nil _ _ _ _ _⟩ (Reps.one ⟨_, rfl, int_lit2 0 1 W _ (Nat.le_refl _)⟩ (Reps.none _ _)))) (fun _ h => h) trivial (by simp) (by simp))).2.2
  rw [World.size_alloc] at h
  exact h
theorem rows_c (A : Option Addr) (c : Nat) (W : World) (h : Kd.C (Kd.slice 3 (Kd.int .i64)) W A 3 [[], [], [0, 1]]) (hc : 3 ≤ c) :
    Calls Try.prog 16 #[.slice A 3 c, .slice (some ⟨W.heap.size + 1, 0, none⟩) 3 3] ((W.alloc (.cells #[.int .i64 0, .int .i64 1] 3)).alloc (.cells #[.slice none 0 0, .slice none 0 0, .slice (some ⟨W.heap.size, 0, none⟩) 2 2] 23)) fun e w' =>
      e = .returned (.bool true) ∧ Below W.heap.size W w' := by
  have hr := rows_lit W
  have hB : Below W.heap.size W ((W.alloc (.cells #[.int .i64 0, .int .i64 1] 3)).alloc (.cells #[.slice none 0 0, .slice none 0 0, .slice (some ⟨W.heap.size, 0, none⟩) 2 2] 23)) := below_alloc (below_alloc (Below.refl _ _) _) _
  replace h := Kd.C_below h hB
  generalize ((W.alloc (.cells #[.int .i64 0, .int .i64 1] 3)).alloc (.cells #[.slice none 0 0, .slice none 0 0, .slice (some ⟨W.heap.size, 0, none⟩) 2 2] 23)) = W1 at *
  exact (swageref06_Rows.calls 30 A c [[], [], [0, 1]] (some ⟨W.heap.size + 1, 0, none⟩) 3 [[], [], [0, 1]] true W1 h hc hr (Nat.le_refl _) rows3).mono fun e w' ⟨he, hD⟩ => ⟨he, below_then hB hB.size hD.below⟩

/-- what small keeps: the block with the box, its operations -/
structure SI (w : World) (g : Nat) (A : Option Addr) (c : Nat) (W : World) : Prop where
  hb : W.heap[g]? = some (.cells #[.slice A 3 c, .int .i64 0, .int .i64 0, .int .i64 0, .int .i64 0] 29 (0, 0))
  hC : Kd.C k37 W A 3 L3o
  hB : Below w.heap.size w W
theorem SI.below {w W W1 : World} {g : Nat} {A : Option Addr} {c : Nat} (h : SI w g A c W) (hb : Below W.heap.size W W1) : SI w g A c W1 :=
  ⟨(hb.block _ (blk_lt h.hb)).trans h.hb, Kd.C_below h.hC hb, below_then h.hB h.hB.size hb⟩
theorem SI.alloc {w W : World} {g : Nat} {A : Option Addr} {c : Nat} (h : SI w g A c W) (o : Obj) : SI w g A c (W.alloc o) := h.below (below_alloc (Below.refl _ _) o)
theorem SI.cell {w W : World} {g : Nat} {A : Option Addr} {c : Nat} (h : SI w g A c W) : W.cell? ⟨g, 0, none⟩ = some (.slice A 3 c) := (blk_cell h.hb 0).trans rfl
theorem C_alloc' {α : Type} {d : Kd α} {W : World} {A : Option Addr} {n : Nat} {xs : List α} (h : Kd.C d W A n xs) (o : Obj) : Kd.C d (W.alloc o) A n xs := Kd.C_below h (below_alloc (Below.refl _ _) o)
theorem may_c (o : List Int) (ho : o.length = 3) (b : Bool) (hm : sched_May.f L3 o = some b) (A B : Option Addr) (c c' : Nat) (W : World) (h : Kd.C k37 W A 3 L3) (hc : 3 ≤ c) (h' : Kd.C (Kd.int .i64) W B 3 o) (hc' : 3 ≤ c') : Calls Try.prog 24 #[.slice A 3 c, .slice B 3 c'] W fun e w' =>
    e = .returned (.bool b) ∧ Below W.heap.size W w' := by
  have := sched_May.calls A c L3 B c' o b W h hc (by rw [ho]; exact h') (by omega) hm
  rwa [ho] at this

set_option maxRecDepth 100000 in
set_option maxHeartbeats 4000000 in
theorem small_calls (w : World) : Calls Try.prog 8 #[] w fun e w' => e = .returned (.bool true) ∧ Below w.heap.size w w' := by
  have hu29 := Try.underlying29
  have hu37 := Try.underlying37
  go_enter Try.func8, Try.ntmps8
  go_wp2_with fail
  refine (some_c w).mono ?_
  rintro e w1 ⟨A1, c1, rfl, hC1, hl1, hB1⟩
  go_wp2_with fail
  refine (block_c A1 c1 w1 hC1 hl1).mono ?_
  rintro e w2 ⟨A2, c2, rfl, hC2, hl2, hB2⟩
  have hB2' := below_then hB1 hB1.size hB2
  clear hC1 hl1 hB1 hB2
  go_wp2_with fail
  have hI : SI w w2.heap.size A2 c2 (w2.alloc (.cells #[.slice A2 3 c2, .int .i64 0, .int .i64 0, .int .i64 0, .int .i64 0] 29)) := ⟨World.alloc_heap_new w2 _, C_alloc' hC2 _, below_alloc hB2' _⟩
  clear hC2 hl2 hB2'
  generalize w2.alloc (.cells #[.slice A2 3 c2, .int .i64 0, .int .i64 0, .int .i64 0, .int .i64 0] 29) = w3 at hI ⊢
  generalize w2.heap.size = g at hI ⊢
  refine (some_c w3).mono ?_
  rintro e w4 ⟨A4, c4, rfl, hC4, hl4, hB4⟩
  replace hI := hI.below hB4
  go_wp2_with fail
  refine (order_c A4 c4 w4 hC4 hl4).mono ?_
  rintro e w5 ⟨A5, c5, rfl, hC5, hl5, hB5⟩
  replace hI := hI.below hB5
  clear hC4 hB4 hB5
  go_wp2_with fail
  refine (ints_c [1, 0, 2] _ _ _ _ _ (C_alloc' hC5 _) hl5 (int_lit_c 1 0 2 w5) (by omega)).mono ?_
  rintro e w6 ⟨rfl, hD⟩
  replace hI := (hI.alloc _).below hD.below
  clear hC5 hD
  go_wp2_with fail
  refine (some_c w6).mono ?_
  rintro e w7 ⟨A7, c7, rfl, hC7, hl7, hB7⟩
  replace hI := hI.below hB7
  go_wp2_with fail
  refine (deps_c A7 c7 w7 hC7 hl7).mono ?_
  rintro e w8 ⟨A8, c8, rfl, hC8, hl8, hB8⟩
  replace hI := hI.below hB8
  clear hC7 hB7 hB8
  go_wp2_with fail
  refine (rows_c A8 c8 w8 hC8 hl8).mono ?_
  rintro e w9 ⟨rfl, hD⟩
  replace hI := hI.below hD
  clear hC8 hD
  go_wp2_with fail
  refine (some_c w9).mono ?_
  rintro e w10 ⟨A10, c10, rfl, hC10, hl10, hB10⟩
  replace hI := hI.below hB10
  go_wp2_with fail
  refine (heights_c A10 c10 w10 hC10 hl10).mono ?_
  rintro e w11 ⟨A11, c11, rfl, hC11, hl11, hB11⟩
  replace hI := hI.below hB11
  clear hC10 hB10 hB11
  go_wp2_with fail
  refine (ints_c [2, 4, 1] _ _ _ _ _ (C_alloc' hC11 _) hl11 (int_lit_c 2 4 1 w11) (by omega)).mono ?_
  rintro e w12 ⟨rfl, hD⟩
  replace hI := (hI.alloc _).below hD.below
  clear hC11 hD
  have hc := hI.cell
  obtain ⟨ld, A5', c5', e5, q0, q1, q2, q3, q4, q5, q6, q7⟩ := at_T37 hI.hC 0 (by omega) (by omega)
  subst e5
  rw [show ld.add ((0 : Int).toNat * 6) = ld by rfl] at q0
  replace q0 : w12.cell? ld = some (.int .i64 4) := q0
  clear q1 q2 q3 q4 q5 q6 q7
  go_wp2_with fail
  refine (some_c w12).mono ?_
  rintro e w13 ⟨A13, c13, rfl, hC13, hl13, hB13⟩
  clear hc q0
  replace hI := hI.below hB13
  go_wp2_with fail
  refine (may_c [0, 1, 2] rfl true may3a _ _ _ _ _ (C_alloc' hC13 _) hl13 (int_lit_c 0 1 2 w13) (by omega)).mono ?_
  rintro e w14 ⟨rfl, hB14⟩
  replace hI := (hI.alloc _).below hB14
  clear hC13 hB13 hB14
  go_wp2_with fail
  refine (some_c w14).mono ?_
  rintro e w15 ⟨A15, c15, rfl, hC15, hl15, hB15⟩
  replace hI := hI.below hB15
  go_wp2_with fail
  refine (may_c [0, 2, 1] rfl false may3b _ _ _ _ _ (C_alloc' hC15 _) hl15 (int_lit_c 0 2 1 w15) (by omega)).mono ?_
  rintro e w16 ⟨rfl, hB16⟩
  replace hI := (hI.alloc _).below hB16
  clear hC15 hB15 hB16
  go_wp2_with fail
  refine (some_c w16).mono ?_
  rintro e w17 ⟨A17, c17, rfl, hC17, hl17, hB17⟩
  replace hI := hI.below hB17
  go_wp2_with fail
  refine (sched_Cost.calls 60 A17 c17 L3 5 w17 hC17 hl17 cost3).mono ?_
  rintro e w18 ⟨rfl, hB18⟩
  replace hI := hI.below hB18
  clear hC17 hB17 hB18
  go_wp2_with fail
  refine (some_c w18).mono ?_
  rintro e w19 ⟨A19, c19, rfl, hC19, hl19, hB19⟩
  replace hI := hI.below hB19
  obtain ⟨le, A6', c6', e6, q0, q1, q2, q3, q4, q5, q6, q7⟩ := at_T37 hC19 1 (by omega) (by omega)
  subst e6
  have q0a : w19.cell? ⟨le.block, le.off + 6, none⟩ = some (.int .i64 4) := q0
  replace q0 : w19.cell? (le.add 6) = some (.int .i64 4) := q0
  replace q1 : w19.cell? ⟨le.block, le.off + 6 + 1, none⟩ = some (.int .i64 2) := q1
  replace q2 : w19.cell? ⟨le.block, le.off + 6 + 2, none⟩ = some (.int .i64 3) := q2
  replace q3 : w19.cell? ⟨le.block, le.off + 6 + 3, none⟩ = some (.int .i64 0) := q3
  replace q4 : w19.cell? ⟨le.block, le.off + 6 + 4, none⟩ = some (.int .i64 0) := q4
  replace q5 : w19.cell? ⟨le.block, le.off + 6 + 5, none⟩ = some (.slice A6' 0 c6') := q5
  go_wp2_with fail
  refine (lat_calls (rd_T37 L3 1) A6' c6' w19 q7 q6).mono ?_
  rintro e w20 ⟨rfl, hB20⟩
  replace hI := hI.below hB20
  rw [show latOf (rd_T37 L3 1) = 3 by rfl]
  clear q0 q1 q2 q3 q4 q5 q6 q7 hC19 hB19 hB20
  go_wp2_with fail
  go_ret
  exact ⟨rfl, hI.hB⟩
def swagelaw27_small.f : Option Bool := some true
theorem swagelaw27_small.calls (r : Bool) (w : World) (h : swagelaw27_small.f = some r) : Calls Try.prog 8 #[] w fun e w' => e = .returned (.bool r) ∧ Below w.heap.size w w' := by
  obtain rfl := Option.some.inj h
  exact small_calls w
#print axioms small_calls
end Go.Proofs.Ytphmlkbmnmicpaa.A

/- What the machine does at this function, and a plain Lean function that says the same: written by a program for this claim; Lean checks it. -/
namespace Go.Proofs.Ytphmlkbmnmicpaa.A
open Go.RowKit Go.Proofs.YtphmlkbmnmicpaaW.PrintWords Go.Proofs.YtphmlkbmnmicpaaW.PrintLast Go.Proofs.YtphmlkbmnmicpaaW.PrintMore
attribute [local go_sem] max2_int min2_int max_two min_two max_three min_three max_four min_four   -- for this text's walks alone
set_option linter.unusedVariables false
set_option linter.unusedSimpArgs false

/-! ### swagelaw27_SchedChain: function 7 -/
mutual
def swagelaw27_SchedChain.l0 : Nat → List Int → Bool → List (S37) → Int → Int → Option (Bool)
  | 0, _, _, _, _, _ => none
  | k + 1, x0, x3, x4, x5, x6 => if x6 < (x0.length : Int) then (if 0 ≤ x6 then (if x4.length < 2199023255552 then ((sched_Latency.f 2 (wrap64 (x6 + 2)) (wrap64 (x6 + 1)) (wrap64 (x6 + 1)) (wrap64 (1 + (Int.tmod (Go.bits .and .i64 (rd x0 x6) 1023) 14))) ([] : List Int)).bind fun t484 => (swagelaw27_SchedChain.l0 k x0 x3 (x4 ++ [(⟨2, wrap64 (x6 + 2), wrap64 (x6 + 1), wrap64 (x6 + 1), wrap64 (1 + (Int.tmod (Go.bits .and .i64 (rd x0 x6) 1023) 14)), ([] : List Int)⟩ : S37)]) (wrap64 (x5 + t484)) (wrap64 (x6 + 1)))) else (none)) else (none)) else ((sched_Order.f x4).bind fun t485 => (if (t485.length : Int) = (x4.length : Int) then ((sched_Cost.f k x4).bind fun t488 => (swagelaw27_SchedChain.j1 k x3 t485 (t488 != x5))) else (swagelaw27_SchedChain.j1 k x3 t485 true)))
def swagelaw27_SchedChain.j1 : Nat → Bool → List Int → Bool → Option (Bool)
  | 0, _, _, _ => none
  | k + 1, x3, x8, x55 => if x55 = true then (some false) else (swagelaw27_SchedChain.l1 k x3 x8 0)
def swagelaw27_SchedChain.l1 : Nat → Bool → List Int → Int → Option (Bool)
  | 0, _, _, _ => none
  | k + 1, x3, x8, x9 => if x9 < (x8.length : Int) then (if 0 ≤ x9 then (if (rd x8 x9) = x9 then (swagelaw27_SchedChain.l1 k x3 x8 (wrap64 (x9 + 1))) else (some false)) else (none)) else (some x3)
end
def swagelaw27_SchedChain.f (k : Nat) (l0 : List Int) : Option (Bool) := (swagelaw27_small.f).bind fun t478 => (if (l0.length : Int) > 40 then (some t478) else (swagelaw27_SchedChain.l0 k l0 t478 ([] : List (S37)) 0 0))
theorem swagelaw27_SchedChain.mono_l : ∀ k, (∀ y0 y1 y2 y3 y4, LeO (swagelaw27_SchedChain.l0 k y0 y1 y2 y3 y4) (swagelaw27_SchedChain.l0 (k + 1) y0 y1 y2 y3 y4)) ∧ (∀ y0 y1 y2, LeO (swagelaw27_SchedChain.j1 k y0 y1 y2) (swagelaw27_SchedChain.j1 (k + 1) y0 y1 y2)) ∧ (∀ y0 y1 y2, LeO (swagelaw27_SchedChain.l1 k y0 y1 y2) (swagelaw27_SchedChain.l1 (k + 1) y0 y1 y2))
  | 0 => ⟨fun _ _ _ _ _ r h => by simp [swagelaw27_SchedChain.l0] at h, fun _ _ _ r h => by simp [swagelaw27_SchedChain.j1] at h, fun _ _ _ r h => by simp [swagelaw27_SchedChain.l1] at h⟩
  | k + 1 => by
    obtain ⟨ih0, ih1, ih2⟩ := swagelaw27_SchedChain.mono_l k
    refine ⟨?_, ?_, ?_⟩
    · intro y0 y1 y2 y3 y4
      unfold swagelaw27_SchedChain.l0
      repeat' first
      | (with_reducible exact ih0 _ _ _ _ _)
      | (with_reducible exact ih1 _ _ _)
      | (with_reducible exact ih2 _ _ _)
      | (with_reducible exact sched_Cost.mono _ _)
      | (with_reducible exact LeO.refl _)
      | (with_reducible exact LeO.none _)
      | (with_reducible refine LeO.ite ?_ ?_)
      | (with_reducible refine LeO.bind ?_ (fun _ => ?_))
      | exact ih0 _ _ _ _ _
      | exact ih1 _ _ _
      | exact ih2 _ _ _
      | exact sched_Cost.mono _ _
      | exact LeO.none _
      | refine LeO.ite ?_ ?_
      | refine LeO.bind ?_ (fun _ => ?_)
    · intro y0 y1 y2
      unfold swagelaw27_SchedChain.j1
      repeat' first
      | (with_reducible exact ih0 _ _ _ _ _)
      | (with_reducible exact ih1 _ _ _)
      | (with_reducible exact ih2 _ _ _)
      | (with_reducible exact sched_Cost.mono _ _)
      | (with_reducible exact LeO.refl _)
      | (with_reducible exact LeO.none _)
      | (with_reducible refine LeO.ite ?_ ?_)
      | (with_reducible refine LeO.bind ?_ (fun _ => ?_))
      | exact ih0 _ _ _ _ _
      | exact ih1 _ _ _
      | exact ih2 _ _ _
      | exact sched_Cost.mono _ _
      | exact LeO.none _
      | refine LeO.ite ?_ ?_
      | refine LeO.bind ?_ (fun _ => ?_)
    · intro y0 y1 y2
      unfold swagelaw27_SchedChain.l1
      repeat' first
      | (with_reducible exact ih0 _ _ _ _ _)
      | (with_reducible exact ih1 _ _ _)
      | (with_reducible exact ih2 _ _ _)
      | (with_reducible exact sched_Cost.mono _ _)
      | (with_reducible exact LeO.refl _)
      | (with_reducible exact LeO.none _)
      | (with_reducible refine LeO.ite ?_ ?_)
      | (with_reducible refine LeO.bind ?_ (fun _ => ?_))
      | exact ih0 _ _ _ _ _
      | exact ih1 _ _ _
      | exact ih2 _ _ _
      | exact sched_Cost.mono _ _
      | exact LeO.none _
      | refine LeO.ite ?_ ?_
      | refine LeO.bind ?_ (fun _ => ?_)
theorem swagelaw27_SchedChain.mono : ∀ a0 k, LeO (swagelaw27_SchedChain.f k a0) (swagelaw27_SchedChain.f (k + 1) a0) := by
  intro a0 k
  obtain ⟨ih0, ih1, ih2⟩ := swagelaw27_SchedChain.mono_l k
  unfold swagelaw27_SchedChain.f
  repeat' first
      | (with_reducible exact ih0 _ _ _ _ _)
      | (with_reducible exact ih1 _ _ _)
      | (with_reducible exact ih2 _ _ _)
      | (with_reducible exact sched_Cost.mono _ _)
      | (with_reducible exact LeO.refl _)
      | (with_reducible exact LeO.none _)
      | (with_reducible refine LeO.ite ?_ ?_)
      | (with_reducible refine LeO.bind ?_ (fun _ => ?_))
      | exact ih0 _ _ _ _ _
      | exact ih1 _ _ _
      | exact ih2 _ _ _
      | exact sched_Cost.mono _ _
      | exact LeO.none _
      | refine LeO.ite ?_ ?_
      | refine LeO.bind ?_ (fun _ => ?_)
set_option maxHeartbeats 8000000 in
set_option maxRecDepth 100000 in
theorem swagelaw27_SchedChain.calls (k : Nat) (A0 : Option Addr) (c0 : Nat) (l0 : List Int) (r : Bool) (w : World) (hr0 : Kd.C (Kd.int .i64) w A0 l0.length l0) (hc0 : l0.length ≤ c0) (h : swagelaw27_SchedChain.f k l0 = some r) :
    Calls Try.prog 7 #[.slice A0 l0.length c0] w fun e w' => e = .returned (.bool r) ∧ Below w.heap.size w w' := by
  have hu37 := Try.underlying37
  have HR0 := Aside0.mk hr0
  have HC0 := Aside0.mk hc0
  clear hr0 hc0
  have HB := Aside0.mk (Below.refl w.heap.size w)
  have H : ((swagelaw27_small.f).bind fun t478 => (if (l0.length : Int) > 40 then (some t478) else (swagelaw27_SchedChain.l0 k l0 t478 ([] : List (S37)) 0 0))) = some r := h
  clear h
  replace H := Option.bind_eq_some_iff.mp H
  obtain ⟨t478, A20, H⟩ := H
  replace H : (if (l0.length : Int) > 40 then (some t478) else (swagelaw27_SchedChain.l0 k l0 t478 ([] : List (S37)) 0 0)) = some r := H
  have A2 := Aside0.mk A20
  clear A20
  by_cases c3 : (l0.length : Int) > 40
  · rw [if_pos c3] at H
    have c3b0 : decide (40 < (l0.length : Int)) = true := decide_eq_true c3
    have c3b1 : decide (40 < l0.length) = true := decide_eq_true (by omega)
    clear c3
    obtain rfl := Option.some.inj H
    go_enter Try.func7, Try.ntmps7
    go_wp2_with (first | ((with_reducible refine gate_callee (f := 8) rfl ?_); refine goesL_ (some 10) rfl rfl Try.func8 (by kernel_rfl) rfl #[] rfl (by (try simp only [List.map_toArray, List.map_cons, List.map_nil]); first | done | rfl | (simp only [List.length_drop, List.length_take]; rfl)) ?_; (with_reducible refine (swagelaw27_small.calls  t478 _ A2.out).mono ?_); rintro e w4 ⟨rfl, hb⟩; refine ⟨_, rfl, ?_⟩; have n0_ := Aside0.mk (below_step (by repeat (first | (with_reducible first | exact HB.out | apply below_alloc | apply pw_below_drewN | apply below_drew1) | exact HB.out)) hb); clear HB; have HB := n0_; clear n0_; (try clear hb); (try clear hb2); (try clear hk); (try clear hi)))
    go_ret
    exact ⟨by first | rfl | (simp [errW_none, errW_some] <;> rfl) | (simp [*, errW_none, errW_some] <;> rfl), by repeat (first | (with_reducible first | exact HB.out | apply below_alloc | apply pw_below_drewN | apply below_drew1) | exact HB.out)⟩
  · rw [if_neg c3] at H
    have c3b0 : decide (40 < (l0.length : Int)) = false := decide_eq_false c3
    have c3b1 : decide (40 < l0.length) = false := decide_eq_false (by omega)
    clear c3
    have H' := Aside0.mk H
    clear H
    go_enter Try.func7, Try.ntmps7
    go_wp2_with (first | ((with_reducible refine gate_callee (f := 8) rfl ?_); refine goesL_ (some 10) rfl rfl Try.func8 (by kernel_rfl) rfl #[] rfl (by (try simp only [List.map_toArray, List.map_cons, List.map_nil]); first | done | rfl | (simp only [List.length_drop, List.length_take]; rfl)) ?_; (with_reducible refine (swagelaw27_small.calls  t478 _ A2.out).mono ?_); rintro e w5 ⟨rfl, hb⟩; refine ⟨_, rfl, ?_⟩; have n0_ := Aside0.mk (below_step (by repeat (first | (with_reducible first | exact HB.out | apply below_alloc | apply pw_below_drewN | apply below_drew1) | exact HB.out)) hb); clear HB; have HB := n0_; clear n0_; (try clear hb); (try clear hb2); (try clear hk); (try clear hi)))
    go_loopg [4, 5, 6] k (fun kq v4 v5 v6 w' => ∃ (x4_1 : List (S37)) (x5_1 : Int) (x6_1 : Int), v5 = .int .i64 x5_1 ∧ v6 = .int .i64 x6_1 ∧ Aside0 (swagelaw27_SchedChain.l0 kq l0 t478 x4_1 x5_1 x6_1 = some r) ∧ Aside0 (kq ≤ k) ∧ Aside0 (Kd.S k37 37 w' w.heap.size (fun _ => True) v4 x4_1) ∧ Aside0 (Below w.heap.size w w'))
    case atStart => exact ⟨(([] : List (S37))), (0), (0), (by first | rfl | (simp; done) | (simp [*]; done)), (by first | rfl | (simp; done) | (simp [*]; done)), H', ⟨Nat.le_refl _⟩, ⟨by first | exact Kd.S_nil _ _ _ _ _ | exact Kd.N_nil _ _ _ _ _ | exact Kd.V_nil _ _ _ _ _ | exact Kd.Q_nil _ _ _ _ _ | exact Kd.R_nil _ _ _ _ _⟩, ⟨by repeat (first | (with_reducible first | exact HB.out | apply below_alloc | apply pw_below_drewN | apply below_drew1) | exact HB.out)⟩⟩
    case round =>
      clear H'
      try clear p2
      try clear c3
      try clear c3b0
      try clear c3b1
      obtain ⟨x4_1, x5_1, x6_1, rfl, rfl, HA, HK1, HO_4, HB⟩ := hrel
      cases gk with
      | zero => exact absurd HA.out (by simp [swagelaw27_SchedChain.l0])
      | succ k1 =>
        have H := HA.out
        clear HA
        simp only [swagelaw27_SchedChain.l0] at H
        by_cases c6 : x6_1 < (l0.length : Int)
        · rw [if_pos c6] at H
          have c6b0 : decide (x6_1 < (l0.length : Int)) = true := decide_eq_true c6
          clear c6
          by_cases c7 : 0 ≤ x6_1
          · rw [if_pos c7] at H
            have c7b0 : decide (0 ≤ x6_1) = true := decide_eq_true c7
            clear c7
            by_cases c8 : x4_1.length < 2199023255552
            · rw [if_pos c8] at H
              have LMc8 := Aside0.mk c8
              clear c8
              obtain ⟨y481, hy481⟩ : ∃ y_ : List (S37), y_ = (x4_1 ++ [(⟨2, wrap64 (x6_1 + 2), wrap64 (x6_1 + 1), wrap64 (x6_1 + 1), wrap64 (1 + (Int.tmod (Go.bits .and .i64 (rd l0 x6_1) 1023) 14)), ([] : List Int)⟩ : S37)]) := ⟨_, rfl⟩
              replace H : ((sched_Latency.f 2 (wrap64 (x6_1 + 2)) (wrap64 (x6_1 + 1)) (wrap64 (x6_1 + 1)) (wrap64 (1 + (Int.tmod (Go.bits .and .i64 (rd l0 x6_1) 1023) 14))) ([] : List Int)).bind fun t484 => (swagelaw27_SchedChain.l0 k1 l0 t478 y481 (wrap64 (x5_1 + t484)) (wrap64 (x6_1 + 1)))) = some r := by first | (rw [hy481]; with_reducible exact H) | (have H2_ := (Option.bind_some _ _).symm.trans H; rw [hy481]; with_reducible exact H2_) | (have H2_ := (Option.bind_some _ _).symm.trans H; with_reducible exact H2_) | with_reducible exact H | (rw [hy481]; exact H) | exact H
              have Ny481 := Aside0.mk hy481
              clear hy481
              replace H := Option.bind_eq_some_iff.mp H
              obtain ⟨t484, A90, H⟩ := H
              replace H : (swagelaw27_SchedChain.l0 k1 l0 t478 y481 (wrap64 (x5_1 + t484)) (wrap64 (x6_1 + 1))) = some r := H
              have A9 := Aside0.mk A90
              clear A90
              have H' := Aside0.mk H
              clear H
              have p479 : 0 ≤ (x6_1 : Int) := of_decide_eq_true (by first | (with_reducible assumption) | assumption)
              have q479 : x6_1 < (l0.length : Int) := of_decide_eq_true (by first | (with_reducible assumption) | assumption)
              obtain ⟨ad479, e479, hx479_0⟩ := Kd.at_int HR0.out x6_1 p479 q479
              cases e479
              replace hx479_0 := (HB.out.cell (World.block_lt_of_cell? w _ hx479_0)).trans hx479_0
              replace p479 := eq_true p479
              replace q479 := eq_true q479
              go_wp2_with (first | ((with_reducible refine gate_dst (N := 7) rfl ?_); refine box_event ?hg (N := 7) ?hd (cs := #[.int .i64 0, .int .i64 0, .int .i64 0, .int .i64 0, .int .i64 0, .slice none 0 0]) (t := 37) ?hr ?_; (case hd => rfl); (case hg => rfl); (case hr => first | (go_simp; done) | (go_simp; rfl)); intro gb480 hg w10 hbox hb; have n0_ := Aside0.mk (Kd.S_below (Kd.S_elderB (by (with_reducible repeat (first | apply Kd.S_alloc | apply Kd.S_drewN | apply Kd.S_drew)); exact HO_4.out) gb480 (Nat.le_of_eq hg.symm)) hb); have n1_ := Aside0.mk (below_step (by repeat (first | (with_reducible first | exact HB.out | apply below_alloc | apply pw_below_drewN | apply below_drew1) | exact HB.out)) hb); have n2_ := Aside0.mk (hbox); have n3_ := Aside0.mk ((by rw [hg]; exact (below_size (by repeat (first | (with_reducible first | exact HB.out | apply below_alloc | apply pw_below_drewN | apply below_drew1) | exact HB.out))) : w.heap.size ≤ gb480)); have n4_ := Aside0.mk ((by rw [hg]; exact (below_size (by repeat (first | (with_reducible first | exact HB.out | apply below_alloc | apply pw_below_drewN | apply below_drew1) | exact HB.out))) : w.heap.size ≤ gb480)); clear HO_4; clear HB; have HO_4 := n0_; have HB := n1_; have BK480 := n2_; have GW480 := n3_; have GE480 := n4_; clear n0_ n1_ n2_ n3_ n4_; clear hb hbox hg; have hcz11_0 : w10.cell? ⟨gb480, 0, none⟩ = some (.int .i64 0) := (blk_cell BK480.out 0).trans rfl; have hcz11_1 : w10.cell? ⟨gb480, 1, none⟩ = some (.int .i64 0) := (blk_cell BK480.out 1).trans rfl; have hcz11_2 : w10.cell? ⟨gb480, 2, none⟩ = some (.int .i64 0) := (blk_cell BK480.out 2).trans rfl; have hcz11_3 : w10.cell? ⟨gb480, 3, none⟩ = some (.int .i64 0) := (blk_cell BK480.out 3).trans rfl; have hcz11_4 : w10.cell? ⟨gb480, 4, none⟩ = some (.int .i64 0) := (blk_cell BK480.out 4).trans rfl; have hcz11_5 : w10.cell? ⟨gb480, 5, none⟩ = some (.slice none 0 0) := (blk_cell BK480.out 5).trans rfl; have hfz11_0 := blk_frozen BK480.out 0; have hfz11_1 := blk_frozen BK480.out 1; have hfz11_2 := blk_frozen BK480.out 2; have hfz11_3 := blk_frozen BK480.out 3; have hfz11_4 := blk_frozen BK480.out 4; have hfz11_5 := blk_frozen BK480.out 5) | ((with_reducible refine gate_builtin (b := .append) (xs := #[.tmp 35, .tmp 37]) rfl ?_); at_builtin; refine Kd.S_append k37 (w0 := w) w.heap.size rfl (.tmp 35) (.tmp 37) 22 37 (.agg #[(.int .i64 0), (.int .i64 0), (.int .i64 0), (.int .i64 0), (.int .i64 0), (.slice none 0 0)]) 64 rfl Try.underlying22 info37 rfl (by decide) (by omega) u4 x4_1 (⟨2, wrap64 (x6_1 + 2), wrap64 (x6_1 + 1), wrap64 (x6_1 + 1), wrap64 (1 + (Int.tmod (Go.bits .and .i64 (rd l0 x6_1) 1023) 14)), ([] : List Int)⟩ : S37) [.int .i64 2, .int .i64 (wrap64 (x6_1 + 2)), .int .i64 (wrap64 (x6_1 + 1)), .int .i64 (wrap64 (x6_1 + 1)), .int .i64 (wrap64 (1 + (Int.tmod (Go.bits .and .i64 (rd l0 x6_1) 1023) 14))), .slice none 0 0] (fun k_ => k_ ≠ gb480) (fun _ => False) rfl (by first | (go_simp; done) | (go_simp; rfl)) ?aP (fun k_ hk_ => hk_.elim) ?aF ?aO ?aB ?aS ?aL ?_; (case aP => exact k37_mkM _ _ _ (⟨2, wrap64 (x6_1 + 2), wrap64 (x6_1 + 1), wrap64 (x6_1 + 1), wrap64 (1 + (Int.tmod (Go.bits .and .i64 (rd l0 x6_1) 1023) 14)), ([] : List Int)⟩ : S37) (Kd.R_nil _ _ _ _ _)); (case aB => exact (by repeat (first | (with_reducible first | exact HB.out | apply below_alloc | apply pw_below_drewN | apply below_drew1 | refine below_set ?_ GE480.out) | exact HB.out))); (case aF => exact (fun k_ hk => Kd.freshB (g := gb480) (o := .cells #[.int .i64 2, .int .i64 (wrap64 (x6_1 + 2)), .int .i64 (wrap64 (x6_1 + 1)), .int .i64 (wrap64 (x6_1 + 1)), .int .i64 (wrap64 (1 + (Int.tmod (Go.bits .and .i64 (rd l0 x6_1) 1023) 14))), .slice none 0 0] 37 (0, 0)) (by (with_reducible repeat (first | refine blk_drewN ?_ _ | refine blk_drew ?_ | refine blk_alloc ?_ _)); refine blk_put (cs := #[.int .i64 2, .int .i64 (wrap64 (x6_1 + 2)), .int .i64 (wrap64 (x6_1 + 1)), .int .i64 (wrap64 (x6_1 + 1)), .int .i64 (wrap64 (1 + (Int.tmod (Go.bits .and .i64 (rd l0 x6_1) 1023) 14))), .slice none 0 0]) ?_ 5 _ rfl; (with_reducible repeat (first | refine blk_drewN ?_ _ | refine blk_drew ?_ | refine blk_alloc ?_ _)); refine blk_put (cs := #[.int .i64 2, .int .i64 (wrap64 (x6_1 + 2)), .int .i64 (wrap64 (x6_1 + 1)), .int .i64 (wrap64 (x6_1 + 1)), .int .i64 0, .slice none 0 0]) ?_ 4 _ rfl; (with_reducible repeat (first | refine blk_drewN ?_ _ | refine blk_drew ?_ | refine blk_alloc ?_ _)); refine blk_put (cs := #[.int .i64 2, .int .i64 (wrap64 (x6_1 + 2)), .int .i64 (wrap64 (x6_1 + 1)), .int .i64 0, .int .i64 0, .slice none 0 0]) ?_ 3 _ rfl; (with_reducible repeat (first | refine blk_drewN ?_ _ | refine blk_drew ?_ | refine blk_alloc ?_ _)); refine blk_put (cs := #[.int .i64 2, .int .i64 (wrap64 (x6_1 + 2)), .int .i64 0, .int .i64 0, .int .i64 0, .slice none 0 0]) ?_ 2 _ rfl; (with_reducible repeat (first | refine blk_drewN ?_ _ | refine blk_drew ?_ | refine blk_alloc ?_ _)); refine blk_put (cs := #[.int .i64 2, .int .i64 0, .int .i64 0, .int .i64 0, .int .i64 0, .slice none 0 0]) ?_ 1 _ rfl; (with_reducible repeat (first | refine blk_drewN ?_ _ | refine blk_drew ?_ | refine blk_alloc ?_ _)); refine blk_put (cs := #[.int .i64 0, .int .i64 0, .int .i64 0, .int .i64 0, .int .i64 0, .slice none 0 0]) ?_ 0 _ rfl; (with_reducible repeat (first | refine blk_drewN ?_ _ | refine blk_drew ?_ | refine blk_alloc ?_ _)); exact BK480.out) k_ hk)); (case aO => exact (by (with_reducible repeat (first | apply Kd.S_alloc | apply Kd.S_drewN | apply Kd.S_drew)); exact Kd.S_mono (Kd.S_far (p := ⟨gb480, 5, none⟩) (Kd.S_far (p := ⟨gb480, 4, none⟩) (Kd.S_far (p := ⟨gb480, 3, none⟩) (Kd.S_far (p := ⟨gb480, 2, none⟩) (Kd.S_far (p := ⟨gb480, 1, none⟩) (Kd.S_far (p := ⟨gb480, 0, none⟩) (Kd.S_mono HO_4.out (fun k_ hk => (⟨hk, hk.2⟩ : _ ∧ k_ ≠ gb480))) (fun _ hk => hk.2) (.int .i64 2)) (fun _ hk => hk.2) (.int .i64 (wrap64 (x6_1 + 2)))) (fun _ hk => hk.2) (.int .i64 (wrap64 (x6_1 + 1)))) (fun _ hk => hk.2) (.int .i64 (wrap64 (x6_1 + 1)))) (fun _ hk => hk.2) (.int .i64 (wrap64 (1 + (Int.tmod (Go.bits .and .i64 (rd l0 x6_1) 1023) 14))))) (fun _ hk => hk.2) (.slice none 0 0)) (fun k_ hk => ⟨hk.1.2, fun e_ => e_⟩))); (case aS => exact (below_size (by repeat (first | (with_reducible first | exact HB.out | apply below_alloc | apply pw_below_drewN | apply below_drew1 | refine below_set ?_ GE480.out) | exact HB.out)))); (case aL => have := LMc8.out; omega); intro v482 w12 ho hb hg hat; rw [← Ny481.out] at ho; have n0_ := Aside0.mk (blk_grown (g := gb480) (o := .cells #[.int .i64 2, .int .i64 (wrap64 (x6_1 + 2)), .int .i64 (wrap64 (x6_1 + 1)), .int .i64 (wrap64 (x6_1 + 1)), .int .i64 (wrap64 (1 + (Int.tmod (Go.bits .and .i64 (rd l0 x6_1) 1023) 14))), .slice none 0 0] 37 (0, 0)) (by (with_reducible repeat (first | refine blk_drewN ?_ _ | refine blk_drew ?_ | refine blk_alloc ?_ _)); refine blk_put (cs := #[.int .i64 2, .int .i64 (wrap64 (x6_1 + 2)), .int .i64 (wrap64 (x6_1 + 1)), .int .i64 (wrap64 (x6_1 + 1)), .int .i64 (wrap64 (1 + (Int.tmod (Go.bits .and .i64 (rd l0 x6_1) 1023) 14))), .slice none 0 0]) ?_ 5 _ rfl; (with_reducible repeat (first | refine blk_drewN ?_ _ | refine blk_drew ?_ | refine blk_alloc ?_ _)); refine blk_put (cs := #[.int .i64 2, .int .i64 (wrap64 (x6_1 + 2)), .int .i64 (wrap64 (x6_1 + 1)), .int .i64 (wrap64 (x6_1 + 1)), .int .i64 0, .slice none 0 0]) ?_ 4 _ rfl; (with_reducible repeat (first | refine blk_drewN ?_ _ | refine blk_drew ?_ | refine blk_alloc ?_ _)); refine blk_put (cs := #[.int .i64 2, .int .i64 (wrap64 (x6_1 + 2)), .int .i64 (wrap64 (x6_1 + 1)), .int .i64 0, .int .i64 0, .slice none 0 0]) ?_ 3 _ rfl; (with_reducible repeat (first | refine blk_drewN ?_ _ | refine blk_drew ?_ | refine blk_alloc ?_ _)); refine blk_put (cs := #[.int .i64 2, .int .i64 (wrap64 (x6_1 + 2)), .int .i64 0, .int .i64 0, .int .i64 0, .slice none 0 0]) ?_ 2 _ rfl; (with_reducible repeat (first | refine blk_drewN ?_ _ | refine blk_drew ?_ | refine blk_alloc ?_ _)); refine blk_put (cs := #[.int .i64 2, .int .i64 0, .int .i64 0, .int .i64 0, .int .i64 0, .slice none 0 0]) ?_ 1 _ rfl; (with_reducible repeat (first | refine blk_drewN ?_ _ | refine blk_drew ?_ | refine blk_alloc ?_ _)); refine blk_put (cs := #[.int .i64 0, .int .i64 0, .int .i64 0, .int .i64 0, .int .i64 0, .slice none 0 0]) ?_ 0 _ rfl; (with_reducible repeat (first | refine blk_drewN ?_ _ | refine blk_drew ?_ | refine blk_alloc ?_ _)); exact BK480.out) hg (Kd.S_away HO_4.out (fun _ hk => hk.2))); have n1_ := Aside0.mk (hb); have n2_ := Aside0.mk (ho); clear BK480; clear HB; clear HO_4; have BK480 := n0_; have HB := n1_; have HO483 := n2_; clear n0_ n1_ n2_; clear ho hb hg hat; have hcz13_0 : w12.cell? ⟨gb480, 0, none⟩ = some (.int .i64 2) := (blk_cell BK480.out 0).trans rfl; have hcz13_1 : w12.cell? ⟨gb480, 1, none⟩ = some (.int .i64 (wrap64 (x6_1 + 2))) := (blk_cell BK480.out 1).trans rfl; have hcz13_2 : w12.cell? ⟨gb480, 2, none⟩ = some (.int .i64 (wrap64 (x6_1 + 1))) := (blk_cell BK480.out 2).trans rfl; have hcz13_3 : w12.cell? ⟨gb480, 3, none⟩ = some (.int .i64 (wrap64 (x6_1 + 1))) := (blk_cell BK480.out 3).trans rfl; have hcz13_4 : w12.cell? ⟨gb480, 4, none⟩ = some (.int .i64 (wrap64 (1 + (Int.tmod (Go.bits .and .i64 (rd l0 x6_1) 1023) 14)))) := (blk_cell BK480.out 4).trans rfl; have hcz13_5 : w12.cell? ⟨gb480, 5, none⟩ = some (.slice none 0 0) := (blk_cell BK480.out 5).trans rfl; have hfz13_0 := blk_frozen BK480.out 0; have hfz13_1 := blk_frozen BK480.out 1; have hfz13_2 := blk_frozen BK480.out 2; have hfz13_3 := blk_frozen BK480.out 3; have hfz13_4 := blk_frozen BK480.out 4; have hfz13_5 := blk_frozen BK480.out 5) | ((with_reducible refine gate_callee (f := 14) rfl ?_); refine goesL_ (some 41) rfl rfl Try.func14 (by kernel_rfl) rfl #[.agg #[.int .i64 2, .int .i64 (wrap64 (x6_1 + 2)), .int .i64 (wrap64 (x6_1 + 1)), .int .i64 (wrap64 (x6_1 + 1)), .int .i64 (wrap64 (1 + (Int.tmod (Go.bits .and .i64 (rd l0 x6_1) 1023) 14))), .slice none 0 0]] rfl (by (try simp only [List.map_toArray, List.map_cons, List.map_nil]); first | done | rfl | (simp only [List.length_drop, List.length_take]; rfl)) ?_; (refine (sched_Latency.calls 2 (wrap64 (x6_1 + 2)) (wrap64 (x6_1 + 1)) (wrap64 (x6_1 + 1)) (wrap64 (1 + (Int.tmod (Go.bits .and .i64 (rd l0 x6_1) 1023) 14))) _ _ ([] : List Int) t484 _ ?side1 ?side2 A9.out).mono ?_); (case side1 => exact Kd.C_nil _ _); (case side2 => exact Nat.le_refl _); rintro e w14 ⟨rfl, hb⟩; refine ⟨_, rfl, ?_⟩; have n0_ := Aside0.mk (Kd.S_below (by (with_reducible repeat (first | apply Kd.S_alloc | apply Kd.S_drewN | apply Kd.S_drew)); exact HO483.out) hb); have n1_ := Aside0.mk (blk_below (g := gb480) (o := .cells #[.int .i64 2, .int .i64 (wrap64 (x6_1 + 2)), .int .i64 (wrap64 (x6_1 + 1)), .int .i64 (wrap64 (x6_1 + 1)), .int .i64 (wrap64 (1 + (Int.tmod (Go.bits .and .i64 (rd l0 x6_1) 1023) 14))), .slice none 0 0] 37 (0, 0)) (by (with_reducible repeat (first | refine blk_drewN ?_ _ | refine blk_drew ?_ | refine blk_alloc ?_ _)); exact BK480.out) hb); have n2_ := Aside0.mk (below_step (by repeat (first | (with_reducible first | exact HB.out | apply below_alloc | apply pw_below_drewN | apply below_drew1 | refine below_set ?_ GE480.out) | exact HB.out)) hb); clear HO483; clear BK480; clear HB; have HO483 := n0_; have BK480 := n1_; have HB := n2_; clear n0_ n1_ n2_; (try clear hb); (try clear hb2); (try clear hk); (try clear hi)))
              go_roundg k1
              case measure => have := HK1.out; omega
              case rel => exact ⟨(y481), (wrap64 (x5_1 + t484)), (wrap64 (x6_1 + 1)), (by first | rfl | (simp; done) | (simp [*]; done)), (by first | rfl | (simp; done) | (simp [*]; done)), H', ⟨by have := HK1.out; omega⟩, ⟨by (with_reducible repeat (first | apply Kd.S_alloc | apply Kd.S_drewN | apply Kd.S_drew)); exact Kd.S_mono HO483.out (fun _ hk => trivial)⟩, ⟨by repeat (first | (with_reducible first | exact HB.out | apply below_alloc | apply pw_below_drewN | apply below_drew1 | refine below_set ?_ GE480.out) | exact HB.out)⟩⟩
            · rw [if_neg c8] at H
              exact absurd H (by simp)
          · rw [if_neg c7] at H
            exact absurd H (by simp)
        · rw [if_neg c6] at H
          have c6b0 : decide (x6_1 < (l0.length : Int)) = false := decide_eq_false c6
          clear c6
          replace H := Option.bind_eq_some_iff.mp H
          obtain ⟨t485, A150, H⟩ := H
          replace H : (if (t485.length : Int) = (x4_1.length : Int) then ((sched_Cost.f k1 x4_1).bind fun t488 => (swagelaw27_SchedChain.j1 k1 t478 t485 (t488 != x5_1))) else (swagelaw27_SchedChain.j1 k1 t478 t485 true)) = some r := H
          have A15 := Aside0.mk A150
          clear A150
          have HC16 := Aside0.mk H
          clear H
          obtain ⟨Ao17, co17, eo17⟩ := Kd.S_slice HO_4.out
          subst eo17
          go_upto_region 13 with (first | ((with_reducible refine gate_callee (f := 22) rfl ?_); refine goesL_ (some 44) rfl rfl Try.func22 (by kernel_rfl) rfl #[.slice Ao17 x4_1.length co17] rfl (by (try simp only [List.map_toArray, List.map_cons, List.map_nil]); first | done | rfl | (simp only [List.length_drop, List.length_take]; rfl)) ?_; (with_reducible refine (sched_Order.calls _ _ x4_1 t485 _ ?side1 ?side2 A15.out).mono ?_); (case side1 => repeat (first | exact (Kd.S_reads' HO_4.out).2.2 | (with_reducible refine Kd.C_alloc ?_ _) | (with_reducible refine Kd.C_drewN ?_ _) | (with_reducible refine Kd.C_drew ?_))); (case side2 => exact (Kd.S_reads' HO_4.out).2.1); rintro e w18 ⟨v486, rfl, ho0, hb⟩; refine ⟨_, rfl, ?_⟩; have n0_ := Aside0.mk (Kd.S_elder' (by (with_reducible repeat (first | apply Kd.S_alloc | apply Kd.S_drewN | apply Kd.S_drew)); exact HO_4.out) (Kd.R_base ho0) hb); have n1_ := Aside0.mk (Kd.R_lower ho0 (below_size (by repeat (first | (with_reducible first | exact HB.out | apply below_alloc | apply pw_below_drewN | apply below_drew1) | exact HB.out)))); have n2_ := Aside0.mk (below_step (by repeat (first | (with_reducible first | exact HB.out | apply below_alloc | apply pw_below_drewN | apply below_drew1) | exact HB.out)) hb); clear HO_4; clear HB; have HO_4 := n0_; have HO487 := n1_; have HB := n2_; clear n0_ n1_ n2_; (try clear hb); (try clear hb2); (try clear hk); (try clear hi); (try clear ho0)))
          (try simp only [Act.put, List.setIfInBounds_toArray, List.set_cons_zero, List.set_cons_succ])
          go_cut [55] (fun v55 wc => ∃ (kq : Nat) (x55_15 : Bool), v55 = .bool x55_15 ∧ Aside0 (swagelaw27_SchedChain.j1 kq t478 t485 x55_15 = some r) ∧ Aside0 (kq ≤ k1) ∧ Aside0 (Kd.R (Kd.int .i64) 3 wc w.heap.size (fun _ => True) v486 t485) ∧ Aside0 (Below w.heap.size w wc))
          case first =>
            have H := HC16.out
            clear HC16
            by_cases c19 : (t485.length : Int) = (x4_1.length : Int)
            · rw [if_pos c19] at H
              have c19b0 : ((t485.length : Int) == (x4_1.length : Int)) = true := beq_iff_eq.mpr c19
              have c19b1 : ((t485.length : Int) != (x4_1.length : Int)) = false := bne_eq_false_iff_eq.mpr c19
              have c19b2 : (t485.length == x4_1.length) = true := by first | simpa using c19 | (simp at c19 ⊢; omega)
              clear c19
              (first | rw [c19b0] | (simp only [i64_w, i32_w]; rw [c19b0]) | skip)
              replace H := Option.bind_eq_some_iff.mp H
              obtain ⟨t488, A200, H⟩ := H
              replace H : (swagelaw27_SchedChain.j1 k1 t478 t485 (t488 != x5_1)) = some r := H
              have A20 := Aside0.mk A200
              clear A200
              have H' := Aside0.mk H
              clear H
              obtain ⟨Ao21, co21, eo21⟩ := Kd.R_slice HO487.out
              subst eo21
              go_wp2_with (first | (go_at_call 26; (with_reducible refine (sched_Cost.calls k1 _ _ x4_1 t488 _ ?side1 ?side2 A20.out).mono ?_); (case side1 => repeat (first | exact (Kd.S_reads' HO_4.out).2.2 | (with_reducible refine Kd.C_alloc ?_ _) | (with_reducible refine Kd.C_drewN ?_ _) | (with_reducible refine Kd.C_drew ?_))); (case side2 => exact (Kd.S_reads' HO_4.out).2.1); rintro e w22 ⟨rfl, hb⟩; have n0_ := Aside0.mk (Kd.S_below (by (with_reducible repeat (first | apply Kd.S_alloc | apply Kd.S_drewN | apply Kd.S_drew)); exact HO_4.out) hb); have n1_ := Aside0.mk (Kd.R_below (by (with_reducible repeat (first | apply Kd.R_alloc | apply Kd.R_drewN | apply Kd.R_drew)); exact HO487.out) hb); have n2_ := Aside0.mk (below_step (by repeat (first | (with_reducible first | exact HB.out | apply below_alloc | apply pw_below_drewN | apply below_drew1) | exact HB.out)) hb); clear HO_4; clear HO487; clear HB; have HO_4 := n0_; have HO487 := n1_; have HB := n2_; clear n0_ n1_ n2_; (try clear hb); (try clear hb2); (try clear hk); (try clear hi)))
              go_meet
              case rel => exact ⟨_, ((t488 != x5_1)), (by first | rfl | (simp; done) | (simp [*]; done)), H', ⟨by have := HK1.out; first | omega | exact Nat.le_refl _⟩, ⟨by (with_reducible repeat (first | apply Kd.R_alloc | apply Kd.R_drewN | apply Kd.R_drew)); exact HO487.out⟩, ⟨by repeat (first | (with_reducible first | exact HB.out | apply below_alloc | apply pw_below_drewN | apply below_drew1) | exact HB.out)⟩⟩
            · rw [if_neg c19] at H
              have c19b0 : ((t485.length : Int) == (x4_1.length : Int)) = false := beq_eq_false_iff_ne.mpr c19
              have c19b1 : ((t485.length : Int) != (x4_1.length : Int)) = true := bne_iff_ne.mpr c19
              have c19b2 : (t485.length == x4_1.length) = false := by first | simpa using c19 | (simp at c19 ⊢; omega)
              (first | rw [c19b0] | (simp only [i64_w, i32_w]; rw [c19b0]) | skip)
              have H' := Aside0.mk H
              clear H
              obtain ⟨Ao23, co23, eo23⟩ := Kd.R_slice HO487.out
              subst eo23
              go_wp2
              go_meet
              case rel => exact ⟨_, (true), (by first | rfl | (simp; done) | (simp [*]; done)), H', ⟨by have := HK1.out; first | omega | exact Nat.le_refl _⟩, ⟨by (with_reducible repeat (first | apply Kd.R_alloc | apply Kd.R_drewN | apply Kd.R_drew)); exact HO487.out⟩, ⟨by repeat (first | (with_reducible first | exact HB.out | apply below_alloc | apply pw_below_drewN | apply below_drew1) | exact HB.out)⟩⟩
          case rest =>
            clear HC16
            try clear c1
            try clear c2
            try clear p2
            try clear c3
            try clear c3b0
            try clear c3b1
            try clear p4
            try clear q4
            try clear hx4
            try clear c6
            try clear c6b0
            try clear p6
            try clear c7
            try clear c7b0
            try clear c8
            try clear c14
            try clear c19
            try clear c19b0
            try clear c19b1
            try clear c19b2
            try clear c22
            try clear hcz11_0
            try clear hcz11_1
            try clear hcz11_2
            try clear hcz11_3
            try clear hcz11_4
            try clear hcz11_5
            try clear hcz13_0
            try clear hcz13_1
            try clear hcz13_2
            try clear hcz13_3
            try clear hcz13_4
            try clear hcz13_5
            try clear hfz11_0
            try clear hfz11_1
            try clear hfz11_2
            try clear hfz11_3
            try clear hfz11_4
            try clear hfz11_5
            try clear hfz13_0
            try clear hfz13_1
            try clear hfz13_2
            try clear hfz13_3
            try clear hfz13_4
            try clear hfz13_5
            try clear hx479_0
            try clear p2
            try clear p479
            try clear q479
            obtain ⟨kq, x55_15, rfl, HA, HJ15, HO_8, HB⟩ := hcut
            cases kq with
            | zero => exact absurd HA.out (by simp [swagelaw27_SchedChain.j1])
            | succ kj15 =>
              have H := HA.out
              clear HA
              simp only [swagelaw27_SchedChain.j1] at H
              by_cases c24 : x55_15 = true
              · subst c24
                have H1 : (some false) = some r := by rw [if_pos rfl] at H; exact H
                clear H
                have H := H1
                clear H1
                obtain rfl := Option.some.inj H
                go_wp2
                go_ret
                exact ⟨by first | rfl | (simp [errW_none, errW_some] <;> rfl) | (simp [*, errW_none, errW_some] <;> rfl), by repeat (first | (with_reducible first | exact HB.out | apply below_alloc | apply pw_below_drewN | apply below_drew1) | exact HB.out)⟩
              · replace c24 := Bool.eq_false_iff.mpr c24
                subst c24
                have H1 : (swagelaw27_SchedChain.l1 kj15 t478 t485 0) = some r := by rw [if_neg (show ¬ (false = true) by decide)] at H; exact H
                clear H
                have H := H1
                clear H1
                have H' := Aside0.mk H
                clear H
                go_wp2
                go_loopg [9] kj15 (fun kq v9 w' => ∃ (x9_3 : Int), v9 = .int .i64 x9_3 ∧ Aside0 (swagelaw27_SchedChain.l1 kq t478 t485 x9_3 = some r) ∧ Aside0 (kq ≤ kj15) ∧ Aside0 (Kd.R (Kd.int .i64) 3 w' w.heap.size (fun _ => True) v486 t485) ∧ Aside0 (Below w.heap.size w w'))
                case atStart => exact ⟨(0), (by first | rfl | (simp; done) | (simp [*]; done)), H', ⟨Nat.le_refl _⟩, ⟨by (with_reducible repeat (first | apply Kd.R_alloc | apply Kd.R_drewN | apply Kd.R_drew)); exact HO_8.out⟩, ⟨by repeat (first | (with_reducible first | exact HB.out | apply below_alloc | apply pw_below_drewN | apply below_drew1) | exact HB.out)⟩⟩
                case round =>
                  clear H'
                  try clear c1
                  try clear c2
                  try clear p2
                  try clear c3
                  try clear c3b0
                  try clear c3b1
                  try clear p4
                  try clear q4
                  try clear hx4
                  try clear c6
                  try clear c6b0
                  try clear p6
                  try clear c7
                  try clear c7b0
                  try clear c8
                  try clear c14
                  try clear c19
                  try clear c19b0
                  try clear c19b1
                  try clear c19b2
                  try clear c22
                  try clear c24
                  try clear hcz11_0
                  try clear hcz11_1
                  try clear hcz11_2
                  try clear hcz11_3
                  try clear hcz11_4
                  try clear hcz11_5
                  try clear hcz13_0
                  try clear hcz13_1
                  try clear hcz13_2
                  try clear hcz13_3
                  try clear hcz13_4
                  try clear hcz13_5
                  try clear hfz11_0
                  try clear hfz11_1
                  try clear hfz11_2
                  try clear hfz11_3
                  try clear hfz11_4
                  try clear hfz11_5
                  try clear hfz13_0
                  try clear hfz13_1
                  try clear hfz13_2
                  try clear hfz13_3
                  try clear hfz13_4
                  try clear hfz13_5
                  try clear hx479_0
                  try clear p2
                  try clear p4
                  try clear p479
                  try clear p6
                  try clear q4
                  try clear q479
                  obtain ⟨x9_3, rfl, HA, HK3, HO_8, HB⟩ := hrel
                  cases gk with
                  | zero => exact absurd HA.out (by simp [swagelaw27_SchedChain.l1])
                  | succ k3 =>
                    have H := HA.out
                    clear HA
                    simp only [swagelaw27_SchedChain.l1] at H
                    by_cases c25 : x9_3 < (t485.length : Int)
                    · rw [if_pos c25] at H
                      have c25b0 : decide (x9_3 < (t485.length : Int)) = true := decide_eq_true c25
                      clear c25
                      by_cases c26 : 0 ≤ x9_3
                      · rw [if_pos c26] at H
                        have c26b0 : decide (0 ≤ x9_3) = true := decide_eq_true c26
                        clear c26
                        by_cases c27 : (rd t485 x9_3) = x9_3
                        · rw [if_pos c27] at H
                          have c27b0 : ((rd t485 x9_3) == x9_3) = true := beq_iff_eq.mpr c27
                          have c27b1 : ((rd t485 x9_3) != x9_3) = false := bne_eq_false_iff_eq.mpr c27
                          clear c27
                          have H' := Aside0.mk H
                          clear H
                          obtain ⟨Ao28, co28, eo28⟩ := Kd.R_slice HO_8.out
                          subst eo28
                          have p489 : 0 ≤ (x9_3 : Int) := of_decide_eq_true (by first | (with_reducible assumption) | assumption)
                          have q489 : x9_3 < (t485.length : Int) := of_decide_eq_true (by first | (with_reducible assumption) | assumption)
                          obtain ⟨ad489, e489, hx489_0⟩ := Kd.at_int (Kd.R_reads' HO_8.out).2.2 x9_3 p489 q489
                          cases e489
                          replace p489 := eq_true p489
                          replace q489 := eq_true q489
                          go_wp2
                          go_roundg k3
                          case measure => have := HK1.out; have := HJ15.out; have := HK3.out; omega
                          case rel => exact ⟨(wrap64 (x9_3 + 1)), (by first | rfl | (simp; done) | (simp [*]; done)), H', ⟨by have := HK1.out; have := HJ15.out; have := HK3.out; omega⟩, ⟨by (with_reducible repeat (first | apply Kd.R_alloc | apply Kd.R_drewN | apply Kd.R_drew)); exact HO_8.out⟩, ⟨by repeat (first | (with_reducible first | exact HB.out | apply below_alloc | apply pw_below_drewN | apply below_drew1) | exact HB.out)⟩⟩
                        · rw [if_neg c27] at H
                          have c27b0 : ((rd t485 x9_3) == x9_3) = false := beq_eq_false_iff_ne.mpr c27
                          have c27b1 : ((rd t485 x9_3) != x9_3) = true := bne_iff_ne.mpr c27
                          obtain rfl := Option.some.inj H
                          obtain ⟨Ao29, co29, eo29⟩ := Kd.R_slice HO_8.out
                          subst eo29
                          have p489 : 0 ≤ (x9_3 : Int) := of_decide_eq_true (by first | (with_reducible assumption) | assumption)
                          have q489 : x9_3 < (t485.length : Int) := of_decide_eq_true (by first | (with_reducible assumption) | assumption)
                          obtain ⟨ad489, e489, hx489_0⟩ := Kd.at_int (Kd.R_reads' HO_8.out).2.2 x9_3 p489 q489
                          cases e489
                          replace p489 := eq_true p489
                          replace q489 := eq_true q489
                          go_wp2
                          go_ret
                          exact ⟨by first | rfl | (simp [errW_none, errW_some] <;> rfl) | (simp [*, errW_none, errW_some] <;> rfl), by repeat (first | (with_reducible first | exact HB.out | apply below_alloc | apply pw_below_drewN | apply below_drew1) | exact HB.out)⟩
                      · rw [if_neg c26] at H
                        exact absurd H (by simp)
                    · rw [if_neg c25] at H
                      have c25b0 : decide (x9_3 < (t485.length : Int)) = false := decide_eq_false c25
                      clear c25
                      obtain rfl := Option.some.inj H
                      obtain ⟨Ao30, co30, eo30⟩ := Kd.R_slice HO_8.out
                      subst eo30
                      go_wp2
                      go_ret
                      exact ⟨by first | rfl | (simp [errW_none, errW_some] <;> rfl) | (simp [*, errW_none, errW_some] <;> rfl), by repeat (first | (with_reducible first | exact HB.out | apply below_alloc | apply pw_below_drewN | apply below_drew1) | exact HB.out)⟩

/-- THE ONE PURE STATEMENT of swagelaw27_SchedChain: yours. -/
def swagelaw27_SchedChain.Pure : Prop := ∀ (l0 : List Int), l0.length ≤ maxLen → l0.length * 8 ≤ 140737488351232 → (∀ x ∈ l0, (Lit.int .i64 x).wf = true) → ∃ k, swagelaw27_SchedChain.f k l0 = some true
theorem swagelaw27_SchedChain.walk (P : swagelaw27_SchedChain.Pure) (a0 : Option Addr) (len0 cap0 : Nat) (z0 : List Int) (w : World) (w0 : (a0 = none ∧ len0 = 0 ∧ cap0 = 0 ∧ z0 = []) ∨ ∃ x, a0 = some x ∧ len0 ≤ cap0 ∧ cap0 ≤ maxLen ∧ z0.length = cap0 ∧ (∀ i, i < z0.length → w.cell? (x.add i) = some (.int .i64 (z0.getD i 0))) ∧ ∀ n ∈ z0, (Lit.int .i64 n).wf = true) (y0 : len0 * 8 ≤ 140737488351232) :
    Calls Try.prog 7 #[.slice a0 len0 cap0] w fun e w' => e = .returned (.bool true) ∧ Below w.heap.size w w' := by
  obtain ⟨l0, rfl, hr0, hm0, hw0, hc0⟩ := ReadsInt.ofRowC w0
  obtain ⟨k, h⟩ := P l0 hm0 y0 hw0
  refine (swagelaw27_SchedChain.calls k _ _ l0 true w (Kd.C_of_reads (d := (0 : Int)) (h1 := fun _ => rfl) hr0) hc0 h).mono ?_
  rintro e w' ⟨rfl, hd⟩
  exact ⟨rfl, hd⟩

end Go.Proofs.Ytphmlkbmnmicpaa.A

/- SchedChain over plain lists: it holds. -/
namespace Go.Proofs.Ytphmlkbmnmicpaa.A
open Go.RowKit Go.Proofs.YtphmlkbmnmicpaaW.PrintWords Go.Proofs.YtphmlkbmnmicpaaW.PrintLast Go.Proofs.YtphmlkbmnmicpaaW.PrintMore Go.Shelf
set_option linter.unusedVariables false
set_option linter.unusedSimpArgs false

theorem mkL_succ {α : Type} (n : Nat) (f : Nat → α) : mkL (n + 1) f = mkL n f ++ [f n] := by simp [mkL, List.range_succ]
theorem mkL_mem {n : Nat} {k : Nat} : ((k : Int) ∈ mkL n fun i : Nat => (i : Int)) ↔ k < n := by
  simp only [mkL, List.mem_map, List.mem_range]
  constructor
  · rintro ⟨a, h, e⟩; omega
  · intro h; exact ⟨k, h, rfl⟩

theorem order_id (h : List Int) (d : List (List Int)) (hd : Back d) (hp : ∀ i : Nat, i + 1 < d.length → (i : Int) ∈ rd_L1 d ((i + 1 : Nat) : Int)) : orderBy h d = mkL d.length fun i : Nat => (i : Int) := by
  have hlen := orderBy_length h d hd
  have step : ∀ m, m ≤ d.length → (orderBy h d).take m = mkL m fun i : Nat => (i : Int) := by
    intro m
    induction m with
    | zero => intro _; simp [mkL]
    | succ m ih =>
      intro hm
      have hi := ih (by omega)
      obtain ⟨b, hb, hpk⟩ := orderBy_get h d hd m (by omega)
      rw [hi] at hpk
      have h1 := hpk.new
      rw [mkL_mem] at h1
      have hbm : b = m := by
        rcases b with _ | b
        · omega
        · have := hpk.row _ (hp b hpk.lt)
          rw [mkL_mem] at this
          omega
      subst hbm
      rw [mkL_succ, List.take_add_one, hi, hb]
      rfl
  have := step d.length (Nat.le_refl _)
  rwa [List.take_of_length_le (by omega)] at this

theorem mx_self (a b : Int) : mx (mx a b) b = mx a b := by
  unfold mx
  by_cases h : a < b
  · simp [h]
  · simp [h]
theorem cRow_one (l : List S37) (ends : List Int) (i : Nat) (p v : Int) : ∀ (row : List Int) (a : Int), (∀ k ∈ row, ∀ a, cOne l ends i a k = if k = p then mx a v else a) → cRow l ends i row a = if p ∈ row then mx a v else a := by
  intro row
  induction row with
  | nil => intro a _; simp [cRow]
  | cons k row ih =>
    intro a h
    show cRow l ends i row (cOne l ends i a k) = _
    rw [ih _ (fun k hk => h k (List.mem_cons_of_mem _ hk)), h k List.mem_cons_self]
    by_cases hk : k = p
    · subst hk
      simp only [if_true, List.mem_cons, true_or]
      split
      · exact mx_self _ _
      · rfl
    · have : ¬ p = k := fun h => hk h.symm
      simp only [if_neg hk, List.mem_cons, this, false_or]

def chOp (ops : List Int) (i : Nat) : S37 := ⟨2, (i : Int) + 2, (i : Int) + 1, (i : Int) + 1, wrap64 (1 + (Int.tmod (Go.bits .and .i64 (rd ops i) 1023) 14)), []⟩
def chL (ops : List Int) (n : Nat) : List S37 := mkL n (chOp ops)
def chS (ops : List Int) : Nat → Int
  | 0 => 0
  | m + 1 => chS ops m + latOf (chOp ops m)
theorem chS_range (ops : List Int) (m : Nat) : (m : Int) ≤ chS ops m ∧ chS ops m ≤ 20 * (m : Int) := by
  induction m with
  | zero => simp [chS]
  | succ m ih =>
    have := latOf_range (chOp ops m)
    simp only [chS]
    omega
theorem chL_get (ops : List Int) (n i : Nat) (hi : i < n) : rd_T37 (chL ops n) (i : Int) = chOp ops i := by
  unfold rd_T37 chL
  rw [Int.toNat_natCast, mkL_get _ _ _ hi]
theorem chL_getD (ops : List Int) (n i : Nat) (hi : i < n) : (chL ops n).getD i z37 = chOp ops i := by
  unfold chL
  rw [mkL_get _ _ _ hi]
theorem chL_length (ops : List Int) (n : Nat) : (chL ops n).length = n := mkL_length _ _
theorem ch_sets (ops : List Int) (i : Nat) : setsOf (chOp ops i) = (i : Int) + 2 := by
  unfold setsOf chOp
  rw [if_pos (show (shapeOf 2).1 = true by decide)]
theorem ch_uses (ops : List Int) (i : Nat) : usesOf (chOp ops i) = [(i : Int) + 1, (i : Int) + 1] := by
  unfold usesOf chOp
  simp only [show (shapeOf 2).2.1 = true by decide, show (shapeOf 2).2.2.1 = true by decide, if_true]
  rfl
theorem ch_reads (ops : List Int) (i k : Nat) : readsOf (chOp ops i) (setsOf (chOp ops k)) = decide (k + 1 = i) := by
  unfold readsOf
  rw [ch_sets, ch_uses]
  by_cases h : k + 1 = i
  · subst h
    have : ((k : Int) + 2 ≠ 0) := by omega
    simp [this]
    omega
  · simp [h]
    intro _
    omega
theorem ch_prev (ops : List Int) (n i : Nat) (hi : i + 1 < n) : (i : Int) ∈ rd_L1 (depsOf (chL ops n)) ((i + 1 : Nat) : Int) := by
  rw [depsOf_row _ _ (by rw [chL_length]; exact hi), partOf_mem]
  refine ⟨i, rfl, by omega, ?_⟩
  rw [chL_getD _ _ _ hi, chL_getD _ _ _ (by omega)]
  unfold afterOf
  rw [ch_reads]
  simp
theorem ch_order (ops : List Int) (n : Nat) : orderOf (chL ops n) = mkL n fun i : Nat => (i : Int) := by
  unfold orderOf
  rw [order_id _ _ (depsOf_back _) (fun i hi => by
    rw [depsOf_length, chL_length] at hi
    exact ch_prev ops n i hi), depsOf_length, chL_length]

theorem ch_cost (ops : List Int) (n : Nat) (hn : n ≤ 40) : ∀ m, m ≤ n → (∀ i : Nat, i + 1 = m → rd (costN (chL ops n) (depsOf (chL ops n)) m).1 (i : Int) = chS ops m) ∧
    (costN (chL ops n) (depsOf (chL ops n)) m).2.1 ≤ chS ops m ∧ (m = 0 → (costN (chL ops n) (depsOf (chL ops n)) m).2.1 = 0) ∧ (costN (chL ops n) (depsOf (chL ops n)) m).2.2 = chS ops m := by
  intro m
  induction m with
  | zero => intro _; refine ⟨fun i hi => by omega, by simp [costN, chS], fun _ => by simp [costN], by simp [costN, chS]⟩
  | succ m ih =>
    intro hm
    obtain ⟨h1, h2, h3, h4⟩ := ih (by omega)
    have hlen := costN_length (chL ops n) (depsOf (chL ops n)) m
    rw [depsOf_length, chL_length] at hlen
    rw [costN_succ]
    generalize costN (chL ops n) (depsOf (chL ops n)) m = s at *
    have hr := chS_range ops m
    have hl := latOf_range (chOp ops m)
    have hrow : ∀ k ∈ rd_L1 (depsOf (chL ops n)) (m : Int), ∃ j : Nat, k = (j : Int) ∧ j < m := by
      intro k hk
      exact depsOf_back _ m (by rw [depsOf_length, chL_length]; omega) k hk
    have hc : cRow (chL ops n) s.1 m (rd_L1 (depsOf (chL ops n)) (m : Int)) s.2.1 = chS ops m := by
      rw [cRow_one _ _ _ ((m : Int) - 1) (chS ops m) _ _ (fun k hk a => by
        obtain ⟨j, rfl, hj⟩ := hrow k hk
        unfold cOne
        rw [chL_get _ _ _ (by omega), chL_get _ _ _ (by omega), ch_reads]
        by_cases hjm : j + 1 = m
        · rw [if_pos (by simpa using hjm), if_pos (by omega), h1 j hjm]
        · rw [if_neg (by simpa using hjm), if_neg (by omega)])]
      rcases m with _ | m
      · have : ¬ (((0 : Nat) : Int) - 1 ∈ rd_L1 (depsOf (chL ops n)) ((0 : Nat) : Int)) := fun hk => by
          obtain ⟨j, hj, hj2⟩ := hrow _ hk
          omega
        rw [if_neg this, h3 rfl]
        rfl
      · have := ch_prev ops n m (by omega)
        rw [if_pos (by rw [show ((m + 1 : Nat) : Int) - 1 = (m : Int) by omega]; exact this)]
        unfold mx
        split <;> omega
    unfold costStep
    rw [hc]
    have e1 : wrap64 (chS ops m + lt_ (chL ops n) m) = chS ops (m + 1) := by
      unfold lt_
      rw [chL_get _ _ _ (by omega)]
      simp only [chS]
      unfold wrap64
      omega
    have e2 : wrap64 (chS ops m + 1) = chS ops m + 1 := by unfold wrap64; omega
    rw [e1, e2]
    have e3 : chS ops (m + 1) = chS ops m + latOf (chOp ops m) := rfl
    refine ⟨fun i hi => ?_, by show chS ops m + 1 ≤ _; omega, fun h => by omega, ?_⟩
    · obtain rfl : i = m := by omega
      show rd (s.1.set i _) (i : Int) = _
      rw [rd_set, if_pos ⟨rfl, by omega⟩]
    · show mx s.2.2 _ = _
      rw [h4]
      unfold mx
      rw [if_pos (by omega)]
theorem ch_costOf (ops : List Int) (n : Nat) (hn : n ≤ 40) : costOf (chL ops n) = chS ops n := by
  unfold costOf
  rw [chL_length]
  exact (ch_cost ops n hn n (Nat.le_refl _)).2.2.2

theorem chain_l1 (n : Nat) (hn : n ≤ 40) : ∀ (d i : Nat), i ≤ n → n - i = d → Ev (fun k => swagelaw27_SchedChain.l1 k true (mkL n fun i : Nat => (i : Int)) (i : Int)) true := by
  intro d
  induction d with
  | zero =>
    intro i hi hd
    refine ⟨1, fun k hk => ?_⟩
    obtain ⟨k, rfl⟩ : ∃ m, k = m + 1 := ⟨k - 1, by omega⟩
    simp only [swagelaw27_SchedChain.l1, mkL_length]
    rw [if_neg (by omega)]
  | succ d ih =>
    intro i hi hd
    obtain ⟨K, hK⟩ := ih (i + 1) (by omega) (by omega)
    refine ⟨K + 1, fun k hk => ?_⟩
    obtain ⟨k, rfl⟩ : ∃ m, k = m + 1 := ⟨k - 1, by omega⟩
    have hK' := hK k (by omega)
    simp only [swagelaw27_SchedChain.l1, mkL_length]
    rw [if_pos (by omega), if_pos (by omega), if_pos (by rw [rd_nat, mkL_get _ _ _ (by omega)]), show wrap64 ((i : Int) + 1) = ((i + 1 : Nat) : Int) from by unfold wrap64; omega]
    exact hK'

theorem chain_l0 (ops : List Int) (hn : ops.length ≤ 40) : ∀ (d i : Nat), i ≤ ops.length → ops.length - i = d → Ev (fun k => swagelaw27_SchedChain.l0 k ops true (chL ops i) (chS ops i) (i : Int)) true := by
  intro d
  induction d with
  | zero =>
    intro i hi hd
    obtain rfl : i = ops.length := by omega
    obtain ⟨K1, hK1⟩ := chain_l1 ops.length hn _ 0 (Nat.zero_le _) rfl
    obtain ⟨K2, hK2⟩ := cost_ev (chL ops ops.length) (by rw [chL_length]; omega) (fun x hx => by
      unfold chL mkL at hx
      obtain ⟨i, _, rfl⟩ := List.mem_map.1 hx
      simp [chOp])
    refine ⟨max (K1 + 1) K2 + 1, fun k hk => ?_⟩
    obtain ⟨k, rfl⟩ : ∃ m, k = m + 1 := ⟨k - 1, by omega⟩
    have hK1' := hK1 (k - 1) (by omega)
    have hK2' := hK2 k (by omega)
    simp only at hK2'
    simp only [swagelaw27_SchedChain.l0]
    rw [if_neg (by omega), show sched_Order.f (chL ops ops.length) = some (mkL ops.length fun i : Nat => (i : Int)) from by
      unfold sched_Order.f
      rw [if_pos ⟨by rw [chL_length]; omega, fun x hx => by
        unfold chL mkL at hx
        obtain ⟨i, _, rfl⟩ := List.mem_map.1 hx
        simp [chOp]⟩, ch_order]]
    simp only [Option.bind_some]
    rw [if_pos (by rw [mkL_length, chL_length]), hK2']
    simp only [Option.bind_some]
    rw [ch_costOf ops _ hn]
    obtain ⟨k, rfl⟩ : ∃ m, k = m + 1 := ⟨k - 1, by omega⟩
    simp only [swagelaw27_SchedChain.j1]
    rw [if_neg (by simp)]
    exact hK1'
  | succ d ih =>
    intro i hi hd
    obtain ⟨K, hK⟩ := ih (i + 1) (by omega) (by omega)
    refine ⟨K + 1, fun k hk => ?_⟩
    obtain ⟨k, rfl⟩ : ∃ m, k = m + 1 := ⟨k - 1, by omega⟩
    have hK' := hK k (by omega)
    have hr := chS_range ops i
    have hl := latOf_range (chOp ops i)
    have e0 : chL ops (i + 1) = chL ops i ++ [chOp ops i] := mkL_succ _ _
    simp only [swagelaw27_SchedChain.l0]
    rw [if_pos (by omega), if_pos (by omega), if_pos (by rw [chL_length]; omega)]
    rw [show wrap64 ((i : Int) + 1) = (i : Int) + 1 from by unfold wrap64; omega, show wrap64 ((i : Int) + 2) = (i : Int) + 2 from by unfold wrap64; omega]
    have hlat := lat_f (chOp ops i)
    have hx : (⟨2, (i : Int) + 2, (i : Int) + 1, (i : Int) + 1, wrap64 (1 + (Int.tmod (Go.bits .and .i64 (rd ops i) 1023) 14)), []⟩ : S37) = chOp ops i := rfl
    rw [hx, ← e0, show sched_Latency.f 2 ((i : Int) + 2) ((i : Int) + 1) ((i : Int) + 1) (wrap64 (1 + (Int.tmod (Go.bits .and .i64 (rd ops i) 1023) 14))) [] = some (latOf (chOp ops i)) from hlat]
    simp only [Option.bind_some]
    rw [show wrap64 (chS ops i + latOf (chOp ops i)) = chS ops (i + 1) from by simp only [chS]; unfold wrap64; omega]
    rw [show (i : Int) + 1 = ((i + 1 : Nat) : Int) by omega]
    exact hK'

theorem chain_true (ops : List Int) : ∃ k, swagelaw27_SchedChain.f k ops = some true := by
  by_cases h : (ops.length : Int) > 40
  · exact ⟨0, by unfold swagelaw27_SchedChain.f swagelaw27_small.f; simp only [Option.bind_some]; rw [if_pos h]⟩
  · obtain ⟨k, hk⟩ := (chain_l0 ops (by omega) _ 0 (Nat.zero_le _) rfl).rounds
    refine ⟨k, ?_⟩
    unfold swagelaw27_SchedChain.f swagelaw27_small.f
    simp only [Option.bind_some]
    rw [if_neg h]
    exact hk
theorem chain_law (A : Option Addr) (c : Nat) (ops : List Int) (w : World) (h : Kd.C (Kd.int .i64) w A ops.length ops) (hc : ops.length ≤ c) :
    Calls Try.prog 7 #[.slice A ops.length c] w fun e w' => e = .returned (.bool true) ∧ Below w.heap.size w w' := by
  obtain ⟨k, hk⟩ := chain_true ops
  exact swagelaw27_SchedChain.calls k A c ops true w h hc hk
#print axioms chain_law
end Go.Proofs.Ytphmlkbmnmicpaa.A

/- What comes in, opened: a datum that is trodden at a type is a value of the kind. -/
namespace Go.Proofs.Ytphmlkbmnmicpaa.A
open Go.Deep Go.RowKit Go.Proofs.YtphmlkbmnmicpaaW.PrintWords Go.Proofs.YtphmlkbmnmicpaaW.PrintLast
set_option linter.unusedVariables false
set_option linter.unusedSimpArgs false

section
variable {H : Type} {enc : TypeId × Value → H} {P : Program} {w : World} {base : Nat} {α : Type} [Inhabited α]

def Opens (enc : TypeId × Value → H) (P : Program) (w : World) (base : Nat) (t : TypeId) (d : Kd α) (p : α → Prop) : Prop :=
  ∀ fuel cs x, DataW.trod enc P w base (fun _ => true) true fuel t cs = some x → ∃ y, d.K w y cs ∧ p y

theorem opens_int {t : TypeId} {k : IntKind} (ht : P.underlying t = some (.int k)) : Opens enc P w base t (Kd.int k) (fun n => (Lit.int k n).wf = true) := by
  intro fuel cs x h
  obtain ⟨n, rfl, _, hw⟩ := DataW.trod_int ht h
  exact ⟨n, rfl, hw⟩

theorem opens_slice {t e : TypeId} {d : Kd α} {p : α → Prop} (ht : P.underlying t = some (.slice e)) (hc : P.cellsOf e = d.sz) (ho : Opens enc P w base e d p) : Opens enc P w base t (Kd.slice e d) (fun xs => ∀ x ∈ xs, p x) := by
  intro fuel cs x h
  rcases open_slice ht h with ⟨rfl, _⟩ | ⟨a, len, cap, m, n, D, Pl, rfl, hb, hl, hm, hmm, _, hx⟩
  · exact ⟨[], ⟨none, 0, rfl, Nat.le_refl _, rfl, by simp, fun h => by simp at h⟩, fun x hx => by simp at hx⟩
  · simp only [if_true] at hmm
    obtain ⟨Y, hY⟩ := choose_lt (α := α) (n := len) (p := fun i y => p y ∧ ∃ c, d.K w y c ∧ ∀ j u, c[j]? = some u → w.cell? (a.add (i * d.sz + j)) = some u) (fun i hi => by
      obtain ⟨cs', h1, h2⟩ := hx i (by omega)
      obtain ⟨y, hy, hp⟩ := ho _ _ _ h2
      obtain ⟨_, hlen, hcell⟩ := World.cells?_some h1
      refine ⟨y, hp, cs', hy, fun j u hj => ?_⟩
      have hj' : j < cs'.length := (List.getElem?_eq_some_iff.1 hj).1
      have := hcell j (by omega)
      rw [hj, hc] at this
      rwa [Addr.add_add] at this)
    have hlen : ((List.range len).map Y).length = len := by simp
    refine ⟨(List.range len).map Y, ⟨some a, cap, by rw [hlen], by rw [hlen]; exact hl, hlen.trans hlen.symm, by rw [hlen]; unfold maxLen at hm; omega, fun _ => ⟨a, rfl, fun j y hj => ?_⟩⟩, fun y hy => ?_⟩
    · have hjl : j < len := by have := (List.getElem?_eq_some_iff.1 hj).1; omega
      rw [List.getElem?_map, List.getElem?_range hjl] at hj
      obtain rfl := Option.some.inj hj
      obtain ⟨_, c, hk, hcell⟩ := hY j hjl
      exact ⟨c, d.K_len hk, hk, hcell⟩
    · obtain ⟨i, hi, rfl⟩ := List.mem_map.1 hy
      exact (hY i (List.mem_range.1 hi)).1
omit [Inhabited α] in
/-- of a parameter: a slice -/
theorem opens_param {t e : TypeId} {d : Kd α} {p : List α → Prop} (ho : Opens enc P w base t (Kd.slice e d) p) {A : Option Addr} {len cap : Nat} {x : DataW H} {ps : List MemPlace} (h : DataW.Trod enc P w base (fun _ => true) true t (.slice A len cap) x ps) :
    ∃ xs : List α, len = xs.length ∧ xs.length ≤ cap ∧ d.C w A xs.length xs ∧ p xs := by
  obtain ⟨fuel, hf⟩ := h
  obtain ⟨xs, ⟨A', c', he, hl, hC⟩, hp⟩ := ho _ _ _ hf
  simp [Value.cells] at he
  obtain ⟨rfl, rfl, rfl⟩ := he
  exact ⟨xs, rfl, hl, hC, hp⟩
end

instance : Inhabited S37 := ⟨z37⟩
theorem opens_op {H : Type} {enc : TypeId × Value → H} {w : World} {base : Nat} : Opens enc Try.prog w base 37 k37 (fun _ => True) := by
  intro fuel cs x h
  obtain ⟨xs, n, _, _, hl, hlen, hf⟩ := DataW.trod_struct Try.underlying37 h
  have hl' : cs.length = 6 := hl.trans (by kernel_rfl)
  match cs, hl' with
  | [c0, c1, c2, c3, c4, c5], _ =>
    have int_ : ∀ (i : Nat) (c : Value), DataW.trod enc Try.prog w base (fun _ => true) true n 3 [c] = xs[i]? → i < 6 → ∃ m, c = .int .i64 m := by
      intro i c h hi
      have : i < xs.length := by rw [hlen]; exact hi
      rw [List.getElem?_eq_getElem this] at h
      obtain ⟨m, hm, _, _⟩ := DataW.trod_int Try.underlying3 h
      exact ⟨m, by simpa using hm⟩
    have h0 : DataW.trod enc Try.prog w base (fun _ => true) true n 3 (([c0, c1, c2, c3, c4, c5].drop 0).take (Try.prog.cellsOf 3)) = xs[0]? := hf 0 _ rfl
    have h1 : DataW.trod enc Try.prog w base (fun _ => true) true n 3 (([c0, c1, c2, c3, c4, c5].drop 1).take (Try.prog.cellsOf 3)) = xs[1]? := hf 1 _ rfl
    have h2 : DataW.trod enc Try.prog w base (fun _ => true) true n 3 (([c0, c1, c2, c3, c4, c5].drop 2).take (Try.prog.cellsOf 3)) = xs[2]? := hf 2 _ rfl
    have h3 : DataW.trod enc Try.prog w base (fun _ => true) true n 3 (([c0, c1, c2, c3, c4, c5].drop 3).take (Try.prog.cellsOf 3)) = xs[3]? := hf 3 _ rfl
    have h4 : DataW.trod enc Try.prog w base (fun _ => true) true n 3 (([c0, c1, c2, c3, c4, c5].drop 4).take (Try.prog.cellsOf 3)) = xs[4]? := hf 4 _ rfl
    have h5 : DataW.trod enc Try.prog w base (fun _ => true) true n 23 (([c0, c1, c2, c3, c4, c5].drop 5).take (Try.prog.cellsOf 23)) = xs[5]? := hf 5 _ rfl
    rw [show Try.prog.cellsOf 3 = 1 by kernel_rfl] at h0 h1 h2 h3 h4
    rw [show Try.prog.cellsOf 23 = 1 by kernel_rfl] at h5
    obtain ⟨m0, rfl⟩ := int_ 0 c0 h0 (by omega)
    obtain ⟨m1, rfl⟩ := int_ 1 c1 h1 (by omega)
    obtain ⟨m2, rfl⟩ := int_ 2 c2 h2 (by omega)
    obtain ⟨m3, rfl⟩ := int_ 3 c3 h3 (by omega)
    obtain ⟨m4, rfl⟩ := int_ 4 c4 h4 (by omega)
    have h5' : 5 < xs.length := by rw [hlen]; decide
    rw [List.getElem?_eq_getElem h5'] at h5
    obtain ⟨ys, ⟨A, c, he, hl5, hC⟩, _⟩ := opens_slice (d := Kd.int .i64) Try.underlying23 (by kernel_rfl) (opens_int Try.underlying3) _ _ _ h5
    have he' : c5 = .slice A ys.length c := by simpa using he
    subst he'
    exact ⟨⟨m0, m1, m2, m3, m4, ys⟩, k37_mk w ⟨m0, m1, m2, m3, m4, ys⟩ hl5 hC, trivial⟩
theorem opens_ops {H : Type} {enc : TypeId × Value → H} {w : World} {base : Nat} : Opens enc Try.prog w base 22 (Kd.slice 37 k37) (fun xs => ∀ x ∈ xs, True) := opens_slice Try.underlying22 (by kernel_rfl) opens_op
theorem opens_ints {H : Type} {enc : TypeId × Value → H} {w : World} {base : Nat} : Opens enc Try.prog w base 23 (Kd.slice 3 (Kd.int .i64)) (fun xs => ∀ x ∈ xs, (Lit.int .i64 x).wf = true) := opens_slice Try.underlying23 (by kernel_rfl) (opens_int Try.underlying3)
#print axioms opens_ops
end Go.Proofs.Ytphmlkbmnmicpaa.A
