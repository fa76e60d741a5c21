/- Parts of the proof, in the order in which they rest on one another. -/
import Derived.Test.YtphmlkbmnmicpaaMAlone1
import Derived.Lib.SliceRun
import Derived.Outline
import Derived.Deep.RegionHeld3
import Derived.Deep.Slices
/- What the machine does at this function, and a plain Lean function that says the same: written by a program for this claim; Lean checks it. -/
namespace Go.Proofs.Ytphmlkbmnmicpaa.A
open Go.RowKit Go.Proofs.YtphmlkbmnmicpaaW.PrintWords Go.Proofs.YtphmlkbmnmicpaaW.PrintLast Go.Proofs.YtphmlkbmnmicpaaW.PrintMore
attribute [local go_sem] max2_int min2_int max_two min_two max_three min_three max_four min_four   -- for this text's walks alone
set_option linter.unusedVariables false
set_option linter.unusedSimpArgs false

/-! ### sched_after: function 32 -/
mutual
def sched_after.j0 : Nat → Int → Int → Bool → Int → Int → Int → Int → Int → List Int → Int → Int → Int → Int → Int → List Int → Option (Bool)
  | 0, _, _, _, _, _, _, _, _, _, _, _, _, _, _, _ => none
  | k + 1, x5, x6, x11, x141000, x141001, x141002, x141003, x141004, x141005, x142000, x142001, x142002, x142003, x142004, x142005 => if x11 = true then (some true) else (if x5 = 0 then (sched_after.j1 k x5 x6 false x141000 x141001 x141002 x141003 x141004 x141005 x142000 x142001 x142002 x142003 x142004 x142005) else (sched_after.j1 k x5 x6 (x5 == x6) x141000 x141001 x141002 x141003 x141004 x141005 x142000 x142001 x142002 x142003 x142004 x142005))
def sched_after.j1 : Nat → Int → Int → Bool → Int → Int → Int → Int → Int → List Int → Int → Int → Int → Int → Int → List Int → Option (Bool)
  | 0, _, _, _, _, _, _, _, _, _, _, _, _, _, _, _ => none
  | k + 1, x5, x6, x20, x141000, x141001, x141002, x141003, x141004, x141005, x142000, x142001, x142002, x142003, x142004, x142005 => if x20 = true then (some true) else ((sched_reads.f k x141000 x141001 x141002 x141003 x141004 x141005 x5).bind fun t146 => (if t146 = true then (some true) else ((sched_reads.f k x142000 x142001 x142002 x142003 x142004 x142005 x6).bind fun t147 => (some t147))))
end
def sched_after.f (k : Nat) (a0_0 : Int) (a0_1 : Int) (a0_2 : Int) (a0_3 : Int) (a0_4 : Int) (l0_5 : List Int) (a1_0 : Int) (a1_1 : Int) (a1_2 : Int) (a1_3 : Int) (a1_4 : Int) (l1_5 : List Int) : Option (Bool) := (code_Sets.f k a1_0 a1_1 a1_2 a1_3 a1_4 l1_5).bind fun t142 => ((code_Sets.f k a0_0 a0_1 a0_2 a0_3 a0_4 l0_5).bind fun t143 => ((code_Pure.f k a1_0 a1_1 a1_2 a1_3 a1_4 l1_5).bind fun t144 => (if t144 = true then (sched_after.j0 k t142 t143 false a0_0 a0_1 a0_2 a0_3 a0_4 l0_5 a1_0 a1_1 a1_2 a1_3 a1_4 l1_5) else ((code_Pure.f k a0_0 a0_1 a0_2 a0_3 a0_4 l0_5).bind fun t145 => (sched_after.j0 k t142 t143 (!t145) a0_0 a0_1 a0_2 a0_3 a0_4 l0_5 a1_0 a1_1 a1_2 a1_3 a1_4 l1_5)))))
theorem sched_after.mono_l : ∀ k, (∀ y0 y1 y2 y3 y4 y5 y6 y7 y8 y9 y10 y11 y12 y13 y14, LeO (sched_after.j0 k y0 y1 y2 y3 y4 y5 y6 y7 y8 y9 y10 y11 y12 y13 y14) (sched_after.j0 (k + 1) y0 y1 y2 y3 y4 y5 y6 y7 y8 y9 y10 y11 y12 y13 y14)) ∧ (∀ y0 y1 y2 y3 y4 y5 y6 y7 y8 y9 y10 y11 y12 y13 y14, LeO (sched_after.j1 k y0 y1 y2 y3 y4 y5 y6 y7 y8 y9 y10 y11 y12 y13 y14) (sched_after.j1 (k + 1) y0 y1 y2 y3 y4 y5 y6 y7 y8 y9 y10 y11 y12 y13 y14))
  | 0 => ⟨fun _ _ _ _ _ _ _ _ _ _ _ _ _ _ _ r h => by simp [sched_after.j0] at h, fun _ _ _ _ _ _ _ _ _ _ _ _ _ _ _ r h => by simp [sched_after.j1] at h⟩
  | k + 1 => by
    obtain ⟨ih0, ih1⟩ := sched_after.mono_l k
    refine ⟨?_, ?_⟩
    · intro y0 y1 y2 y3 y4 y5 y6 y7 y8 y9 y10 y11 y12 y13 y14
      unfold sched_after.j0
      repeat' first
      | (with_reducible exact ih0 _ _ _ _ _ _ _ _ _ _ _ _ _ _ _)
      | (with_reducible exact ih1 _ _ _ _ _ _ _ _ _ _ _ _ _ _ _)
      | (with_reducible exact code_Pure.mono _ _ _ _ _ _ _)
      | (with_reducible exact code_Sets.mono _ _ _ _ _ _ _)
      | (with_reducible exact sched_reads.mono _ _ _ _ _ _ _ _)
      | (with_reducible exact LeO.refl _)
      | (with_reducible exact LeO.none _)
      | (with_reducible refine LeO.ite ?_ ?_)
      | (with_reducible refine LeO.bind ?_ (fun _ => ?_))
      | exact ih0 _ _ _ _ _ _ _ _ _ _ _ _ _ _ _
      | exact ih1 _ _ _ _ _ _ _ _ _ _ _ _ _ _ _
      | exact code_Pure.mono _ _ _ _ _ _ _
      | exact code_Sets.mono _ _ _ _ _ _ _
      | exact sched_reads.mono _ _ _ _ _ _ _ _
      | exact LeO.none _
      | refine LeO.ite ?_ ?_
      | refine LeO.bind ?_ (fun _ => ?_)
    · intro y0 y1 y2 y3 y4 y5 y6 y7 y8 y9 y10 y11 y12 y13 y14
      unfold sched_after.j1
      repeat' first
      | (with_reducible exact ih0 _ _ _ _ _ _ _ _ _ _ _ _ _ _ _)
      | (with_reducible exact ih1 _ _ _ _ _ _ _ _ _ _ _ _ _ _ _)
      | (with_reducible exact code_Pure.mono _ _ _ _ _ _ _)
      | (with_reducible exact code_Sets.mono _ _ _ _ _ _ _)
      | (with_reducible exact sched_reads.mono _ _ _ _ _ _ _ _)
      | (with_reducible exact LeO.refl _)
      | (with_reducible exact LeO.none _)
      | (with_reducible refine LeO.ite ?_ ?_)
      | (with_reducible refine LeO.bind ?_ (fun _ => ?_))
      | exact ih0 _ _ _ _ _ _ _ _ _ _ _ _ _ _ _
      | exact ih1 _ _ _ _ _ _ _ _ _ _ _ _ _ _ _
      | exact code_Pure.mono _ _ _ _ _ _ _
      | exact code_Sets.mono _ _ _ _ _ _ _
      | exact sched_reads.mono _ _ _ _ _ _ _ _
      | exact LeO.none _
      | refine LeO.ite ?_ ?_
      | refine LeO.bind ?_ (fun _ => ?_)
theorem sched_after.mono : ∀ a0 a1 a2 a3 a4 a5 a6 a7 a8 a9 a10 a11 k, LeO (sched_after.f k a0 a1 a2 a3 a4 a5 a6 a7 a8 a9 a10 a11) (sched_after.f (k + 1) a0 a1 a2 a3 a4 a5 a6 a7 a8 a9 a10 a11) := by
  intro a0 a1 a2 a3 a4 a5 a6 a7 a8 a9 a10 a11 k
  obtain ⟨ih0, ih1⟩ := sched_after.mono_l k
  unfold sched_after.f
  repeat' first
      | (with_reducible exact ih0 _ _ _ _ _ _ _ _ _ _ _ _ _ _ _)
      | (with_reducible exact ih1 _ _ _ _ _ _ _ _ _ _ _ _ _ _ _)
      | (with_reducible exact code_Pure.mono _ _ _ _ _ _ _)
      | (with_reducible exact code_Sets.mono _ _ _ _ _ _ _)
      | (with_reducible exact sched_reads.mono _ _ _ _ _ _ _ _)
      | (with_reducible exact LeO.refl _)
      | (with_reducible exact LeO.none _)
      | (with_reducible refine LeO.ite ?_ ?_)
      | (with_reducible refine LeO.bind ?_ (fun _ => ?_))
      | exact ih0 _ _ _ _ _ _ _ _ _ _ _ _ _ _ _
      | exact ih1 _ _ _ _ _ _ _ _ _ _ _ _ _ _ _
      | exact code_Pure.mono _ _ _ _ _ _ _
      | exact code_Sets.mono _ _ _ _ _ _ _
      | exact sched_reads.mono _ _ _ _ _ _ _ _
      | exact LeO.none _
      | refine LeO.ite ?_ ?_
      | refine LeO.bind ?_ (fun _ => ?_)
set_option maxHeartbeats 8000000 in
set_option maxRecDepth 100000 in
theorem sched_after.calls (k : Nat) (a0_0 : Int) (a0_1 : Int) (a0_2 : Int) (a0_3 : Int) (a0_4 : Int) (A0_5 : Option Addr) (c0_5 : Nat) (l0_5 : List Int) (a1_0 : Int) (a1_1 : Int) (a1_2 : Int) (a1_3 : Int) (a1_4 : Int) (A1_5 : Option Addr) (c1_5 : Nat) (l1_5 : List Int) (r : Bool) (w : World) (hr0_5 : Kd.C (Kd.int .i64) w A0_5 l0_5.length l0_5) (hc0_5 : l0_5.length ≤ c0_5) (hr1_5 : Kd.C (Kd.int .i64) w A1_5 l1_5.length l1_5) (hc1_5 : l1_5.length ≤ c1_5) (h : sched_after.f k a0_0 a0_1 a0_2 a0_3 a0_4 l0_5 a1_0 a1_1 a1_2 a1_3 a1_4 l1_5 = some r) :
    Calls Try.prog 32 #[.agg #[.int .i64 a0_0, .int .i64 a0_1, .int .i64 a0_2, .int .i64 a0_3, .int .i64 a0_4, .slice A0_5 l0_5.length c0_5], .agg #[.int .i64 a1_0, .int .i64 a1_1, .int .i64 a1_2, .int .i64 a1_3, .int .i64 a1_4, .slice A1_5 l1_5.length c1_5]] w fun e w' => e = .returned (.bool r) ∧ Below w.heap.size w w' := by
  have hu37 := Try.underlying37
  have HR0_5 := Aside0.mk hr0_5
  have HC0_5 := Aside0.mk hc0_5
  clear hr0_5 hc0_5
  have HR1_5 := Aside0.mk hr1_5
  have HC1_5 := Aside0.mk hc1_5
  clear hr1_5 hc1_5
  have HB := Aside0.mk (Below.refl w.heap.size w)
  have H : ((code_Sets.f k a1_0 a1_1 a1_2 a1_3 a1_4 l1_5).bind fun t142 => ((code_Sets.f k a0_0 a0_1 a0_2 a0_3 a0_4 l0_5).bind fun t143 => ((code_Pure.f k a1_0 a1_1 a1_2 a1_3 a1_4 l1_5).bind fun t144 => (if t144 = true then (sched_after.j0 k t142 t143 false a0_0 a0_1 a0_2 a0_3 a0_4 l0_5 a1_0 a1_1 a1_2 a1_3 a1_4 l1_5) else ((code_Pure.f k a0_0 a0_1 a0_2 a0_3 a0_4 l0_5).bind fun t145 => (sched_after.j0 k t142 t143 (!t145) a0_0 a0_1 a0_2 a0_3 a0_4 l0_5 a1_0 a1_1 a1_2 a1_3 a1_4 l1_5)))))) = some r := h
  clear h
  replace H := Option.bind_eq_some_iff.mp H
  obtain ⟨t142, A30, H⟩ := H
  replace H : ((code_Sets.f k a0_0 a0_1 a0_2 a0_3 a0_4 l0_5).bind fun t143 => ((code_Pure.f k a1_0 a1_1 a1_2 a1_3 a1_4 l1_5).bind fun t144 => (if t144 = true then (sched_after.j0 k t142 t143 false a0_0 a0_1 a0_2 a0_3 a0_4 l0_5 a1_0 a1_1 a1_2 a1_3 a1_4 l1_5) else ((code_Pure.f k a0_0 a0_1 a0_2 a0_3 a0_4 l0_5).bind fun t145 => (sched_after.j0 k t142 t143 (!t145) a0_0 a0_1 a0_2 a0_3 a0_4 l0_5 a1_0 a1_1 a1_2 a1_3 a1_4 l1_5))))) = some r := H
  have A3 := Aside0.mk A30
  clear A30
  replace H := Option.bind_eq_some_iff.mp H
  obtain ⟨t143, A40, H⟩ := H
  replace H : ((code_Pure.f k a1_0 a1_1 a1_2 a1_3 a1_4 l1_5).bind fun t144 => (if t144 = true then (sched_after.j0 k t142 t143 false a0_0 a0_1 a0_2 a0_3 a0_4 l0_5 a1_0 a1_1 a1_2 a1_3 a1_4 l1_5) else ((code_Pure.f k a0_0 a0_1 a0_2 a0_3 a0_4 l0_5).bind fun t145 => (sched_after.j0 k t142 t143 (!t145) a0_0 a0_1 a0_2 a0_3 a0_4 l0_5 a1_0 a1_1 a1_2 a1_3 a1_4 l1_5)))) = some r := H
  have A4 := Aside0.mk A40
  clear A40
  have HC5 := Aside0.mk H
  clear H
  go_enter Try.func32, Try.ntmps32
  try go_wp2_with (first | ((with_reducible refine gate_dst (N := 2) rfl ?_); refine box_event ?hg (N := 2) ?hd (cs := #[.int .i64 a0_0, .int .i64 a0_1, .int .i64 a0_2, .int .i64 a0_3, .int .i64 a0_4, .slice A0_5 l0_5.length c0_5]) (t := 37) ?hr ?_; (case hd => rfl); (case hg => rfl); (case hr => first | (go_simp; done) | (go_simp; rfl)); intro gb140 hg w6 hbox hb; have n0_ := Aside0.mk (below_step (by repeat (first | (with_reducible first | exact HB.out | apply below_alloc | apply pw_below_drewN | apply below_drew1) | exact HB.out)) hb); have n1_ := Aside0.mk (hbox); have n2_ := Aside0.mk ((by rw [hg]; exact (below_size (by repeat (first | (with_reducible first | exact HB.out | apply below_alloc | apply pw_below_drewN | apply below_drew1) | exact HB.out))) : w.heap.size ≤ gb140)); have n3_ := Aside0.mk ((by rw [hg]; exact (below_size (by repeat (first | (with_reducible first | exact HB.out | apply below_alloc | apply pw_below_drewN | apply below_drew1) | exact HB.out))) : w.heap.size ≤ gb140)); clear HB; have HB := n0_; have BK140 := n1_; have GW140 := n2_; have GE140 := n3_; clear n0_ n1_ n2_ n3_; clear hb hbox hg) | ((with_reducible refine gate_dst (N := 3) rfl ?_); refine box_event ?hg (N := 3) ?hd (cs := #[.int .i64 a1_0, .int .i64 a1_1, .int .i64 a1_2, .int .i64 a1_3, .int .i64 a1_4, .slice A1_5 l1_5.length c1_5]) (t := 37) ?hr ?_; (case hd => rfl); (case hg => rfl); (case hr => first | (go_simp; done) | (go_simp; rfl)); intro gb141 hg w7 hbox hb; have n0_ := Aside0.mk (blk_below (g := gb140) (o := .cells #[.int .i64 a0_0, .int .i64 a0_1, .int .i64 a0_2, .int .i64 a0_3, .int .i64 a0_4, .slice A0_5 l0_5.length c0_5] 37 (0, 0)) (by (with_reducible repeat (first | refine blk_drewN ?_ _ | refine blk_drew ?_ | refine blk_alloc ?_ _)); exact BK140.out) hb); have n1_ := Aside0.mk (below_step (by repeat (first | (with_reducible first | exact HB.out | apply below_alloc | apply pw_below_drewN | apply below_drew1 | refine below_set ?_ GE140.out) | exact HB.out)) hb); have n2_ := Aside0.mk (hbox); have n3_ := Aside0.mk ((by rw [hg]; exact (below_size (by repeat (first | (with_reducible first | exact HB.out | apply below_alloc | apply pw_below_drewN | apply below_drew1 | refine below_set ?_ GE140.out) | exact HB.out))) : w.heap.size ≤ gb141)); have n4_ := Aside0.mk ((by rw [hg]; exact (below_size (by repeat (first | (with_reducible first | exact HB.out | apply below_alloc | apply pw_below_drewN | apply below_drew1 | refine below_set ?_ GE140.out) | exact HB.out))) : w.heap.size ≤ gb141)); have n5_ := Aside0.mk ((by rw [hg]; exact Nat.ne_of_lt (blk_lt (g := gb140) (o := .cells #[.int .i64 a0_0, .int .i64 a0_1, .int .i64 a0_2, .int .i64 a0_3, .int .i64 a0_4, .slice A0_5 l0_5.length c0_5] 37 (0, 0)) (by (with_reducible repeat (first | refine blk_drewN ?_ _ | refine blk_drew ?_ | refine blk_alloc ?_ _)); exact BK140.out)) : gb140 ≠ gb141)); have n6_ := Aside0.mk ((by rw [hg]; exact Nat.ne_of_gt (blk_lt (g := gb140) (o := .cells #[.int .i64 a0_0, .int .i64 a0_1, .int .i64 a0_2, .int .i64 a0_3, .int .i64 a0_4, .slice A0_5 l0_5.length c0_5] 37 (0, 0)) (by (with_reducible repeat (first | refine blk_drewN ?_ _ | refine blk_drew ?_ | refine blk_alloc ?_ _)); exact BK140.out)) : gb141 ≠ gb140)); clear BK140; clear HB; have BK140 := n0_; have HB := n1_; have BK141 := n2_; have GW141 := n3_; have GE141 := n4_; have NB140_141 := n5_; have NB141_140 := n6_; clear n0_ n1_ n2_ n3_ n4_ n5_ n6_; clear hb hbox hg))
  have n0_ := Aside0.mk (blk_drew BK140.out)
  have n1_ := Aside0.mk (blk_drew BK141.out)
  have n2_ := Aside0.mk (below_drew1 HB.out)
  clear BK140
  clear BK141
  clear HB
  have BK140 := n0_
  have BK141 := n1_
  have HB := n2_
  clear n0_ n1_ n2_
  refine start_ (n := 6) (S := fun w' => w'.cell? ⟨gb141, 0, none⟩ = some (.int .i64 a1_0) ∧ w'.cell? ⟨gb141, 1, none⟩ = some (.int .i64 a1_1) ∧ w'.cell? ⟨gb141, 2, none⟩ = some (.int .i64 a1_2) ∧ w'.cell? ⟨gb141, 3, none⟩ = some (.int .i64 a1_3) ∧ w'.cell? ⟨gb141, 4, none⟩ = some (.int .i64 a1_4) ∧ w'.cell? ⟨gb141, 5, none⟩ = some (.slice A1_5 l1_5.length c1_5) ∧ w'.cell? ⟨gb140, 0, none⟩ = some (.int .i64 a0_0) ∧ w'.cell? ⟨gb140, 1, none⟩ = some (.int .i64 a0_1) ∧ w'.cell? ⟨gb140, 2, none⟩ = some (.int .i64 a0_2) ∧ w'.cell? ⟨gb140, 3, none⟩ = some (.int .i64 a0_3) ∧ w'.cell? ⟨gb140, 4, none⟩ = some (.int .i64 a0_4) ∧ w'.cell? ⟨gb140, 5, none⟩ = some (.slice A0_5 l0_5.length c0_5)) (ds := []) #[false, false, false, false, false, false] (by kernel_rfl) rfl rfl ⟨(blk_cell BK141.out 0).trans rfl, (blk_cell BK141.out 1).trans rfl, (blk_cell BK141.out 2).trans rfl, (blk_cell BK141.out 3).trans rfl, (blk_cell BK141.out 4).trans rfl, (blk_cell BK141.out 5).trans rfl, (blk_cell BK140.out 0).trans rfl, (blk_cell BK140.out 1).trans rfl, (blk_cell BK140.out 2).trans rfl, (blk_cell BK140.out 3).trans rfl, (blk_cell BK140.out 4).trans rfl, (blk_cell BK140.out 5).trans rfl⟩ (fun hHeld => ?_)
  generalize w7.drew = w8 at BK140 BK141 HB hHeld ⊢
  refine take_ (i := 0) (N := some 7) (v := ?_) (a' := ?_) #[true, false, false, false, false, false] rfl rfl (by kernel_rfl) (fun _ _ _ h => h) (Or.inl ⟨by rfl, ?_⟩) hHeld ?_ ?_
  rotate_left
  · rintro w' ⟨s0, s1, s2, s3, s4, s5, s6, s7, s8, s9, s10, s11⟩
    go_simp
    with_reducible rfl
  rotate_left
  · simp only [Act.put, List.setIfInBounds_toArray, List.set_cons_zero, List.set_cons_succ, i64_w, i32_w]
    rfl
  refine take_ (i := 2) (N := some 9) (v := ?_) (a' := ?_) #[true, false, true, false, false, false] rfl rfl (by kernel_rfl) (fun _ _ _ h => h) (Or.inl ⟨by rfl, ?_⟩) hHeld ?_ ?_
  rotate_left
  · rintro w' ⟨s0, s1, s2, s3, s4, s5, s6, s7, s8, s9, s10, s11⟩
    go_simp
    with_reducible rfl
  rotate_left
  · simp only [Act.put, List.setIfInBounds_toArray, List.set_cons_zero, List.set_cons_succ, i64_w, i32_w]
    rfl
  refine one_ (i := 1) (N := some 8) #[true, true, true, false, false, false] rfl rfl (by kernel_rfl) (by decide) (fun K hK => ?_)
  refine goes_ Try.func43 (by kernel_rfl) rfl #[.agg #[.int .i64 a1_0, .int .i64 a1_1, .int .i64 a1_2, .int .i64 a1_3, .int .i64 a1_4, .slice A1_5 l1_5.length c1_5]] (by rfl) rfl rfl (by (try simp only [List.map_toArray, List.map_cons, List.map_nil]); first | done | rfl | (simp only [List.length_drop, List.length_take]; rfl)) ?_
  with_reducible refine (code_Sets.calls k a1_0 a1_1 a1_2 a1_3 a1_4 _ _ l1_5 t142 _ ?side1 ?side2 A3.out).mono ?_
  (case side1 => repeat (first | exact (Kd.C_below HR1_5.out HB.out) | (with_reducible refine Kd.C_alloc ?_ _) | (with_reducible refine Kd.C_drewN ?_ _) | (with_reducible refine Kd.C_drew ?_)))
  (case side2 => exact HC1_5.out)
  rintro e w9 ⟨rfl, hb⟩
  refine ⟨_, rfl, ?_⟩
  have n0_ := Aside0.mk (blk_below (g := gb140) (o := .cells #[.int .i64 a0_0, .int .i64 a0_1, .int .i64 a0_2, .int .i64 a0_3, .int .i64 a0_4, .slice A0_5 l0_5.length c0_5] 37 (0, 0)) (by (with_reducible repeat (first | refine blk_drewN ?_ _ | refine blk_drew ?_ | refine blk_alloc ?_ _)); exact BK140.out) hb)
  have n1_ := Aside0.mk (blk_below (g := gb141) (o := .cells #[.int .i64 a1_0, .int .i64 a1_1, .int .i64 a1_2, .int .i64 a1_3, .int .i64 a1_4, .slice A1_5 l1_5.length c1_5] 37 (0, 0)) (by (with_reducible repeat (first | refine blk_drewN ?_ _ | refine blk_drew ?_ | refine blk_alloc ?_ _)); exact BK141.out) hb)
  have n2_ := Aside0.mk (below_step (by repeat (first | (with_reducible first | exact HB.out | apply below_alloc | apply pw_below_drewN | apply below_drew1 | refine below_set ?_ GE140.out | refine below_set ?_ GE141.out) | exact HB.out)) hb)
  clear BK140
  clear BK141
  clear HB
  have BK140 := n0_
  have BK141 := n1_
  have HB := n2_
  clear n0_ n1_ n2_
  (try clear hb)
  (try clear hb2)
  (try clear hk)
  (try clear hi)
  refine hK.out _ _ ⟨(blk_cell BK141.out 0).trans rfl, (blk_cell BK141.out 1).trans rfl, (blk_cell BK141.out 2).trans rfl, (blk_cell BK141.out 3).trans rfl, (blk_cell BK141.out 4).trans rfl, (blk_cell BK141.out 5).trans rfl, (blk_cell BK140.out 0).trans rfl, (blk_cell BK140.out 1).trans rfl, (blk_cell BK140.out 2).trans rfl, (blk_cell BK140.out 3).trans rfl, (blk_cell BK140.out 4).trans rfl, (blk_cell BK140.out 5).trans rfl⟩ (fun hHeld => ?_)
  clear hK K
  refine norm_ (a' := ?_) ?_ ?_
  rotate_left
  · show Act.put _ (some 8) _ = _
    simp only [Act.put, List.setIfInBounds_toArray, List.set_cons_zero, List.set_cons_succ, i64_w, i32_w]
    rfl
  refine one_ (i := 3) (N := some 10) #[true, true, true, true, false, false] rfl rfl (by kernel_rfl) (by decide) (fun K hK => ?_)
  refine goes_ Try.func43 (by kernel_rfl) rfl #[.agg #[.int .i64 a0_0, .int .i64 a0_1, .int .i64 a0_2, .int .i64 a0_3, .int .i64 a0_4, .slice A0_5 l0_5.length c0_5]] (by rfl) rfl rfl (by (try simp only [List.map_toArray, List.map_cons, List.map_nil]); first | done | rfl | (simp only [List.length_drop, List.length_take]; rfl)) ?_
  with_reducible refine (code_Sets.calls k a0_0 a0_1 a0_2 a0_3 a0_4 _ _ l0_5 t143 _ ?side1 ?side2 A4.out).mono ?_
  (case side1 => repeat (first | exact (Kd.C_below HR0_5.out HB.out) | (with_reducible refine Kd.C_alloc ?_ _) | (with_reducible refine Kd.C_drewN ?_ _) | (with_reducible refine Kd.C_drew ?_)))
  (case side2 => exact HC0_5.out)
  rintro e w10 ⟨rfl, hb⟩
  refine ⟨_, rfl, ?_⟩
  have n0_ := Aside0.mk (blk_below (g := gb140) (o := .cells #[.int .i64 a0_0, .int .i64 a0_1, .int .i64 a0_2, .int .i64 a0_3, .int .i64 a0_4, .slice A0_5 l0_5.length c0_5] 37 (0, 0)) (by (with_reducible repeat (first | refine blk_drewN ?_ _ | refine blk_drew ?_ | refine blk_alloc ?_ _)); exact BK140.out) hb)
  have n1_ := Aside0.mk (blk_below (g := gb141) (o := .cells #[.int .i64 a1_0, .int .i64 a1_1, .int .i64 a1_2, .int .i64 a1_3, .int .i64 a1_4, .slice A1_5 l1_5.length c1_5] 37 (0, 0)) (by (with_reducible repeat (first | refine blk_drewN ?_ _ | refine blk_drew ?_ | refine blk_alloc ?_ _)); exact BK141.out) hb)
  have n2_ := Aside0.mk (below_step (by repeat (first | (with_reducible first | exact HB.out | apply below_alloc | apply pw_below_drewN | apply below_drew1 | refine below_set ?_ GE140.out | refine below_set ?_ GE141.out) | exact HB.out)) hb)
  clear BK140
  clear BK141
  clear HB
  have BK140 := n0_
  have BK141 := n1_
  have HB := n2_
  clear n0_ n1_ n2_
  (try clear hb)
  (try clear hb2)
  (try clear hk)
  (try clear hi)
  refine hK.out _ _ ⟨(blk_cell BK141.out 0).trans rfl, (blk_cell BK141.out 1).trans rfl, (blk_cell BK141.out 2).trans rfl, (blk_cell BK141.out 3).trans rfl, (blk_cell BK141.out 4).trans rfl, (blk_cell BK141.out 5).trans rfl, (blk_cell BK140.out 0).trans rfl, (blk_cell BK140.out 1).trans rfl, (blk_cell BK140.out 2).trans rfl, (blk_cell BK140.out 3).trans rfl, (blk_cell BK140.out 4).trans rfl, (blk_cell BK140.out 5).trans rfl⟩ (fun hHeld => ?_)
  clear hK K
  refine norm_ (a' := ?_) ?_ ?_
  rotate_left
  · show Act.put _ (some 10) _ = _
    simp only [Act.put, List.setIfInBounds_toArray, List.set_cons_zero, List.set_cons_succ, i64_w, i32_w]
    rfl
  refine pure_ (i := 4) (N := some 5) (v := ?_) (a' := ?_) #[true, true, true, true, true, false] rfl rfl (by kernel_rfl) (fun _ _ _ h => h) (Or.inl ⟨by rfl, ?_⟩) ?_ ?_
  rotate_left
  · intro w'
    go_simp
    with_reducible rfl
  rotate_left
  · simp only [Act.put, List.setIfInBounds_toArray, List.set_cons_zero, List.set_cons_succ, i64_w, i32_w]
    rfl
  refine pure_ (i := 5) (N := some 6) (v := ?_) (a' := ?_) #[true, true, true, true, true, true] rfl rfl (by kernel_rfl) (fun _ _ _ h => h) (Or.inl ⟨by rfl, ?_⟩) ?_ ?_
  rotate_left
  · intro w'
    go_simp
    with_reducible rfl
  rotate_left
  · simp only [Act.put, List.setIfInBounds_toArray, List.set_cons_zero, List.set_cons_succ, i64_w, i32_w]
    rfl
  refine done_ (by kernel_rfl) ?_
  go_upto_region 2 with (fail)
  go_cut [11] (fun v11 wc => ∃ (kq : Nat) (x11_4 : Bool), v11 = .bool x11_4 ∧ Aside0 (sched_after.j0 kq t142 t143 x11_4 a0_0 a0_1 a0_2 a0_3 a0_4 l0_5 a1_0 a1_1 a1_2 a1_3 a1_4 l1_5 = some r) ∧ Aside0 (kq ≤ k) ∧ Aside0 (wc.heap[gb140]? = some (.cells #[.int .i64 a0_0, .int .i64 a0_1, .int .i64 a0_2, .int .i64 a0_3, .int .i64 a0_4, (.slice A0_5 l0_5.length c0_5)] 37 (0, 0))) ∧ Aside0 (wc.heap[gb141]? = some (.cells #[.int .i64 a1_0, .int .i64 a1_1, .int .i64 a1_2, .int .i64 a1_3, .int .i64 a1_4, (.slice A1_5 l1_5.length c1_5)] 37 (0, 0))) ∧ Aside0 (Below w.heap.size w wc))
  case first =>
    have H := HC5.out
    clear HC5
    replace H := Option.bind_eq_some_iff.mp H
    obtain ⟨t144, A110, H⟩ := H
    replace H : (if t144 = true then (sched_after.j0 k t142 t143 false a0_0 a0_1 a0_2 a0_3 a0_4 l0_5 a1_0 a1_1 a1_2 a1_3 a1_4 l1_5) else ((code_Pure.f k a0_0 a0_1 a0_2 a0_3 a0_4 l0_5).bind fun t145 => (sched_after.j0 k t142 t143 (!t145) a0_0 a0_1 a0_2 a0_3 a0_4 l0_5 a1_0 a1_1 a1_2 a1_3 a1_4 l1_5))) = some r := H
    have A11 := Aside0.mk A110
    clear A110
    by_cases c12 : t144 = true
    · subst c12
      have H1 : (sched_after.j0 k t142 t143 false a0_0 a0_1 a0_2 a0_3 a0_4 l0_5 a1_0 a1_1 a1_2 a1_3 a1_4 l1_5) = some r := by rw [if_pos rfl] at H; exact H
      clear H
      have H := H1
      clear H1
      have H' := Aside0.mk H
      clear H
      have hnb13 := NB141_140.out
      have hnc13 := NB140_141.out
      have hcz14_0 : w10.cell? ⟨gb141, 0, none⟩ = some (.int .i64 a1_0) := (blk_cell BK141.out 0).trans rfl
      have hcz14_1 : w10.cell? ⟨gb141, 1, none⟩ = some (.int .i64 a1_1) := (blk_cell BK141.out 1).trans rfl
      have hcz14_2 : w10.cell? ⟨gb141, 2, none⟩ = some (.int .i64 a1_2) := (blk_cell BK141.out 2).trans rfl
      have hcz14_3 : w10.cell? ⟨gb141, 3, none⟩ = some (.int .i64 a1_3) := (blk_cell BK141.out 3).trans rfl
      have hcz14_4 : w10.cell? ⟨gb141, 4, none⟩ = some (.int .i64 a1_4) := (blk_cell BK141.out 4).trans rfl
      have hcz14_5 : w10.cell? ⟨gb141, 5, none⟩ = some (.slice A1_5 l1_5.length c1_5) := (blk_cell BK141.out 5).trans rfl
      have hfz14_0 := blk_frozen BK141.out 0
      have hfz14_1 := blk_frozen BK141.out 1
      have hfz14_2 := blk_frozen BK141.out 2
      have hfz14_3 := blk_frozen BK141.out 3
      have hfz14_4 := blk_frozen BK141.out 4
      have hfz14_5 := blk_frozen BK141.out 5
      go_wp2_with (first | ((with_reducible refine gate_callee (f := 28) rfl ?_); refine goesL_ (some 13) rfl rfl Try.func28 (by kernel_rfl) rfl #[.agg #[.int .i64 a1_0, .int .i64 a1_1, .int .i64 a1_2, .int .i64 a1_3, .int .i64 a1_4, .slice A1_5 l1_5.length c1_5]] rfl (by (try simp only [List.map_toArray, List.map_cons, List.map_nil]); first | done | rfl | (simp only [List.length_drop, List.length_take]; rfl)) ?_; (with_reducible refine (code_Pure.calls k a1_0 a1_1 a1_2 a1_3 a1_4 _ _ l1_5 true _ ?side1 ?side2 A11.out).mono ?_); (case side1 => repeat (first | exact (Kd.C_below HR1_5.out HB.out) | (with_reducible refine Kd.C_alloc ?_ _) | (with_reducible refine Kd.C_drewN ?_ _) | (with_reducible refine Kd.C_drew ?_))); (case side2 => exact HC1_5.out); rintro e w15 ⟨rfl, hb⟩; refine ⟨_, rfl, ?_⟩; have n0_ := Aside0.mk (blk_below (g := gb140) (o := .cells #[.int .i64 a0_0, .int .i64 a0_1, .int .i64 a0_2, .int .i64 a0_3, .int .i64 a0_4, .slice A0_5 l0_5.length c0_5] 37 (0, 0)) (by (with_reducible repeat (first | refine blk_drewN ?_ _ | refine blk_drew ?_ | refine blk_alloc ?_ _)); exact BK140.out) hb); have n1_ := Aside0.mk (blk_below (g := gb141) (o := .cells #[.int .i64 a1_0, .int .i64 a1_1, .int .i64 a1_2, .int .i64 a1_3, .int .i64 a1_4, .slice A1_5 l1_5.length c1_5] 37 (0, 0)) (by (with_reducible repeat (first | refine blk_drewN ?_ _ | refine blk_drew ?_ | refine blk_alloc ?_ _)); exact BK141.out) hb); have n2_ := Aside0.mk (below_step (by repeat (first | (with_reducible first | exact HB.out | apply below_alloc | apply pw_below_drewN | apply below_drew1 | refine below_set ?_ GE140.out | refine below_set ?_ GE141.out) | exact HB.out)) hb); clear BK140; clear BK141; clear HB; have BK140 := n0_; have BK141 := n1_; have HB := n2_; clear n0_ n1_ n2_; (try clear hb); (try clear hb2); (try clear hk); (try clear hi)))
      go_meet
      case rel => exact ⟨_, (false), (by first | rfl | (simp; done) | (simp [*]; done)), H', ⟨by first | omega | exact Nat.le_refl _⟩, ⟨by (with_reducible repeat (first | refine blk_drewN ?_ _ | refine blk_drew ?_ | refine blk_alloc ?_ _)); exact BK140.out⟩, ⟨by (with_reducible repeat (first | refine blk_drewN ?_ _ | refine blk_drew ?_ | refine blk_alloc ?_ _)); exact BK141.out⟩, ⟨by repeat (first | (with_reducible first | exact HB.out | apply below_alloc | apply pw_below_drewN | apply below_drew1 | refine below_set ?_ GE140.out | refine below_set ?_ GE141.out) | exact HB.out)⟩⟩
    · replace c12 := Bool.eq_false_iff.mpr c12
      subst c12
      have H1 : ((code_Pure.f k a0_0 a0_1 a0_2 a0_3 a0_4 l0_5).bind fun t145 => (sched_after.j0 k t142 t143 (!t145) a0_0 a0_1 a0_2 a0_3 a0_4 l0_5 a1_0 a1_1 a1_2 a1_3 a1_4 l1_5)) = some r := by rw [if_neg (show ¬ (false = true) by decide)] at H; exact H
      clear H
      have H := H1
      clear H1
      replace H := Option.bind_eq_some_iff.mp H
      obtain ⟨t145, A160, H⟩ := H
      replace H : (sched_after.j0 k t142 t143 (!t145) a0_0 a0_1 a0_2 a0_3 a0_4 l0_5 a1_0 a1_1 a1_2 a1_3 a1_4 l1_5) = some r := H
      have A16 := Aside0.mk A160
      clear A160
      have H' := Aside0.mk H
      clear H
      have hnb17 := NB141_140.out
      have hnc17 := NB140_141.out
      have hcz18_0 : w10.cell? ⟨gb141, 0, none⟩ = some (.int .i64 a1_0) := (blk_cell BK141.out 0).trans rfl
      have hcz18_1 : w10.cell? ⟨gb141, 1, none⟩ = some (.int .i64 a1_1) := (blk_cell BK141.out 1).trans rfl
      have hcz18_2 : w10.cell? ⟨gb141, 2, none⟩ = some (.int .i64 a1_2) := (blk_cell BK141.out 2).trans rfl
      have hcz18_3 : w10.cell? ⟨gb141, 3, none⟩ = some (.int .i64 a1_3) := (blk_cell BK141.out 3).trans rfl
      have hcz18_4 : w10.cell? ⟨gb141, 4, none⟩ = some (.int .i64 a1_4) := (blk_cell BK141.out 4).trans rfl
      have hcz18_5 : w10.cell? ⟨gb141, 5, none⟩ = some (.slice A1_5 l1_5.length c1_5) := (blk_cell BK141.out 5).trans rfl
      have hfz18_0 := blk_frozen BK141.out 0
      have hfz18_1 := blk_frozen BK141.out 1
      have hfz18_2 := blk_frozen BK141.out 2
      have hfz18_3 := blk_frozen BK141.out 3
      have hfz18_4 := blk_frozen BK141.out 4
      have hfz18_5 := blk_frozen BK141.out 5
      go_wp2_with (first | ((with_reducible refine gate_callee (f := 28) rfl ?_); refine goesL_ (some 13) rfl rfl Try.func28 (by kernel_rfl) rfl #[.agg #[.int .i64 a1_0, .int .i64 a1_1, .int .i64 a1_2, .int .i64 a1_3, .int .i64 a1_4, .slice A1_5 l1_5.length c1_5]] rfl (by (try simp only [List.map_toArray, List.map_cons, List.map_nil]); first | done | rfl | (simp only [List.length_drop, List.length_take]; rfl)) ?_; (with_reducible refine (code_Pure.calls k a1_0 a1_1 a1_2 a1_3 a1_4 _ _ l1_5 false _ ?side1 ?side2 A11.out).mono ?_); (case side1 => repeat (first | exact (Kd.C_below HR1_5.out HB.out) | (with_reducible refine Kd.C_alloc ?_ _) | (with_reducible refine Kd.C_drewN ?_ _) | (with_reducible refine Kd.C_drew ?_))); (case side2 => exact HC1_5.out); rintro e w19 ⟨rfl, hb⟩; refine ⟨_, rfl, ?_⟩; have n0_ := Aside0.mk (blk_below (g := gb140) (o := .cells #[.int .i64 a0_0, .int .i64 a0_1, .int .i64 a0_2, .int .i64 a0_3, .int .i64 a0_4, .slice A0_5 l0_5.length c0_5] 37 (0, 0)) (by (with_reducible repeat (first | refine blk_drewN ?_ _ | refine blk_drew ?_ | refine blk_alloc ?_ _)); exact BK140.out) hb); have n1_ := Aside0.mk (blk_below (g := gb141) (o := .cells #[.int .i64 a1_0, .int .i64 a1_1, .int .i64 a1_2, .int .i64 a1_3, .int .i64 a1_4, .slice A1_5 l1_5.length c1_5] 37 (0, 0)) (by (with_reducible repeat (first | refine blk_drewN ?_ _ | refine blk_drew ?_ | refine blk_alloc ?_ _)); exact BK141.out) hb); have n2_ := Aside0.mk (below_step (by repeat (first | (with_reducible first | exact HB.out | apply below_alloc | apply pw_below_drewN | apply below_drew1 | refine below_set ?_ GE140.out | refine below_set ?_ GE141.out) | exact HB.out)) hb); clear BK140; clear BK141; clear HB; have BK140 := n0_; have BK141 := n1_; have HB := n2_; clear n0_ n1_ n2_; (try clear hb); (try clear hb2); (try clear hk); (try clear hi); have hcz20_0 : w19.cell? ⟨gb140, 0, none⟩ = some (.int .i64 a0_0) := (blk_cell BK140.out 0).trans rfl; have hcz20_1 : w19.cell? ⟨gb140, 1, none⟩ = some (.int .i64 a0_1) := (blk_cell BK140.out 1).trans rfl; have hcz20_2 : w19.cell? ⟨gb140, 2, none⟩ = some (.int .i64 a0_2) := (blk_cell BK140.out 2).trans rfl; have hcz20_3 : w19.cell? ⟨gb140, 3, none⟩ = some (.int .i64 a0_3) := (blk_cell BK140.out 3).trans rfl; have hcz20_4 : w19.cell? ⟨gb140, 4, none⟩ = some (.int .i64 a0_4) := (blk_cell BK140.out 4).trans rfl; have hcz20_5 : w19.cell? ⟨gb140, 5, none⟩ = some (.slice A0_5 l0_5.length c0_5) := (blk_cell BK140.out 5).trans rfl; have hfz20_0 := blk_frozen BK140.out 0; have hfz20_1 := blk_frozen BK140.out 1; have hfz20_2 := blk_frozen BK140.out 2; have hfz20_3 := blk_frozen BK140.out 3; have hfz20_4 := blk_frozen BK140.out 4; have hfz20_5 := blk_frozen BK140.out 5) | (go_at_call 28; (with_reducible refine (code_Pure.calls k a0_0 a0_1 a0_2 a0_3 a0_4 _ _ l0_5 t145 _ ?side1 ?side2 A16.out).mono ?_); (case side1 => repeat (first | exact (Kd.C_below HR0_5.out HB.out) | (with_reducible refine Kd.C_alloc ?_ _) | (with_reducible refine Kd.C_drewN ?_ _) | (with_reducible refine Kd.C_drew ?_))); (case side2 => exact HC0_5.out); rintro e w21 ⟨rfl, hb⟩; have n0_ := Aside0.mk (blk_below (g := gb140) (o := .cells #[.int .i64 a0_0, .int .i64 a0_1, .int .i64 a0_2, .int .i64 a0_3, .int .i64 a0_4, .slice A0_5 l0_5.length c0_5] 37 (0, 0)) (by (with_reducible repeat (first | refine blk_drewN ?_ _ | refine blk_drew ?_ | refine blk_alloc ?_ _)); exact BK140.out) hb); have n1_ := Aside0.mk (blk_below (g := gb141) (o := .cells #[.int .i64 a1_0, .int .i64 a1_1, .int .i64 a1_2, .int .i64 a1_3, .int .i64 a1_4, .slice A1_5 l1_5.length c1_5] 37 (0, 0)) (by (with_reducible repeat (first | refine blk_drewN ?_ _ | refine blk_drew ?_ | refine blk_alloc ?_ _)); exact BK141.out) hb); have n2_ := Aside0.mk (below_step (by repeat (first | (with_reducible first | exact HB.out | apply below_alloc | apply pw_below_drewN | apply below_drew1 | refine below_set ?_ GE140.out | refine below_set ?_ GE141.out) | exact HB.out)) hb); clear BK140; clear BK141; clear HB; have BK140 := n0_; have BK141 := n1_; have HB := n2_; clear n0_ n1_ n2_; (try clear hb); (try clear hb2); (try clear hk); (try clear hi)))
      go_meet
      case rel => exact ⟨_, (!t145), (by first | rfl | (simp; done) | (simp [*]; done)), H', ⟨by first | omega | exact Nat.le_refl _⟩, ⟨by (with_reducible repeat (first | refine blk_drewN ?_ _ | refine blk_drew ?_ | refine blk_alloc ?_ _)); exact BK140.out⟩, ⟨by (with_reducible repeat (first | refine blk_drewN ?_ _ | refine blk_drew ?_ | refine blk_alloc ?_ _)); exact BK141.out⟩, ⟨by repeat (first | (with_reducible first | exact HB.out | apply below_alloc | apply pw_below_drewN | apply below_drew1 | refine below_set ?_ GE140.out | refine below_set ?_ GE141.out) | exact HB.out)⟩⟩
  case rest =>
    clear HC5
    try clear c1
    try clear c2
    try clear p2
    try clear c3
    try clear c4
    try clear c12
    try clear c13
    try clear c17
    try clear hcz14_0
    try clear hcz14_1
    try clear hcz14_2
    try clear hcz14_3
    try clear hcz14_4
    try clear hcz14_5
    try clear hcz18_0
    try clear hcz18_1
    try clear hcz18_2
    try clear hcz18_3
    try clear hcz18_4
    try clear hcz18_5
    try clear hcz20_0
    try clear hcz20_1
    try clear hcz20_2
    try clear hcz20_3
    try clear hcz20_4
    try clear hcz20_5
    try clear hfz14_0
    try clear hfz14_1
    try clear hfz14_2
    try clear hfz14_3
    try clear hfz14_4
    try clear hfz14_5
    try clear hfz18_0
    try clear hfz18_1
    try clear hfz18_2
    try clear hfz18_3
    try clear hfz18_4
    try clear hfz18_5
    try clear hfz20_0
    try clear hfz20_1
    try clear hfz20_2
    try clear hfz20_3
    try clear hfz20_4
    try clear hfz20_5
    obtain ⟨kq, x11_4, rfl, HA, HJ4, BK140, BK141, HB⟩ := hcut
    cases kq with
    | zero => exact absurd HA.out (by simp [sched_after.j0])
    | succ kj4 =>
      have H := HA.out
      clear HA
      simp only [sched_after.j0] at H
      by_cases c22 : x11_4 = true
      · subst c22
        have H1 : (some true) = some r := by rw [if_pos rfl] at H; exact H
        clear H
        have H := H1
        clear H1
        obtain rfl := Option.some.inj H
        go_wp2
        go_ret
        exact ⟨by first | rfl | (simp [errW_none, errW_some] <;> rfl) | (simp [*, errW_none, errW_some] <;> rfl), by repeat (first | (with_reducible first | exact HB.out | apply below_alloc | apply pw_below_drewN | apply below_drew1 | refine below_set ?_ GE140.out | refine below_set ?_ GE141.out) | exact HB.out)⟩
      · replace c22 := Bool.eq_false_iff.mpr c22
        subst c22
        have H1 : (if t142 = 0 then (sched_after.j1 kj4 t142 t143 false a0_0 a0_1 a0_2 a0_3 a0_4 l0_5 a1_0 a1_1 a1_2 a1_3 a1_4 l1_5) else (sched_after.j1 kj4 t142 t143 (t142 == t143) a0_0 a0_1 a0_2 a0_3 a0_4 l0_5 a1_0 a1_1 a1_2 a1_3 a1_4 l1_5)) = some r := by rw [if_neg (show ¬ (false = true) by decide)] at H; exact H
        clear H
        have H := H1
        clear H1
        have HC23 := Aside0.mk H
        clear H
        go_upto_region 4 with (fail)
        go_cut [20] (fun v20 wc => ∃ (kq : Nat) (x20_22 : Bool), v20 = .bool x20_22 ∧ Aside0 (sched_after.j1 kq t142 t143 x20_22 a0_0 a0_1 a0_2 a0_3 a0_4 l0_5 a1_0 a1_1 a1_2 a1_3 a1_4 l1_5 = some r) ∧ Aside0 (kq ≤ kj4) ∧ Aside0 (wc.heap[gb140]? = some (.cells #[.int .i64 a0_0, .int .i64 a0_1, .int .i64 a0_2, .int .i64 a0_3, .int .i64 a0_4, (.slice A0_5 l0_5.length c0_5)] 37 (0, 0))) ∧ Aside0 (wc.heap[gb141]? = some (.cells #[.int .i64 a1_0, .int .i64 a1_1, .int .i64 a1_2, .int .i64 a1_3, .int .i64 a1_4, (.slice A1_5 l1_5.length c1_5)] 37 (0, 0))) ∧ Aside0 (Below w.heap.size w wc))
        case first =>
          have H := HC23.out
          clear HC23
          by_cases c24 : t142 = 0
          · rw [if_pos c24] at H
            have c24b0 : (t142 == 0) = true := beq_iff_eq.mpr c24
            have c24b1 : (t142 != 0) = false := bne_eq_false_iff_eq.mpr c24
            clear c24
            (first | rw [c24b0] | (simp only [i64_w, i32_w]; rw [c24b0]) | skip)
            have H' := Aside0.mk H
            clear H
            go_wp2
            go_meet
            case rel => exact ⟨_, (false), (by first | rfl | (simp; done) | (simp [*]; done)), H', ⟨by have := HJ4.out; first | omega | exact Nat.le_refl _⟩, ⟨by (with_reducible repeat (first | refine blk_drewN ?_ _ | refine blk_drew ?_ | refine blk_alloc ?_ _)); exact BK140.out⟩, ⟨by (with_reducible repeat (first | refine blk_drewN ?_ _ | refine blk_drew ?_ | refine blk_alloc ?_ _)); exact BK141.out⟩, ⟨by repeat (first | (with_reducible first | exact HB.out | apply below_alloc | apply pw_below_drewN | apply below_drew1 | refine below_set ?_ GE140.out | refine below_set ?_ GE141.out) | exact HB.out)⟩⟩
          · rw [if_neg c24] at H
            have c24b0 : (t142 == 0) = false := beq_eq_false_iff_ne.mpr c24
            have c24b1 : (t142 != 0) = true := bne_iff_ne.mpr c24
            (first | rw [c24b0] | (simp only [i64_w, i32_w]; rw [c24b0]) | skip)
            have H' := Aside0.mk H
            clear H
            go_wp2
            go_meet
            case rel => exact ⟨_, ((t142 == t143)), (by first | rfl | (simp; done) | (simp [*]; done)), H', ⟨by have := HJ4.out; first | omega | exact Nat.le_refl _⟩, ⟨by (with_reducible repeat (first | refine blk_drewN ?_ _ | refine blk_drew ?_ | refine blk_alloc ?_ _)); exact BK140.out⟩, ⟨by (with_reducible repeat (first | refine blk_drewN ?_ _ | refine blk_drew ?_ | refine blk_alloc ?_ _)); exact BK141.out⟩, ⟨by repeat (first | (with_reducible first | exact HB.out | apply below_alloc | apply pw_below_drewN | apply below_drew1 | refine below_set ?_ GE140.out | refine below_set ?_ GE141.out) | exact HB.out)⟩⟩
        case rest =>
          clear HC23
          try clear c1
          try clear c2
          try clear p2
          try clear c3
          try clear c4
          try clear c12
          try clear c13
          try clear c17
          try clear c22
          try clear c24
          try clear c24b0
          try clear c24b1
          try clear hcz14_0
          try clear hcz14_1
          try clear hcz14_2
          try clear hcz14_3
          try clear hcz14_4
          try clear hcz14_5
          try clear hcz18_0
          try clear hcz18_1
          try clear hcz18_2
          try clear hcz18_3
          try clear hcz18_4
          try clear hcz18_5
          try clear hcz20_0
          try clear hcz20_1
          try clear hcz20_2
          try clear hcz20_3
          try clear hcz20_4
          try clear hcz20_5
          try clear hfz14_0
          try clear hfz14_1
          try clear hfz14_2
          try clear hfz14_3
          try clear hfz14_4
          try clear hfz14_5
          try clear hfz18_0
          try clear hfz18_1
          try clear hfz18_2
          try clear hfz18_3
          try clear hfz18_4
          try clear hfz18_5
          try clear hfz20_0
          try clear hfz20_1
          try clear hfz20_2
          try clear hfz20_3
          try clear hfz20_4
          try clear hfz20_5
          try clear p2
          obtain ⟨kq, x20_22, rfl, HA, HJ22, BK140, BK141, HB⟩ := hcut
          cases kq with
          | zero => exact absurd HA.out (by simp [sched_after.j1])
          | succ kj22 =>
            have H := HA.out
            clear HA
            simp only [sched_after.j1] at H
            by_cases c25 : x20_22 = true
            · subst c25
              have H1 : (some true) = some r := by rw [if_pos rfl] at H; exact H
              clear H
              have H := H1
              clear H1
              obtain rfl := Option.some.inj H
              go_wp2
              go_ret
              exact ⟨by first | rfl | (simp [errW_none, errW_some] <;> rfl) | (simp [*, errW_none, errW_some] <;> rfl), by repeat (first | (with_reducible first | exact HB.out | apply below_alloc | apply pw_below_drewN | apply below_drew1 | refine below_set ?_ GE140.out | refine below_set ?_ GE141.out) | exact HB.out)⟩
            · replace c25 := Bool.eq_false_iff.mpr c25
              subst c25
              have H1 : ((sched_reads.f kj22 a0_0 a0_1 a0_2 a0_3 a0_4 l0_5 t142).bind fun t146 => (if t146 = true then (some true) else ((sched_reads.f kj22 a1_0 a1_1 a1_2 a1_3 a1_4 l1_5 t143).bind fun t147 => (some t147)))) = some r := by rw [if_neg (show ¬ (false = true) by decide)] at H; exact H
              clear H
              have H := H1
              clear H1
              replace H := Option.bind_eq_some_iff.mp H
              obtain ⟨t146, A260, H⟩ := H
              replace H : (if t146 = true then (some true) else ((sched_reads.f kj22 a1_0 a1_1 a1_2 a1_3 a1_4 l1_5 t143).bind fun t147 => (some t147))) = some r := H
              have A26 := Aside0.mk A260
              clear A260
              by_cases c27 : t146 = true
              · subst c27
                have H1 : (some true) = some r := by rw [if_pos rfl] at H; exact H
                clear H
                have H := H1
                clear H1
                obtain rfl := Option.some.inj H
                have hnb28 := NB140_141.out
                have hnc28 := NB141_140.out
                have hcz29_0 : wc.cell? ⟨gb140, 0, none⟩ = some (.int .i64 a0_0) := (blk_cell BK140.out 0).trans rfl
                have hcz29_1 : wc.cell? ⟨gb140, 1, none⟩ = some (.int .i64 a0_1) := (blk_cell BK140.out 1).trans rfl
                have hcz29_2 : wc.cell? ⟨gb140, 2, none⟩ = some (.int .i64 a0_2) := (blk_cell BK140.out 2).trans rfl
                have hcz29_3 : wc.cell? ⟨gb140, 3, none⟩ = some (.int .i64 a0_3) := (blk_cell BK140.out 3).trans rfl
                have hcz29_4 : wc.cell? ⟨gb140, 4, none⟩ = some (.int .i64 a0_4) := (blk_cell BK140.out 4).trans rfl
                have hcz29_5 : wc.cell? ⟨gb140, 5, none⟩ = some (.slice A0_5 l0_5.length c0_5) := (blk_cell BK140.out 5).trans rfl
                have hfz29_0 := blk_frozen BK140.out 0
                have hfz29_1 := blk_frozen BK140.out 1
                have hfz29_2 := blk_frozen BK140.out 2
                have hfz29_3 := blk_frozen BK140.out 3
                have hfz29_4 := blk_frozen BK140.out 4
                have hfz29_5 := blk_frozen BK140.out 5
                go_wp2_with (first | ((with_reducible refine gate_callee (f := 42) rfl ?_); refine goesL_ (some 30) rfl rfl Try.func42 (by kernel_rfl) rfl #[.agg #[.int .i64 a0_0, .int .i64 a0_1, .int .i64 a0_2, .int .i64 a0_3, .int .i64 a0_4, .slice A0_5 l0_5.length c0_5], .int .i64 t142] rfl (by (try simp only [List.map_toArray, List.map_cons, List.map_nil]); first | done | rfl | (simp only [List.length_drop, List.length_take]; rfl)) ?_; (with_reducible refine (sched_reads.calls kj22 a0_0 a0_1 a0_2 a0_3 a0_4 _ _ l0_5 t142 true _ ?side1 ?side2 A26.out).mono ?_); (case side1 => repeat (first | exact (Kd.C_below HR0_5.out HB.out) | (with_reducible refine Kd.C_alloc ?_ _) | (with_reducible refine Kd.C_drewN ?_ _) | (with_reducible refine Kd.C_drew ?_))); (case side2 => exact HC0_5.out); rintro e w30 ⟨rfl, hb⟩; refine ⟨_, rfl, ?_⟩; have n0_ := Aside0.mk (blk_below (g := gb140) (o := .cells #[.int .i64 a0_0, .int .i64 a0_1, .int .i64 a0_2, .int .i64 a0_3, .int .i64 a0_4, .slice A0_5 l0_5.length c0_5] 37 (0, 0)) (by (with_reducible repeat (first | refine blk_drewN ?_ _ | refine blk_drew ?_ | refine blk_alloc ?_ _)); exact BK140.out) hb); have n1_ := Aside0.mk (blk_below (g := gb141) (o := .cells #[.int .i64 a1_0, .int .i64 a1_1, .int .i64 a1_2, .int .i64 a1_3, .int .i64 a1_4, .slice A1_5 l1_5.length c1_5] 37 (0, 0)) (by (with_reducible repeat (first | refine blk_drewN ?_ _ | refine blk_drew ?_ | refine blk_alloc ?_ _)); exact BK141.out) hb); have n2_ := Aside0.mk (below_step (by repeat (first | (with_reducible first | exact HB.out | apply below_alloc | apply pw_below_drewN | apply below_drew1 | refine below_set ?_ GE140.out | refine below_set ?_ GE141.out) | exact HB.out)) hb); clear BK140; clear BK141; clear HB; have BK140 := n0_; have BK141 := n1_; have HB := n2_; clear n0_ n1_ n2_; (try clear hb); (try clear hb2); (try clear hk); (try clear hi)))
                go_ret
                exact ⟨by first | rfl | (simp [errW_none, errW_some] <;> rfl) | (simp [*, errW_none, errW_some] <;> rfl), by repeat (first | (with_reducible first | exact HB.out | apply below_alloc | apply pw_below_drewN | apply below_drew1 | refine below_set ?_ GE140.out | refine below_set ?_ GE141.out) | exact HB.out)⟩
              · replace c27 := Bool.eq_false_iff.mpr c27
                subst c27
                have H1 : ((sched_reads.f kj22 a1_0 a1_1 a1_2 a1_3 a1_4 l1_5 t143).bind fun t147 => (some t147)) = some r := by rw [if_neg (show ¬ (false = true) by decide)] at H; exact H
                clear H
                have H := H1
                clear H1
                replace H := Option.bind_eq_some_iff.mp H
                obtain ⟨t147, A310, H⟩ := H
                replace H : (some t147) = some r := H
                have A31 := Aside0.mk A310
                clear A310
                obtain rfl := Option.some.inj H
                have hnb32 := NB140_141.out
                have hnc32 := NB141_140.out
                have hcz33_0 : wc.cell? ⟨gb140, 0, none⟩ = some (.int .i64 a0_0) := (blk_cell BK140.out 0).trans rfl
                have hcz33_1 : wc.cell? ⟨gb140, 1, none⟩ = some (.int .i64 a0_1) := (blk_cell BK140.out 1).trans rfl
                have hcz33_2 : wc.cell? ⟨gb140, 2, none⟩ = some (.int .i64 a0_2) := (blk_cell BK140.out 2).trans rfl
                have hcz33_3 : wc.cell? ⟨gb140, 3, none⟩ = some (.int .i64 a0_3) := (blk_cell BK140.out 3).trans rfl
                have hcz33_4 : wc.cell? ⟨gb140, 4, none⟩ = some (.int .i64 a0_4) := (blk_cell BK140.out 4).trans rfl
                have hcz33_5 : wc.cell? ⟨gb140, 5, none⟩ = some (.slice A0_5 l0_5.length c0_5) := (blk_cell BK140.out 5).trans rfl
                have hfz33_0 := blk_frozen BK140.out 0
                have hfz33_1 := blk_frozen BK140.out 1
                have hfz33_2 := blk_frozen BK140.out 2
                have hfz33_3 := blk_frozen BK140.out 3
                have hfz33_4 := blk_frozen BK140.out 4
                have hfz33_5 := blk_frozen BK140.out 5
                go_wp2_with (first | ((with_reducible refine gate_callee (f := 42) rfl ?_); refine goesL_ (some 30) rfl rfl Try.func42 (by kernel_rfl) rfl #[.agg #[.int .i64 a0_0, .int .i64 a0_1, .int .i64 a0_2, .int .i64 a0_3, .int .i64 a0_4, .slice A0_5 l0_5.length c0_5], .int .i64 t142] rfl (by (try simp only [List.map_toArray, List.map_cons, List.map_nil]); first | done | rfl | (simp only [List.length_drop, List.length_take]; rfl)) ?_; (with_reducible refine (sched_reads.calls kj22 a0_0 a0_1 a0_2 a0_3 a0_4 _ _ l0_5 t142 false _ ?side1 ?side2 A26.out).mono ?_); (case side1 => repeat (first | exact (Kd.C_below HR0_5.out HB.out) | (with_reducible refine Kd.C_alloc ?_ _) | (with_reducible refine Kd.C_drewN ?_ _) | (with_reducible refine Kd.C_drew ?_))); (case side2 => exact HC0_5.out); rintro e w34 ⟨rfl, hb⟩; refine ⟨_, rfl, ?_⟩; have n0_ := Aside0.mk (blk_below (g := gb140) (o := .cells #[.int .i64 a0_0, .int .i64 a0_1, .int .i64 a0_2, .int .i64 a0_3, .int .i64 a0_4, .slice A0_5 l0_5.length c0_5] 37 (0, 0)) (by (with_reducible repeat (first | refine blk_drewN ?_ _ | refine blk_drew ?_ | refine blk_alloc ?_ _)); exact BK140.out) hb); have n1_ := Aside0.mk (blk_below (g := gb141) (o := .cells #[.int .i64 a1_0, .int .i64 a1_1, .int .i64 a1_2, .int .i64 a1_3, .int .i64 a1_4, .slice A1_5 l1_5.length c1_5] 37 (0, 0)) (by (with_reducible repeat (first | refine blk_drewN ?_ _ | refine blk_drew ?_ | refine blk_alloc ?_ _)); exact BK141.out) hb); have n2_ := Aside0.mk (below_step (by repeat (first | (with_reducible first | exact HB.out | apply below_alloc | apply pw_below_drewN | apply below_drew1 | refine below_set ?_ GE140.out | refine below_set ?_ GE141.out) | exact HB.out)) hb); clear BK140; clear BK141; clear HB; have BK140 := n0_; have BK141 := n1_; have HB := n2_; clear n0_ n1_ n2_; (try clear hb); (try clear hb2); (try clear hk); (try clear hi); have hcz35_0 : w34.cell? ⟨gb141, 0, none⟩ = some (.int .i64 a1_0) := (blk_cell BK141.out 0).trans rfl; have hcz35_1 : w34.cell? ⟨gb141, 1, none⟩ = some (.int .i64 a1_1) := (blk_cell BK141.out 1).trans rfl; have hcz35_2 : w34.cell? ⟨gb141, 2, none⟩ = some (.int .i64 a1_2) := (blk_cell BK141.out 2).trans rfl; have hcz35_3 : w34.cell? ⟨gb141, 3, none⟩ = some (.int .i64 a1_3) := (blk_cell BK141.out 3).trans rfl; have hcz35_4 : w34.cell? ⟨gb141, 4, none⟩ = some (.int .i64 a1_4) := (blk_cell BK141.out 4).trans rfl; have hcz35_5 : w34.cell? ⟨gb141, 5, none⟩ = some (.slice A1_5 l1_5.length c1_5) := (blk_cell BK141.out 5).trans rfl; have hfz35_0 := blk_frozen BK141.out 0; have hfz35_1 := blk_frozen BK141.out 1; have hfz35_2 := blk_frozen BK141.out 2; have hfz35_3 := blk_frozen BK141.out 3; have hfz35_4 := blk_frozen BK141.out 4; have hfz35_5 := blk_frozen BK141.out 5) | (go_at_call 42; (with_reducible refine (sched_reads.calls kj22 a1_0 a1_1 a1_2 a1_3 a1_4 _ _ l1_5 t143 t147 _ ?side1 ?side2 A31.out).mono ?_); (case side1 => repeat (first | exact (Kd.C_below HR1_5.out HB.out) | (with_reducible refine Kd.C_alloc ?_ _) | (with_reducible refine Kd.C_drewN ?_ _) | (with_reducible refine Kd.C_drew ?_))); (case side2 => exact HC1_5.out); rintro e w36 ⟨rfl, hb⟩; have n0_ := Aside0.mk (blk_below (g := gb140) (o := .cells #[.int .i64 a0_0, .int .i64 a0_1, .int .i64 a0_2, .int .i64 a0_3, .int .i64 a0_4, .slice A0_5 l0_5.length c0_5] 37 (0, 0)) (by (with_reducible repeat (first | refine blk_drewN ?_ _ | refine blk_drew ?_ | refine blk_alloc ?_ _)); exact BK140.out) hb); have n1_ := Aside0.mk (blk_below (g := gb141) (o := .cells #[.int .i64 a1_0, .int .i64 a1_1, .int .i64 a1_2, .int .i64 a1_3, .int .i64 a1_4, .slice A1_5 l1_5.length c1_5] 37 (0, 0)) (by (with_reducible repeat (first | refine blk_drewN ?_ _ | refine blk_drew ?_ | refine blk_alloc ?_ _)); exact BK141.out) hb); have n2_ := Aside0.mk (below_step (by repeat (first | (with_reducible first | exact HB.out | apply below_alloc | apply pw_below_drewN | apply below_drew1 | refine below_set ?_ GE140.out | refine below_set ?_ GE141.out) | exact HB.out)) hb); clear BK140; clear BK141; clear HB; have BK140 := n0_; have BK141 := n1_; have HB := n2_; clear n0_ n1_ n2_; (try clear hb); (try clear hb2); (try clear hk); (try clear hi)))
                go_ret
                exact ⟨by first | rfl | (simp [errW_none, errW_some] <;> rfl) | (simp [*, errW_none, errW_some] <;> rfl), by repeat (first | (with_reducible first | exact HB.out | apply below_alloc | apply pw_below_drewN | apply below_drew1 | refine below_set ?_ GE140.out | refine below_set ?_ GE141.out) | exact HB.out)⟩

end Go.Proofs.Ytphmlkbmnmicpaa.A

/- What the machine does at this function, and a plain Lean function that says the same: written by a program for this claim; Lean checks it. -/
namespace Go.Proofs.Ytphmlkbmnmicpaa.A
open Go.RowKit Go.Proofs.YtphmlkbmnmicpaaW.PrintWords Go.Proofs.YtphmlkbmnmicpaaW.PrintLast Go.Proofs.YtphmlkbmnmicpaaW.PrintMore
attribute [local go_sem] max2_int min2_int max_two min_two max_three min_three max_four min_four   -- for this text's walks alone
set_option linter.unusedVariables false
set_option linter.unusedSimpArgs false

/-! ### sched_Deps: function 17 -/
mutual
def sched_Deps.l0 : Nat → List (S37) → List (List Int) → List (S37) → Int → Int → Option ((List (List Int)))
  | 0, _, _, _, _, _ => none
  | k + 1, x0, x3, x14, x15, x16 => if x16 < x15 then (if 0 ≤ x16 then (if x16 < (x14.length : Int) then (if x16 ≤ (x0.length : Int) then ((some (x0.take (x16 : Int).toNat : List (S37))).bind fun y153 => (sched_Deps.l1 k x0 x3 x16 x14 x15 x16 y153 (y153.length : Int) 0 ((rd_T37 x14 x16).f0) ((rd_T37 x14 x16).f1) ((rd_T37 x14 x16).f2) ((rd_T37 x14 x16).f3) ((rd_T37 x14 x16).f4) ((rd_T37 x14 x16).f5))) else (none)) else (none)) else (none)) else (some x3)
def sched_Deps.l1 : Nat → List (S37) → List (List Int) → Int → List (S37) → Int → Int → List (S37) → Int → Int → Int → Int → Int → Int → Int → List Int → Option ((List (List Int)))
  | 0, _, _, _, _, _, _, _, _, _, _, _, _, _, _, _ => none
  | k + 1, x0, x3, x4, x14, x15, x16, x23, x24, x25, x153000, x153001, x153002, x153003, x153004, x153005 => if x25 < x24 then (if 0 ≤ x25 then (if x25 < (x23.length : Int) then ((sched_after.f k x153000 x153001 x153002 x153003 x153004 x153005 ((rd_T37 x23 x25).f0) ((rd_T37 x23 x25).f1) ((rd_T37 x23 x25).f2) ((rd_T37 x23 x25).f3) ((rd_T37 x23 x25).f4) ((rd_T37 x23 x25).f5)).bind fun t159 => (if t159 = true then (if 0 ≤ x4 then (if x4 < (x3.length : Int) then (if (rd_L1 x3 x4).length < 17592186044416 then (sched_Deps.l1 k x0 (x3.set (x4 : Int).toNat ((rd_L1 x3 x4) ++ [x25])) x4 x14 x15 x16 x23 x24 (wrap64 (x25 + 1)) x153000 x153001 x153002 x153003 x153004 x153005) else (none)) else (none)) else (none)) else (sched_Deps.l1 k x0 x3 x4 x14 x15 x16 x23 x24 (wrap64 (x25 + 1)) x153000 x153001 x153002 x153003 x153004 x153005))) else (none)) else (none)) else (sched_Deps.l0 k x0 x3 x14 x15 (wrap64 (x16 + 1)))
end
def sched_Deps.f (k : Nat) (l0 : List (S37)) : Option ((List (List Int))) := if (l0.length : Int) > 4096 then (some ([] : List (List Int))) else (if 0 ≤ (l0.length : Int) then (if ((l0.length : Int) : Int).toNat ≤ 11728124029610 then (sched_Deps.l0 k l0 (List.replicate ((l0.length : Int) : Int).toNat []) l0 (l0.length : Int) 0) else (none)) else (none))
theorem sched_Deps.mono_l : ∀ k, (∀ y0 y1 y2 y3 y4, LeO (sched_Deps.l0 k y0 y1 y2 y3 y4) (sched_Deps.l0 (k + 1) y0 y1 y2 y3 y4)) ∧ (∀ y0 y1 y2 y3 y4 y5 y6 y7 y8 y9 y10 y11 y12 y13 y14, LeO (sched_Deps.l1 k y0 y1 y2 y3 y4 y5 y6 y7 y8 y9 y10 y11 y12 y13 y14) (sched_Deps.l1 (k + 1) y0 y1 y2 y3 y4 y5 y6 y7 y8 y9 y10 y11 y12 y13 y14))
  | 0 => ⟨fun _ _ _ _ _ r h => by simp [sched_Deps.l0] at h, fun _ _ _ _ _ _ _ _ _ _ _ _ _ _ _ r h => by simp [sched_Deps.l1] at h⟩
  | k + 1 => by
    obtain ⟨ih0, ih1⟩ := sched_Deps.mono_l k
    refine ⟨?_, ?_⟩
    · intro y0 y1 y2 y3 y4
      unfold sched_Deps.l0
      repeat' first
      | (with_reducible exact ih0 _ _ _ _ _)
      | (with_reducible exact ih1 _ _ _ _ _ _ _ _ _ _ _ _ _ _ _)
      | (with_reducible exact sched_after.mono _ _ _ _ _ _ _ _ _ _ _ _ _)
      | (with_reducible exact LeO.refl _)
      | (with_reducible exact LeO.none _)
      | (with_reducible refine LeO.ite ?_ ?_)
      | (with_reducible refine LeO.bind ?_ (fun _ => ?_))
      | exact ih0 _ _ _ _ _
      | exact ih1 _ _ _ _ _ _ _ _ _ _ _ _ _ _ _
      | exact sched_after.mono _ _ _ _ _ _ _ _ _ _ _ _ _
      | exact LeO.none _
      | refine LeO.ite ?_ ?_
      | refine LeO.bind ?_ (fun _ => ?_)
    · intro y0 y1 y2 y3 y4 y5 y6 y7 y8 y9 y10 y11 y12 y13 y14
      unfold sched_Deps.l1
      repeat' first
      | (with_reducible exact ih0 _ _ _ _ _)
      | (with_reducible exact ih1 _ _ _ _ _ _ _ _ _ _ _ _ _ _ _)
      | (with_reducible exact sched_after.mono _ _ _ _ _ _ _ _ _ _ _ _ _)
      | (with_reducible exact LeO.refl _)
      | (with_reducible exact LeO.none _)
      | (with_reducible refine LeO.ite ?_ ?_)
      | (with_reducible refine LeO.bind ?_ (fun _ => ?_))
      | exact ih0 _ _ _ _ _
      | exact ih1 _ _ _ _ _ _ _ _ _ _ _ _ _ _ _
      | exact sched_after.mono _ _ _ _ _ _ _ _ _ _ _ _ _
      | exact LeO.none _
      | refine LeO.ite ?_ ?_
      | refine LeO.bind ?_ (fun _ => ?_)
theorem sched_Deps.mono : ∀ a0 k, LeO (sched_Deps.f k a0) (sched_Deps.f (k + 1) a0) := by
  intro a0 k
  obtain ⟨ih0, ih1⟩ := sched_Deps.mono_l k
  unfold sched_Deps.f
  repeat' first
      | (with_reducible exact ih0 _ _ _ _ _)
      | (with_reducible exact ih1 _ _ _ _ _ _ _ _ _ _ _ _ _ _ _)
      | (with_reducible exact sched_after.mono _ _ _ _ _ _ _ _ _ _ _ _ _)
      | (with_reducible exact LeO.refl _)
      | (with_reducible exact LeO.none _)
      | (with_reducible refine LeO.ite ?_ ?_)
      | (with_reducible refine LeO.bind ?_ (fun _ => ?_))
      | exact ih0 _ _ _ _ _
      | exact ih1 _ _ _ _ _ _ _ _ _ _ _ _ _ _ _
      | exact sched_after.mono _ _ _ _ _ _ _ _ _ _ _ _ _
      | exact LeO.none _
      | refine LeO.ite ?_ ?_
      | refine LeO.bind ?_ (fun _ => ?_)
set_option maxHeartbeats 8000000 in
set_option maxRecDepth 100000 in
theorem sched_Deps.calls (k : Nat) (A0 : Option Addr) (c0 : Nat) (l0 : List (S37)) (r : List (List Int)) (w : World) (hr0 : Kd.C k37 w A0 l0.length l0) (hc0 : l0.length ≤ c0) (h : sched_Deps.f k l0 = some r) :
    Calls Try.prog 17 #[.slice A0 l0.length c0] w fun e w' => ∃ v0_ : Value, e = .returned (v0_) ∧ Kd.S (Kd.slice 3 (Kd.int .i64)) 23 w' w.heap.size (fun _ => True) v0_ r ∧ Below w.heap.size w w' := by
  have hu37 := Try.underlying37
  have HR0 := Aside0.mk hr0
  have HC0 := Aside0.mk hc0
  clear hr0 hc0
  have HB := Aside0.mk (Below.refl w.heap.size w)
  have H : (if (l0.length : Int) > 4096 then (some ([] : List (List Int))) else (if 0 ≤ (l0.length : Int) then (if ((l0.length : Int) : Int).toNat ≤ 11728124029610 then (sched_Deps.l0 k l0 (List.replicate ((l0.length : Int) : Int).toNat []) l0 (l0.length : Int) 0) else (none)) else (none))) = some r := h
  clear h
  by_cases c2 : (l0.length : Int) > 4096
  · rw [if_pos c2] at H
    have c2b0 : decide (4096 < (l0.length : Int)) = true := decide_eq_true c2
    have c2b1 : decide (4096 < l0.length) = true := decide_eq_true (by omega)
    clear c2
    obtain rfl := Option.some.inj H
    go_enter Try.func17, Try.ntmps17
    go_wp2
    go_ret
    exact ⟨_, by first | rfl | (simp [errW_none, errW_some] <;> rfl) | (simp [*, errW_none, errW_some] <;> rfl), by first | exact Kd.S_nil _ _ _ _ _ | exact Kd.N_nil _ _ _ _ _ | exact Kd.V_nil _ _ _ _ _ | exact Kd.Q_nil _ _ _ _ _ | exact Kd.R_nil _ _ _ _ _, by repeat (first | (with_reducible first | exact HB.out | apply below_alloc | apply pw_below_drewN | apply below_drew1) | exact HB.out)⟩
  · rw [if_neg c2] at H
    have c2b0 : decide (4096 < (l0.length : Int)) = false := decide_eq_false c2
    have c2b1 : decide (4096 < l0.length) = false := decide_eq_false (by omega)
    clear c2
    by_cases c3 : 0 ≤ (l0.length : Int)
    · rw [if_pos c3] at H
      have c3b0 := eq_true c3
      have c3b1 : decide (0 ≤ (l0.length : Int)) = true := decide_eq_true c3
      clear c3
      by_cases c4 : ((l0.length : Int) : Int).toNat ≤ 11728124029610
      · rw [if_pos c4] at H
        have c4b0 := eq_true c4
        have c4b1 : decide (((l0.length : Int) : Int).toNat ≤ 11728124029610) = true := decide_eq_true c4
        clear c4
        obtain ⟨y148, hy148⟩ : ∃ y_ : List (List Int), y_ = (List.replicate ((l0.length : Int) : Int).toNat []) := ⟨_, rfl⟩
        replace H : (sched_Deps.l0 k l0 y148 l0 (l0.length : Int) 0) = some r := by first | (rw [hy148]; with_reducible exact H) | (have H2_ := (Option.bind_some _ _).symm.trans H; rw [hy148]; with_reducible exact H2_) | (have H2_ := (Option.bind_some _ _).symm.trans H; with_reducible exact H2_) | with_reducible exact H | (rw [hy148]; exact H) | exact H
        have Ny148 := Aside0.mk hy148
        clear hy148
        have H' := Aside0.mk H
        clear H
        go_enter Try.func17, Try.ntmps17
        go_wp2_with (first | ((with_reducible refine gate_dst (N := 13) rfl ?_); refine Kd.S_make (Kd.slice 3 (Kd.int .i64)) _ 23 rfl (N := 13) rfl 40 _ _ rfl (l0.length : Int) rfl rfl Try.underlying40 (.slice none 0 0) 24 info23 rfl (by decide) (by omega) [] (ok := fun _ => True) (okp := fun _ => True) ⟨_, rfl, Kd.R_nil _ _ _ _ _⟩ (fun _ hk => hk) trivial (of_decide_eq_true (by first | (with_reducible assumption) | assumption)) (Nat.le_trans (Nat.mul_le_mul_right _ (of_decide_eq_true (by first | (with_reducible assumption) | assumption) : (l0.length : Int).toNat ≤ 11728124029610)) (by omega)) (Below.refl _ _) (Nat.le_refl _) ?_; intro v149 w5 ho6 hb hg_ hnew_; clear hg_ hnew_; (first | rw [← Ny148.out] at ho6 | (simp only [Int.reduceToNat] at ho6; rw [← Ny148.out] at ho6)); have n0_ := Aside0.mk (Kd.S_lower ho6 (below_size (by repeat (first | (with_reducible first | exact HB.out | apply below_alloc | apply pw_below_drewN | apply below_drew1) | exact HB.out)))); have n1_ := Aside0.mk (below_step (by repeat (first | (with_reducible first | exact HB.out | apply below_alloc | apply pw_below_drewN | apply below_drew1) | exact HB.out)) hb); clear HB; have HO150 := n0_; have HB := n1_; clear n0_ n1_; clear hb ho6))
        go_loopg [16] k (fun kq v16 w' => ∃ (x3_1 : List (List Int)) (x16_1 : Int), v16 = .int .i64 x16_1 ∧ Aside0 (sched_Deps.l0 kq l0 x3_1 l0 (l0.length : Int) x16_1 = some r) ∧ Aside0 (kq ≤ k) ∧ Aside0 (Kd.S (Kd.slice 3 (Kd.int .i64)) 23 w' w.heap.size (fun _ => True) v149 x3_1) ∧ Aside0 (Below w.heap.size w w'))
        case atStart => exact ⟨(y148), (0), (by first | rfl | (simp; done) | (simp [*]; done)), H', ⟨Nat.le_refl _⟩, ⟨by (with_reducible repeat (first | apply Kd.S_alloc | apply Kd.S_drewN | apply Kd.S_drew)); exact HO150.out⟩, ⟨by repeat (first | (with_reducible first | exact HB.out | apply below_alloc | apply pw_below_drewN | apply below_drew1) | exact HB.out)⟩⟩
        case round =>
          clear H'
          try clear c1
          try clear c2
          try clear c2b0
          try clear c2b1
          try clear p2
          try clear c3
          try clear c3b0
          try clear c3b1
          try clear c4
          try clear c4b0
          try clear c4b1
          obtain ⟨x3_1, x16_1, rfl, HA, HK1, HO_3, HB⟩ := hrel
          cases gk with
          | zero => exact absurd HA.out (by simp [sched_Deps.l0])
          | succ k1 =>
            have H := HA.out
            clear HA
            simp only [sched_Deps.l0] at H
            by_cases c7 : x16_1 < (l0.length : Int)
            · rw [if_pos c7] at H
              have c7b0 : decide (x16_1 < (l0.length : Int)) = true := decide_eq_true c7
              clear c7
              by_cases c8 : 0 ≤ x16_1
              · rw [if_pos c8] at H
                have c8b0 : decide (0 ≤ x16_1) = true := decide_eq_true c8
                clear c8
                by_cases c9 : x16_1 < (l0.length : Int)
                · rw [if_pos c9] at H
                  have c9b0 : decide (x16_1 < (l0.length : Int)) = true := decide_eq_true c9
                  clear c9
                  have c10b0 := eq_true (of_decide_eq_true (by first | (with_reducible assumption) | assumption) : 0 ≤ x16_1)
                  by_cases c11 : x16_1 ≤ (l0.length : Int)
                  · rw [if_pos c11] at H
                    have c11b0 := eq_true c11
                    have c11b1 : decide (x16_1 ≤ (l0.length : Int)) = true := decide_eq_true c11
                    clear c11
                    obtain ⟨y153, hy153⟩ : ∃ y_ : List (S37), y_ = (l0.take (x16_1 : Int).toNat) := ⟨_, rfl⟩
                    replace H : (sched_Deps.l1 k1 l0 x3_1 x16_1 l0 (l0.length : Int) x16_1 y153 (y153.length : Int) 0 ((rd_T37 l0 x16_1).f0) ((rd_T37 l0 x16_1).f1) ((rd_T37 l0 x16_1).f2) ((rd_T37 l0 x16_1).f3) ((rd_T37 l0 x16_1).f4) ((rd_T37 l0 x16_1).f5)) = some r := by first | (rw [hy153]; with_reducible exact H) | (have H2_ := (Option.bind_some _ _).symm.trans H; rw [hy153]; with_reducible exact H2_) | (have H2_ := (Option.bind_some _ _).symm.trans H; with_reducible exact H2_) | with_reducible exact H | (rw [hy153]; exact H) | exact H
                    have Ny153 := Aside0.mk hy153
                    clear hy153
                    have H' := Aside0.mk H
                    clear H
                    have p151 : 0 ≤ (x16_1 : Int) := of_decide_eq_true (by first | (with_reducible assumption) | assumption)
                    have q151 : x16_1 < (l0.length : Int) := of_decide_eq_true (by first | (with_reducible assumption) | assumption)
                    obtain ⟨ad151, A151_5, c151_5, e151, hx151_0, hx151_1, hx151_2, hx151_3, hx151_4, hx151_5, hl151_5, hi151_5⟩ := at_T37 HR0.out x16_1 p151 q151
                    cases e151
                    replace hx151_0 := (HB.out.cell (World.block_lt_of_cell? w _ hx151_0)).trans hx151_0
                    replace hx151_1 := (HB.out.cell (World.block_lt_of_cell? w _ hx151_1)).trans hx151_1
                    replace hx151_2 := (HB.out.cell (World.block_lt_of_cell? w _ hx151_2)).trans hx151_2
                    replace hx151_3 := (HB.out.cell (World.block_lt_of_cell? w _ hx151_3)).trans hx151_3
                    replace hx151_4 := (HB.out.cell (World.block_lt_of_cell? w _ hx151_4)).trans hx151_4
                    replace hx151_5 := (HB.out.cell (World.block_lt_of_cell? w _ hx151_5)).trans hx151_5
                    have HR151_5 := Aside0.mk hi151_5
                    have HC151_5 := Aside0.mk hl151_5
                    clear hi151_5 hl151_5
                    replace p151 := eq_true p151
                    replace q151 := eq_true q151
                    go_wp2_with (first | ((with_reducible refine gate_dst (N := 5) rfl ?_); refine box_event ?hg (N := 5) ?hd (cs := #[.int .i64 0, .int .i64 0, .int .i64 0, .int .i64 0, .int .i64 0, .slice none 0 0]) (t := 37) ?hr ?_; (case hd => rfl); (case hg => rfl); (case hr => first | (go_simp; done) | (go_simp; rfl)); intro gb152 hg w12 hbox hb; have n0_ := Aside0.mk (Kd.S_below (by (with_reducible repeat (first | apply Kd.S_alloc | apply Kd.S_drewN | apply Kd.S_drew)); exact HO_3.out) hb); have n1_ := Aside0.mk (below_step (by repeat (first | (with_reducible first | exact HB.out | apply below_alloc | apply pw_below_drewN | apply below_drew1) | exact HB.out)) hb); have n2_ := Aside0.mk (hbox); have n3_ := Aside0.mk ((by rw [hg]; exact (below_size (by repeat (first | (with_reducible first | exact HB.out | apply below_alloc | apply pw_below_drewN | apply below_drew1) | exact HB.out))) : w.heap.size ≤ gb152)); have n4_ := Aside0.mk ((by rw [hg]; exact (below_size (by repeat (first | (with_reducible first | exact HB.out | apply below_alloc | apply pw_below_drewN | apply below_drew1) | exact HB.out))) : w.heap.size ≤ gb152)); clear HO_3; clear HB; have HO_3 := n0_; have HB := n1_; have BK152 := n2_; have GW152 := n3_; have GE152 := n4_; clear n0_ n1_ n2_ n3_ n4_; clear hb hbox hg; have hcz13_0 : w12.cell? ⟨gb152, 0, none⟩ = some (.int .i64 0) := (blk_cell BK152.out 0).trans rfl; have hcz13_1 : w12.cell? ⟨gb152, 1, none⟩ = some (.int .i64 0) := (blk_cell BK152.out 1).trans rfl; have hcz13_2 : w12.cell? ⟨gb152, 2, none⟩ = some (.int .i64 0) := (blk_cell BK152.out 2).trans rfl; have hcz13_3 : w12.cell? ⟨gb152, 3, none⟩ = some (.int .i64 0) := (blk_cell BK152.out 3).trans rfl; have hcz13_4 : w12.cell? ⟨gb152, 4, none⟩ = some (.int .i64 0) := (blk_cell BK152.out 4).trans rfl; have hcz13_5 : w12.cell? ⟨gb152, 5, none⟩ = some (.slice none 0 0) := (blk_cell BK152.out 5).trans rfl; have hfz13_0 := blk_frozen BK152.out 0; have hfz13_1 := blk_frozen BK152.out 1; have hfz13_2 := blk_frozen BK152.out 2; have hfz13_3 := blk_frozen BK152.out 3; have hfz13_4 := blk_frozen BK152.out 4; have hfz13_5 := blk_frozen BK152.out 5) | ((with_reducible refine gate_store (t := 37) (p := 5) rfl ?_); refine store_event (t := 37) (p := 5) (v := ?vo_w14) (w1 := ((((((w12.setCell ⟨gb152, 0, none⟩ (.int .i64 ((rd_T37 l0 x16_1).f0))).setCell ⟨gb152, 1, none⟩ (.int .i64 ((rd_T37 l0 x16_1).f1))).setCell ⟨gb152, 2, none⟩ (.int .i64 ((rd_T37 l0 x16_1).f2))).setCell ⟨gb152, 3, none⟩ (.int .i64 ((rd_T37 l0 x16_1).f3))).setCell ⟨gb152, 4, none⟩ (.int .i64 ((rd_T37 l0 x16_1).f4))).setCell ⟨gb152, 5, none⟩ (.slice A151_5 ((rd_T37 l0 x16_1).f5).length c151_5))) ?hg ?ho ?hn ?hr ?_; (case ho => rfl); (case hg => rfl); (case hn => rfl); (case hr => first | (go_simp; done) | (go_simp; rfl)); intro w14 hw; have n0_ : Aside0 (Kd.S (Kd.slice 3 (Kd.int .i64)) 23 w14 w.heap.size (fun _ => True) v149 x3_1) := ⟨(by rw [hw]; exact (by (with_reducible repeat (first | apply Kd.S_alloc | apply Kd.S_drewN | apply Kd.S_drew)); exact Kd.S_mono (Kd.S_far (p := ⟨gb152, 5, none⟩) (Kd.S_far (p := ⟨gb152, 4, none⟩) (Kd.S_far (p := ⟨gb152, 3, none⟩) (Kd.S_far (p := ⟨gb152, 2, none⟩) (Kd.S_far (p := ⟨gb152, 1, none⟩) (Kd.S_far (p := ⟨gb152, 0, none⟩) (Kd.S_types HO_3.out BK152.out (by decide)) (fun _ hk => hk.2) (.int .i64 ((rd_T37 l0 x16_1).f0))) (fun _ hk => hk.2) (.int .i64 ((rd_T37 l0 x16_1).f1))) (fun _ hk => hk.2) (.int .i64 ((rd_T37 l0 x16_1).f2))) (fun _ hk => hk.2) (.int .i64 ((rd_T37 l0 x16_1).f3))) (fun _ hk => hk.2) (.int .i64 ((rd_T37 l0 x16_1).f4))) (fun _ hk => hk.2) (.slice A151_5 ((rd_T37 l0 x16_1).f5).length c151_5)) (fun _ hk => trivial)))⟩; have n1_ : Aside0 (w14.heap[gb152]? = some (.cells #[.int .i64 ((rd_T37 l0 x16_1).f0), .int .i64 ((rd_T37 l0 x16_1).f1), .int .i64 ((rd_T37 l0 x16_1).f2), .int .i64 ((rd_T37 l0 x16_1).f3), .int .i64 ((rd_T37 l0 x16_1).f4), .slice A151_5 ((rd_T37 l0 x16_1).f5).length c151_5] 37 (0, 0))) := ⟨(by rw [hw]; exact (by (with_reducible repeat (first | refine blk_drewN ?_ _ | refine blk_drew ?_ | refine blk_alloc ?_ _)); refine blk_put (cs := #[.int .i64 ((rd_T37 l0 x16_1).f0), .int .i64 ((rd_T37 l0 x16_1).f1), .int .i64 ((rd_T37 l0 x16_1).f2), .int .i64 ((rd_T37 l0 x16_1).f3), .int .i64 ((rd_T37 l0 x16_1).f4), .slice none 0 0]) ?_ 5 _ rfl; (with_reducible repeat (first | refine blk_drewN ?_ _ | refine blk_drew ?_ | refine blk_alloc ?_ _)); refine blk_put (cs := #[.int .i64 ((rd_T37 l0 x16_1).f0), .int .i64 ((rd_T37 l0 x16_1).f1), .int .i64 ((rd_T37 l0 x16_1).f2), .int .i64 ((rd_T37 l0 x16_1).f3), .int .i64 0, .slice none 0 0]) ?_ 4 _ rfl; (with_reducible repeat (first | refine blk_drewN ?_ _ | refine blk_drew ?_ | refine blk_alloc ?_ _)); refine blk_put (cs := #[.int .i64 ((rd_T37 l0 x16_1).f0), .int .i64 ((rd_T37 l0 x16_1).f1), .int .i64 ((rd_T37 l0 x16_1).f2), .int .i64 0, .int .i64 0, .slice none 0 0]) ?_ 3 _ rfl; (with_reducible repeat (first | refine blk_drewN ?_ _ | refine blk_drew ?_ | refine blk_alloc ?_ _)); refine blk_put (cs := #[.int .i64 ((rd_T37 l0 x16_1).f0), .int .i64 ((rd_T37 l0 x16_1).f1), .int .i64 0, .int .i64 0, .int .i64 0, .slice none 0 0]) ?_ 2 _ rfl; (with_reducible repeat (first | refine blk_drewN ?_ _ | refine blk_drew ?_ | refine blk_alloc ?_ _)); refine blk_put (cs := #[.int .i64 ((rd_T37 l0 x16_1).f0), .int .i64 0, .int .i64 0, .int .i64 0, .int .i64 0, .slice none 0 0]) ?_ 1 _ rfl; (with_reducible repeat (first | refine blk_drewN ?_ _ | refine blk_drew ?_ | refine blk_alloc ?_ _)); refine blk_put (cs := #[.int .i64 0, .int .i64 0, .int .i64 0, .int .i64 0, .int .i64 0, .slice none 0 0]) ?_ 0 _ rfl; (with_reducible repeat (first | refine blk_drewN ?_ _ | refine blk_drew ?_ | refine blk_alloc ?_ _)); exact BK152.out))⟩; have n2_ : Aside0 (Below w.heap.size w w14) := ⟨(by rw [hw]; exact (by repeat (first | (with_reducible first | exact HB.out | apply below_alloc | apply pw_below_drewN | apply below_drew1 | refine below_set ?_ GE152.out) | exact HB.out)))⟩; clear hw; clear HO_3; clear BK152; clear HB; have HO_3 := n0_; have BK152 := n1_; have HB := n2_; clear n0_ n1_ n2_; have q15 : (x16_1 : Int) ≤ ((l0.length : Int) : Int) := of_decide_eq_true (by first | (with_reducible assumption) | assumption); obtain ⟨i015, hi015, _, hsz15, _⟩ := info_parts info37; have hroom15 : l0.length ≤ c0 := HC0.out; have hC15 : Kd.C k37 _ (some ad151) l0.length l0 := HR0.out; have hcut15 := cut_to (P := Try.prog) 22 37 .i64 Try.underlying22 hi015 (some ad151) l0.length c0 x16_1 (of_decide_eq_true (by first | (with_reducible assumption) | assumption)) q15 hroom15; have hr15 := Kd.C_take (m := (x16_1 : Int).toNat) hC15 (by omega); have hy15 : y153.length = (x16_1 : Int).toNat := (by rw [Ny153.out, List.length_take]; omega); rw [← Ny153.out] at hr15; rw [← hy15] at hcut15; have HR156 := Aside0.mk hr15; have HC156 := Aside0.mk (show y153.length ≤ c0 from by omega); clear hr15 hC15 hroom15 hi015 hsz15; have KY15 := Aside0.mk hy15; clear hy15; replace q15 := eq_true q15))
                    go_loopg [25] k1 (fun kq v25 w' => ∃ (x3_2 : List (List Int)) (x25_2 : Int), v25 = .int .i64 x25_2 ∧ Aside0 (sched_Deps.l1 kq l0 x3_2 x16_1 l0 (l0.length : Int) x16_1 y153 (y153.length : Int) x25_2 ((rd_T37 l0 x16_1).f0) ((rd_T37 l0 x16_1).f1) ((rd_T37 l0 x16_1).f2) ((rd_T37 l0 x16_1).f3) ((rd_T37 l0 x16_1).f4) ((rd_T37 l0 x16_1).f5) = some r) ∧ Aside0 (kq ≤ k1) ∧ Aside0 (Kd.S (Kd.slice 3 (Kd.int .i64)) 23 w' w.heap.size (fun _ => True) v149 x3_2) ∧ Aside0 (w'.heap[gb152]? = some (.cells #[.int .i64 ((rd_T37 l0 x16_1).f0), .int .i64 ((rd_T37 l0 x16_1).f1), .int .i64 ((rd_T37 l0 x16_1).f2), .int .i64 ((rd_T37 l0 x16_1).f3), .int .i64 ((rd_T37 l0 x16_1).f4), (.slice A151_5 ((rd_T37 l0 x16_1).f5).length c151_5)] 37 (0, 0))) ∧ Aside0 (Below w.heap.size w w'))
                    case atStart => exact ⟨(x3_1), (0), (by first | rfl | (simp; done) | (simp [*]; done)), H', ⟨Nat.le_refl _⟩, ⟨by (with_reducible repeat (first | apply Kd.S_alloc | apply Kd.S_drewN | apply Kd.S_drew)); exact HO_3.out⟩, ⟨by (with_reducible repeat (first | refine blk_drewN ?_ _ | refine blk_drew ?_ | refine blk_alloc ?_ _)); exact BK152.out⟩, ⟨by repeat (first | (with_reducible first | exact HB.out | apply below_alloc | apply pw_below_drewN | apply below_drew1 | refine below_set ?_ GE152.out) | exact HB.out)⟩⟩
                    case round =>
                      clear H'
                      try clear c1
                      try clear p1
                      try clear q1
                      try clear hx1
                      try clear c2
                      try clear c2b0
                      try clear c2b1
                      try clear p2
                      try clear c3
                      try clear c3b0
                      try clear c3b1
                      try clear c4
                      try clear c4b0
                      try clear c4b1
                      try clear c7
                      try clear c7b0
                      try clear c8
                      try clear c8b0
                      try clear c9
                      try clear c9b0
                      try clear c10
                      try clear c10b0
                      try clear c11
                      try clear c11b0
                      try clear c11b1
                      try clear c15
                      try clear p15
                      try clear q15
                      try clear hx15
                      try clear hcz13_0
                      try clear hcz13_1
                      try clear hcz13_2
                      try clear hcz13_3
                      try clear hcz13_4
                      try clear hcz13_5
                      try clear hfz13_0
                      try clear hfz13_1
                      try clear hfz13_2
                      try clear hfz13_3
                      try clear hfz13_4
                      try clear hfz13_5
                      try clear hx151_0
                      try clear hx151_1
                      try clear hx151_2
                      try clear hx151_3
                      try clear hx151_4
                      try clear hx151_5
                      try clear p151
                      try clear p2
                      try clear q15
                      try clear q151
                      obtain ⟨x3_2, x25_2, rfl, HA, HK2, HO_3, BK152, HB⟩ := hrel
                      cases gk with
                      | zero => exact absurd HA.out (by simp [sched_Deps.l1])
                      | succ k2 =>
                        have H := HA.out
                        clear HA
                        simp only [sched_Deps.l1] at H
                        by_cases c16 : x25_2 < (y153.length : Int)
                        · rw [if_pos c16] at H
                          have c16b0 : decide (x25_2 < (y153.length : Int)) = true := decide_eq_true c16
                          clear c16
                          by_cases c17 : 0 ≤ x25_2
                          · rw [if_pos c17] at H
                            have c17b0 : decide (0 ≤ x25_2) = true := decide_eq_true c17
                            clear c17
                            by_cases c18 : x25_2 < (y153.length : Int)
                            · rw [if_pos c18] at H
                              have c18b0 : decide (x25_2 < (y153.length : Int)) = true := decide_eq_true c18
                              clear c18
                              replace H := Option.bind_eq_some_iff.mp H
                              obtain ⟨t159, A190, H⟩ := H
                              replace H : (if t159 = true then (if 0 ≤ x16_1 then (if x16_1 < (x3_2.length : Int) then (if (rd_L1 x3_2 x16_1).length < 17592186044416 then (sched_Deps.l1 k2 l0 (x3_2.set (x16_1 : Int).toNat ((rd_L1 x3_2 x16_1) ++ [x25_2])) x16_1 l0 (l0.length : Int) x16_1 y153 (y153.length : Int) (wrap64 (x25_2 + 1)) ((rd_T37 l0 x16_1).f0) ((rd_T37 l0 x16_1).f1) ((rd_T37 l0 x16_1).f2) ((rd_T37 l0 x16_1).f3) ((rd_T37 l0 x16_1).f4) ((rd_T37 l0 x16_1).f5)) else (none)) else (none)) else (none)) else (sched_Deps.l1 k2 l0 x3_2 x16_1 l0 (l0.length : Int) x16_1 y153 (y153.length : Int) (wrap64 (x25_2 + 1)) ((rd_T37 l0 x16_1).f0) ((rd_T37 l0 x16_1).f1) ((rd_T37 l0 x16_1).f2) ((rd_T37 l0 x16_1).f3) ((rd_T37 l0 x16_1).f4) ((rd_T37 l0 x16_1).f5))) = some r := H
                              have A19 := Aside0.mk A190
                              clear A190
                              by_cases c20 : t159 = true
                              · subst c20
                                have H1 : (if 0 ≤ x16_1 then (if x16_1 < (x3_2.length : Int) then (if (rd_L1 x3_2 x16_1).length < 17592186044416 then (sched_Deps.l1 k2 l0 (x3_2.set (x16_1 : Int).toNat ((rd_L1 x3_2 x16_1) ++ [x25_2])) x16_1 l0 (l0.length : Int) x16_1 y153 (y153.length : Int) (wrap64 (x25_2 + 1)) ((rd_T37 l0 x16_1).f0) ((rd_T37 l0 x16_1).f1) ((rd_T37 l0 x16_1).f2) ((rd_T37 l0 x16_1).f3) ((rd_T37 l0 x16_1).f4) ((rd_T37 l0 x16_1).f5)) else (none)) else (none)) else (none)) = some r := by rw [if_pos rfl] at H; exact H
                                clear H
                                have H := H1
                                clear H1
                                by_cases c21 : 0 ≤ x16_1
                                · rw [if_pos c21] at H
                                  have c21b0 : decide (0 ≤ x16_1) = true := decide_eq_true c21
                                  clear c21
                                  by_cases c22 : x16_1 < (x3_2.length : Int)
                                  · rw [if_pos c22] at H
                                    have c22b0 : decide (x16_1 < (x3_2.length : Int)) = true := decide_eq_true c22
                                    clear c22
                                    by_cases c23 : (rd_L1 x3_2 x16_1).length < 17592186044416
                                    · rw [if_pos c23] at H
                                      have LMc23 := Aside0.mk c23
                                      clear c23
                                      obtain ⟨y161, hy161⟩ : ∃ y_ : List Int, y_ = ((rd_L1 x3_2 x16_1) ++ [x25_2]) := ⟨_, rfl⟩
                                      replace H : (sched_Deps.l1 k2 l0 (x3_2.set (x16_1 : Int).toNat y161) x16_1 l0 (l0.length : Int) x16_1 y153 (y153.length : Int) (wrap64 (x25_2 + 1)) ((rd_T37 l0 x16_1).f0) ((rd_T37 l0 x16_1).f1) ((rd_T37 l0 x16_1).f2) ((rd_T37 l0 x16_1).f3) ((rd_T37 l0 x16_1).f4) ((rd_T37 l0 x16_1).f5)) = some r := by first | (rw [hy161]; with_reducible exact H) | (have H2_ := (Option.bind_some _ _).symm.trans H; rw [hy161]; with_reducible exact H2_) | (have H2_ := (Option.bind_some _ _).symm.trans H; with_reducible exact H2_) | with_reducible exact H | (rw [hy161]; exact H) | exact H
                                      have Ny161 := Aside0.mk hy161
                                      clear hy161
                                      obtain ⟨y164, hy164⟩ : ∃ y_ : List (List Int), y_ = (x3_2.set (x16_1 : Int).toNat y161) := ⟨_, rfl⟩
                                      replace H : (sched_Deps.l1 k2 l0 y164 x16_1 l0 (l0.length : Int) x16_1 y153 (y153.length : Int) (wrap64 (x25_2 + 1)) ((rd_T37 l0 x16_1).f0) ((rd_T37 l0 x16_1).f1) ((rd_T37 l0 x16_1).f2) ((rd_T37 l0 x16_1).f3) ((rd_T37 l0 x16_1).f4) ((rd_T37 l0 x16_1).f5)) = some r := by first | (rw [hy164]; with_reducible exact H) | (have H2_ := (Option.bind_some _ _).symm.trans H; rw [hy164]; with_reducible exact H2_) | (have H2_ := (Option.bind_some _ _).symm.trans H; with_reducible exact H2_) | with_reducible exact H | (rw [hy164]; exact H) | exact H
                                      have Ny164 := Aside0.mk hy164
                                      clear hy164
                                      have H' := Aside0.mk H
                                      clear H
                                      have p157 : 0 ≤ (x25_2 : Int) := of_decide_eq_true (by first | (with_reducible assumption) | assumption)
                                      have q157 : x25_2 < (y153.length : Int) := of_decide_eq_true (by first | (with_reducible assumption) | assumption)
                                      obtain ⟨ad157, A157_5, c157_5, e157, hx157_0, hx157_1, hx157_2, hx157_3, hx157_4, hx157_5, hl157_5, hi157_5⟩ := at_T37 HR156.out x25_2 p157 q157
                                      obtain rfl : ad151 = ad157 := (by injection e157)
                                      replace hx157_0 := (HB.out.cell (World.block_lt_of_cell? w _ hx157_0)).trans hx157_0
                                      replace hx157_1 := (HB.out.cell (World.block_lt_of_cell? w _ hx157_1)).trans hx157_1
                                      replace hx157_2 := (HB.out.cell (World.block_lt_of_cell? w _ hx157_2)).trans hx157_2
                                      replace hx157_3 := (HB.out.cell (World.block_lt_of_cell? w _ hx157_3)).trans hx157_3
                                      replace hx157_4 := (HB.out.cell (World.block_lt_of_cell? w _ hx157_4)).trans hx157_4
                                      replace hx157_5 := (HB.out.cell (World.block_lt_of_cell? w _ hx157_5)).trans hx157_5
                                      have HR157_5 := Aside0.mk hi157_5
                                      have HC157_5 := Aside0.mk hl157_5
                                      clear hi157_5 hl157_5
                                      replace p157 := eq_true p157
                                      replace q157 := eq_true q157
                                      go_wp2_with (first | ((with_reducible refine gate_dst (N := 7) rfl ?_); refine box_event ?hg (N := 7) ?hd (cs := #[.int .i64 0, .int .i64 0, .int .i64 0, .int .i64 0, .int .i64 0, .slice none 0 0]) (t := 37) ?hr ?_; (case hd => rfl); (case hg => rfl); (case hr => first | (go_simp; done) | (go_simp; rfl)); intro gb158 hg w25 hbox hb; have n0_ := Aside0.mk (Kd.S_below (by (with_reducible repeat (first | apply Kd.S_alloc | apply Kd.S_drewN | apply Kd.S_drew)); exact HO_3.out) hb); have n1_ := Aside0.mk (blk_below (g := gb152) (o := .cells #[.int .i64 ((rd_T37 l0 x16_1).f0), .int .i64 ((rd_T37 l0 x16_1).f1), .int .i64 ((rd_T37 l0 x16_1).f2), .int .i64 ((rd_T37 l0 x16_1).f3), .int .i64 ((rd_T37 l0 x16_1).f4), .slice A151_5 ((rd_T37 l0 x16_1).f5).length c151_5] 37 (0, 0)) (by (with_reducible repeat (first | refine blk_drewN ?_ _ | refine blk_drew ?_ | refine blk_alloc ?_ _)); exact BK152.out) hb); have n2_ := Aside0.mk (below_step (by repeat (first | (with_reducible first | exact HB.out | apply below_alloc | apply pw_below_drewN | apply below_drew1 | refine below_set ?_ GE152.out) | exact HB.out)) hb); have n3_ := Aside0.mk (hbox); have n4_ := Aside0.mk ((by rw [hg]; exact (below_size (by repeat (first | (with_reducible first | exact HB.out | apply below_alloc | apply pw_below_drewN | apply below_drew1 | refine below_set ?_ GE152.out) | exact HB.out))) : w.heap.size ≤ gb158)); have n5_ := Aside0.mk ((by rw [hg]; exact (below_size (by repeat (first | (with_reducible first | exact HB.out | apply below_alloc | apply pw_below_drewN | apply below_drew1 | refine below_set ?_ GE152.out) | exact HB.out))) : w.heap.size ≤ gb158)); have n6_ := Aside0.mk ((by rw [hg]; exact Nat.ne_of_lt (blk_lt (g := gb152) (o := .cells #[.int .i64 ((rd_T37 l0 x16_1).f0), .int .i64 ((rd_T37 l0 x16_1).f1), .int .i64 ((rd_T37 l0 x16_1).f2), .int .i64 ((rd_T37 l0 x16_1).f3), .int .i64 ((rd_T37 l0 x16_1).f4), .slice A151_5 ((rd_T37 l0 x16_1).f5).length c151_5] 37 (0, 0)) (by (with_reducible repeat (first | refine blk_drewN ?_ _ | refine blk_drew ?_ | refine blk_alloc ?_ _)); exact BK152.out)) : gb152 ≠ gb158)); have n7_ := Aside0.mk ((by rw [hg]; exact Nat.ne_of_gt (blk_lt (g := gb152) (o := .cells #[.int .i64 ((rd_T37 l0 x16_1).f0), .int .i64 ((rd_T37 l0 x16_1).f1), .int .i64 ((rd_T37 l0 x16_1).f2), .int .i64 ((rd_T37 l0 x16_1).f3), .int .i64 ((rd_T37 l0 x16_1).f4), .slice A151_5 ((rd_T37 l0 x16_1).f5).length c151_5] 37 (0, 0)) (by (with_reducible repeat (first | refine blk_drewN ?_ _ | refine blk_drew ?_ | refine blk_alloc ?_ _)); exact BK152.out)) : gb158 ≠ gb152)); clear HO_3; clear BK152; clear HB; have HO_3 := n0_; have BK152 := n1_; have HB := n2_; have BK158 := n3_; have GW158 := n4_; have GE158 := n5_; have NB152_158 := n6_; have NB158_152 := n7_; clear n0_ n1_ n2_ n3_ n4_ n5_ n6_ n7_; clear hb hbox hg; have hnb26 := NB158_152.out; have hnc26 := NB152_158.out; have hcz27_0 : w25.cell? ⟨gb158, 0, none⟩ = some (.int .i64 0) := (blk_cell BK158.out 0).trans rfl; have hcz27_1 : w25.cell? ⟨gb158, 1, none⟩ = some (.int .i64 0) := (blk_cell BK158.out 1).trans rfl; have hcz27_2 : w25.cell? ⟨gb158, 2, none⟩ = some (.int .i64 0) := (blk_cell BK158.out 2).trans rfl; have hcz27_3 : w25.cell? ⟨gb158, 3, none⟩ = some (.int .i64 0) := (blk_cell BK158.out 3).trans rfl; have hcz27_4 : w25.cell? ⟨gb158, 4, none⟩ = some (.int .i64 0) := (blk_cell BK158.out 4).trans rfl; have hcz27_5 : w25.cell? ⟨gb158, 5, none⟩ = some (.slice none 0 0) := (blk_cell BK158.out 5).trans rfl; have hfz27_0 := blk_frozen BK158.out 0; have hfz27_1 := blk_frozen BK158.out 1; have hfz27_2 := blk_frozen BK158.out 2; have hfz27_3 := blk_frozen BK158.out 3; have hfz27_4 := blk_frozen BK158.out 4; have hfz27_5 := blk_frozen BK158.out 5; have hcz28_0 : w25.cell? ⟨gb152, 0, none⟩ = some (.int .i64 ((rd_T37 l0 x16_1).f0)) := (blk_cell BK152.out 0).trans rfl; have hcz28_1 : w25.cell? ⟨gb152, 1, none⟩ = some (.int .i64 ((rd_T37 l0 x16_1).f1)) := (blk_cell BK152.out 1).trans rfl; have hcz28_2 : w25.cell? ⟨gb152, 2, none⟩ = some (.int .i64 ((rd_T37 l0 x16_1).f2)) := (blk_cell BK152.out 2).trans rfl; have hcz28_3 : w25.cell? ⟨gb152, 3, none⟩ = some (.int .i64 ((rd_T37 l0 x16_1).f3)) := (blk_cell BK152.out 3).trans rfl; have hcz28_4 : w25.cell? ⟨gb152, 4, none⟩ = some (.int .i64 ((rd_T37 l0 x16_1).f4)) := (blk_cell BK152.out 4).trans rfl; have hcz28_5 : w25.cell? ⟨gb152, 5, none⟩ = some (.slice A151_5 ((rd_T37 l0 x16_1).f5).length c151_5) := (blk_cell BK152.out 5).trans rfl; have hfz28_0 := blk_frozen BK152.out 0; have hfz28_1 := blk_frozen BK152.out 1; have hfz28_2 := blk_frozen BK152.out 2; have hfz28_3 := blk_frozen BK152.out 3; have hfz28_4 := blk_frozen BK152.out 4; have hfz28_5 := blk_frozen BK152.out 5) | ((with_reducible refine gate_callee (f := 32) rfl ?_); refine goesL_ (some 32) rfl rfl Try.func32 (by kernel_rfl) rfl #[.agg #[.int .i64 ((rd_T37 l0 x16_1).f0), .int .i64 ((rd_T37 l0 x16_1).f1), .int .i64 ((rd_T37 l0 x16_1).f2), .int .i64 ((rd_T37 l0 x16_1).f3), .int .i64 ((rd_T37 l0 x16_1).f4), .slice A151_5 ((rd_T37 l0 x16_1).f5).length c151_5], .agg #[.int .i64 ((rd_T37 y153 x25_2).f0), .int .i64 ((rd_T37 y153 x25_2).f1), .int .i64 ((rd_T37 y153 x25_2).f2), .int .i64 ((rd_T37 y153 x25_2).f3), .int .i64 ((rd_T37 y153 x25_2).f4), .slice A157_5 ((rd_T37 y153 x25_2).f5).length c157_5]] rfl (by (try simp only [List.map_toArray, List.map_cons, List.map_nil]); first | done | rfl | (simp only [List.length_drop, List.length_take]; rfl)) ?_; (with_reducible refine (sched_after.calls k2 ((rd_T37 l0 x16_1).f0) ((rd_T37 l0 x16_1).f1) ((rd_T37 l0 x16_1).f2) ((rd_T37 l0 x16_1).f3) ((rd_T37 l0 x16_1).f4) _ _ ((rd_T37 l0 x16_1).f5) ((rd_T37 y153 x25_2).f0) ((rd_T37 y153 x25_2).f1) ((rd_T37 y153 x25_2).f2) ((rd_T37 y153 x25_2).f3) ((rd_T37 y153 x25_2).f4) _ _ ((rd_T37 y153 x25_2).f5) true _ ?side1 ?side2 ?side3 ?side4 A19.out).mono ?_); (case side1 => exact Kd.C_below HR151_5.out (by repeat (first | (with_reducible first | exact HB.out | apply below_alloc | apply pw_below_drewN | apply below_drew1 | refine below_set ?_ GE152.out | refine below_set ?_ GE158.out) | exact HB.out))); (case side2 => exact HC151_5.out); (case side3 => exact Kd.C_below HR157_5.out (by repeat (first | (with_reducible first | exact HB.out | apply below_alloc | apply pw_below_drewN | apply below_drew1 | refine below_set ?_ GE152.out | refine below_set ?_ GE158.out) | exact HB.out))); (case side4 => exact HC157_5.out); rintro e w29 ⟨rfl, hb⟩; refine ⟨_, rfl, ?_⟩; have n0_ := Aside0.mk (Kd.S_below (by (with_reducible repeat (first | apply Kd.S_alloc | apply Kd.S_drewN | apply Kd.S_drew)); exact (Kd.S_mono (Kd.S_far (p := ⟨gb158, 5, none⟩) (Kd.S_far (p := ⟨gb158, 4, none⟩) (Kd.S_far (p := ⟨gb158, 3, none⟩) (Kd.S_far (p := ⟨gb158, 2, none⟩) (Kd.S_far (p := ⟨gb158, 1, none⟩) (Kd.S_far (p := ⟨gb158, 0, none⟩) (Kd.S_types HO_3.out BK158.out (by decide)) (fun _ hk => hk.2) (.int .i64 ((rd_T37 y153 x25_2).f0))) (fun _ hk => hk.2) (.int .i64 ((rd_T37 y153 x25_2).f1))) (fun _ hk => hk.2) (.int .i64 ((rd_T37 y153 x25_2).f2))) (fun _ hk => hk.2) (.int .i64 ((rd_T37 y153 x25_2).f3))) (fun _ hk => hk.2) (.int .i64 ((rd_T37 y153 x25_2).f4))) (fun _ hk => hk.2) (.slice A157_5 ((rd_T37 y153 x25_2).f5).length c157_5)) (fun _ h_ => h_.1))) hb); have n1_ := Aside0.mk (blk_below (g := gb152) (o := .cells #[.int .i64 ((rd_T37 l0 x16_1).f0), .int .i64 ((rd_T37 l0 x16_1).f1), .int .i64 ((rd_T37 l0 x16_1).f2), .int .i64 ((rd_T37 l0 x16_1).f3), .int .i64 ((rd_T37 l0 x16_1).f4), .slice A151_5 ((rd_T37 l0 x16_1).f5).length c151_5] 37 (0, 0)) (by (with_reducible repeat (first | refine blk_drewN ?_ _ | refine blk_drew ?_ | refine blk_alloc ?_ _)); refine blk_far ?_ NB152_158.out _; (with_reducible repeat (first | refine blk_drewN ?_ _ | refine blk_drew ?_ | refine blk_alloc ?_ _)); refine blk_far ?_ NB152_158.out _; (with_reducible repeat (first | refine blk_drewN ?_ _ | refine blk_drew ?_ | refine blk_alloc ?_ _)); refine blk_far ?_ NB152_158.out _; (with_reducible repeat (first | refine blk_drewN ?_ _ | refine blk_drew ?_ | refine blk_alloc ?_ _)); refine blk_far ?_ NB152_158.out _; (with_reducible repeat (first | refine blk_drewN ?_ _ | refine blk_drew ?_ | refine blk_alloc ?_ _)); refine blk_far ?_ NB152_158.out _; (with_reducible repeat (first | refine blk_drewN ?_ _ | refine blk_drew ?_ | refine blk_alloc ?_ _)); refine blk_far ?_ NB152_158.out _; (with_reducible repeat (first | refine blk_drewN ?_ _ | refine blk_drew ?_ | refine blk_alloc ?_ _)); exact BK152.out) hb); have n2_ := Aside0.mk (blk_below (g := gb158) (o := .cells #[.int .i64 ((rd_T37 y153 x25_2).f0), .int .i64 ((rd_T37 y153 x25_2).f1), .int .i64 ((rd_T37 y153 x25_2).f2), .int .i64 ((rd_T37 y153 x25_2).f3), .int .i64 ((rd_T37 y153 x25_2).f4), .slice A157_5 ((rd_T37 y153 x25_2).f5).length c157_5] 37 (0, 0)) (by (with_reducible repeat (first | refine blk_drewN ?_ _ | refine blk_drew ?_ | refine blk_alloc ?_ _)); refine blk_put (cs := #[.int .i64 ((rd_T37 y153 x25_2).f0), .int .i64 ((rd_T37 y153 x25_2).f1), .int .i64 ((rd_T37 y153 x25_2).f2), .int .i64 ((rd_T37 y153 x25_2).f3), .int .i64 ((rd_T37 y153 x25_2).f4), .slice none 0 0]) ?_ 5 _ rfl; (with_reducible repeat (first | refine blk_drewN ?_ _ | refine blk_drew ?_ | refine blk_alloc ?_ _)); refine blk_put (cs := #[.int .i64 ((rd_T37 y153 x25_2).f0), .int .i64 ((rd_T37 y153 x25_2).f1), .int .i64 ((rd_T37 y153 x25_2).f2), .int .i64 ((rd_T37 y153 x25_2).f3), .int .i64 0, .slice none 0 0]) ?_ 4 _ rfl; (with_reducible repeat (first | refine blk_drewN ?_ _ | refine blk_drew ?_ | refine blk_alloc ?_ _)); refine blk_put (cs := #[.int .i64 ((rd_T37 y153 x25_2).f0), .int .i64 ((rd_T37 y153 x25_2).f1), .int .i64 ((rd_T37 y153 x25_2).f2), .int .i64 0, .int .i64 0, .slice none 0 0]) ?_ 3 _ rfl; (with_reducible repeat (first | refine blk_drewN ?_ _ | refine blk_drew ?_ | refine blk_alloc ?_ _)); refine blk_put (cs := #[.int .i64 ((rd_T37 y153 x25_2).f0), .int .i64 ((rd_T37 y153 x25_2).f1), .int .i64 0, .int .i64 0, .int .i64 0, .slice none 0 0]) ?_ 2 _ rfl; (with_reducible repeat (first | refine blk_drewN ?_ _ | refine blk_drew ?_ | refine blk_alloc ?_ _)); refine blk_put (cs := #[.int .i64 ((rd_T37 y153 x25_2).f0), .int .i64 0, .int .i64 0, .int .i64 0, .int .i64 0, .slice none 0 0]) ?_ 1 _ rfl; (with_reducible repeat (first | refine blk_drewN ?_ _ | refine blk_drew ?_ | refine blk_alloc ?_ _)); refine blk_put (cs := #[.int .i64 0, .int .i64 0, .int .i64 0, .int .i64 0, .int .i64 0, .slice none 0 0]) ?_ 0 _ rfl; (with_reducible repeat (first | refine blk_drewN ?_ _ | refine blk_drew ?_ | refine blk_alloc ?_ _)); exact BK158.out) hb); have n3_ := Aside0.mk (below_step (by repeat (first | (with_reducible first | exact HB.out | apply below_alloc | apply pw_below_drewN | apply below_drew1 | refine below_set ?_ GE152.out | refine below_set ?_ GE158.out) | exact HB.out)) hb); clear HO_3; clear BK152; clear BK158; clear HB; have HO_3 := n0_; have BK152 := n1_; have BK158 := n2_; have HB := n3_; clear n0_ n1_ n2_ n3_; (try clear hb); (try clear hb2); (try clear hk); (try clear hi); obtain ⟨Ao30, co30, eo30⟩ := Kd.S_slice HO_3.out; subst eo30; have p160 : 0 ≤ (x16_1 : Int) := of_decide_eq_true (by first | (with_reducible assumption) | assumption); have q160 : x16_1 < (x3_2.length : Int) := of_decide_eq_true (by first | (with_reducible assumption) | assumption); obtain ⟨ad160, A160_0, c160_0, e160, hx160_0, hl160_0, hi160_0⟩ := at_L1 (Kd.S_reads' HO_3.out).2.2 x16_1 p160 q160; cases e160; obtain ⟨ce160, hce160, hMe160, hcc160⟩ := Kd.S_get HO_3.out [] x16_1 p160 (by first | exact q160 | exact of_decide_eq_true (by first | (with_reducible assumption) | assumption) | (have e_ := (Kd.S_reads' HO_3.out).1; omega)); obtain ⟨ve160_0, rfl, ge160_0⟩ := hMe160; have hv160_0 := hcc160 0 _ rfl; rw [Nat.add_zero, show ((Kd.slice 3 (Kd.int .i64))).sz = 1 from rfl, Nat.mul_one] at hv160_0; replace hv160_0 := Option.some.inj (hv160_0.symm.trans hx160_0); rw [hv160_0] at ge160_0; have HL160_0 := Aside0.mk (show Kd.R (Kd.int .i64) 3 _ _ _ _ (rd_L1 x3_2 x16_1) from ge160_0); clear hv160_0 ge160_0; have HX160_0 := Aside0.mk hx160_0; clear hcc160 hce160; have HR160_0 := Aside0.mk hi160_0; have HC160_0 := Aside0.mk hl160_0; clear hi160_0 hl160_0; replace p160 := eq_true p160; replace q160 := eq_true q160; obtain ⟨go31, co31, eo31, gb31, gl31, cl31, HG31⟩ := Kd.S_form HO_3.out (by have h_ : (x16_1 : Int) < ((x3_2.length : Int) : Int) := of_decide_eq_true (by first | (with_reducible assumption) | assumption); have h2_ : 0 ≤ (x16_1 : Int) := (of_decide_eq_true (by first | (with_reducible assumption) | assumption)); omega); (first | cases eo31 | (injection eo31 with ea_ en_ ec_; (first | subst ea_ | (injection ea_ with ea_; subst ea_)); subst ec_; clear en_)); have GB31 := Aside0.mk gb31; have GG31 := Aside0.mk HG31; clear gb31 gl31 HG31; (first | simp only [add_plain] at hx160_0 | skip); obtain ⟨oki31, ce31, hcl31, hM31, hcc31, _, _, hH31⟩ := Kd.S_elem HO_3.out [] (x16_1 : Int) (of_decide_eq_true (by first | (with_reducible assumption) | assumption)) (by have h_ : (x16_1 : Int) < ((x3_2.length : Int) : Int) := of_decide_eq_true (by first | (with_reducible assumption) | assumption); first | exact h_ | (have e_ := (Kd.S_reads' HO_3.out).1; omega) | simpa using h_); obtain ⟨ve31_0, rfl, ge31_0⟩ := hM31; have hv31 := hcc31 0 _ rfl; have hX31 := HX160_0.out; (try simp only [add_plain] at hX31); (try simp only [Nat.add_zero] at hv31); (try rw [show ((Kd.slice 3 (Kd.int .i64))).sz = 1 from rfl, Nat.mul_one] at hv31); replace hv31 := Option.some.inj (hv31.symm.trans hX31); subst hv31; clear hX31 hcc31 hcl31; have UU31 := Aside0.mk (show Kd.R (Kd.int .i64) 3 _ w.heap.size oki31 (.slice A160_0 (rd_L1 x3_2 x16_1).length c160_0) (rd_L1 x3_2 x16_1) from ge31_0); have HH31 := Aside0.mk hH31; have HN31 := Aside0.mk (Kd.S_reads' HO_3.out).1; clear hH31 ge31_0) | ((with_reducible refine gate_builtin (b := .append) (xs := #[.tmp 38, .tmp 40]) rfl ?_); at_builtin; refine Kd.R_append (Kd.int .i64) (w0 := w) w.heap.size rfl (.tmp 38) (.tmp 40) 23 3 (.int .i64 0) 8 rfl Try.underlying23 info3 rfl (by decide) (by omega) (.slice A160_0 (rd_L1 x3_2 x16_1).length c160_0) (rd_L1 x3_2 x16_1) x25_2 [.int .i64 x25_2] (fun k_ => oki31 k_ ∨ ((fun _ => True)) k_ ∧ w29.heap.size ≤ k_) (fun _ => False) rfl rfl ?aP (fun _ hk => hk.elim) ?aF ?aO ?aB ?aS ?aL ?_; (case aP => exact rfl); (case aB => exact (by repeat (first | (with_reducible first | exact HB.out | apply below_alloc | apply pw_below_drewN | apply below_drew1 | refine below_set ?_ GE152.out | refine below_set ?_ GE158.out) | exact HB.out))); (case aF => exact (fun k_ hk => .inr ⟨trivial, hk⟩)); (case aO => exact (by (with_reducible repeat (first | apply Kd.R_alloc | apply Kd.R_drewN | apply Kd.R_drew)); exact Kd.R_mono UU31.out (fun _ hk => .inl hk))); (case aS => exact (below_size (by repeat (first | (with_reducible first | exact HB.out | apply below_alloc | apply pw_below_drewN | apply below_drew1 | refine below_set ?_ GE152.out | refine below_set ?_ GE158.out) | exact HB.out)))); (case aL => have := LMc23.out; omega); intro v162 w32 ho hb hg hat; rw [← Ny161.out] at ho; have n0_ := Aside0.mk (blk_grown (g := gb152) (o := .cells #[.int .i64 ((rd_T37 l0 x16_1).f0), .int .i64 ((rd_T37 l0 x16_1).f1), .int .i64 ((rd_T37 l0 x16_1).f2), .int .i64 ((rd_T37 l0 x16_1).f3), .int .i64 ((rd_T37 l0 x16_1).f4), .slice A151_5 ((rd_T37 l0 x16_1).f5).length c151_5] 37 (0, 0)) (by (with_reducible repeat (first | refine blk_drewN ?_ _ | refine blk_drew ?_ | refine blk_alloc ?_ _)); exact BK152.out) hg (Kd.R_ne HL160_0.out BK152.out (by decide))); have n1_ := Aside0.mk (blk_grown (g := gb158) (o := .cells #[.int .i64 ((rd_T37 y153 x25_2).f0), .int .i64 ((rd_T37 y153 x25_2).f1), .int .i64 ((rd_T37 y153 x25_2).f2), .int .i64 ((rd_T37 y153 x25_2).f3), .int .i64 ((rd_T37 y153 x25_2).f4), .slice A157_5 ((rd_T37 y153 x25_2).f5).length c157_5] 37 (0, 0)) (by (with_reducible repeat (first | refine blk_drewN ?_ _ | refine blk_drew ?_ | refine blk_alloc ?_ _)); exact BK158.out) hg (Kd.R_ne HL160_0.out BK158.out (by decide))); have n2_ := Aside0.mk (hb); have n3_ := Aside0.mk (Kd.H_grown (Kd.H_widen (by repeat (first | exact HH31.out | refine Kd.H_alloc ?_ _ | refine Kd.H_drewN ?_ _ | refine Kd.H_drew ?_))) hg (fun k_ e_ => .inl (UU31.out.1 k_ e_))); have n4_ := Aside0.mk (ho); clear BK152; clear BK158; clear HB; clear HH31; clear HO_3; clear UU31; clear HL160_0; have BK152 := n0_; have BK158 := n1_; have HB := n2_; have HH31 := n3_; have HO163 := n4_; clear n0_ n1_ n2_ n3_ n4_; clear ho hb hg hat; have p24 : 0 ≤ (x16_1 : Int) := of_decide_eq_true (by first | (with_reducible assumption) | assumption); have q24 : (x16_1 : Int) < ((x3_2.length : Int) : Int) := of_decide_eq_true (by first | (with_reducible assumption) | assumption); replace p24 := eq_true p24; replace q24 := eq_true q24; obtain ⟨Ao35, co35, eo35⟩ := Kd.R_slice HO163.out; subst eo35; obtain ⟨_, _, hraw33, _, _, hcc33, _⟩ := Kd.H_raw HH31.out (of_decide_eq_true (by first | (with_reducible assumption) | assumption)) (by have h_ : (x16_1 : Int) < ((x3_2.length : Int) : Int) := of_decide_eq_true (by first | (with_reducible assumption) | assumption); first | exact h_ | (have e_ := (HN31.out); omega) | simpa using h_); obtain ⟨_, hfr33⟩ := Kd.H_at HH31.out (of_decide_eq_true (by first | (with_reducible assumption) | assumption)) (by have h_ : (x16_1 : Int) < ((x3_2.length : Int) : Int) := of_decide_eq_true (by first | (with_reducible assumption) | assumption); first | exact h_ | (have e_ := (HN31.out); omega) | simpa using h_); have hx33_0 := hcc33 0 _ rfl; have hf33_0 := hfr33 0; (try simp only [Nat.add_zero] at hx33_0 hf33_0); (try rw [show ((Kd.slice 3 (Kd.int .i64))).sz = 1 from rfl, Nat.mul_one] at hx33_0); (try rw [show ((Kd.slice 3 (Kd.int .i64))).sz = 1 from rfl, Nat.mul_one] at hf33_0); have HP33 := Kd.S_seg0 HH31.out (of_decide_eq_true (by first | (with_reducible assumption) | assumption)) (by have h_ : (x16_1 : Int) < ((x3_2.length : Int) : Int) := of_decide_eq_true (by first | (with_reducible assumption) | assumption); first | exact h_ | (have e_ := (HN31.out); omega) | simpa using h_) (seg := [.slice Ao35 y161.length co35]) (j := 0) (show 1 ≤ 1 from by decide) (x' := y161) (Kd.M_row HO163.out) (fun _ hk => hk); (try simp only [show ((Kd.slice 3 (Kd.int .i64))).sz = 1 from rfl, Nat.mul_one, Nat.add_zero] at HP33); clear hcc33 hfr33) | ((with_reducible refine gate_store (t := 23) (p := 42) rfl ?_); refine store_event (t := 23) (p := 42) (v := ?vo_w34) (w1 := (w32.setCell ⟨go31, (x16_1 : Int).toNat, none⟩ (.slice Ao35 y161.length co35))) ?hg ?ho ?hn ?hr ?_; (case ho => rfl); (case hg => rfl); (case hn => rfl); (case hr => first | (go_simp; done) | (go_simp; rfl)); intro w34 hw; have hg : w32.grownBy w34 (some go31) := (by rw [hw]; exact HP33.2); have hp_ : Kd.S (Kd.slice 3 (Kd.int .i64)) 23 w34 w.heap.size (fun _ => True) (.slice (some ⟨go31, 0, none⟩) x3_2.length co30) y164 := (by rw [hw, Ny164.out]; exact HP33.1); clear HP33; have n0_ := Aside0.mk (blk_grown (g := gb152) (o := .cells #[.int .i64 ((rd_T37 l0 x16_1).f0), .int .i64 ((rd_T37 l0 x16_1).f1), .int .i64 ((rd_T37 l0 x16_1).f2), .int .i64 ((rd_T37 l0 x16_1).f3), .int .i64 ((rd_T37 l0 x16_1).f4), .slice A151_5 ((rd_T37 l0 x16_1).f5).length c151_5] 37 (0, 0)) (by (with_reducible repeat (first | refine blk_drewN ?_ _ | refine blk_drew ?_ | refine blk_alloc ?_ _)); exact BK152.out) hg (Kd.R_ne hraw33 BK152.out (by decide))); have n1_ := Aside0.mk (blk_grown (g := gb158) (o := .cells #[.int .i64 ((rd_T37 y153 x25_2).f0), .int .i64 ((rd_T37 y153 x25_2).f1), .int .i64 ((rd_T37 y153 x25_2).f2), .int .i64 ((rd_T37 y153 x25_2).f3), .int .i64 ((rd_T37 y153 x25_2).f4), .slice A157_5 ((rd_T37 y153 x25_2).f5).length c157_5] 37 (0, 0)) (by (with_reducible repeat (first | refine blk_drewN ?_ _ | refine blk_drew ?_ | refine blk_alloc ?_ _)); exact BK158.out) hg (Kd.R_ne hraw33 BK158.out (by decide))); have n2_ := Aside0.mk ((by rw [hw]; exact below_set HB.out GB31.out : Below w.heap.size w w34)); have n3_ := Aside0.mk (hp_); clear BK152; clear BK158; clear HB; clear HO163; clear HH31; have BK152 := n0_; have BK158 := n1_; have HB := n2_; have HO_3 := n3_; clear n0_ n1_ n2_ n3_; clear hg hw hp_ hraw33))
                                      go_roundg k2
                                      case measure => have := HK1.out; have := HK2.out; omega
                                      case rel => exact ⟨(y164), (wrap64 (x25_2 + 1)), (by first | rfl | (simp; done) | (simp [*]; done)), H', ⟨by have := HK1.out; have := HK2.out; omega⟩, ⟨by (with_reducible repeat (first | apply Kd.S_alloc | apply Kd.S_drewN | apply Kd.S_drew)); exact HO_3.out⟩, ⟨by (with_reducible repeat (first | refine blk_drewN ?_ _ | refine blk_drew ?_ | refine blk_alloc ?_ _)); exact BK152.out⟩, ⟨by repeat (first | (with_reducible first | exact HB.out | apply below_alloc | apply pw_below_drewN | apply below_drew1 | refine below_set ?_ GE152.out | refine below_set ?_ GE158.out) | exact HB.out)⟩⟩
                                    · rw [if_neg c23] at H
                                      exact absurd H (by simp)
                                  · rw [if_neg c22] at H
                                    exact absurd H (by simp)
                                · rw [if_neg c21] at H
                                  exact absurd H (by simp)
                              · replace c20 := Bool.eq_false_iff.mpr c20
                                subst c20
                                have H1 : (sched_Deps.l1 k2 l0 x3_2 x16_1 l0 (l0.length : Int) x16_1 y153 (y153.length : Int) (wrap64 (x25_2 + 1)) ((rd_T37 l0 x16_1).f0) ((rd_T37 l0 x16_1).f1) ((rd_T37 l0 x16_1).f2) ((rd_T37 l0 x16_1).f3) ((rd_T37 l0 x16_1).f4) ((rd_T37 l0 x16_1).f5)) = some r := by rw [if_neg (show ¬ (false = true) by decide)] at H; exact H
                                clear H
                                have H := H1
                                clear H1
                                have H' := Aside0.mk H
                                clear H
                                have p157 : 0 ≤ (x25_2 : Int) := of_decide_eq_true (by first | (with_reducible assumption) | assumption)
                                have q157 : x25_2 < (y153.length : Int) := of_decide_eq_true (by first | (with_reducible assumption) | assumption)
                                obtain ⟨ad157, A157_5, c157_5, e157, hx157_0, hx157_1, hx157_2, hx157_3, hx157_4, hx157_5, hl157_5, hi157_5⟩ := at_T37 HR156.out x25_2 p157 q157
                                obtain rfl : ad151 = ad157 := (by injection e157)
                                replace hx157_0 := (HB.out.cell (World.block_lt_of_cell? w _ hx157_0)).trans hx157_0
                                replace hx157_1 := (HB.out.cell (World.block_lt_of_cell? w _ hx157_1)).trans hx157_1
                                replace hx157_2 := (HB.out.cell (World.block_lt_of_cell? w _ hx157_2)).trans hx157_2
                                replace hx157_3 := (HB.out.cell (World.block_lt_of_cell? w _ hx157_3)).trans hx157_3
                                replace hx157_4 := (HB.out.cell (World.block_lt_of_cell? w _ hx157_4)).trans hx157_4
                                replace hx157_5 := (HB.out.cell (World.block_lt_of_cell? w _ hx157_5)).trans hx157_5
                                have HR157_5 := Aside0.mk hi157_5
                                have HC157_5 := Aside0.mk hl157_5
                                clear hi157_5 hl157_5
                                replace p157 := eq_true p157
                                replace q157 := eq_true q157
                                go_wp2_with (first | ((with_reducible refine gate_dst (N := 7) rfl ?_); refine box_event ?hg (N := 7) ?hd (cs := #[.int .i64 0, .int .i64 0, .int .i64 0, .int .i64 0, .int .i64 0, .slice none 0 0]) (t := 37) ?hr ?_; (case hd => rfl); (case hg => rfl); (case hr => first | (go_simp; done) | (go_simp; rfl)); intro gb158 hg w36 hbox hb; have n0_ := Aside0.mk (Kd.S_below (by (with_reducible repeat (first | apply Kd.S_alloc | apply Kd.S_drewN | apply Kd.S_drew)); exact HO_3.out) hb); have n1_ := Aside0.mk (blk_below (g := gb152) (o := .cells #[.int .i64 ((rd_T37 l0 x16_1).f0), .int .i64 ((rd_T37 l0 x16_1).f1), .int .i64 ((rd_T37 l0 x16_1).f2), .int .i64 ((rd_T37 l0 x16_1).f3), .int .i64 ((rd_T37 l0 x16_1).f4), .slice A151_5 ((rd_T37 l0 x16_1).f5).length c151_5] 37 (0, 0)) (by (with_reducible repeat (first | refine blk_drewN ?_ _ | refine blk_drew ?_ | refine blk_alloc ?_ _)); exact BK152.out) hb); have n2_ := Aside0.mk (below_step (by repeat (first | (with_reducible first | exact HB.out | apply below_alloc | apply pw_below_drewN | apply below_drew1 | refine below_set ?_ GE152.out) | exact HB.out)) hb); have n3_ := Aside0.mk (hbox); have n4_ := Aside0.mk ((by rw [hg]; exact (below_size (by repeat (first | (with_reducible first | exact HB.out | apply below_alloc | apply pw_below_drewN | apply below_drew1 | refine below_set ?_ GE152.out) | exact HB.out))) : w.heap.size ≤ gb158)); have n5_ := Aside0.mk ((by rw [hg]; exact (below_size (by repeat (first | (with_reducible first | exact HB.out | apply below_alloc | apply pw_below_drewN | apply below_drew1 | refine below_set ?_ GE152.out) | exact HB.out))) : w.heap.size ≤ gb158)); have n6_ := Aside0.mk ((by rw [hg]; exact Nat.ne_of_lt (blk_lt (g := gb152) (o := .cells #[.int .i64 ((rd_T37 l0 x16_1).f0), .int .i64 ((rd_T37 l0 x16_1).f1), .int .i64 ((rd_T37 l0 x16_1).f2), .int .i64 ((rd_T37 l0 x16_1).f3), .int .i64 ((rd_T37 l0 x16_1).f4), .slice A151_5 ((rd_T37 l0 x16_1).f5).length c151_5] 37 (0, 0)) (by (with_reducible repeat (first | refine blk_drewN ?_ _ | refine blk_drew ?_ | refine blk_alloc ?_ _)); exact BK152.out)) : gb152 ≠ gb158)); have n7_ := Aside0.mk ((by rw [hg]; exact Nat.ne_of_gt (blk_lt (g := gb152) (o := .cells #[.int .i64 ((rd_T37 l0 x16_1).f0), .int .i64 ((rd_T37 l0 x16_1).f1), .int .i64 ((rd_T37 l0 x16_1).f2), .int .i64 ((rd_T37 l0 x16_1).f3), .int .i64 ((rd_T37 l0 x16_1).f4), .slice A151_5 ((rd_T37 l0 x16_1).f5).length c151_5] 37 (0, 0)) (by (with_reducible repeat (first | refine blk_drewN ?_ _ | refine blk_drew ?_ | refine blk_alloc ?_ _)); exact BK152.out)) : gb158 ≠ gb152)); clear HO_3; clear BK152; clear HB; have HO_3 := n0_; have BK152 := n1_; have HB := n2_; have BK158 := n3_; have GW158 := n4_; have GE158 := n5_; have NB152_158 := n6_; have NB158_152 := n7_; clear n0_ n1_ n2_ n3_ n4_ n5_ n6_ n7_; clear hb hbox hg; have hnb37 := NB158_152.out; have hnc37 := NB152_158.out; have hcz38_0 : w36.cell? ⟨gb158, 0, none⟩ = some (.int .i64 0) := (blk_cell BK158.out 0).trans rfl; have hcz38_1 : w36.cell? ⟨gb158, 1, none⟩ = some (.int .i64 0) := (blk_cell BK158.out 1).trans rfl; have hcz38_2 : w36.cell? ⟨gb158, 2, none⟩ = some (.int .i64 0) := (blk_cell BK158.out 2).trans rfl; have hcz38_3 : w36.cell? ⟨gb158, 3, none⟩ = some (.int .i64 0) := (blk_cell BK158.out 3).trans rfl; have hcz38_4 : w36.cell? ⟨gb158, 4, none⟩ = some (.int .i64 0) := (blk_cell BK158.out 4).trans rfl; have hcz38_5 : w36.cell? ⟨gb158, 5, none⟩ = some (.slice none 0 0) := (blk_cell BK158.out 5).trans rfl; have hfz38_0 := blk_frozen BK158.out 0; have hfz38_1 := blk_frozen BK158.out 1; have hfz38_2 := blk_frozen BK158.out 2; have hfz38_3 := blk_frozen BK158.out 3; have hfz38_4 := blk_frozen BK158.out 4; have hfz38_5 := blk_frozen BK158.out 5; have hcz39_0 : w36.cell? ⟨gb152, 0, none⟩ = some (.int .i64 ((rd_T37 l0 x16_1).f0)) := (blk_cell BK152.out 0).trans rfl; have hcz39_1 : w36.cell? ⟨gb152, 1, none⟩ = some (.int .i64 ((rd_T37 l0 x16_1).f1)) := (blk_cell BK152.out 1).trans rfl; have hcz39_2 : w36.cell? ⟨gb152, 2, none⟩ = some (.int .i64 ((rd_T37 l0 x16_1).f2)) := (blk_cell BK152.out 2).trans rfl; have hcz39_3 : w36.cell? ⟨gb152, 3, none⟩ = some (.int .i64 ((rd_T37 l0 x16_1).f3)) := (blk_cell BK152.out 3).trans rfl; have hcz39_4 : w36.cell? ⟨gb152, 4, none⟩ = some (.int .i64 ((rd_T37 l0 x16_1).f4)) := (blk_cell BK152.out 4).trans rfl; have hcz39_5 : w36.cell? ⟨gb152, 5, none⟩ = some (.slice A151_5 ((rd_T37 l0 x16_1).f5).length c151_5) := (blk_cell BK152.out 5).trans rfl; have hfz39_0 := blk_frozen BK152.out 0; have hfz39_1 := blk_frozen BK152.out 1; have hfz39_2 := blk_frozen BK152.out 2; have hfz39_3 := blk_frozen BK152.out 3; have hfz39_4 := blk_frozen BK152.out 4; have hfz39_5 := blk_frozen BK152.out 5) | ((with_reducible refine gate_callee (f := 32) rfl ?_); refine goesL_ (some 32) rfl rfl Try.func32 (by kernel_rfl) rfl #[.agg #[.int .i64 ((rd_T37 l0 x16_1).f0), .int .i64 ((rd_T37 l0 x16_1).f1), .int .i64 ((rd_T37 l0 x16_1).f2), .int .i64 ((rd_T37 l0 x16_1).f3), .int .i64 ((rd_T37 l0 x16_1).f4), .slice A151_5 ((rd_T37 l0 x16_1).f5).length c151_5], .agg #[.int .i64 ((rd_T37 y153 x25_2).f0), .int .i64 ((rd_T37 y153 x25_2).f1), .int .i64 ((rd_T37 y153 x25_2).f2), .int .i64 ((rd_T37 y153 x25_2).f3), .int .i64 ((rd_T37 y153 x25_2).f4), .slice A157_5 ((rd_T37 y153 x25_2).f5).length c157_5]] rfl (by (try simp only [List.map_toArray, List.map_cons, List.map_nil]); first | done | rfl | (simp only [List.length_drop, List.length_take]; rfl)) ?_; (with_reducible refine (sched_after.calls k2 ((rd_T37 l0 x16_1).f0) ((rd_T37 l0 x16_1).f1) ((rd_T37 l0 x16_1).f2) ((rd_T37 l0 x16_1).f3) ((rd_T37 l0 x16_1).f4) _ _ ((rd_T37 l0 x16_1).f5) ((rd_T37 y153 x25_2).f0) ((rd_T37 y153 x25_2).f1) ((rd_T37 y153 x25_2).f2) ((rd_T37 y153 x25_2).f3) ((rd_T37 y153 x25_2).f4) _ _ ((rd_T37 y153 x25_2).f5) false _ ?side1 ?side2 ?side3 ?side4 A19.out).mono ?_); (case side1 => exact Kd.C_below HR151_5.out (by repeat (first | (with_reducible first | exact HB.out | apply below_alloc | apply pw_below_drewN | apply below_drew1 | refine below_set ?_ GE152.out | refine below_set ?_ GE158.out) | exact HB.out))); (case side2 => exact HC151_5.out); (case side3 => exact Kd.C_below HR157_5.out (by repeat (first | (with_reducible first | exact HB.out | apply below_alloc | apply pw_below_drewN | apply below_drew1 | refine below_set ?_ GE152.out | refine below_set ?_ GE158.out) | exact HB.out))); (case side4 => exact HC157_5.out); rintro e w40 ⟨rfl, hb⟩; refine ⟨_, rfl, ?_⟩; have n0_ := Aside0.mk (Kd.S_below (by (with_reducible repeat (first | apply Kd.S_alloc | apply Kd.S_drewN | apply Kd.S_drew)); exact (Kd.S_mono (Kd.S_far (p := ⟨gb158, 5, none⟩) (Kd.S_far (p := ⟨gb158, 4, none⟩) (Kd.S_far (p := ⟨gb158, 3, none⟩) (Kd.S_far (p := ⟨gb158, 2, none⟩) (Kd.S_far (p := ⟨gb158, 1, none⟩) (Kd.S_far (p := ⟨gb158, 0, none⟩) (Kd.S_types HO_3.out BK158.out (by decide)) (fun _ hk => hk.2) (.int .i64 ((rd_T37 y153 x25_2).f0))) (fun _ hk => hk.2) (.int .i64 ((rd_T37 y153 x25_2).f1))) (fun _ hk => hk.2) (.int .i64 ((rd_T37 y153 x25_2).f2))) (fun _ hk => hk.2) (.int .i64 ((rd_T37 y153 x25_2).f3))) (fun _ hk => hk.2) (.int .i64 ((rd_T37 y153 x25_2).f4))) (fun _ hk => hk.2) (.slice A157_5 ((rd_T37 y153 x25_2).f5).length c157_5)) (fun _ h_ => h_.1))) hb); have n1_ := Aside0.mk (blk_below (g := gb152) (o := .cells #[.int .i64 ((rd_T37 l0 x16_1).f0), .int .i64 ((rd_T37 l0 x16_1).f1), .int .i64 ((rd_T37 l0 x16_1).f2), .int .i64 ((rd_T37 l0 x16_1).f3), .int .i64 ((rd_T37 l0 x16_1).f4), .slice A151_5 ((rd_T37 l0 x16_1).f5).length c151_5] 37 (0, 0)) (by (with_reducible repeat (first | refine blk_drewN ?_ _ | refine blk_drew ?_ | refine blk_alloc ?_ _)); refine blk_far ?_ NB152_158.out _; (with_reducible repeat (first | refine blk_drewN ?_ _ | refine blk_drew ?_ | refine blk_alloc ?_ _)); refine blk_far ?_ NB152_158.out _; (with_reducible repeat (first | refine blk_drewN ?_ _ | refine blk_drew ?_ | refine blk_alloc ?_ _)); refine blk_far ?_ NB152_158.out _; (with_reducible repeat (first | refine blk_drewN ?_ _ | refine blk_drew ?_ | refine blk_alloc ?_ _)); refine blk_far ?_ NB152_158.out _; (with_reducible repeat (first | refine blk_drewN ?_ _ | refine blk_drew ?_ | refine blk_alloc ?_ _)); refine blk_far ?_ NB152_158.out _; (with_reducible repeat (first | refine blk_drewN ?_ _ | refine blk_drew ?_ | refine blk_alloc ?_ _)); refine blk_far ?_ NB152_158.out _; (with_reducible repeat (first | refine blk_drewN ?_ _ | refine blk_drew ?_ | refine blk_alloc ?_ _)); exact BK152.out) hb); have n2_ := Aside0.mk (blk_below (g := gb158) (o := .cells #[.int .i64 ((rd_T37 y153 x25_2).f0), .int .i64 ((rd_T37 y153 x25_2).f1), .int .i64 ((rd_T37 y153 x25_2).f2), .int .i64 ((rd_T37 y153 x25_2).f3), .int .i64 ((rd_T37 y153 x25_2).f4), .slice A157_5 ((rd_T37 y153 x25_2).f5).length c157_5] 37 (0, 0)) (by (with_reducible repeat (first | refine blk_drewN ?_ _ | refine blk_drew ?_ | refine blk_alloc ?_ _)); refine blk_put (cs := #[.int .i64 ((rd_T37 y153 x25_2).f0), .int .i64 ((rd_T37 y153 x25_2).f1), .int .i64 ((rd_T37 y153 x25_2).f2), .int .i64 ((rd_T37 y153 x25_2).f3), .int .i64 ((rd_T37 y153 x25_2).f4), .slice none 0 0]) ?_ 5 _ rfl; (with_reducible repeat (first | refine blk_drewN ?_ _ | refine blk_drew ?_ | refine blk_alloc ?_ _)); refine blk_put (cs := #[.int .i64 ((rd_T37 y153 x25_2).f0), .int .i64 ((rd_T37 y153 x25_2).f1), .int .i64 ((rd_T37 y153 x25_2).f2), .int .i64 ((rd_T37 y153 x25_2).f3), .int .i64 0, .slice none 0 0]) ?_ 4 _ rfl; (with_reducible repeat (first | refine blk_drewN ?_ _ | refine blk_drew ?_ | refine blk_alloc ?_ _)); refine blk_put (cs := #[.int .i64 ((rd_T37 y153 x25_2).f0), .int .i64 ((rd_T37 y153 x25_2).f1), .int .i64 ((rd_T37 y153 x25_2).f2), .int .i64 0, .int .i64 0, .slice none 0 0]) ?_ 3 _ rfl; (with_reducible repeat (first | refine blk_drewN ?_ _ | refine blk_drew ?_ | refine blk_alloc ?_ _)); refine blk_put (cs := #[.int .i64 ((rd_T37 y153 x25_2).f0), .int .i64 ((rd_T37 y153 x25_2).f1), .int .i64 0, .int .i64 0, .int .i64 0, .slice none 0 0]) ?_ 2 _ rfl; (with_reducible repeat (first | refine blk_drewN ?_ _ | refine blk_drew ?_ | refine blk_alloc ?_ _)); refine blk_put (cs := #[.int .i64 ((rd_T37 y153 x25_2).f0), .int .i64 0, .int .i64 0, .int .i64 0, .int .i64 0, .slice none 0 0]) ?_ 1 _ rfl; (with_reducible repeat (first | refine blk_drewN ?_ _ | refine blk_drew ?_ | refine blk_alloc ?_ _)); refine blk_put (cs := #[.int .i64 0, .int .i64 0, .int .i64 0, .int .i64 0, .int .i64 0, .slice none 0 0]) ?_ 0 _ rfl; (with_reducible repeat (first | refine blk_drewN ?_ _ | refine blk_drew ?_ | refine blk_alloc ?_ _)); exact BK158.out) hb); have n3_ := Aside0.mk (below_step (by repeat (first | (with_reducible first | exact HB.out | apply below_alloc | apply pw_below_drewN | apply below_drew1 | refine below_set ?_ GE152.out | refine below_set ?_ GE158.out) | exact HB.out)) hb); clear HO_3; clear BK152; clear BK158; clear HB; have HO_3 := n0_; have BK152 := n1_; have BK158 := n2_; have HB := n3_; clear n0_ n1_ n2_ n3_; (try clear hb); (try clear hb2); (try clear hk); (try clear hi)))
                                go_roundg k2
                                case measure => have := HK1.out; have := HK2.out; omega
                                case rel => exact ⟨(x3_2), (wrap64 (x25_2 + 1)), (by first | rfl | (simp; done) | (simp [*]; done)), H', ⟨by have := HK1.out; have := HK2.out; omega⟩, ⟨by (with_reducible repeat (first | apply Kd.S_alloc | apply Kd.S_drewN | apply Kd.S_drew)); exact HO_3.out⟩, ⟨by (with_reducible repeat (first | refine blk_drewN ?_ _ | refine blk_drew ?_ | refine blk_alloc ?_ _)); exact BK152.out⟩, ⟨by repeat (first | (with_reducible first | exact HB.out | apply below_alloc | apply pw_below_drewN | apply below_drew1 | refine below_set ?_ GE152.out | refine below_set ?_ GE158.out) | exact HB.out)⟩⟩
                            · rw [if_neg c18] at H
                              exact absurd H (by simp)
                          · rw [if_neg c17] at H
                            exact absurd H (by simp)
                        · rw [if_neg c16] at H
                          have c16b0 : decide (x25_2 < (y153.length : Int)) = false := decide_eq_false c16
                          clear c16
                          have H' := Aside0.mk H
                          clear H
                          go_wp2
                          go_roundg k2
                          case measure => have := HK1.out; have := HK2.out; omega
                          case rel => exact ⟨(x3_2), (wrap64 (x16_1 + 1)), (by first | rfl | (simp; done) | (simp [*]; done)), H', ⟨by have := HK1.out; have := HK2.out; omega⟩, ⟨by (with_reducible repeat (first | apply Kd.S_alloc | apply Kd.S_drewN | apply Kd.S_drew)); exact HO_3.out⟩, ⟨by repeat (first | (with_reducible first | exact HB.out | apply below_alloc | apply pw_below_drewN | apply below_drew1 | refine below_set ?_ GE152.out) | exact HB.out)⟩⟩
                  · rw [if_neg c11] at H
                    exact absurd H (by simp)
                · rw [if_neg c9] at H
                  exact absurd H (by simp)
              · rw [if_neg c8] at H
                exact absurd H (by simp)
            · rw [if_neg c7] at H
              have c7b0 : decide (x16_1 < (l0.length : Int)) = false := decide_eq_false c7
              clear c7
              obtain rfl := Option.some.inj H
              go_wp2
              go_ret
              exact ⟨_, by first | rfl | (simp [errW_none, errW_some] <;> rfl) | (simp [*, errW_none, errW_some] <;> rfl), by (with_reducible repeat (first | apply Kd.S_alloc | apply Kd.S_drewN | apply Kd.S_drew)); exact HO_3.out, by repeat (first | (with_reducible first | exact HB.out | apply below_alloc | apply pw_below_drewN | apply below_drew1) | exact HB.out)⟩
      · rw [if_neg c4] at H
        exact absurd H (by simp)
    · rw [if_neg c3] at H
      exact absurd H (by simp)

end Go.Proofs.Ytphmlkbmnmicpaa.A

/- sched.Deps and what it calls: what they answer, over plain lists. -/
namespace Go.Proofs.Ytphmlkbmnmicpaa.A
open Go.RowKit Go.Proofs.YtphmlkbmnmicpaaW.PrintWords Go.Proofs.YtphmlkbmnmicpaaW.PrintLast
set_option linter.unusedVariables false
set_option linter.unusedSimpArgs false

theorem index_ev (xs : List Int) (x : Int) (hb : xs.length ≤ 9223372036854775806) : ∀ (d k i : Nat), i ≤ xs.length → xs.length - i = d → d < k → (∀ j, j < i → xs.getD j 0 ≠ x) →
    ∃ r, slices_Index_int_int.l0 k xs x (xs.length : Int) (i : Int) = some r ∧ decide (r ≥ 0) = decide (x ∈ xs) := by
  intro d
  induction d with
  | zero =>
    intro k i hi hd hk hj
    obtain ⟨k, rfl⟩ : ∃ m, k = m + 1 := ⟨k - 1, by omega⟩
    refine ⟨-1, by simp only [slices_Index_int_int.l0]; rw [if_neg (by omega)], ?_⟩
    have : x ∉ xs := by
      intro hm
      obtain ⟨j, hj2, e⟩ := List.getElem_of_mem hm
      exact hj j (by omega) (by simp [List.getD_eq_getElem?_getD, hj2, e])
    simp [this]
  | succ d ih =>
    intro k i hi hd hk hj
    obtain ⟨k, rfl⟩ : ∃ m, k = m + 1 := ⟨k - 1, by omega⟩
    have hlt : i < xs.length := by omega
    by_cases e : x = rd xs (i : Int)
    · refine ⟨(i : Int), ?_, ?_⟩
      · simp only [slices_Index_int_int.l0]
        rw [if_pos (by omega), if_pos (by omega), if_pos (by omega), if_pos e]
      · have hm : x ∈ xs := by
          rw [e]; unfold rd
          simp only [Int.toNat_natCast, List.getD_eq_getElem?_getD, List.getElem?_eq_getElem hlt, Option.getD_some]
          exact List.getElem_mem hlt
        simp [hm]
    · obtain ⟨r, h1, h2⟩ := ih k (i + 1) (by omega) (by omega) (by omega) (fun j hj2 => by
        by_cases hji : j = i
        · subst hji; intro h; apply e; rw [← h]; simp [rd]
        · exact hj j (by omega))
      refine ⟨r, ?_, h2⟩
      simp only [slices_Index_int_int.l0]
      rw [if_pos (by omega), if_pos (by omega), if_pos (by omega), if_neg e, show wrap64 ((i : Int) + 1) = ((i + 1 : Nat) : Int) from by unfold wrap64; omega]
      exact h1

theorem contains_ev (xs : List Int) (x : Int) (hb : xs.length ≤ 9223372036854775806) (k : Nat) (hk : xs.length < k) : slices_Contains_int_int.f k xs x = some (decide (x ∈ xs)) := by
  obtain ⟨r, h1, h2⟩ := index_ev xs x hb xs.length k 0 (Nat.zero_le _) rfl hk (fun j hj => absurd hj (Nat.not_lt_zero _))
  unfold slices_Contains_int_int.f slices_Index_int_int.f
  rw [show ((0 : Nat) : Int) = 0 from rfl] at h1
  rw [h1]
  simp only [Option.bind_some, h2]

/-- dst, a, b, imm, and whether the Kind is one -/
def shapeOf (kind : Int) : Bool × Bool × Bool × Bool × Bool :=
  if kind = 1 ∨ kind = 6 ∨ kind = 7 then (true, false, false, true, true) else if kind = 2 then (true, true, true, true, true) else if kind = 3 then (true, true, false, false, true) else
  if kind = 4 then (true, true, false, true, true) else if kind = 5 then (false, true, true, true, true) else if kind = 8 then (true, false, false, false, true) else
  if kind = 9 then (false, true, false, false, true) else (false, false, false, false, false)
def setsOf (x : S37) : Int := if (shapeOf x.f0).1 then x.f1 else 0
def pureOf (x : S37) : Bool := decide (x.f0 = 1) || decide (x.f0 = 3) || (decide (x.f0 = 2) && !(decide (x.f4 ∈ [4, 5, 9, 10])))
def usesOf (x : S37) : List Int :=
  (if (shapeOf x.f0).2.1 then [x.f2] else []) ++ (if (shapeOf x.f0).2.2.1 then [x.f3] else []) ++ (if x.f0 = 7 then x.f5 else [])
def readsOf (x : S37) (r : Int) : Bool := decide (r ≠ 0) && decide (r ∈ usesOf x)
def afterOf (b a : S37) : Bool := (!(pureOf a) && !(pureOf b)) || (decide (setsOf a ≠ 0) && decide (setsOf a = setsOf b)) || readsOf b (setsOf a) || readsOf a (setsOf b)

theorem shapeOf_ev (kind : Int) (k : Nat) (hk : 1 ≤ k) : code_shapeOf.f k kind = some (shapeOf kind) := by
  obtain ⟨k, rfl⟩ : ∃ m, k = m + 1 := ⟨k - 1, by omega⟩
  unfold code_shapeOf.f shapeOf
  by_cases h1 : kind = 1
  · subst h1; rfl
  by_cases h6 : kind = 6
  · subst h6; rfl
  by_cases h7 : kind = 7
  · subst h7; rfl
  have hb : (kind == 7) = false := by simpa using h7
  rw [if_neg h1, if_neg h6, hb]
  simp only [code_shapeOf.j0]
  by_cases h2 : kind = 2
  · subst h2; rfl
  by_cases h3 : kind = 3
  · subst h3; rfl
  by_cases h4 : kind = 4
  · subst h4; rfl
  by_cases h5 : kind = 5
  · subst h5; rfl
  by_cases h8 : kind = 8
  · subst h8; rfl
  by_cases h9 : kind = 9
  · subst h9; rfl
  simp [h1, h2, h3, h4, h5, h6, h7, h8, h9]

theorem sets_ev (x : S37) (k : Nat) (hk : 1 ≤ k) : code_Sets.f k x.f0 x.f1 x.f2 x.f3 x.f4 x.f5 = some (setsOf x) := by
  unfold code_Sets.f setsOf
  rw [shapeOf_ev _ _ hk]
  simp only [Option.bind_some]
  split <;> rfl

theorem pure_ev (x : S37) (k : Nat) (hk : 6 ≤ k) : code_Pure.f k x.f0 x.f1 x.f2 x.f3 x.f4 x.f5 = some (pureOf x) := by
  obtain ⟨k, rfl⟩ : ∃ m, k = m + 1 := ⟨k - 1, by omega⟩
  unfold code_Pure.f pureOf
  by_cases h1 : x.f0 = 1
  · rw [if_pos h1]
    simp only [code_Pure.j0]
    rw [if_pos (by simp [h1])]
    simp [h1]
  · rw [if_neg h1]
    simp only [code_Pure.j0]
    by_cases h3 : x.f0 = 3
    · rw [if_pos (by simp [h3])]
      simp [h3]
    · rw [if_neg (by simp [h3])]
      by_cases h2 : x.f0 = 2
      · rw [if_pos h2, contains_ev _ _ (by simp) _ (by simp; omega)]
        simp [h2]
      · rw [if_neg h2]
        simp [h1, h2, h3]

theorem uses_ev (x : S37) (hx : x.f5.length ≤ 1000) (k : Nat) (hk : 4 ≤ k) : code_Uses.f k x.f0 x.f1 x.f2 x.f3 x.f4 x.f5 = some (usesOf x) := by
  obtain ⟨k, rfl⟩ : ∃ m, k = m + 3 := ⟨k - 3, by omega⟩
  unfold code_Uses.f usesOf
  rw [shapeOf_ev _ _ (by omega)]
  simp only [Option.bind_some]
  have hs : shapeOf x.f0 = ((shapeOf x.f0).1, (shapeOf x.f0).2.1, (shapeOf x.f0).2.2.1, (shapeOf x.f0).2.2.2.1, (shapeOf x.f0).2.2.2.2) := rfl
  have hi : (shapeOf x.f0).2.2.2.2 = false → (shapeOf x.f0).2.1 = false ∧ (shapeOf x.f0).2.2.1 = false := by
    unfold shapeOf
    repeat' (split <;> try simp)
  generalize (shapeOf x.f0).2.2.2.2 = b4 at *
  generalize (shapeOf x.f0).2.2.2.1 = b3 at *
  generalize (shapeOf x.f0).2.2.1 = b2 at *
  generalize (shapeOf x.f0).2.1 = b1 at *
  clear hs
  cases b4
  · obtain ⟨rfl, rfl⟩ := hi rfl
    simp only [code_Uses.j0, code_Uses.j1, code_Uses.j2, Bool.false_eq_true, if_false]
    by_cases h7 : x.f0 = 7
    · rw [if_pos h7, if_pos (by simp; omega), if_pos h7]; simp
    · rw [if_neg h7, if_neg h7]; simp
  · cases b1 <;> cases b2 <;> simp only [code_Uses.j0, code_Uses.j1, code_Uses.j2, Bool.false_eq_true, if_false, if_true, Option.bind_some] <;> by_cases h7 : x.f0 = 7 <;> simp [h7] <;> omega

theorem usesOf_length (x : S37) : (usesOf x).length ≤ x.f5.length + 2 := by
  unfold usesOf
  simp only [List.length_append]
  repeat' split
  all_goals simp <;> omega

theorem reads_ev (x : S37) (hx : x.f5.length ≤ 1000) (r : Int) (k : Nat) (hk : 1010 ≤ k) : sched_reads.f k x.f0 x.f1 x.f2 x.f3 x.f4 x.f5 r = some (readsOf x r) := by
  have hu := usesOf_length x
  unfold sched_reads.f readsOf
  by_cases h0 : r = 0
  · rw [if_pos h0]; simp [h0]
  · rw [if_neg h0, uses_ev x hx k (by omega)]
    simp only [Option.bind_some]
    rw [contains_ev _ _ (by omega) k (by omega)]
    simp [h0]

theorem after_ev (b a : S37) (hb : b.f5.length ≤ 1000) (ha : a.f5.length ≤ 1000) (k : Nat) (hk : 1012 ≤ k) : sched_after.f k b.f0 b.f1 b.f2 b.f3 b.f4 b.f5 a.f0 a.f1 a.f2 a.f3 a.f4 a.f5 = some (afterOf b a) := by
  unfold sched_after.f afterOf
  rw [sets_ev a k (by omega), sets_ev b k (by omega), pure_ev a k (by omega), pure_ev b k (by omega)]
  simp only [Option.bind_some]
  obtain ⟨k, rfl⟩ : ∃ m, k = m + 2 := ⟨k - 2, by omega⟩
  generalize pureOf a = pa
  generalize pureOf b = pb
  have tail : ∀ (x20 : Bool), sched_after.j1 (k + 1) (setsOf a) (setsOf b) x20 b.f0 b.f1 b.f2 b.f3 b.f4 b.f5 a.f0 a.f1 a.f2 a.f3 a.f4 a.f5 = some (x20 || readsOf b (setsOf a) || readsOf a (setsOf b)) := by
    intro x20
    simp only [sched_after.j1]
    cases x20
    · rw [if_neg (by simp), reads_ev b hb _ k (by omega)]
      simp only [Option.bind_some]
      cases readsOf b (setsOf a)
      · rw [if_neg (by simp), reads_ev a ha _ k (by omega)]; simp
      · rw [if_pos rfl]; simp
    · rw [if_pos rfl]; simp
  have mid : ∀ (x11 : Bool), sched_after.j0 (k + 2) (setsOf a) (setsOf b) x11 b.f0 b.f1 b.f2 b.f3 b.f4 b.f5 a.f0 a.f1 a.f2 a.f3 a.f4 a.f5 = some (x11 || (decide (setsOf a ≠ 0) && decide (setsOf a = setsOf b)) || readsOf b (setsOf a) || readsOf a (setsOf b)) := by
    intro x11
    simp only [sched_after.j0]
    cases x11
    · rw [if_neg (by simp)]
      by_cases h0 : setsOf a = 0
      · rw [if_pos h0, tail]; simp [h0]
      · rw [if_neg h0, tail, show (setsOf a == setsOf b) = decide (setsOf a = setsOf b) from rfl]; simp [h0]
    · rw [if_pos rfl]; simp
  cases pa
  · rw [if_neg (by simp), mid]; simp
  · rw [if_pos rfl, mid]; simp

/-! the loops of Deps -/
def mkL {α : Type} (n : Nat) (f : Nat → α) : List α := (List.range n).map f
theorem mkL_length {α : Type} (n : Nat) (f : Nat → α) : (mkL n f).length = n := by simp [mkL]
theorem mkL_set {α : Type} (n : Nat) (f : Nat → α) (i : Nat) (v : α) : (mkL n f).set i v = mkL n (fun m => if m = i then v else f m) := by
  apply List.ext_getElem
  · simp [mkL]
  · intro m h1 h2
    simp only [mkL, List.getElem_set, List.getElem_map, List.getElem_range]
    by_cases h : m = i
    · subst h; simp
    · simp [h, Ne.symm h]
theorem mkL_get {α : Type} (n : Nat) (f : Nat → α) (i : Nat) (hi : i < n) (z : α) : (mkL n f).getD i z = f i := by simp [mkL, hi, List.getD_eq_getElem?_getD]
theorem mkL_congr {α : Type} (n : Nat) (f g : Nat → α) (h : ∀ i, i < n → f i = g i) : mkL n f = mkL n g := by
  unfold mkL
  exact List.map_congr_left (fun i hi => h i (List.mem_range.1 hi))

def partOf (l : List S37) (i j : Nat) : List Int := ((List.range j).filter fun k => afterOf (l.getD i z37) (l.getD k z37)).map fun k : Nat => (k : Int)
def depsOf (l : List S37) : List (List Int) := mkL l.length fun i => partOf l i i

theorem partOf_succ (l : List S37) (i j : Nat) : partOf l i (j + 1) = if afterOf (l.getD i z37) (l.getD j z37) then partOf l i j ++ [(j : Int)] else partOf l i j := by
  unfold partOf
  rw [List.range_succ, List.filter_append, List.map_append]
  by_cases h : afterOf (l.getD i z37) (l.getD j z37) = true
  · rw [if_pos h, List.filter_cons, if_pos h]; rfl
  · rw [if_neg h, List.filter_cons, if_neg h]; simp
theorem partOf_length (l : List S37) (i j : Nat) : (partOf l i j).length ≤ j := by
  unfold partOf
  rw [List.length_map]
  exact Nat.le_trans (List.length_filter_le _ _) (by simp)

theorem deps_inner (l : List S37) (hl : l.length ≤ 4096) (hs : ∀ x ∈ l, x.f5.length ≤ 1000) (i : Nat) (hi : i < l.length) (base : Nat → List Int) (r : List (List Int))
    (hE : Ev (fun k => sched_Deps.l0 k l (mkL l.length fun m => if m = i then partOf l i i else base m) l (l.length : Int) ((i + 1 : Nat) : Int)) r) :
    ∀ (d j : Nat), j ≤ i → i - j = d → Ev (fun k => sched_Deps.l1 k l (mkL l.length fun m => if m = i then partOf l i j else base m) (i : Int) l (l.length : Int) (i : Int) (l.take i) (i : Int) (j : Int)
      (l.getD i z37).f0 (l.getD i z37).f1 (l.getD i z37).f2 (l.getD i z37).f3 (l.getD i z37).f4 (l.getD i z37).f5) r := by
  intro d
  induction d with
  | zero =>
    intro j hj hd
    obtain rfl : j = i := by omega
    obtain ⟨K, hK⟩ := hE
    refine ⟨K + 1, fun k hk => ?_⟩
    obtain ⟨k, rfl⟩ : ∃ m, k = m + 1 := ⟨k - 1, by omega⟩
    simp only [sched_Deps.l1]
    rw [if_neg (by omega), show wrap64 ((j : Int) + 1) = ((j + 1 : Nat) : Int) from by unfold wrap64; omega]
    exact hK k (by omega)
  | succ d ih =>
    intro j hj hd
    obtain ⟨K, hK⟩ := ih (j + 1) (by omega) (by omega)
    refine ⟨max K 1012 + 1, fun k hk => ?_⟩
    obtain ⟨k, rfl⟩ : ∃ m, k = m + 1 := ⟨k - 1, by omega⟩
    have hm : ∀ m, m < l.length → (l.getD m z37).f5.length ≤ 1000 := fun m hm => hs _ (by rw [List.getD_eq_getElem?_getD, List.getElem?_eq_getElem hm]; exact List.getElem_mem hm)
    have hrd : rd_T37 (l.take i) (j : Int) = l.getD j z37 := by
      unfold rd_T37
      simp only [Int.toNat_natCast, List.getD_eq_getElem?_getD, List.getElem?_take]
      rw [if_pos (by omega)]
    have hK' := hK k (by omega)
    rw [partOf_succ] at hK'
    simp only [sched_Deps.l1]
    rw [if_pos (by omega), if_pos (by omega), if_pos (by rw [List.length_take]; omega), hrd, after_ev _ _ (hm i hi) (hm j (by omega)) k (by omega)]
    simp only [Option.bind_some]
    cases ha : afterOf (l.getD i z37) (l.getD j z37) with
    | false =>
      rw [if_neg (by simp), show wrap64 ((j : Int) + 1) = ((j + 1 : Nat) : Int) from by unfold wrap64; omega]
      rw [ha] at hK'
      simpa using hK'
    | true =>
      rw [ha] at hK'
      have hg : rd_L1 (mkL l.length fun m => if m = i then partOf l i j else base m) (i : Int) = partOf l i j := by
        unfold rd_L1
        rw [Int.toNat_natCast, mkL_get _ _ _ hi]
        simp
      have hpl := partOf_length l i j
      rw [if_pos rfl, if_pos (by omega), if_pos (by rw [mkL_length]; omega), hg, if_pos (by omega), show wrap64 ((j : Int) + 1) = ((j + 1 : Nat) : Int) from by unfold wrap64; omega, Int.toNat_natCast, mkL_set]
      rw [show (fun m => if m = i then partOf l i j ++ [(j : Int)] else if m = i then partOf l i j else base m) = (fun m => if m = i then (if true then partOf l i j ++ [(j : Int)] else partOf l i j) else base m) from by
        funext m; by_cases h : m = i <;> simp [h]]
      exact hK'

theorem deps_outer (l : List S37) (hl : l.length ≤ 4096) (hs : ∀ x ∈ l, x.f5.length ≤ 1000) :
    ∀ (d i : Nat), i ≤ l.length → l.length - i = d → Ev (fun k => sched_Deps.l0 k l (mkL l.length fun m => if m < i then partOf l m m else []) l (l.length : Int) (i : Int)) (depsOf l) := by
  intro d
  induction d with
  | zero =>
    intro i hi hd
    obtain rfl : i = l.length := by omega
    refine ⟨1, fun k hk => ?_⟩
    obtain ⟨k, rfl⟩ : ∃ m, k = m + 1 := ⟨k - 1, by omega⟩
    simp only [sched_Deps.l0]
    rw [if_neg (by omega)]
    congr 1
    exact mkL_congr _ _ _ (fun i hi => by rw [if_pos hi])
  | succ d ih =>
    intro i hi hd
    have hlt : i < l.length := by omega
    have h1 := ih (i + 1) (by omega) (by omega)
    have h2 := deps_inner l hl hs i hlt (fun m => if m < i then partOf l m m else []) (depsOf l) (by
      refine Ev.congr (fun k => ?_) h1
      congr 1
      refine mkL_congr _ _ _ (fun m hm => ?_)
      by_cases h : m = i
      · subst h; simp
      · by_cases h' : m < i
        · rw [if_neg h, if_pos h', if_pos (by omega)]
        · rw [if_neg h, if_neg h', if_neg (by omega)]) i 0 (Nat.zero_le _) rfl
    obtain ⟨K, hK⟩ := h2
    refine ⟨K + 1, fun k hk => ?_⟩
    obtain ⟨k, rfl⟩ : ∃ m, k = m + 1 := ⟨k - 1, by omega⟩
    have hK' := hK k (by omega)
    simp only [sched_Deps.l0]
    rw [if_pos (by omega), if_pos (by omega), if_pos (by omega), if_pos (by omega)]
    simp only [Option.bind_some, Int.toNat_natCast]
    rw [show (((l.take i).length : Nat) : Int) = (i : Int) from by rw [List.length_take]; omega]
    have hrd : rd_T37 l (i : Int) = l.getD i z37 := by unfold rd_T37; simp
    rw [hrd]
    rw [show (mkL l.length fun m => if m < i then partOf l m m else []) = (mkL l.length fun m => if m = i then partOf l i 0 else if m < i then partOf l m m else []) from mkL_congr _ _ _ (fun m hm => by
      by_cases h : m = i
      · subst h; simp [partOf]
      · simp [h])]
    exact hK'

theorem deps_ev (l : List S37) (hl : l.length ≤ 4096) (hs : ∀ x ∈ l, x.f5.length ≤ 1000) : Ev (fun k => sched_Deps.f k l) (depsOf l) := by
  obtain ⟨K, hK⟩ := deps_outer l hl hs l.length 0 (Nat.zero_le _) rfl
  refine ⟨K, fun k hk => ?_⟩
  have hK' := hK k hk
  show sched_Deps.f k l = _
  unfold sched_Deps.f
  rw [if_neg (by omega), if_pos (by omega), if_pos (by simp; omega)]
  rw [show (List.replicate ((l.length : Int) : Int).toNat ([] : List Int)) = (mkL l.length fun m => if m < 0 then partOf l m m else []) from by
    apply List.ext_getElem
    · simp [mkL]
    · intro i h1 h2; simp [mkL]]
  exact hK'

theorem deps_calls (l : List S37) (hl : l.length ≤ 4096) (hs : ∀ x ∈ l, x.f5.length ≤ 1000) (A : Option Addr) (c : Nat) (w : World) (hr : Kd.C k37 w A l.length l) (hc : l.length ≤ c) :
    Calls Try.prog 17 #[.slice A l.length c] w fun e w' => ∃ v : Value, e = .returned v ∧ Kd.S (Kd.slice 3 (Kd.int .i64)) 23 w' w.heap.size (fun _ => True) v (depsOf l) ∧ Below w.heap.size w w' := by
  obtain ⟨k, hk⟩ := (deps_ev l hl hs).rounds
  exact sched_Deps.calls k A c l _ w hr hc hk
theorem depsOf_length (l : List S37) : (depsOf l).length = l.length := mkL_length _ _
theorem depsOf_row (l : List S37) (i : Nat) (hi : i < l.length) : rd_L1 (depsOf l) (i : Int) = partOf l i i := by
  unfold rd_L1 depsOf
  rw [Int.toNat_natCast, mkL_get _ _ _ hi]
theorem partOf_mem (l : List S37) (i j : Nat) (k : Int) : k ∈ partOf l i j ↔ ∃ m : Nat, k = m ∧ m < j ∧ afterOf (l.getD i z37) (l.getD m z37) = true := by
  unfold partOf
  simp only [List.mem_map, List.mem_filter, List.mem_range]
  constructor
  · rintro ⟨m, ⟨h1, h2⟩, rfl⟩; exact ⟨m, rfl, h1, h2⟩
  · rintro ⟨m, rfl, h1, h2⟩; exact ⟨m, ⟨h1, h2⟩, rfl⟩
#print axioms deps_calls
end Go.Proofs.Ytphmlkbmnmicpaa.A

/- sched.Order: what it answers. -/
namespace Go.Proofs.Ytphmlkbmnmicpaa.A
open Go.RowKit Go.Proofs.YtphmlkbmnmicpaaW.PrintWords Go.Proofs.YtphmlkbmnmicpaaW.PrintLast Go.Shelf
set_option linter.unusedVariables false
set_option linter.unusedSimpArgs false

theorem info4 : (Try.prog.info? 4).map (fun i => (i.zero, i.size, i.bytes)) = some (some (.bool false), 1, 1) := by kernel_rfl

def ordStep (h : List Int) (d : List (List Int)) (s : List Bool × List Int) : List Bool × List Int :=
  (s.1.set (bestUpto h (readyB s.1 d) d.length).toNat true, s.2 ++ [bestUpto h (readyB s.1 d) d.length])
def ordN (h : List Int) (d : List (List Int)) : Nat → List Bool × List Int
  | 0 => (List.replicate d.length false, [])
  | m + 1 => ordStep h d (ordN h d m)
theorem ordN_len (h : List Int) (d : List (List Int)) (m : Nat) : (ordN h d m).1.length = d.length ∧ (ordN h d m).2.length = m := by
  induction m with
  | zero => simp [ordN]
  | succ m ih => simp [ordN, ordStep, ih]

theorem made_bools (n : Nat) : madeCells #[Value.bool false] n = (bools (List.replicate n false)).toArray := by
  apply Array.ext
  · simp [madeCells, bools]
  · intro i h1 h2
    simp [madeCells, bools, Nat.mod_one]
theorem bools_set (ps : List Bool) (i : Nat) (v : Bool) : (bools ps).toArray.setIfInBounds i (.bool v) = (bools (ps.set i v)).toArray := by
  simp [bools, List.map_set]

/-- what lies in memory between two rounds of Order -/
structure LI (w : World) (B0 Bp g Bd : Nat) (A1 Ah : Option Addr) (c1 ch n : Nat) (h : List Int) (d : List (List Int)) (s : List Bool × List Int) (vo : Value) (W : World) : Prop where
  bp : Boxed W Bp 53 (.slice (some ⟨g, 0, none⟩) n n)
  row : W.heap[g]? = some (.cells (bools s.1).toArray 4 (0, 0))
  bd : Boxed W Bd 40 (.slice A1 n c1)
  hD : Kd.R (Kd.slice 3 (Kd.int .i64)) 23 W w.heap.size (fun k => k < B0 ∧ k ≠ g) (.slice A1 n c1) d
  hH : Kd.R (Kd.int .i64) 3 W w.heap.size (fun k => k < B0 ∧ k ≠ g) (.slice Ah n ch) h
  hO : W.ownsRow B0 3 1 vo s.2.length (nums .i64 s.2)
  hB : Below w.heap.size w W
  size : B0 ≤ W.heap.size
  lt : g < B0 ∧ Bp < B0 ∧ Bd < B0 ∧ w.heap.size ≤ g ∧ g ≠ Bp ∧ g ≠ Bd

theorem LI.drewN {w : World} {B0 Bp g Bd : Nat} {A1 Ah : Option Addr} {c1 ch n : Nat} {h : List Int} {d : List (List Int)} {s : List Bool × List Int} {vo : Value} {W : World}
    (L : LI w B0 Bp g Bd A1 Ah c1 ch n h d s vo W) (q : Nat) : LI w B0 Bp g Bd A1 Ah c1 ch n h d s vo (W.drewN q) :=
  ⟨L.bp, L.row, L.bd, Kd.R_drewN L.hD q, Kd.R_drewN L.hH q, pw_own_below L.hO (pw_below_drewN (Below.refl _ _) q), pw_below_drewN L.hB q, L.size, L.lt⟩

theorem LI.oi {w : World} {B0 Bp g Bd : Nat} {A1 Ah : Option Addr} {c1 ch n : Nat} {h : List Int} {d : List (List Int)} {s : List Bool × List Int} {vo : Value} {W : World}
    (L : LI w B0 Bp g Bd A1 Ah c1 ch n h d s vo W) (hs : s.1.length = n) : OI Bp g Bd A1 c1 n s.1 d W := by
  obtain ⟨e, _, hc⟩ := Kd.R_reads' L.hD
  exact ⟨hs, e.symm, L.bp, L.row, L.bd, by rw [e]; exact hc⟩

theorem LI.set {w : World} {B0 Bp g Bd : Nat} {A1 Ah : Option Addr} {c1 ch n : Nat} {h : List Int} {d : List (List Int)} {s : List Bool × List Int} {vo : Value} {W : World}
    (L : LI w B0 Bp g Bd A1 Ah c1 ch n h d s vo W) (i : Nat) : LI w B0 Bp g Bd A1 Ah c1 ch n h d (s.1.set i true, s.2) vo (W.setCell ⟨g, i, none⟩ (.bool true)) := by
  obtain ⟨l1, l2, l3, l4, l5, l6⟩ := L.lt
  have hne : some g ≠ vo.ownBlock := own_ne L.hO L.row (by decide)
  refine ⟨blk_far L.bp (p := ⟨g, i, none⟩) (Ne.symm l5) _, ?_, blk_far L.bd (p := ⟨g, i, none⟩) (Ne.symm l6) _, Kd.R_far L.hD (p := ⟨g, i, none⟩) (fun k hk => hk.2) _, Kd.R_far L.hH (p := ⟨g, i, none⟩) (fun k hk => hk.2) _,
    own_setCell L.hO (p := ⟨g, i, none⟩) hne _, L.hB.setCell (p := ⟨g, i, none⟩) l4 _, by simpa using L.size, L.lt⟩
  have := blk_set L.row i (.bool true)
  rwa [bools_set] at this

theorem LI.grow {w : World} {B0 Bp g Bd : Nat} {A1 Ah : Option Addr} {c1 ch n : Nat} {h : List Int} {d : List (List Int)} {s : List Bool × List Int} {vo : Value} {W : World}
    (L : LI w B0 Bp g Bd A1 Ah c1 ch n h d s vo W) {v1 : Value} {w1 : World} {out : List Int} (hO : w1.ownsRow B0 3 1 v1 out.length (nums .i64 out)) (hg : W.grownBy w1 vo.ownBlock) :
    LI w B0 Bp g Bd A1 Ah c1 ch n h d (s.1, out) v1 w1 := by
  obtain ⟨l1, l2, l3, l4, l5, l6⟩ := L.lt
  have hb := own_base L.hO
  have hne : ∀ k, k < B0 → some k ≠ vo.ownBlock := fun k hk e => by have := hb k e.symm; omega
  exact ⟨blk_grown L.bp hg (hne _ l2), blk_grown L.row hg (hne _ l1), blk_grown L.bd hg (hne _ l3), Kd.R_grown L.hD hg (fun k hk => hne k hk.1), Kd.R_grown L.hH hg (fun k hk => hne k hk.1), hO,
    L.hB.grown hg L.hB.size (fun k e => by have := hb k e; have := L.lt; omega), Nat.le_trans L.size hg.size, L.lt⟩

set_option maxRecDepth 100000 in
set_option maxHeartbeats 2000000 in
theorem order_loop (l : List S37) (hlen : l.length ≤ 4096) (hs : ∀ x ∈ l, x.f5.length ≤ 1000) (A : Option Addr) (c : Nat) (w : World) (hr : Kd.C k37 w A l.length l) (hc : l.length ≤ c)
    (hgood : ∀ m, m < l.length → 0 ≤ bestUpto (hAll l (depsOf l) (down l.length 0)) (readyB (ordN (hAll l (depsOf l) (down l.length 0)) (depsOf l) m).1 (depsOf l)) l.length) :
    Calls Try.prog 22 #[.slice A l.length c] w fun e w' => ∃ v, e = .returned v ∧ Kd.R (Kd.int .i64) 3 w' w.heap.size (fun _ => True) v (ordN (hAll l (depsOf l) (down l.length 0)) (depsOf l) l.length).2 ∧ Below w.heap.size w w' := by
  have hdl := depsOf_length l
  have hrow : ∀ i, i < l.length → ∀ k ∈ rd_L1 (depsOf l) i, 0 ≤ k ∧ k < l.length := by
    intro i hi k hk
    rw [depsOf_row l i hi, partOf_mem] at hk
    obtain ⟨m, rfl, h1, _⟩ := hk
    omega
  have hha : ∀ (W : World) (A1 : Option Addr) (c1 : Nat), Below w.heap.size w W → Kd.C (Kd.slice 3 (Kd.int .i64)) W A1 l.length (depsOf l) → l.length ≤ c1 →
      Calls Try.prog 34 #[.slice A l.length c, .slice A1 l.length c1] W fun e w' => ∃ Ah ch, e = .returned (.slice Ah l.length ch) ∧ Kd.R (Kd.int .i64) 3 w' W.heap.size (fun _ => True) (.slice Ah l.length ch) (hAll l (depsOf l) (down l.length 0)) ∧ Below W.heap.size W w' := by
    intro W A1 c1 hb hd hc1
    have := heights_calls l (depsOf l) A A1 c c1 W (Kd.C_below hr hb) hc (by rw [hdl]; exact hd) (by rw [hdl]; exact hc1) (by omega) (by omega) (by rw [hdl]; exact hrow)
    rw [hdl] at this
    refine this.mono fun e w' ⟨v, he, hR, hB⟩ => ?_
    obtain ⟨Ah, ch, rfl, _, _⟩ := Kd.R_reads hR
    rw [hAll_length, hdl] at he hR
    exact ⟨Ah, ch, he, hR, hB⟩
  have hdc : Calls Try.prog 17 #[.slice A l.length c] w fun e w' => ∃ A1 c1, e = .returned (.slice A1 l.length c1) ∧ Kd.R (Kd.slice 3 (Kd.int .i64)) 23 w' w.heap.size (fun _ => True) (.slice A1 l.length c1) (depsOf l) ∧ Below w.heap.size w w' :=
    (deps_calls l hlen hs A c w hr hc).mono fun e w' ⟨v, he, hS, hB⟩ => by
      obtain ⟨A1, c1, rfl, _, _⟩ := Kd.S_reads hS
      rw [hdl] at he hS
      exact ⟨A1, c1, he, Kd.S_R hS, hB⟩
  have hal := hAll_length l (depsOf l) (down l.length 0)
  rw [hdl] at hal
  have hln := ordN_len (hAll l (depsOf l) (down l.length 0)) (depsOf l)
  have hss : ∀ m, ordN (hAll l (depsOf l) (down l.length 0)) (depsOf l) (m + 1) = ordStep (hAll l (depsOf l) (down l.length 0)) (depsOf l) (ordN (hAll l (depsOf l) (down l.length 0)) (depsOf l) m) := fun m => rfl
  have h00 : ordN (hAll l (depsOf l) (down l.length 0)) (depsOf l) 0 = (List.replicate l.length false, []) := by simp [ordN, hdl]
  unfold ordStep at hss
  rw [hdl] at hss hln
  generalize ordN (hAll l (depsOf l) (down l.length 0)) (depsOf l) = S at *
  generalize hAll l (depsOf l) (down l.length 0) = h at *
  generalize depsOf l = d at *
  have Hss := Aside0.mk hss
  have Hln := Aside0.mk hln
  have H00 := Aside0.mk h00
  have Hgood := Aside0.mk hgood
  have Hrow := Aside0.mk hrow
  have Hdl := Aside0.mk hdl
  have Hal := Aside0.mk hal
  have Hha := Aside0.mk hha
  clear hss hln h00 hgood hrow hdl hal hha
  have hmk := print_make_of (P := Try.prog) 53 4 (.bool false) 1 Try.underlying53 info4 rfl (by decide) l.length (by omega)
  go_enter Try.func22, Try.ntmps22
  go_wp2_with fail
  refine hdc.mono ?_
  rintro e w1 ⟨A1, c1, rfl, hS, hB1⟩
  have hc1 := (Kd.R_reads' hS).2.1
  go_wp2_with fail
  have hbd1 := Boxed.new w1 40 (.slice A1 l.length c1)
  have hS1 := Kd.R_alloc hS (.cells #[.slice A1 l.length c1] 40)
  have hB2 := below_alloc hB1 (.cells #[.slice A1 l.length c1] 40)
  have hbw := hB1.size
  generalize w1.heap.size = Bd at hbd1 hbw ⊢
  generalize w1.alloc (.cells #[.slice A1 l.length c1] 40) = W2 at hbd1 hS1 hB2 ⊢
  clear hS hB1
  have hC1 := (Kd.R_reads' hS1).2.2
  rw [Hdl.out] at hC1
  refine (Hha.out W2 A1 c1 hB2 hC1 hc1).mono ?_
  rintro e w3 ⟨Ah, ch, rfl, hH, hB3⟩
  have hB4 := below_then hB2 hB2.size hB3
  have hbd3 : Boxed w3 Bd 40 (.slice A1 l.length c1) := (hB3.block _ hbd1.lt).trans hbd1
  have hS3 := Kd.R_below hS1 hB3
  have hbl := hbd3.lt
  have hH3 := Kd.R_lower hH hB2.size
  clear hbd1 hS1 hC1 hH
  have hbc := hbd3.cell
  go_wp2_with fail
  have hL0 : LI w (w3.heap.size + 2) (w3.heap.size + 1) w3.heap.size Bd A1 Ah c1 ch l.length h d (S 0) (.slice none 0 0) ((w3.alloc (.cells (madeCells #[Value.bool false] l.length) 4)).alloc (.cells #[.slice (some ⟨w3.heap.size, 0, none⟩) l.length l.length] 53)) := by
    rw [H00.out]
    have b1 := World.alloc_heap_new w3 (.cells (madeCells #[Value.bool false] l.length) 4)
    have b2 := Boxed.new (w3.alloc (.cells (madeCells #[Value.bool false] l.length) 4)) 53 (.slice (some ⟨w3.heap.size, 0, none⟩) l.length l.length)
    rw [World.size_alloc] at b2
    have hsz := hB4.size
    refine ⟨b2, ?_, (hbd3.alloc _).alloc _, ?_, ?_, own_nil _ _ _ _, below_alloc (below_alloc hB4 _) _, by simp, by omega⟩
    · rw [← made_bools]
      exact blk_alloc b1 _
    · exact Kd.R_alloc (Kd.R_alloc (Kd.R_mono (Kd.R_bound hS3) (fun k hk => ⟨by omega, by omega⟩)) _) _
    · exact Kd.R_alloc (Kd.R_alloc (Kd.R_mono (Kd.R_bound hH3) (fun k hk => ⟨by omega, by omega⟩)) _) _
  clear hmk hS3 hH3 hbd3 hbc hB3 hdc hr
  have hL0' := Aside0.mk hL0
  clear hL0
  go_loopw [7, 20] (fun v s wr => ∃ m : Nat, m ≤ l.length ∧ s = .int .i64 m ∧ Aside0 (LI w (w3.heap.size + 2) (w3.heap.size + 1) w3.heap.size Bd A1 Ah c1 ch l.length h d (S m) v wr))
    (fun _ s _ => l.length - (intOf s).toNat)
  case atStart => exact ⟨0, Nat.zero_le _, rfl, hL0'⟩
  case round =>
    clear hL0'
    obtain ⟨m, hm, rfl, hL⟩ := hrel
    by_cases hlt : m < l.length
    · have hmn : (m : Int) < (l.length : Int) := by omega
      have hbest := best_calls (w3.heap.size + 1) w3.heap.size Bd A1 c1 l.length (S m).1 d wr (hL.out.oi (Hln.out m).1) Hrow.out h Ah ch (by
        have := (Kd.R_reads' hL.out.hH).2.2
        rw [Hal.out] at this
        exact this)
      have hb0 := Hgood.out m hlt
      have hb1 : bestUpto h (readyB (S m).1 d) l.length < (l.length : Int) := by
        have := (bestUpto_range h (readyB (S m).1 d) l.length).2
        split at this <;> omega
      have hS1 := Aside0.mk (Hss.out m)
      generalize bestUpto h (readyB (S m).1 d) l.length = b at hbest hb0 hb1 hS1
      have hSl := Aside0.mk (Hln.out m)
      generalize S m = sm at hL hS1 hSl
      go_wp2_with fail
      refine hbest.mono ?_
      rintro e w' ⟨rfl, q, rfl⟩
      have hL1 := hL.out.drewN q
      clear hbest hL
      generalize wr.drewN q = W1 at hL1 ⊢
      have k0 := hL1.bp.cell
      have k1 : W1.cell? ⟨w3.heap.size, b.toNat, none⟩ = some (.bool (sm.1.getD b.toNat false)) := (hL1.oi hSl.out.1).cell b.toNat (by omega)
      have k2 := blk_frozen hL1.row b.toNat
      have hL2 := Aside0.mk (hL1.set b.toNat)
      clear hL1
      have hsz2 := hL2.out.size
      have hln2 := hSl.out.2
      go_wp2_with (at_builtin; refine print_append_num (w0 := W1.setCell ⟨w3.heap.size, b.toNat, none⟩ (.bool true)) (W := W1.setCell ⟨w3.heap.size, b.toNat, none⟩ (.bool true)) (w3.heap.size + 2) rfl (.tmp 28) (.tmp 30) 23 3 .i64 8 rfl Try.underlying23 info3 (by decide) _ sm.2 b rfl (by simp [go_sem]) hL2.out.hO (Below.refl _ _) hsz2 (by omega) ?_; intro v1 w4 hO4 _ hg4 _)
      have hL3 := Aside0.mk (hL2.out.grow hO4 hg4)
      clear hL2 hO4 hg4 k0 k1 k2
      go_roundw
      case rel => exact ⟨m + 1, by omega, by go_num, by rw [hS1.out]; exact hL3⟩
      case measure => simp [intOf]; omega
    · obtain rfl : m = l.length := by omega
      have hO := hL.out.hO
      have hB := hL.out.hB
      go_wp2_with fail
      go_ret
      exact ⟨_, rfl, Kd.R_of_own (own_weaken hO (by have := hL.out.lt; have := hL.out.hB.size; omega)) (fun _ _ => trivial), hB⟩
#print axioms order_loop
end Go.Proofs.Ytphmlkbmnmicpaa.A

/- The order that sched.Order makes, over plain lists. -/
namespace Go.Proofs.Ytphmlkbmnmicpaa.A
open Go.RowKit Go.Proofs.YtphmlkbmnmicpaaW.PrintWords Go.Proofs.YtphmlkbmnmicpaaW.PrintLast Go.Shelf
set_option linter.unusedVariables false
set_option linter.unusedSimpArgs false

theorem bestUpto_spec (h : List Int) (rdy : Nat → Bool) (n : Nat) :
    (bestUpto h rdy n = -1 ∧ ∀ i, i < n → rdy i = false) ∨
    ∃ b : Nat, b < n ∧ bestUpto h rdy n = b ∧ rdy b = true ∧ (∀ i : Nat, i < n → rdy i = true → rd h i ≤ rd h b ∧ (i < b → rd h i < rd h b)) := by
  induction n with
  | zero => exact .inl ⟨by simp [bestUpto], fun i hi => by omega⟩
  | succ n ih =>
    rw [bestUpto_succ]
    unfold bestStep
    rcases ih with ⟨e, hn⟩ | ⟨b, hb, e, hr, hm⟩
    · rw [e]
      cases hrn : rdy n
      · refine .inl ⟨by simp, fun i hi => ?_⟩
        rcases Nat.lt_succ_iff_lt_or_eq.1 hi with h1 | rfl
        · exact hn i h1
        · exact hrn
      · refine .inr ⟨n, by omega, by simp, hrn, fun i hi hi2 => ?_⟩
        rcases Nat.lt_succ_iff_lt_or_eq.1 hi with h1 | rfl
        · rw [hn i h1] at hi2; cases hi2
        · exact ⟨Int.le_refl _, fun h => by omega⟩
    · rw [e]
      by_cases hc : (rdy n && (decide ((b : Int) < 0) || decide (rd h (b : Int) < rd h (n : Int)))) = true
      · rw [if_pos hc]
        simp only [Bool.and_eq_true, Bool.or_eq_true, decide_eq_true_eq] at hc
        obtain ⟨h1, h2⟩ := hc
        have h3 : rd h (b : Int) < rd h (n : Int) := by
          rcases h2 with h2 | h2
          · omega
          · exact h2
        refine .inr ⟨n, by omega, rfl, h1, fun i hi hi2 => ?_⟩
        rcases Nat.lt_succ_iff_lt_or_eq.1 hi with h4 | rfl
        · have := (hm i h4 hi2).1
          exact ⟨by omega, fun _ => by omega⟩
        · exact ⟨Int.le_refl _, fun h => by omega⟩
      · rw [if_neg hc]
        refine .inr ⟨b, by omega, rfl, hr, fun i hi hi2 => ?_⟩
        rcases Nat.lt_succ_iff_lt_or_eq.1 hi with h4 | rfl
        · exact hm i h4 hi2
        · simp only [Bool.and_eq_true, Bool.or_eq_true, decide_eq_true_eq, hi2, true_and, not_or] at hc
          exact ⟨by omega, fun h => by omega⟩

theorem least_false (ps : List Bool) (hc : ps.count true < ps.length) : ∃ i, i < ps.length ∧ ps.getD i false = false ∧ ∀ j, j < i → ps.getD j false = true := by
  induction ps with
  | nil => simp at hc
  | cons b ps ih =>
    cases b
    · exact ⟨0, by simp, by simp, fun j hj => by omega⟩
    · obtain ⟨i, h1, h2, h3⟩ := ih (by simpa using hc)
      refine ⟨i + 1, by simpa using h1, by simpa using h2, fun j hj => ?_⟩
      rcases j with _ | j
      · simp
      · simpa using h3 j (by omega)

theorem count_set_true (ps : List Bool) (i : Nat) (hi : i < ps.length) (h : ps.getD i false = false) : (ps.set i true).count true = ps.count true + 1 := by
  induction ps generalizing i with
  | nil => simp at hi
  | cons b ps ih =>
    rcases i with _ | i
    · simp only [List.getD_cons_zero] at h
      subst h
      simp
    · simp only [List.getD_cons_succ] at h
      have := ih i (by simpa using hi) h
      simp only [List.set_cons_succ, List.count_cons, this]
      omega

/-- rows lead back -/
def Back (d : List (List Int)) : Prop := ∀ i : Nat, i < d.length → ∀ k ∈ rd_L1 d i, ∃ m : Nat, k = (m : Int) ∧ m < i

theorem readyB_iff (ps : List Bool) (d : List (List Int)) (i : Nat) : readyB ps d i = true ↔ ps.getD i false = false ∧ ∀ k ∈ rd_L1 d i, ps.getD k.toNat false = true := by
  unfold readyB
  simp only [Bool.and_eq_true, Bool.not_eq_true', List.any_eq_false, Bool.not_eq_eq_eq_not, Bool.not_true, Bool.not_eq_false]

/-- what holds of the placed and the order, after each step -/
structure OS (d : List (List Int)) (m : Nat) (s : List Bool × List Int) : Prop where
  l1 : s.1.length = d.length
  l2 : s.2.length = m
  cnt : s.1.count true = m
  mem : ∀ i : Nat, i < d.length → (s.1.getD i false = true ↔ (i : Int) ∈ s.2)
  rng : ∀ k ∈ s.2, ∃ i : Nat, k = (i : Int) ∧ i < d.length

theorem OS.zero (h : List Int) (d : List (List Int)) : OS d 0 (ordN h d 0) := by
  refine ⟨by simp [ordN], by simp [ordN], by simp [ordN, List.count_replicate], fun i hi => ?_, fun k hk => by simp [ordN] at hk⟩
  simp [ordN, List.getD_eq_getElem?_getD, hi]

theorem OS.good {d : List (List Int)} {m : Nat} {s : List Bool × List Int} (hs : OS d m s) (hd : Back d) (hm : m < d.length) : ∃ i : Nat, i < d.length ∧ readyB s.1 d i = true := by
  obtain ⟨i, h1, h2, h3⟩ := least_false s.1 (by rw [hs.cnt, hs.l1]; exact hm)
  rw [hs.l1] at h1
  refine ⟨i, h1, (readyB_iff _ _ _).2 ⟨h2, fun k hk => ?_⟩⟩
  obtain ⟨m, rfl, hmi⟩ := hd i h1 k hk
  exact h3 m hmi

/-- the step that Order makes -/
structure Pick (h : List Int) (d : List (List Int)) (o : List Int) (b : Nat) : Prop where
  lt : b < d.length
  new : (b : Int) ∉ o
  row : ∀ k ∈ rd_L1 d b, k ∈ o
  top : ∀ i : Nat, i < d.length → (i : Int) ∉ o → (∀ k ∈ rd_L1 d i, k ∈ o) → rd h i ≤ rd h b ∧ (i < b → rd h i < rd h b)

theorem OS.ready_iff {d : List (List Int)} {m : Nat} {s : List Bool × List Int} (hs : OS d m s) (hd : Back d) (i : Nat) (hi : i < d.length) :
    readyB s.1 d i = true ↔ (i : Int) ∉ s.2 ∧ ∀ k ∈ rd_L1 d i, k ∈ s.2 := by
  rw [readyB_iff]
  have h1 : s.1.getD i false = false ↔ (i : Int) ∉ s.2 := by
    rw [← hs.mem i hi]; simp
  rw [h1]
  constructor
  · rintro ⟨h2, h3⟩
    refine ⟨h2, fun k hk => ?_⟩
    obtain ⟨m, rfl, hmi⟩ := hd i hi k hk
    exact (hs.mem m (by omega)).1 (h3 _ hk)
  · rintro ⟨h2, h3⟩
    refine ⟨h2, fun k hk => ?_⟩
    obtain ⟨m, rfl, hmi⟩ := hd i hi k hk
    exact (hs.mem m (by omega)).2 (h3 _ hk)

theorem OS.pick {h : List Int} {d : List (List Int)} {m : Nat} {s : List Bool × List Int} (hs : OS d m s) (hd : Back d) (hm : m < d.length) :
    ∃ b : Nat, bestUpto h (readyB s.1 d) d.length = b ∧ Pick h d s.2 b := by
  obtain ⟨i, h1, h2⟩ := hs.good hd hm
  rcases bestUpto_spec h (readyB s.1 d) d.length with ⟨_, hn⟩ | ⟨b, hb, e, hr, hmx⟩
  · rw [hn i h1] at h2; cases h2
  · obtain ⟨h3, h4⟩ := (hs.ready_iff hd b hb).1 hr
    exact ⟨b, e, hb, h3, h4, fun i hi h5 h6 => hmx i hi ((hs.ready_iff hd i hi).2 ⟨h5, h6⟩)⟩

theorem OS.step {h : List Int} {d : List (List Int)} {m : Nat} {s : List Bool × List Int} (hs : OS d m s) (hd : Back d) (hm : m < d.length) : OS d (m + 1) (ordStep h d s) := by
  obtain ⟨b, e, hp⟩ := hs.pick (h := h) hd hm
  have hb := hp.lt
  have hf : s.1.getD b false = false := by
    have := hp.new
    rw [← hs.mem b hb] at this
    simpa using this
  unfold ordStep
  rw [e]
  refine ⟨by simp [hs.l1], by simp [hs.l2], ?_, fun i hi => ?_, fun k hk => ?_⟩
  · show (s.1.set b true).count true = m + 1
    rw [count_set_true s.1 b (by rw [hs.l1]; exact hb) hf, hs.cnt]
  · show (s.1.set b true).getD i false = true ↔ (i : Int) ∈ s.2 ++ [(b : Int)]
    rw [List.mem_append, ← hs.mem i hi, List.mem_singleton]
    have hbl : b < s.1.length := by rw [hs.l1]; exact hb
    by_cases hib : i = b
    · subst hib
      simp [List.getD_eq_getElem?_getD, hbl]
    · have : (i : Int) ≠ b := by omega
      simp only [this, or_false, List.getD_eq_getElem?_getD]
      rw [List.getElem?_set_ne (by omega)]
  · rw [List.mem_append, List.mem_singleton] at hk
    rcases hk with hk | rfl
    · exact hs.rng k hk
    · exact ⟨b, rfl, hb⟩

theorem ordN_OS (h : List Int) (d : List (List Int)) (hd : Back d) (m : Nat) (hm : m ≤ d.length) : OS d m (ordN h d m) := by
  induction m with
  | zero => exact OS.zero h d
  | succ m ih => exact (ih (by omega)).step hd (by omega)

theorem ordN_good (h : List Int) (d : List (List Int)) (hd : Back d) (m : Nat) (hm : m < d.length) : 0 ≤ bestUpto h (readyB (ordN h d m).1 d) d.length := by
  obtain ⟨b, e, _⟩ := (ordN_OS h d hd m (by omega)).pick (h := h) hd hm
  rw [e]; omega

/-- the order -/
def orderBy (h : List Int) (d : List (List Int)) : List Int := (ordN h d d.length).2
theorem ordN_take (h : List Int) (d : List (List Int)) (hd : Back d) (m j : Nat) (hm : m + j ≤ d.length) : (ordN h d (m + j)).2.take m = (ordN h d m).2 := by
  induction j with
  | zero =>
    have := (ordN_OS h d hd m (by omega)).l2
    rw [Nat.add_zero, List.take_of_length_le (by omega)]
  | succ j ih =>
    have h1 := (ordN_OS h d hd (m + j) (by omega)).l2
    rw [← ih (by omega), show m + (j + 1) = (m + j) + 1 by omega]
    show ((ordN h d (m + j)).2 ++ [_]).take m = _
    rw [List.take_append_of_le_length (by omega)]
theorem orderBy_length (h : List Int) (d : List (List Int)) (hd : Back d) : (orderBy h d).length = d.length := (ordN_OS h d hd _ (Nat.le_refl _)).l2
theorem orderBy_get (h : List Int) (d : List (List Int)) (hd : Back d) (m : Nat) (hm : m < d.length) : ∃ b : Nat, (orderBy h d)[m]? = some (b : Int) ∧ Pick h d ((orderBy h d).take m) b := by
  have h1 : (orderBy h d).take m = (ordN h d m).2 := by
    have := ordN_take h d hd m (d.length - m) (by omega)
    rw [show m + (d.length - m) = d.length by omega] at this
    exact this
  have h2 : (orderBy h d).take (m + 1) = (ordN h d (m + 1)).2 := by
    have := ordN_take h d hd (m + 1) (d.length - (m + 1)) (by omega)
    rw [show m + 1 + (d.length - (m + 1)) = d.length by omega] at this
    exact this
  obtain ⟨b, e, hp⟩ := (ordN_OS h d hd m (by omega)).pick (h := h) hd hm
  refine ⟨b, ?_, by rw [h1]; exact hp⟩
  have h3 : (ordN h d (m + 1)).2 = (ordN h d m).2 ++ [(b : Int)] := by
    show (ordN h d m).2 ++ [_] = _
    rw [e]
  have hl := (ordN_OS h d hd m (by omega)).l2
  have h4 : ((orderBy h d).take (m + 1))[m]? = some (b : Int) := by
    rw [h2, h3, List.getElem?_append_right (by omega), hl]
    simp
  rwa [List.getElem?_take_of_lt (by omega)] at h4
/-- each is there -/
theorem orderBy_all (h : List Int) (d : List (List Int)) (hd : Back d) (i : Nat) (hi : i < d.length) : (i : Int) ∈ orderBy h d := by
  have hs := ordN_OS h d hd d.length (Nat.le_refl _)
  refine (hs.mem i hi).1 ?_
  have : (ordN h d d.length).1.count true = (ordN h d d.length).1.length := by rw [hs.cnt, hs.l1]
  rw [List.count_eq_length] at this
  have hl : i < (ordN h d d.length).1.length := by rw [hs.l1]; exact hi
  rw [List.getD_eq_getElem?_getD, List.getElem?_eq_getElem hl]
  exact (this _ (List.getElem_mem hl)).symm
theorem orderBy_rng (h : List Int) (d : List (List Int)) (hd : Back d) : ∀ k ∈ orderBy h d, ∃ i : Nat, k = (i : Int) ∧ i < d.length := (ordN_OS h d hd d.length (Nat.le_refl _)).rng

theorem depsOf_back (l : List S37) : Back (depsOf l) := by
  intro i hi k hk
  rw [depsOf_length] at hi
  rw [depsOf_row l i hi, partOf_mem] at hk
  obtain ⟨m, rfl, h1, _⟩ := hk
  exact ⟨m, rfl, h1⟩
def heightsOf (l : List S37) : List Int := hAll l (depsOf l) (down l.length 0)
def orderOf (l : List S37) : List Int := orderBy (heightsOf l) (depsOf l)
theorem orderOf_length (l : List S37) : (orderOf l).length = l.length := (orderBy_length _ _ (depsOf_back l)).trans (depsOf_length l)

theorem order_calls (l : List S37) (hlen : l.length ≤ 4096) (hs : ∀ x ∈ l, x.f5.length ≤ 1000) (A : Option Addr) (c : Nat) (w : World) (hr : Kd.C k37 w A l.length l) (hc : l.length ≤ c) :
    Calls Try.prog 22 #[.slice A l.length c] w fun e w' => ∃ v, e = .returned v ∧ Kd.R (Kd.int .i64) 3 w' w.heap.size (fun _ => True) v (orderOf l) ∧ Below w.heap.size w w' := by
  have hl := depsOf_length l
  have := order_loop l hlen hs A c w hr hc (fun m hm => by
    have := ordN_good (heightsOf l) (depsOf l) (depsOf_back l) m (by omega)
    rw [hl] at this
    exact this)
  unfold orderOf orderBy heightsOf
  rw [hl]
  exact this
#print axioms order_calls
end Go.Proofs.Ytphmlkbmnmicpaa.A

/- Heights, over plain lists: what they are. -/
namespace Go.Proofs.Ytphmlkbmnmicpaa.A
open Go.RowKit Go.Proofs.YtphmlkbmnmicpaaW.PrintWords Go.Proofs.YtphmlkbmnmicpaaW.PrintLast Go.Shelf
set_option linter.unusedVariables false
set_option linter.unusedSimpArgs false

theorem rd_nat (xs : List Int) (i : Nat) : rd xs (i : Int) = xs.getD i 0 := rfl
theorem rd_set (xs : List Int) (i p : Nat) (v : Int) : rd (xs.set i v) (p : Int) = if p = i ∧ i < xs.length then v else rd xs (p : Int) := by
  rw [rd_nat, rd_nat]
  by_cases h : p = i
  · subst h
    by_cases hl : p < xs.length
    · simp [List.getD_eq_getElem?_getD, hl]
    · simp [List.getD_eq_getElem?_getD, hl]
  · rw [if_neg (by omega), List.getD_eq_getElem?_getD, List.getD_eq_getElem?_getD, List.getElem?_set_ne (by omega)]
theorem mx2_self (a b : Int) : mx2 (mx2 a b) b = mx2 a b := by
  unfold mx2
  by_cases h : a < b
  · simp [h]
  · simp [h]

theorem hRow_get (i : Nat) : ∀ (row : List Int) (out : List Int), (∀ k ∈ row, ∃ m : Nat, k = (m : Int) ∧ m < out.length ∧ m ≠ i) →
    ∀ p : Nat, rd (hRow i out row) (p : Int) = if (p : Int) ∈ row then mx2 (rd out p) (rd out i) else rd out p := by
  intro row
  induction row with
  | nil => intro out h p; simp [hRow]
  | cons k row ih =>
    intro out h p
    obtain ⟨m, rfl, hm, hi⟩ := h _ List.mem_cons_self
    show rd (hRow i (setMax i out m) row) (p : Int) = _
    rw [ih (setMax i out m) (fun k hk => by rw [setMax_length]; exact h k (List.mem_cons_of_mem _ hk)) p]
    have e : ∀ q : Nat, rd (setMax i out (m : Int)) (q : Int) = if q = m then mx2 (rd out m) (rd out i) else rd out q := by
      intro q
      unfold setMax
      rw [Int.toNat_natCast, rd_set]
      by_cases hq : q = m
      · rw [if_pos ⟨hq, hm⟩, if_pos hq]
      · rw [if_neg (fun h => hq h.1), if_neg hq]
    rw [e p, e i, if_neg (show ¬ i = m from fun h' => hi h'.symm)]
    by_cases hpm : p = m
    · subst hpm
      simp only [if_true, List.mem_cons, true_or]
      split
      · exact mx2_self _ _
      · rfl
    · have : (p : Int) ≠ (m : Int) := by omega
      simp only [if_neg hpm, List.mem_cons, this, false_or]

def lt_ (l : List S37) (i : Nat) : Int := latOf (rd_T37 l i)
theorem latOf_range (x : S37) : 1 ≤ latOf x ∧ latOf x ≤ 20 := by
  unfold latOf
  repeat' split
  all_goals omega

structure HJ (l : List S37) (d : List (List Int)) (n j : Nat) (out : List Int) : Prop where
  len : out.length = n
  up : ∀ i : Nat, i < n → 0 ≤ rd out i ∧ rd out i ≤ 20 * ((n : Int) - j)
  lo : ∀ i : Nat, j ≤ i → i < n → lt_ l i ≤ rd out i
  row : ∀ i : Nat, j ≤ i → i < n → ∀ a : Nat, (a : Int) ∈ rd_L1 d i → (if j ≤ a then rd out i + lt_ l a ≤ rd out a else rd out i ≤ rd out a)
  why : ∀ i : Nat, j ≤ i → i < n → rd out i = lt_ l i ∨ ∃ k : Nat, i < k ∧ k < n ∧ (i : Int) ∈ rd_L1 d k ∧ rd out i = rd out k + lt_ l i
  yet : ∀ a : Nat, a < j → rd out a = 0 ∨ ∃ k : Nat, j ≤ k ∧ k < n ∧ (a : Int) ∈ rd_L1 d k ∧ rd out a = rd out k

theorem HJ.step {l : List S37} {d : List (List Int)} {n j : Nat} {out : List Int} (h : HJ l d n (j + 1) out) (hd : Back d) (hdn : d.length = n) (hj : j < n) (hn : n ≤ 4096) : HJ l d n j (hStep l d out j) := by
  have hlat := latOf_range (rd_T37 l j)
  have hu := h.up j hj
  obtain ⟨v, hv⟩ : ∃ v, v = rd out j + lt_ l j := ⟨_, rfl⟩
  have hw : wrap64 (rd out j + latOf (rd_T37 l j)) = v := by
    rw [hv]
    unfold wrap64 lt_; omega
  have hrow : ∀ k ∈ rd_L1 d (j : Int), ∃ m : Nat, k = (m : Int) ∧ m < j := hd j (by omega)
  have e0 : ∀ p : Nat, rd (out.set j v) (p : Int) = if p = j then v else rd out p := by
    intro p
    rw [rd_set]
    by_cases hp : p = j
    · rw [if_pos ⟨hp, by rw [h.len]; exact hj⟩, if_pos hp]
    · rw [if_neg (fun h => hp h.1), if_neg hp]
  have e : ∀ p : Nat, rd (hStep l d out j) (p : Int) = if p = j then v else if (p : Int) ∈ rd_L1 d j then mx2 (rd out p) v else rd out p := by
    intro p
    unfold hStep
    rw [hw, hRow_get j _ _ (fun k hk => by
      obtain ⟨m, rfl, hm⟩ := hrow k hk
      exact ⟨m, rfl, by rw [List.length_set, h.len]; omega, by omega⟩) p, e0 p, e0 j, if_pos rfl]
    by_cases hp : p = j
    · subst hp
      have : ¬ (p : Int) ∈ rd_L1 d (p : Int) := fun hk => by
        obtain ⟨m, h1, h2⟩ := hrow _ hk
        omega
      rw [if_neg this, if_pos rfl, if_pos rfl]
    · simp only [if_neg hp]
  have ej : rd (hStep l d out j) (j : Int) = v := by rw [e, if_pos rfl]
  have eg : ∀ p : Nat, j < p → rd (hStep l d out j) (p : Int) = rd out p := by
    intro p hp
    have : ¬ (p : Int) ∈ rd_L1 d (j : Int) := fun hk => by
      obtain ⟨m, h1, h2⟩ := hrow _ hk
      omega
    rw [e, if_neg (by omega), if_neg this]
  have em : ∀ p : Nat, (p : Int) ∈ rd_L1 d (j : Int) → rd (hStep l d out j) (p : Int) = mx2 (rd out p) v := by
    intro p hp
    have : p ≠ j := fun hk => by
      obtain ⟨m, h1, h2⟩ := hrow _ hp
      omega
    rw [e, if_neg this, if_pos hp]
  have en : ∀ p : Nat, p < j → ¬ (p : Int) ∈ rd_L1 d (j : Int) → rd (hStep l d out j) (p : Int) = rd out p := by
    intro p hp hq
    rw [e, if_neg (by omega), if_neg hq]
  have ege : ∀ p : Nat, p < j → rd out p ≤ rd (hStep l d out j) (p : Int) := by
    intro p hp
    by_cases hq : (p : Int) ∈ rd_L1 d (j : Int)
    · rw [em p hq]; unfold mx2; split <;> omega
    · rw [en p hp hq]; exact Int.le_refl _
  clear e e0
  have hlen : (hStep l d out j).length = n := (hStep_length l d out j).trans h.len
  generalize hStep l d out j = out' at *
  have hlj : lt_ l j = latOf (rd_T37 l j) := rfl
  have hpush : (((j + 1 : Nat) : Int)) = (j : Int) + 1 := by omega
  refine ⟨?_, ?_, ?_, ?_, ?_, ?_⟩
  · exact hlen
  · intro i hi
    have := h.up i hi
    rw [hpush] at this hu
    rcases Nat.lt_trichotomy i j with h1 | rfl | h1
    · by_cases hq : (i : Int) ∈ rd_L1 d (j : Int)
      · rw [em i hq]; unfold mx2; split <;> omega
      · rw [en i h1 hq]; omega
    · rw [ej]; omega
    · rw [eg i h1]; omega
  · intro i h1 h2
    rcases Nat.lt_or_eq_of_le h1 with h3 | rfl
    · rw [eg i h3]; exact h.lo i h3 h2
    · rw [ej]; omega
  · intro i h1 h2 a ha
    rcases Nat.lt_or_eq_of_le h1 with h3 | rfl
    · have := h.row i h3 h2 a ha
      rw [eg i h3]
      by_cases h4 : j + 1 ≤ a
      · rw [if_pos h4] at this
        rw [if_pos (by omega), eg a h4]; exact this
      · rw [if_neg h4] at this
        by_cases h5 : j ≤ a
        · obtain rfl : a = j := by omega
          rw [if_pos h5, ej]; omega
        · rw [if_neg h5]
          have := ege a (by omega)
          omega
    · obtain ⟨m, h4, h5⟩ := hrow _ ha
      rw [if_neg (by omega), ej, em a ha]
      unfold mx2; split <;> omega
  · intro i h1 h2
    rcases Nat.lt_or_eq_of_le h1 with h3 | rfl
    · rw [eg i h3]
      rcases h.why i h3 h2 with h4 | ⟨k, h4, h5, h6, h7⟩
      · exact .inl h4
      · exact .inr ⟨k, h4, h5, h6, by rw [eg k (by omega)]; exact h7⟩
    · rw [ej]
      rcases h.yet j (by omega) with h4 | ⟨k, h4, h5, h6, h7⟩
      · exact .inl (by omega)
      · exact .inr ⟨k, by omega, h5, h6, by rw [eg k (by omega)]; omega⟩
  · intro a ha
    by_cases hq : (a : Int) ∈ rd_L1 d (j : Int)
    · rw [em a hq]
      by_cases h1 : rd out a < v
      · exact .inr ⟨j, Nat.le_refl _, hj, hq, by rw [ej]; unfold mx2; rw [if_pos h1]⟩
      · have e1 : mx2 (rd out a) v = rd out a := by unfold mx2; rw [if_neg h1]
        rw [e1]
        rcases h.yet a (by omega) with h4 | ⟨k, h4, h5, h6, h7⟩
        · exact .inl h4
        · exact .inr ⟨k, by omega, h5, h6, by rw [eg k (by omega)]; exact h7⟩
    · rw [en a ha hq]
      rcases h.yet a (by omega) with h4 | ⟨k, h4, h5, h6, h7⟩
      · exact .inl h4
      · exact .inr ⟨k, by omega, h5, h6, by rw [eg k (by omega)]; exact h7⟩

theorem HJ.all (l : List S37) (d : List (List Int)) (n : Nat) (hd : Back d) (hdn : d.length = n) (hn : n ≤ 4096) : ∀ j, j ≤ n → HJ l d n (n - j) (hAll l d (down n (n - j))) := by
  intro j
  induction j with
  | zero =>
    intro _
    rw [Nat.sub_zero, down_self]
    have e : ∀ i : Nat, rd (hAll l d []) (i : Int) = 0 := by
      intro i
      rw [rd_nat]
      simp only [hAll, List.foldl_nil, List.getD_eq_getElem?_getD, List.getElem?_replicate]
      split <;> rfl
    refine ⟨by simp [hAll, hdn], fun i hi => by rw [e]; omega, fun i h1 h2 => by omega, fun i h1 h2 => by omega, fun i h1 h2 => by omega, fun a ha => .inl (e a)⟩
  | succ j ih =>
    intro hj
    have h1 := ih (by omega)
    have h2 : n - j = (n - (j + 1)) + 1 := by omega
    rw [h2] at h1
    have h3 := h1.step hd hdn (by omega) hn
    rwa [← hAll_snoc, ← down_succ _ _ (by omega)] at h3

/-- what a height is -/
structure High (l : List S37) (d : List (List Int)) (h : List Int) : Prop where
  len : h.length = l.length
  up : ∀ i : Nat, i < l.length → rd h i ≤ 20 * (l.length : Int)
  lo : ∀ i : Nat, i < l.length → lt_ l i ≤ rd h i
  row : ∀ i : Nat, i < l.length → ∀ a : Nat, (a : Int) ∈ rd_L1 d i → rd h i + lt_ l a ≤ rd h a
  why : ∀ i : Nat, i < l.length → rd h i = lt_ l i ∨ ∃ k : Nat, i < k ∧ k < l.length ∧ (i : Int) ∈ rd_L1 d k ∧ rd h i = rd h k + lt_ l i
theorem heightsOf_high (l : List S37) (hn : l.length ≤ 4096) : High l (depsOf l) (heightsOf l) := by
  have h := HJ.all l (depsOf l) l.length (depsOf_back l) (depsOf_length l) hn l.length (Nat.le_refl _)
  rw [Nat.sub_self] at h
  refine ⟨h.len, fun i hi => by have := (h.up i hi).2; unfold heightsOf; omega, fun i hi => h.lo i (Nat.zero_le _) hi, fun i hi a ha => ?_, fun i hi => h.why i (Nat.zero_le _) hi⟩
  have := h.row i (Nat.zero_le _) hi a ha
  rwa [if_pos (Nat.zero_le _)] at this
#print axioms heightsOf_high
end Go.Proofs.Ytphmlkbmnmicpaa.A

/- sched.May: what it answers. -/
namespace Go.Proofs.Ytphmlkbmnmicpaa.A
open Go.RowKit Go.Proofs.YtphmlkbmnmicpaaW.PrintWords Go.Proofs.YtphmlkbmnmicpaaW.PrintLast Go.Shelf
set_option linter.unusedVariables false
set_option linter.unusedSimpArgs false

def mayB (d : List (List Int)) (n : Nat) : List Bool → List Int → Bool
  | _, [] => true
  | ps, k :: r => if k < 0 then false else if (n : Int) ≤ k then false else if ps.getD k.toNat false then false else if (rd_L1 d k).any (fun a => !(ps.getD a.toNat false)) then false else mayB d n (ps.set k.toNat true) r

/-- what lies in memory between two rounds of May -/
structure MI (w : World) (Bp g : Nat) (A1 : Option Addr) (c1 n : Nat) (d : List (List Int)) (ps : List Bool) (W : World) : Prop where
  len : ps.length = n
  bp : Boxed W Bp 53 (.slice (some ⟨g, 0, none⟩) n n)
  row : W.heap[g]? = some (.cells (bools ps).toArray 4 (0, 0))
  hD : Kd.R (Kd.slice 3 (Kd.int .i64)) 23 W w.heap.size (fun k => k ≠ g) (.slice A1 n c1) d
  hB : Below w.heap.size w W
  lt : w.heap.size ≤ g ∧ g ≠ Bp
section
variable {w : World} {Bp g : Nat} {A1 : Option Addr} {c1 n : Nat} {d : List (List Int)} {ps : List Bool} {W : World}
theorem MI.drewN (h : MI w Bp g A1 c1 n d ps W) (q : Nat) : MI w Bp g A1 c1 n d ps (W.drewN q) :=
  ⟨h.len, h.bp, h.row, Kd.R_drewN h.hD q, pw_below_drewN h.hB q, h.lt⟩
theorem MI.cell (h : MI w Bp g A1 c1 n d ps W) (i : Nat) (hi : i < n) : W.cell? ⟨g, i, none⟩ = some (.bool (ps.getD i false)) := by
  rw [blk_cell h.row i]
  have : i < ps.length := by rw [h.len]; exact hi
  simp [bools, this, List.getD_eq_getElem?_getD]
theorem MI.set (h : MI w Bp g A1 c1 n d ps W) (i : Nat) : MI w Bp g A1 c1 n d (ps.set i true) (W.setCell ⟨g, i, none⟩ (.bool true)) := by
  refine ⟨by simpa using h.len, blk_far h.bp (p := ⟨g, i, none⟩) (Ne.symm h.lt.2) _, ?_, Kd.R_far h.hD (p := ⟨g, i, none⟩) (fun k hk => hk) _, h.hB.setCell (p := ⟨g, i, none⟩) h.lt.1 _, h.lt⟩
  have := blk_set h.row i (.bool true)
  rwa [bools_set] at this
end

set_option maxHeartbeats 1000000 in
theorem mayFn_calls {w : World} {Bp g : Nat} {A1 : Option Addr} {c1 n : Nat} {d : List (List Int)} {ps : List Bool} {W : World} (h : MI w Bp g A1 c1 n d ps W) (x : Int) (h0 : 0 ≤ x) (h1 : x < n) :
    Calls Try.prog 41 #[.int .i64 x, .pointer (some ⟨Bp, 0, none⟩)] W fun e w' => e = .returned (.bool (!(ps.getD x.toNat false))) ∧ W = w' := by
  have k0 := h.bp.cell
  have k1 := h.cell x.toNat (by omega)
  generalize ps.getD x.toNat false = b at k1 ⊢
  clear h
  go_enter Try.func41, Try.ntmps41
  go_wp2
  go_ret
  exact ⟨rfl, rfl⟩

set_option maxRecDepth 100000 in
set_option maxHeartbeats 2000000 in
theorem may_calls (l : List S37) (hlen : l.length ≤ 4096) (hs : ∀ x ∈ l, x.f5.length ≤ 1000) (A : Option Addr) (c : Nat) (w : World) (hr : Kd.C k37 w A l.length l) (hc : l.length ≤ c)
    (O : List Int) (Ao : Option Addr) (co : Nat) (hO : Kd.C (Kd.int .i64) w Ao O.length O) (hOl : O.length = l.length) :
    Calls Try.prog 24 #[.slice A l.length c, .slice Ao O.length co] w fun e w' => e = .returned (.bool (mayB (depsOf l) l.length (List.replicate l.length false) O)) ∧ Below w.heap.size w w' := by
  have hdl := depsOf_length l
  have hrow : ∀ i, i < l.length → ∀ k ∈ rd_L1 (depsOf l) i, 0 ≤ k ∧ k < l.length := by
    intro i hi k hk
    rw [depsOf_row l i hi, partOf_mem] at hk
    obtain ⟨m, rfl, h1, _⟩ := hk
    omega
  have hdc : Calls Try.prog 17 #[.slice A l.length c] w fun e w' => ∃ A1 c1, e = .returned (.slice A1 l.length c1) ∧ Kd.R (Kd.slice 3 (Kd.int .i64)) 23 w' w.heap.size (fun _ => True) (.slice A1 l.length c1) (depsOf l) ∧ Below w.heap.size w w' :=
    (deps_calls l hlen hs A c w hr hc).mono fun e w' ⟨v, he, hS, hB⟩ => by
      obtain ⟨A1, c1, rfl, _, _⟩ := Kd.S_reads hS
      rw [hdl] at he hS
      exact ⟨A1, c1, he, Kd.S_R hS, hB⟩
  generalize depsOf l = d at *
  have Hrow := Aside0.mk hrow
  have Hdl := Aside0.mk hdl
  clear hrow hdl hs hr
  generalize hgo : mayB d l.length (List.replicate l.length false) O = goal
  have Hgo := Aside0.mk hgo
  clear hgo
  have hmk := print_make_of (P := Try.prog) 53 4 (.bool false) 1 Try.underlying53 info4 rfl (by decide) l.length (by omega)
  have hll : (O.length : Int) = (l.length : Int) := by omega
  rw [hOl] at hO ⊢
  go_enter Try.func24, Try.ntmps24
  go_wp2_with fail
  refine hdc.mono ?_
  rintro e w1 ⟨A1, c1, rfl, hS, hB1⟩
  go_wp2_with fail
  have hL0 : MI w (w1.heap.size + 1) w1.heap.size A1 c1 l.length d (List.replicate l.length false) ((w1.alloc (.cells (madeCells #[Value.bool false] l.length) 4)).alloc (.cells #[.slice (some ⟨w1.heap.size, 0, none⟩) l.length l.length] 53)) := by
    have b1 := World.alloc_heap_new w1 (.cells (madeCells #[Value.bool false] l.length) 4)
    have b2 := Boxed.new (w1.alloc (.cells (madeCells #[Value.bool false] l.length) 4)) 53 (.slice (some ⟨w1.heap.size, 0, none⟩) l.length l.length)
    rw [World.size_alloc] at b2
    have hsz := hB1.size
    refine ⟨by simp, b2, ?_, ?_, below_alloc (below_alloc hB1 _) _, by omega⟩
    · rw [← made_bools]
      exact blk_alloc b1 _
    · exact Kd.R_alloc (Kd.R_alloc (Kd.R_mono (Kd.R_bound hS) (fun k hk => by omega)) _) _
  clear hmk hS hB1 hdc
  have hL0' := Aside0.mk hL0
  clear hL0
  go_loopw [26] (fun s wr => ∃ (m : Nat) (ps : List Bool), m ≤ l.length ∧ s = .int .i64 m ∧ Aside0 (MI w (w1.heap.size + 1) w1.heap.size A1 c1 l.length d ps wr) ∧ Aside0 (mayB d l.length ps (O.drop m) = goal))
    (fun s _ => l.length - (intOf s).toNat)
  case atStart => exact ⟨0, _, Nat.zero_le _, rfl, hL0', Hgo⟩
  case round =>
    clear hL0' Hgo
    obtain ⟨m, ps, hm, rfl, hL, Hgo⟩ := hrel
    by_cases hlt : m < l.length
    · have hmn : (m : Int) < (l.length : Int) := by omega
      have hml : m < O.length := by omega
      obtain ⟨oad, hoe, ho1⟩ := Kd.at_int (Kd.C_below hO hL.out.hB) (m : Int) (by omega) (by omega)
      subst hoe
      rw [Int.toNat_natCast] at ho1
      have hrdm : rd O (m : Int) = O[m] := by simp [rd, hml]
      rw [hrdm] at ho1
      have Hg2 := Hgo.out
      rw [List.drop_eq_getElem_cons hml, mayB] at Hg2
      clear hrdm Hgo
      generalize O[m] = k at ho1 Hg2
      have fin : ∀ {W : World}, Below w.heap.size w W → false = goal → (Ending.returned (.bool false) = Ending.returned (.bool goal) ∧ Below w.heap.size w W) := fun hb hg => ⟨by rw [hg], hb⟩
      by_cases h1 : k < 0
      · rw [if_pos h1] at Hg2
        have hB := Aside0.mk hL.out.hB
        have hg' := Aside0.mk Hg2
        clear hL Hg2
        go_wp2_with fail
        go_ret
        exact fin hB.out hg'.out
      rw [if_neg h1] at Hg2
      by_cases h2 : (l.length : Int) ≤ k
      · rw [if_pos h2] at Hg2
        have hB := Aside0.mk hL.out.hB
        have hg' := Aside0.mk Hg2
        clear hL Hg2
        go_wp2_with fail
        go_ret
        exact fin hB.out hg'.out
      rw [if_neg h2] at Hg2
      have k0 : 0 ≤ k := by omega
      have k1 : k < (l.length : Int) := by omega
      have c0 := hL.out.bp.cell
      have c1' := hL.out.cell k.toNat (by omega)
      generalize hb0 : ps.getD k.toNat false = pb at c1' Hg2
      clear hb0
      cases pb
      · rw [if_neg (by simp)] at Hg2
        obtain ⟨ad, A0, c2, rfl, q0, q1, q2⟩ := at_L1 (by have := (Kd.R_reads' hL.out.hD).2.2; rwa [Hdl.out] at this) k k0 k1
        have hcf := containsFunc_calls (fun a => !(ps.getD a.toNat false)) 41 #[.pointer (some ⟨w1.heap.size + 1, 0, none⟩)] (enters_of Try.func41 (by kernel_rfl) rfl) A0 c2 (rd_L1 d k) wr q2
          (fun x hx q => (mayFn_calls (hL.out.drewN q) x (Hrow.out k.toNat (by omega) x (by rw [Int.toNat_of_nonneg k0]; exact hx)).1 (Hrow.out k.toNat (by omega) x (by rw [Int.toNat_of_nonneg k0]; exact hx)).2).mono fun e w' ⟨he, hw⟩ => ⟨he, 0, by rw [← hw]; rfl⟩)
        generalize ((rd_L1 d k).any fun a => !(ps.getD a.toNat false)) = b2 at hcf Hg2
        generalize (rd_L1 d k).length = rl at q0 q1 hcf
        have hg' := Aside0.mk Hg2
        clear Hg2 q2
        cases b2
        · go_wp2_with fail
          refine hcf.mono ?_
          rintro e w' ⟨rfl, q, rfl⟩
          have hL1 := Aside0.mk (hL.out.drewN q)
          clear hL c0 c1' q0 hcf
          generalize wr.drewN q = W1 at hL1 ⊢
          have d0 := hL1.out.bp.cell
          have d1 := hL1.out.cell k.toNat (by omega)
          have d2 := blk_frozen hL1.out.row k.toNat
          have hL2 := Aside0.mk (hL1.out.set k.toNat)
          have hg2 := hg'.out
          rw [if_neg (by simp)] at hg2
          have hg3 := Aside0.mk hg2
          clear hg2 hg' hL1
          go_wp2_with fail
          go_roundw
          case rel => exact ⟨m + 1, _, by omega, by go_num, hL2, hg3⟩
          case measure => simp [intOf]; omega
        · go_wp2_with fail
          refine hcf.mono ?_
          rintro e w' ⟨rfl, q, rfl⟩
          have hL1 := Aside0.mk (hL.out.drewN q)
          clear hL c0 c1' q0 hcf
          generalize wr.drewN q = W1 at hL1 ⊢
          have hB := Aside0.mk hL1.out.hB
          have hg2 := hg'.out
          rw [if_pos (by first | trivial | rfl)] at hg2
          have hg3 := Aside0.mk hg2
          clear hg2 hg' hL1
          go_wp2_with fail
          go_ret
          exact fin hB.out hg3.out
      · rw [if_pos rfl] at Hg2
        have hB := Aside0.mk hL.out.hB
        have hg' := Aside0.mk Hg2
        clear hL Hg2
        go_wp2_with fail
        go_ret
        exact fin hB.out hg'.out
    · obtain rfl : m = l.length := by omega
      have hB := Aside0.mk hL.out.hB
      have hg := Hgo.out
      rw [← hOl, List.drop_length] at hg
      have hg' := Aside0.mk hg.symm
      clear hg hL Hgo
      go_wp2_with fail
      go_ret
      exact ⟨by rw [hg'.out]; rfl, hB.out⟩
#print axioms may_calls
end Go.Proofs.Ytphmlkbmnmicpaa.A

/- slices.Clone over []int, and sched.copied: what they answer. -/
namespace Go.Proofs.Ytphmlkbmnmicpaa.A
open Go.RowKit Go.Proofs.YtphmlkbmnmicpaaW.PrintWords Go.Proofs.YtphmlkbmnmicpaaW.PrintLast
set_option linter.unusedVariables false
set_option linter.unusedSimpArgs false

set_option maxHeartbeats 1000000 in
theorem clone_calls (A : Option Addr) (c : Nat) (xs : List Int) (w : World) (hx : Kd.C (Kd.int .i64) w A xs.length xs) (hc : xs.length ≤ c) (hl : xs.length ≤ 1000000) :
    Calls Try.prog 48 #[.slice A xs.length c] w fun e w' => ∃ v, e = .returned v ∧ w'.ownsRow w.heap.size 3 1 v xs.length (nums .i64 xs) ∧ Below w.heap.size w w' := by
  have q22 : ∀ (w : World) (a : Option Addr) (n c n' c' : Nat), (binOp .eql 23 (.slice a n c) (.slice none n' c')).run Try.prog w = .ok (.bool a.isNone) w := fun w a n c n' c' => Lib.run_eql_slice_nil w _ _ a n c n' c' Try.underlying23
  cases A with
  | none =>
    have h0 : xs = [] := by
      obtain ⟨h1, h2, h3⟩ := hx
      rcases Nat.eq_zero_or_pos xs.length with h | h
      · exact List.eq_nil_of_length_eq_zero h
      · obtain ⟨ad, e, _⟩ := h3 h; cases e
    subst h0
    go_enter Try.func48, Try.ntmps48
    go_wp2
    go_ret
    exact ⟨_, rfl, own_nil _ _ _ _, Below.refl _ _⟩
  | some ad =>
    have hr : ReadsInt w .i64 (some ad) xs.length xs := by
      obtain ⟨h1, h2, h3⟩ := hx
      refine ⟨rfl, h2, fun hp => ⟨ad, rfl, fun j hj => ?_⟩⟩
      obtain ⟨ad', e, hc⟩ := Kd.at_int ⟨h1, h2, h3⟩ (j : Int) (by omega) (by omega)
      obtain rfl : ad = ad' := Option.some.inj e
      rw [Int.toNat_natCast] at hc
      rw [hc]
      simp [rd]
    clear hx
    have hr' := Aside0.mk (hr.below (below_alloc (Below.refl _ _) (.cells #[] 3)))
    have ho := Aside0.mk (World.ownsRow_made w #[] 0 (Nat.le_refl _) (Nat.zero_le _) (by simp) : (w.alloc (.cells #[] 3)).ownsRow w.heap.size 3 1 (.slice (some ⟨w.heap.size, 0, none⟩) 0 0) 0 [])
    clear hr
    go_enter Try.func48, Try.ntmps48
    go_wp2_with (at_builtin; refine print_append_row (w0 := w) w.heap.size rfl (.tmp 5) (.tmp 6) 23 3 .i64 8 rfl Try.underlying23 info3 (by decide) _ [] xs (some ad) xs.length c rfl rfl ho.out hr'.out (below_alloc (Below.refl _ _) _) (by simp) (by simp; omega) ?_; intro v1 w1 hown hb hg hat)
    go_ret
    exact ⟨v1, rfl, by simpa using hown, hb⟩
/-- in the printed functions' own form -/
def slices_Clone_int_int.f (l0 : List Int) : Option (List Int) := if l0.length ≤ 1000000 then some l0 else none
theorem slices_Clone_int_int.calls (A0 : Option Addr) (c0 : Nat) (l0 : List Int) (r : List Int) (w : World) (hr0 : Kd.C (Kd.int .i64) w A0 l0.length l0) (hc0 : l0.length ≤ c0) (h : slices_Clone_int_int.f l0 = some r) :
    Calls Try.prog 48 #[.slice A0 l0.length c0] w fun e w' => ∃ v0_ : Value, e = .returned (v0_) ∧ Kd.R (Kd.int .i64) 3 w' w.heap.size (fun _ => True) v0_ r ∧ Below w.heap.size w w' := by
  unfold slices_Clone_int_int.f at h
  split at h
  · obtain rfl := Option.some.inj h
    exact (clone_calls A0 c0 l0 w hr0 hc0 (by assumption)).mono fun e w' ⟨v, he, ho, hb⟩ => ⟨v, he, Kd.R_of_own ho (fun _ _ => trivial), hb⟩
  · cases h
#print axioms slices_Clone_int_int.calls
end Go.Proofs.Ytphmlkbmnmicpaa.A

/- What the machine does at this function, and a plain Lean function that says the same: written by a program for this claim; Lean checks it. -/
namespace Go.Proofs.Ytphmlkbmnmicpaa.A
open Go.RowKit Go.Proofs.YtphmlkbmnmicpaaW.PrintWords Go.Proofs.YtphmlkbmnmicpaaW.PrintLast Go.Proofs.YtphmlkbmnmicpaaW.PrintMore
attribute [local go_sem] max2_int min2_int max_two min_two max_three min_three max_four min_four   -- for this text's walks alone
set_option linter.unusedVariables false
set_option linter.unusedSimpArgs false

/-! ### sched_copied: function 31 -/
def sched_copied.f (a0_0 : Int) (a0_1 : Int) (a0_2 : Int) (a0_3 : Int) (a0_4 : Int) (l0_5 : List Int) : Option (Int × Int × Int × Int × Int × List Int) := (slices_Clone_int_int.f l0_5).bind fun t168 => (some (a0_0, a0_1, a0_2, a0_3, a0_4, t168))
set_option maxHeartbeats 8000000 in
set_option maxRecDepth 100000 in
theorem sched_copied.calls (a0_0 : Int) (a0_1 : Int) (a0_2 : Int) (a0_3 : Int) (a0_4 : Int) (A0_5 : Option Addr) (c0_5 : Nat) (l0_5 : List Int) (r1 : Int) (r2 : Int) (r3 : Int) (r4 : Int) (r5 : Int) (r6 : List Int) (w : World) (hr0_5 : Kd.C (Kd.int .i64) w A0_5 l0_5.length l0_5) (hc0_5 : l0_5.length ≤ c0_5) (h : sched_copied.f a0_0 a0_1 a0_2 a0_3 a0_4 l0_5 = some (r1, r2, r3, r4, r5, r6)) :
    Calls Try.prog 31 #[.agg #[.int .i64 a0_0, .int .i64 a0_1, .int .i64 a0_2, .int .i64 a0_3, .int .i64 a0_4, .slice A0_5 l0_5.length c0_5]] w fun e w' => ∃ v5_ : Value, e = .returned (.agg #[.int .i64 r1, .int .i64 r2, .int .i64 r3, .int .i64 r4, .int .i64 r5, v5_]) ∧ Kd.R (Kd.int .i64) 3 w' w.heap.size (fun _ => True) v5_ r6 ∧ Below w.heap.size w w' := by
  have hu37 := Try.underlying37
  have HR0_5 := Aside0.mk hr0_5
  have HC0_5 := Aside0.mk hc0_5
  clear hr0_5 hc0_5
  have HB := Aside0.mk (Below.refl w.heap.size w)
  have H : ((slices_Clone_int_int.f l0_5).bind fun t168 => (some (a0_0, a0_1, a0_2, a0_3, a0_4, t168))) = some (r1, r2, r3, r4, r5, r6) := h
  clear h
  replace H := Option.bind_eq_some_iff.mp H
  obtain ⟨t168, A20, H⟩ := H
  replace H : (some (a0_0, a0_1, a0_2, a0_3, a0_4, t168)) = some (r1, r2, r3, r4, r5, r6) := H
  have A2 := Aside0.mk A20
  clear A20
  simp only [Option.some.injEq, Prod.mk.injEq] at H
  obtain ⟨rfl, rfl, rfl, rfl, rfl, rfl⟩ := H
  go_enter Try.func31, Try.ntmps31
  go_wp2_with (first | ((with_reducible refine gate_dst (N := 1) rfl ?_); refine box_event ?hg (N := 1) ?hd (cs := #[.int .i64 a0_0, .int .i64 a0_1, .int .i64 a0_2, .int .i64 a0_3, .int .i64 a0_4, .slice A0_5 l0_5.length c0_5]) (t := 37) ?hr ?_; (case hd => rfl); (case hg => rfl); (case hr => first | (go_simp; done) | (go_simp; rfl)); intro gb166 hg w3 hbox hb; have n0_ := Aside0.mk (below_step (by repeat (first | (with_reducible first | exact HB.out | apply below_alloc | apply pw_below_drewN | apply below_drew1) | exact HB.out)) hb); have n1_ := Aside0.mk (hbox); have n2_ := Aside0.mk ((by rw [hg]; exact (below_size (by repeat (first | (with_reducible first | exact HB.out | apply below_alloc | apply pw_below_drewN | apply below_drew1) | exact HB.out))) : w.heap.size ≤ gb166)); have n3_ := Aside0.mk ((by rw [hg]; exact (below_size (by repeat (first | (with_reducible first | exact HB.out | apply below_alloc | apply pw_below_drewN | apply below_drew1) | exact HB.out))) : w.heap.size ≤ gb166)); clear HB; have HB := n0_; have BK166 := n1_; have GW166 := n2_; have GE166 := n3_; clear n0_ n1_ n2_ n3_; clear hb hbox hg) | ((with_reducible refine gate_dst (N := 2) rfl ?_); refine box_event ?hg (N := 2) ?hd (cs := #[.int .i64 0, .int .i64 0, .int .i64 0, .int .i64 0, .int .i64 0, .slice none 0 0]) (t := 37) ?hr ?_; (case hd => rfl); (case hg => rfl); (case hr => first | (go_simp; done) | (go_simp; rfl)); intro gb167 hg w4 hbox hb; have n0_ := Aside0.mk (blk_below (g := gb166) (o := .cells #[.int .i64 a0_0, .int .i64 a0_1, .int .i64 a0_2, .int .i64 a0_3, .int .i64 a0_4, .slice A0_5 l0_5.length c0_5] 37 (0, 0)) (by (with_reducible repeat (first | refine blk_drewN ?_ _ | refine blk_drew ?_ | refine blk_alloc ?_ _)); exact BK166.out) hb); have n1_ := Aside0.mk (below_step (by repeat (first | (with_reducible first | exact HB.out | apply below_alloc | apply pw_below_drewN | apply below_drew1 | refine below_set ?_ GE166.out) | exact HB.out)) hb); have n2_ := Aside0.mk (hbox); have n3_ := Aside0.mk ((by rw [hg]; exact (below_size (by repeat (first | (with_reducible first | exact HB.out | apply below_alloc | apply pw_below_drewN | apply below_drew1 | refine below_set ?_ GE166.out) | exact HB.out))) : w.heap.size ≤ gb167)); have n4_ := Aside0.mk ((by rw [hg]; exact (below_size (by repeat (first | (with_reducible first | exact HB.out | apply below_alloc | apply pw_below_drewN | apply below_drew1 | refine below_set ?_ GE166.out) | exact HB.out))) : w.heap.size ≤ gb167)); have n5_ := Aside0.mk ((by rw [hg]; exact Nat.ne_of_lt (blk_lt (g := gb166) (o := .cells #[.int .i64 a0_0, .int .i64 a0_1, .int .i64 a0_2, .int .i64 a0_3, .int .i64 a0_4, .slice A0_5 l0_5.length c0_5] 37 (0, 0)) (by (with_reducible repeat (first | refine blk_drewN ?_ _ | refine blk_drew ?_ | refine blk_alloc ?_ _)); exact BK166.out)) : gb166 ≠ gb167)); have n6_ := Aside0.mk ((by rw [hg]; exact Nat.ne_of_gt (blk_lt (g := gb166) (o := .cells #[.int .i64 a0_0, .int .i64 a0_1, .int .i64 a0_2, .int .i64 a0_3, .int .i64 a0_4, .slice A0_5 l0_5.length c0_5] 37 (0, 0)) (by (with_reducible repeat (first | refine blk_drewN ?_ _ | refine blk_drew ?_ | refine blk_alloc ?_ _)); exact BK166.out)) : gb167 ≠ gb166)); clear BK166; clear HB; have BK166 := n0_; have HB := n1_; have BK167 := n2_; have GW167 := n3_; have GE167 := n4_; have NB166_167 := n5_; have NB167_166 := n6_; clear n0_ n1_ n2_ n3_ n4_ n5_ n6_; clear hb hbox hg; have hnb5 := NB166_167.out; have hnc5 := NB167_166.out; have hcz6_0 : w4.cell? ⟨gb166, 0, none⟩ = some (.int .i64 a0_0) := (blk_cell BK166.out 0).trans rfl; have hcz6_1 : w4.cell? ⟨gb166, 1, none⟩ = some (.int .i64 a0_1) := (blk_cell BK166.out 1).trans rfl; have hcz6_2 : w4.cell? ⟨gb166, 2, none⟩ = some (.int .i64 a0_2) := (blk_cell BK166.out 2).trans rfl; have hcz6_3 : w4.cell? ⟨gb166, 3, none⟩ = some (.int .i64 a0_3) := (blk_cell BK166.out 3).trans rfl; have hcz6_4 : w4.cell? ⟨gb166, 4, none⟩ = some (.int .i64 a0_4) := (blk_cell BK166.out 4).trans rfl; have hcz6_5 : w4.cell? ⟨gb166, 5, none⟩ = some (.slice A0_5 l0_5.length c0_5) := (blk_cell BK166.out 5).trans rfl; have hfz6_0 := blk_frozen BK166.out 0; have hfz6_1 := blk_frozen BK166.out 1; have hfz6_2 := blk_frozen BK166.out 2; have hfz6_3 := blk_frozen BK166.out 3; have hfz6_4 := blk_frozen BK166.out 4; have hfz6_5 := blk_frozen BK166.out 5) | ((with_reducible refine gate_callee (f := 48) rfl ?_); refine goesL_ (some 5) rfl rfl Try.func48 (by kernel_rfl) rfl #[.slice A0_5 l0_5.length c0_5] rfl (by (try simp only [List.map_toArray, List.map_cons, List.map_nil]); first | done | rfl | (simp only [List.length_drop, List.length_take]; rfl)) ?_; (with_reducible refine (slices_Clone_int_int.calls _ _ l0_5 t168 _ ?side1 ?side2 A2.out).mono ?_); (case side1 => repeat (first | exact (Kd.C_below HR0_5.out HB.out) | (with_reducible refine Kd.C_alloc ?_ _) | (with_reducible refine Kd.C_drewN ?_ _) | (with_reducible refine Kd.C_drew ?_))); (case side2 => exact HC0_5.out); rintro e w7 ⟨v169, rfl, ho0, hb⟩; refine ⟨_, rfl, ?_⟩; have n0_ := Aside0.mk (Kd.R_lower ho0 (below_size (by repeat (first | (with_reducible first | exact HB.out | apply below_alloc | apply pw_below_drewN | apply below_drew1 | refine below_set ?_ GE166.out | refine below_set ?_ GE167.out) | exact HB.out)))); have n1_ := Aside0.mk (blk_below (g := gb166) (o := .cells #[.int .i64 a0_0, .int .i64 a0_1, .int .i64 a0_2, .int .i64 a0_3, .int .i64 a0_4, .slice A0_5 l0_5.length c0_5] 37 (0, 0)) (by (with_reducible repeat (first | refine blk_drewN ?_ _ | refine blk_drew ?_ | refine blk_alloc ?_ _)); exact BK166.out) hb); have n2_ := Aside0.mk (blk_below (g := gb167) (o := .cells #[.int .i64 0, .int .i64 0, .int .i64 0, .int .i64 0, .int .i64 0, .slice none 0 0] 37 (0, 0)) (by (with_reducible repeat (first | refine blk_drewN ?_ _ | refine blk_drew ?_ | refine blk_alloc ?_ _)); exact BK167.out) hb); have n3_ := Aside0.mk (below_step (by repeat (first | (with_reducible first | exact HB.out | apply below_alloc | apply pw_below_drewN | apply below_drew1 | refine below_set ?_ GE166.out | refine below_set ?_ GE167.out) | exact HB.out)) hb); clear BK166; clear BK167; clear HB; have HO170 := n0_; have BK166 := n1_; have BK167 := n2_; have HB := n3_; clear n0_ n1_ n2_ n3_; (try clear hb); (try clear hb2); (try clear hk); (try clear hi); (try clear ho0); obtain ⟨Ao8, co8, eo8⟩ := Kd.R_slice HO170.out; subst eo8; have hcz9_0 : w7.cell? ⟨gb166, 0, none⟩ = some (.int .i64 a0_0) := (blk_cell BK166.out 0).trans rfl; have hcz9_1 : w7.cell? ⟨gb166, 1, none⟩ = some (.int .i64 a0_1) := (blk_cell BK166.out 1).trans rfl; have hcz9_2 : w7.cell? ⟨gb166, 2, none⟩ = some (.int .i64 a0_2) := (blk_cell BK166.out 2).trans rfl; have hcz9_3 : w7.cell? ⟨gb166, 3, none⟩ = some (.int .i64 a0_3) := (blk_cell BK166.out 3).trans rfl; have hcz9_4 : w7.cell? ⟨gb166, 4, none⟩ = some (.int .i64 a0_4) := (blk_cell BK166.out 4).trans rfl; have hcz9_5 : w7.cell? ⟨gb166, 5, none⟩ = some (.slice A0_5 l0_5.length c0_5) := (blk_cell BK166.out 5).trans rfl; have hfz9_0 := blk_frozen BK166.out 0; have hfz9_1 := blk_frozen BK166.out 1; have hfz9_2 := blk_frozen BK166.out 2; have hfz9_3 := blk_frozen BK166.out 3; have hfz9_4 := blk_frozen BK166.out 4; have hfz9_5 := blk_frozen BK166.out 5; have hcz10_0 : w7.cell? ⟨gb167, 0, none⟩ = some (.int .i64 0) := (blk_cell BK167.out 0).trans rfl; have hcz10_1 : w7.cell? ⟨gb167, 1, none⟩ = some (.int .i64 0) := (blk_cell BK167.out 1).trans rfl; have hcz10_2 : w7.cell? ⟨gb167, 2, none⟩ = some (.int .i64 0) := (blk_cell BK167.out 2).trans rfl; have hcz10_3 : w7.cell? ⟨gb167, 3, none⟩ = some (.int .i64 0) := (blk_cell BK167.out 3).trans rfl; have hcz10_4 : w7.cell? ⟨gb167, 4, none⟩ = some (.int .i64 0) := (blk_cell BK167.out 4).trans rfl; have hcz10_5 : w7.cell? ⟨gb167, 5, none⟩ = some (.slice none 0 0) := (blk_cell BK167.out 5).trans rfl; have hfz10_0 := blk_frozen BK167.out 0; have hfz10_1 := blk_frozen BK167.out 1; have hfz10_2 := blk_frozen BK167.out 2; have hfz10_3 := blk_frozen BK167.out 3; have hfz10_4 := blk_frozen BK167.out 4; have hfz10_5 := blk_frozen BK167.out 5))
  refine bodyPost_ret (results_cell_row rfl _ _ gb167 37 #[.int .i64 a0_0, .int .i64 a0_1, .int .i64 a0_2, .int .i64 a0_3, .int .i64 a0_4, .slice Ao8 t168.length co8] (0, 0) _ rfl (by (with_reducible repeat (first | refine blk_drewN ?_ _ | refine blk_drew ?_ | refine blk_alloc ?_ _)); refine blk_put (cs := #[.int .i64 a0_0, .int .i64 a0_1, .int .i64 a0_2, .int .i64 a0_3, .int .i64 a0_4, .slice none 0 0]) ?_ 5 _ rfl; (with_reducible repeat (first | refine blk_drewN ?_ _ | refine blk_drew ?_ | refine blk_alloc ?_ _)); refine blk_put (cs := #[.int .i64 a0_0, .int .i64 a0_1, .int .i64 a0_2, .int .i64 a0_3, .int .i64 0, .slice none 0 0]) ?_ 4 _ rfl; (with_reducible repeat (first | refine blk_drewN ?_ _ | refine blk_drew ?_ | refine blk_alloc ?_ _)); refine blk_put (cs := #[.int .i64 a0_0, .int .i64 a0_1, .int .i64 a0_2, .int .i64 0, .int .i64 0, .slice none 0 0]) ?_ 3 _ rfl; (with_reducible repeat (first | refine blk_drewN ?_ _ | refine blk_drew ?_ | refine blk_alloc ?_ _)); refine blk_put (cs := #[.int .i64 a0_0, .int .i64 a0_1, .int .i64 0, .int .i64 0, .int .i64 0, .slice none 0 0]) ?_ 2 _ rfl; (with_reducible repeat (first | refine blk_drewN ?_ _ | refine blk_drew ?_ | refine blk_alloc ?_ _)); refine blk_put (cs := #[.int .i64 a0_0, .int .i64 0, .int .i64 0, .int .i64 0, .int .i64 0, .slice none 0 0]) ?_ 1 _ rfl; (with_reducible repeat (first | refine blk_drewN ?_ _ | refine blk_drew ?_ | refine blk_alloc ?_ _)); refine blk_put (cs := #[.int .i64 0, .int .i64 0, .int .i64 0, .int .i64 0, .int .i64 0, .slice none 0 0]) ?_ 0 _ rfl; (with_reducible repeat (first | refine blk_drewN ?_ _ | refine blk_drew ?_ | refine blk_alloc ?_ _)); refine blk_far ?_ NB167_166.out _; (with_reducible repeat (first | refine blk_drewN ?_ _ | refine blk_drew ?_ | refine blk_alloc ?_ _)); exact BK167.out) Try.underlying37 rfl (by kernel_rfl)) rfl ?_
  exact ⟨_, by first | rfl | (simp [errW_none, errW_some] <;> rfl) | (simp [*, errW_none, errW_some] <;> rfl), by (with_reducible repeat (first | apply Kd.R_alloc | apply Kd.R_drewN | apply Kd.R_drew)); exact Kd.R_mono (Kd.R_far (p := ⟨gb167, 5, none⟩) (Kd.R_far (p := ⟨gb167, 4, none⟩) (Kd.R_far (p := ⟨gb167, 3, none⟩) (Kd.R_far (p := ⟨gb167, 2, none⟩) (Kd.R_far (p := ⟨gb167, 1, none⟩) (Kd.R_far (p := ⟨gb167, 0, none⟩) (Kd.R_far (p := ⟨gb166, 5, none⟩) (Kd.R_types (Kd.R_types HO170.out BK166.out (by decide)) BK167.out (by decide)) (fun _ hk => hk.1.2) (.slice Ao8 t168.length co8)) (fun _ hk => hk.2) (.int .i64 a0_0)) (fun _ hk => hk.2) (.int .i64 a0_1)) (fun _ hk => hk.2) (.int .i64 a0_2)) (fun _ hk => hk.2) (.int .i64 a0_3)) (fun _ hk => hk.2) (.int .i64 a0_4)) (fun _ hk => hk.2) (.slice Ao8 t168.length co8)) (fun _ hk => trivial), by repeat (first | (with_reducible first | exact HB.out | apply below_alloc | apply pw_below_drewN | apply below_drew1 | refine below_set ?_ GE166.out | refine below_set ?_ GE167.out) | exact HB.out)⟩

end Go.Proofs.Ytphmlkbmnmicpaa.A

/- sched.Block: what it answers. -/
namespace Go.Proofs.Ytphmlkbmnmicpaa.A
open Go.RowKit Go.Proofs.YtphmlkbmnmicpaaW.PrintWords Go.Proofs.YtphmlkbmnmicpaaW.PrintLast Go.Shelf
set_option linter.unusedVariables false
set_option linter.unusedSimpArgs false

theorem copied_calls (x : S37) (A : Option Addr) (c : Nat) (w : World) (hx : Kd.C (Kd.int .i64) w A x.f5.length x.f5) (hc : x.f5.length ≤ c) (hl : x.f5.length ≤ 1000000) :
    Calls Try.prog 31 #[.agg #[.int .i64 x.f0, .int .i64 x.f1, .int .i64 x.f2, .int .i64 x.f3, .int .i64 x.f4, .slice A x.f5.length c]] w fun e w' =>
      ∃ v5 : Value, e = .returned (.agg #[.int .i64 x.f0, .int .i64 x.f1, .int .i64 x.f2, .int .i64 x.f3, .int .i64 x.f4, v5]) ∧ Kd.R (Kd.int .i64) 3 w' w.heap.size (fun _ => True) v5 x.f5 ∧ Below w.heap.size w w' := by
  refine sched_copied.calls x.f0 x.f1 x.f2 x.f3 x.f4 A c x.f5 _ _ _ _ _ _ w hx hc ?_
  unfold sched_copied.f slices_Clone_int_int.f
  rw [if_pos hl]
  rfl

/-- what lies in memory between two rounds of Block: u is what the cell of out.Ops holds, v the row -/
structure BI (w : World) (A Ao : Option Addr) (c co n : Nat) (t : S27) (O : List Int) (xs : List S37) (u v : Value) (W : World) : Prop where
  hb : W.heap[w.heap.size]? = some (.cells #[.slice A n c, .int .i64 t.f0, .int .i64 t.f1, .int .i64 t.f2, .int .i64 t.f3] 29 (0, 0))
  hz : W.heap[w.heap.size + 1]? = some (.cells #[.slice none 0 0, .int .i64 0, .int .i64 0, .int .i64 0, .int .i64 0] 29 (0, 0))
  ho : W.heap[w.heap.size + 2]? = some (.cells #[u, .int .i64 t.f0, .int .i64 t.f1, .int .i64 t.f2, .int .i64 t.f3] 29 (0, 0))
  hO : Kd.R (Kd.int .i64) 3 W (w.heap.size + 3) (fun k => w.heap.size + 3 ≤ k) (.slice Ao n co) O
  hv : Kd.S k37 37 W w.heap.size (fun k => w.heap.size + 3 ≤ k) v xs
  hB : Below w.heap.size w W
  size : w.heap.size + 3 ≤ W.heap.size
section
variable {w : World} {A Ao : Option Addr} {c co n : Nat} {t : S27} {O : List Int} {xs : List S37} {u v : Value} {W W1 : World}
theorem BI.below (h : BI w A Ao c co n t O xs u v W) (hb : Below W.heap.size W W1) : BI w A Ao c co n t O xs u v W1 :=
  ⟨(hb.block _ (blk_lt h.hb)).trans h.hb, (hb.block _ (blk_lt h.hz)).trans h.hz, (hb.block _ (blk_lt h.ho)).trans h.ho, Kd.R_below h.hO hb, Kd.S_below h.hv hb, below_then h.hB h.hB.size hb, Nat.le_trans h.size hb.size⟩
theorem BI.cellb (h : BI w A Ao c co n t O xs u v W) : W.cell? ⟨w.heap.size, 0, none⟩ = some (.slice A n c) := (blk_cell h.hb 0).trans rfl
theorem BI.cell (h : BI w A Ao c co n t O xs u v W) : W.cell? ⟨w.heap.size + 2, 0, none⟩ = some u := (blk_cell h.ho 0).trans rfl
theorem BI.grown {ys : List S37} {v1 : Value} (h : BI w A Ao c co n t O xs u v W) (hv : Kd.S k37 37 W1 w.heap.size (fun k => w.heap.size + 3 ≤ k) v1 ys) (hB : Below w.heap.size w W1) (hg : W.grownBy W1 v.ownBlock) (hs : W.heap.size ≤ W1.heap.size) : BI w A Ao c co n t O ys u v1 W1 := by
  have hne : ∀ g, g < w.heap.size + 3 → some g ≠ v.ownBlock := fun g hg he => by have := (Kd.S_R h.hv).1 g he.symm; omega
  exact ⟨blk_grown h.hb hg (hne _ (by omega)), blk_grown h.hz hg (hne _ (by omega)), blk_grown h.ho hg (hne _ (by omega)), Kd.R_over' h.hO (by obtain ⟨inner, ho⟩ := Kd.S_own h.hv; exact own_typed ho) (by decide) hg, hv, hB, Nat.le_trans h.size hs⟩
theorem BI.set (h : BI w A Ao c co n t O xs u v W) (z : Value) : BI w A Ao c co n t O xs z v (W.setCell ⟨w.heap.size + 2, 0, none⟩ z) := by
  refine ⟨blk_far h.hb (p := ⟨w.heap.size + 2, 0, none⟩) (by show _ ≠ w.heap.size + 2; omega) _, blk_far h.hz (p := ⟨w.heap.size + 2, 0, none⟩) (by show _ ≠ w.heap.size + 2; omega) _, ?_, Kd.R_far h.hO (p := ⟨w.heap.size + 2, 0, none⟩) (fun k hk => by show k ≠ w.heap.size + 2; omega) _, Kd.S_far h.hv (p := ⟨w.heap.size + 2, 0, none⟩) (fun k hk => by show k ≠ w.heap.size + 2; omega) _, h.hB.setCell (p := ⟨w.heap.size + 2, 0, none⟩) (by show _ ≤ w.heap.size + 2; omega) _, by simpa using h.size⟩
  have := blk_set h.ho 0 z
  simpa using this
end

set_option maxRecDepth 100000 in
set_option maxHeartbeats 4000000 in
theorem block_calls (l : List S37) (t : S27) (hlen : l.length ≤ 4096) (hs : ∀ x ∈ l, x.f5.length ≤ 1000) (A : Option Addr) (c : Nat) (w : World) (hr : Kd.C k37 w A l.length l) (hc : l.length ≤ c)
    (O : List Int) (hord : ∀ W, Below w.heap.size w W → Calls Try.prog 22 #[.slice A l.length c] W fun e w' => ∃ Ao co, e = .returned (.slice Ao l.length co) ∧ Kd.R (Kd.int .i64) 3 w' W.heap.size (fun _ => True) (.slice Ao l.length co) O ∧ Below W.heap.size W w')
    (hO : ∀ k ∈ O, 0 ≤ k ∧ k < l.length) (hOl : O.length = l.length) :
    Calls Try.prog 11 #[.agg #[.slice A l.length c, .int .i64 t.f0, .int .i64 t.f1, .int .i64 t.f2, .int .i64 t.f3]] w fun e w' =>
      ∃ v : Value, e = .returned (.agg #[v, .int .i64 t.f0, .int .i64 t.f1, .int .i64 t.f2, .int .i64 t.f3]) ∧ Kd.S k37 37 w' w.heap.size (fun _ => True) v (O.map fun k => rd_T37 l k) ∧ Below w.heap.size w w' := by
  have hu29 := Try.underlying29
  have hu27 := Try.underlying27
  have hu37 := Try.underlying37
  have Hord := Aside0.mk hord
  have Hs := Aside0.mk hs
  have HO := Aside0.mk hO
  clear hord hs hO
  go_enter Try.func11, Try.ntmps11
  go_wp2_with fail
  have b0 := World.alloc_heap_new w (.cells #[.slice A l.length c, .int .i64 t.f0, .int .i64 t.f1, .int .i64 t.f2, .int .i64 t.f3] 29)
  have b1 := World.alloc_heap_new (w.alloc (.cells #[.slice A l.length c, .int .i64 t.f0, .int .i64 t.f1, .int .i64 t.f2, .int .i64 t.f3] 29)) (.cells #[.slice none 0 0, .int .i64 0, .int .i64 0, .int .i64 0, .int .i64 0] 29)
  have b2 := World.alloc_heap_new ((w.alloc (.cells #[.slice A l.length c, .int .i64 t.f0, .int .i64 t.f1, .int .i64 t.f2, .int .i64 t.f3] 29)).alloc (.cells #[.slice none 0 0, .int .i64 0, .int .i64 0, .int .i64 0, .int .i64 0] 29)) (.cells #[.slice none 0 0, .int .i64 t.f0, .int .i64 t.f1, .int .i64 t.f2, .int .i64 t.f3] 29)
  simp only [World.size_alloc] at b1 b2
  have b01 := blk_alloc (blk_alloc b0 (.cells #[.slice none 0 0, .int .i64 0, .int .i64 0, .int .i64 0, .int .i64 0] 29)) (.cells #[.slice none 0 0, .int .i64 t.f0, .int .i64 t.f1, .int .i64 t.f2, .int .i64 t.f3] 29)
  have b11 := blk_alloc b1 (.cells #[.slice none 0 0, .int .i64 t.f0, .int .i64 t.f1, .int .i64 t.f2, .int .i64 t.f3] 29)
  have hB0 := below_alloc (below_alloc (below_alloc (Below.refl w.heap.size w) (.cells #[.slice A l.length c, .int .i64 t.f0, .int .i64 t.f1, .int .i64 t.f2, .int .i64 t.f3] 29)) (.cells #[.slice none 0 0, .int .i64 0, .int .i64 0, .int .i64 0, .int .i64 0] 29)) (.cells #[.slice none 0 0, .int .i64 t.f0, .int .i64 t.f1, .int .i64 t.f2, .int .i64 t.f3] 29)
  clear b0 b1
  have hsz : (((w.alloc (.cells #[.slice A l.length c, .int .i64 t.f0, .int .i64 t.f1, .int .i64 t.f2, .int .i64 t.f3] 29)).alloc (.cells #[.slice none 0 0, .int .i64 0, .int .i64 0, .int .i64 0, .int .i64 0] 29)).alloc (.cells #[.slice none 0 0, .int .i64 t.f0, .int .i64 t.f1, .int .i64 t.f2, .int .i64 t.f3] 29)).heap.size = w.heap.size + 3 := by simp only [World.size_alloc]
  rw [show w.heap.size + 1 + 1 = w.heap.size + 2 from rfl]
  generalize (((w.alloc (.cells #[.slice A l.length c, .int .i64 t.f0, .int .i64 t.f1, .int .i64 t.f2, .int .i64 t.f3] 29)).alloc (.cells #[.slice none 0 0, .int .i64 0, .int .i64 0, .int .i64 0, .int .i64 0] 29)).alloc (.cells #[.slice none 0 0, .int .i64 t.f0, .int .i64 t.f1, .int .i64 t.f2, .int .i64 t.f3] 29)) = W0 at b01 b11 b2 hB0 hsz ⊢
  refine (Hord.out W0 hB0).mono ?_
  rintro e W1 ⟨Ao, co, rfl, hO1, hB1⟩
  have hL0 : BI w A Ao c co l.length t O [] (.slice none 0 0) (.slice none 0 0) W1 :=
    ⟨(hB1.block _ (blk_lt b01)).trans b01, (hB1.block _ (blk_lt b11)).trans b11, (hB1.block _ (blk_lt b2)).trans b2, by rw [← hsz]; exact Kd.R_mono (Kd.R_bound hO1) (fun k hk => hk.2.1), Kd.S_nil _ _ _ _ _, below_then hB0 hB0.size hB1, by rw [← hsz]; exact hB1.size⟩
  clear hO1 hB1 hB0 b01 b11 b2 hsz
  have h0b := hL0.cellb
  have hL0' := Aside0.mk hL0
  clear hL0
  go_wp2_with fail
  clear h0b
  go_loopw [31] (fun s wr => ∃ (m : Nat) (vo : Value), m ≤ l.length ∧ s = .int .i64 m ∧ Aside0 (BI w A Ao c co l.length t O ((O.take m).map fun k => rd_T37 l k) vo vo wr))
    (fun s _ => l.length - (intOf s).toNat)
  case atStart => exact ⟨0, _, Nat.zero_le _, rfl, hL0'⟩
  case round =>
    clear hL0'
    obtain ⟨m, vo, hm, rfl, hL⟩ := hrel
    by_cases hlt : m < l.length
    · have hmn : (m : Int) < (l.length : Int) := by omega
      have hml : m < O.length := by omega
      obtain ⟨oad, hoe, ho1⟩ := Kd.at_int (Kd.R_reads' hL.out.hO).2.2 (m : Int) (by omega) (by omega)
      subst hoe
      rw [Int.toNat_natCast] at ho1
      have hrdm : rd O (m : Int) = O[m] := by simp [rd, hml]
      rw [hrdm] at ho1
      have htk : ((O.take (m + 1)).map fun k => rd_T37 l k) = ((O.take m).map fun k => rd_T37 l k) ++ [rd_T37 l O[m]] := by
        rw [List.take_succ_eq_append_getElem hml, List.map_append]
        rfl
      have hk := HO.out O[m] (List.getElem_mem hml)
      have htk' := Aside0.mk htk
      clear htk hrdm
      generalize O[m] = k at ho1 hk htk'
      obtain ⟨hk0, hk1⟩ := hk
      have hxs := Aside0.mk (Hs.out (rd_T37 l k) (by unfold rd_T37; rw [List.getD_eq_getElem?_getD, List.getElem?_eq_getElem (show k.toNat < l.length by omega)]; exact List.getElem_mem _))
      obtain ⟨ld, A5, c5, rfl, q0, q1, q2, q3, q4, q5, q6, q7⟩ := at_T37 (Kd.C_below hr hL.out.hB) k hk0 hk1
      have hxl : Aside0 (((O.take m).map fun k => rd_T37 l k).length ≤ 4096) := ⟨by simp; omega⟩
      generalize rd_T37 l k = x at q0 q1 q2 q3 q4 q5 q6 q7 htk' hxs
      generalize ((O.take m).map fun k => rd_T37 l k) = xs at hL htk' hxl
      have hc0 := hL.out.cell
      have hc1 := hL.out.cellb
      go_wp2_with fail
      refine start_ (n := 12) (S := fun w' => w'.cell? ⟨w.heap.size + 2, 0, none⟩ = some vo ∧ w'.cell? ⟨w.heap.size, 0, none⟩ = some (.slice (some ld) l.length c) ∧ w'.cell? (ld.add (k.toNat * 6)) = some (.int .i64 x.f0) ∧ w'.cell? ⟨(ld.add (k.toNat * 6)).block, (ld.add (k.toNat * 6)).off + 1, none⟩ = some (.int .i64 x.f1) ∧ w'.cell? ⟨(ld.add (k.toNat * 6)).block, (ld.add (k.toNat * 6)).off + 2, none⟩ = some (.int .i64 x.f2) ∧ w'.cell? ⟨(ld.add (k.toNat * 6)).block, (ld.add (k.toNat * 6)).off + 3, none⟩ = some (.int .i64 x.f3) ∧ w'.cell? ⟨(ld.add (k.toNat * 6)).block, (ld.add (k.toNat * 6)).off + 4, none⟩ = some (.int .i64 x.f4) ∧ w'.cell? ⟨(ld.add (k.toNat * 6)).block, (ld.add (k.toNat * 6)).off + 5, none⟩ = some (.slice A5 x.f5.length c5)) (ds := [9, 11]) #[false, false, false, false, false, false, false, false, false, false, false, false] (by kernel_rfl) rfl rfl ⟨hc0, hc1, q0, q1, q2, q3, q4, q5⟩ (fun hHeld => ?_)
      have hL1 : Aside0 (BI w (some ld) (some oad) c co l.length t O xs vo vo wr.drew) := ⟨hL.out.below (pw_below_drewN (Below.refl _ _) 1)⟩
      have q7' : (Kd.int .i64).C wr.drew A5 x.f5.length x.f5 := Kd.C_below q7 (pw_below_drewN (Below.refl _ _) 1)
      clear hL hc0 hc1 q0 q1 q2 q3 q4 q5 q7 ho1
      generalize wr.drew = W1 at hL1 q7' hHeld ⊢
      refine pure_ (i := 0) (N := some 35) (v := ?_) (a' := ?_) #[true, false, false, false, false, false, false, false, false, false, false, false] rfl rfl (by kernel_rfl) (fun _ _ _ h => h) (Or.inl ⟨by rfl, ?_⟩) ?_ ?_
      rotate_left
      · intro w'
        go_simp
        try with_reducible rfl
      rotate_left
      · simp only [Act.put, List.setIfInBounds_toArray, List.set_cons_zero, List.set_cons_succ, i64_w, i32_w]
        rfl
      refine pure_ (i := 2) (N := some 37) (v := ?_) (a' := ?_) #[true, false, true, false, false, false, false, false, false, false, false, false] rfl rfl (by kernel_rfl) (fun _ _ _ h => h) (Or.inl ⟨by rfl, ?_⟩) ?_ ?_
      rotate_left
      · intro w'
        go_simp
        try with_reducible rfl
      rotate_left
      · simp only [Act.put, List.setIfInBounds_toArray, List.set_cons_zero, List.set_cons_succ, i64_w, i32_w]
        rfl
      refine pure_ (i := 4) (N := some 39) (v := ?_) (a' := ?_) #[true, false, true, false, true, false, false, false, false, false, false, false] rfl rfl (by kernel_rfl) (fun _ _ _ h => h) (Or.inl ⟨by rfl, ?_⟩) ?_ ?_
      rotate_left
      · intro w'
        go_simp
        try with_reducible rfl
      rotate_left
      · simp only [Act.put, List.setIfInBounds_toArray, List.set_cons_zero, List.set_cons_succ, i64_w, i32_w]
        rfl
      refine take_ (i := 1) (N := some 36) (v := ?_) (a' := ?_) #[true, true, true, false, true, false, false, false, false, false, false, false] rfl rfl (by kernel_rfl) (fun _ _ _ h => h) (Or.inl ⟨by rfl, ?_⟩) hHeld ?_ ?_
      rotate_left
      · rintro w' ⟨s0, s1, s2, s3, s4, s5, s6, s7⟩
        go_simp
        try with_reducible rfl
      rotate_left
      · simp only [Act.put, List.setIfInBounds_toArray, List.set_cons_zero, List.set_cons_succ, i64_w, i32_w]
        rfl
      refine take_ (i := 3) (N := some 38) (v := ?_) (a' := ?_) #[true, true, true, true, true, false, false, false, false, false, false, false] rfl rfl (by kernel_rfl) (fun _ _ _ h => h) (Or.inl ⟨by rfl, ?_⟩) hHeld ?_ ?_
      rotate_left
      · rintro w' ⟨s0, s1, s2, s3, s4, s5, s6, s7⟩
        go_simp
        try with_reducible rfl
      rotate_left
      · simp only [Act.put, List.setIfInBounds_toArray, List.set_cons_zero, List.set_cons_succ, i64_w, i32_w]
        rfl
      refine pure_ (i := 5) (N := some 40) (v := ?_) (a' := ?_) #[true, true, true, true, true, true, false, false, false, false, false, false] rfl rfl (by kernel_rfl) (fun _ _ _ h => h) (Or.inl ⟨by rfl, ?_⟩) ?_ ?_
      rotate_left
      · intro w'
        go_simp
        try with_reducible rfl
      rotate_left
      · simp only [Act.put, List.setIfInBounds_toArray, List.set_cons_zero, List.set_cons_succ, i64_w, i32_w]
        rfl
      refine take_ (i := 6) (N := some 41) (v := ?_) (a' := ?_) #[true, true, true, true, true, true, true, false, false, false, false, false] rfl rfl (by kernel_rfl) (fun _ _ _ h => h) (Or.inl ⟨by rfl, ?_⟩) hHeld ?_ ?_
      rotate_left
      · rintro w' ⟨s0, s1, s2, s3, s4, s5, s6, s7⟩
        go_simp
        try with_reducible rfl
      rotate_left
      · simp only [Act.put, List.setIfInBounds_toArray, List.set_cons_zero, List.set_cons_succ, i64_w, i32_w]
        rfl
      refine one_ (i := 7) (N := some 42) #[true, true, true, true, true, true, true, true, false, false, false, false] rfl rfl (by kernel_rfl) (by decide) (fun K hK => ?_)
      refine call_ 31 _ (by rfl) rfl (by go_simp; rfl) ?_
      refine (copied_calls x A5 c5 _ q7' q6 (by have := hxs.out; omega)).mono ?_
      rintro e w2 ⟨v5, rfl, hv5, hb2⟩
      refine ⟨_, rfl, ?_⟩
      have hL2 := Aside0.mk (hL1.out.below hb2)
      have hv6 : Aside0 (Kd.R (Kd.int .i64) 3 w2 w.heap.size (fun k => W1.heap.size ≤ k) v5 x.f5) := ⟨Kd.R_lower (Kd.R_mono (Kd.R_bound hv5) (fun k hk => hk.2.1)) hL1.out.hB.size⟩
      have hv7 : Aside0 (∀ k, W1.heap.size ≤ k → w.heap.size + 3 ≤ k ∧ some k ≠ vo.ownBlock) := ⟨fun k hk => ⟨Nat.le_trans hL1.out.size hk, Kd.fresh' (Kd.S_lt hL1.out.hv) k hk⟩⟩
      have hv8 : Aside0 (Kd.S k37 37 w2 w.heap.size (fun k => w.heap.size + 3 ≤ k ∧ ¬ W1.heap.size ≤ k) vo xs) := ⟨Kd.S_below (Kd.S_mono (Kd.S_bound hL1.out.hv) (fun k hk => ⟨hk.1, by have := hk.2.2.1; omega⟩)) hb2⟩
      refine hK.out _ _ ⟨pw_cell_below hb2 hHeld.1, pw_cell_below hb2 hHeld.2.1, pw_cell_below hb2 hHeld.2.2.1, pw_cell_below hb2 hHeld.2.2.2.1, pw_cell_below hb2 hHeld.2.2.2.2.1, pw_cell_below hb2 hHeld.2.2.2.2.2.1, pw_cell_below hb2 hHeld.2.2.2.2.2.2.1, pw_cell_below hb2 hHeld.2.2.2.2.2.2.2⟩ (fun hHeld => ?_)
      clear hK K
      refine norm_ (a' := ?_) ?_ ?_
      rotate_left
      · show Act.put _ (some 42) _ = _
        simp only [Act.put, List.setIfInBounds_toArray, List.set_cons_zero, List.set_cons_succ, i64_w, i32_w]
        rfl
      refine one_ (i := 8) (N := some 43) #[true, true, true, true, true, true, true, true, true, false, false, false] rfl rfl (by kernel_rfl) (by decide) (fun K hK => ?_)
      refine value_ (w1 := ?_) (v := ?_) (by rfl) rfl ?_ ?_
      rotate_left 2
      · go_simp
        constructor
        · rfl
        · rfl
      refine hK.out _ _ ⟨pw_cell_below (below_alloc (Below.refl _ _) _) hHeld.1, pw_cell_below (below_alloc (Below.refl _ _) _) hHeld.2.1, pw_cell_below (below_alloc (Below.refl _ _) _) hHeld.2.2.1, pw_cell_below (below_alloc (Below.refl _ _) _) hHeld.2.2.2.1, pw_cell_below (below_alloc (Below.refl _ _) _) hHeld.2.2.2.2.1, pw_cell_below (below_alloc (Below.refl _ _) _) hHeld.2.2.2.2.2.1, pw_cell_below (below_alloc (Below.refl _ _) _) hHeld.2.2.2.2.2.2.1, pw_cell_below (below_alloc (Below.refl _ _) _) hHeld.2.2.2.2.2.2.2⟩ (fun hHeld => ?_)
      clear hK K
      refine norm_ (a' := ?_) ?_ ?_
      rotate_left
      · show Act.put _ (some 43) _ = _
        simp only [Act.put, List.setIfInBounds_toArray, List.set_cons_zero, List.set_cons_succ, i64_w, i32_w]
        rfl
      refine last_ (i := 9) (N := some 44) #[true, true, true, true, true, true, true, true, true, true, false, false] rfl rfl (by kernel_rfl) (by decide) (fun K hK => ?_)
      refine Kd.S_append_step k37 (w0 := w) w.heap.size (by rfl) (.tmp 36) (.tmp 43) 22 37 (.agg #[(.int .i64 0), (.int .i64 0), (.int .i64 0), (.int .i64 0), (.int .i64 0), (.slice none 0 0)]) 64 rfl Try.underlying22 info37 rfl (by decide) (by omega) vo xs x [.int .i64 x.f0, .int .i64 x.f1, .int .i64 x.f2, .int .i64 x.f3, .int .i64 x.f4, v5] (fun k => w.heap.size + 3 ≤ k) (fun k => W1.heap.size ≤ k) rfl rfl ?aP hv7.out ?aF ?aO ?aB ?aS ?aL ?_
      (case aP => exact k37_mkM _ _ _ x (hv6.out))
      (case aF => intro k hk; have := hL2.out.size; omega)
      (case aO => exact hv8.out)
      (case aB => exact hL2.out.hB)
      (case aS => have := hL2.out.size; omega)
      (case aL => have := hxl.out; omega)
      intro v1 w4 hv1 hb4 hg4 hat4
      have hL4 := Aside0.mk (hL2.out.grown hv1 hb4 hg4 hg4.size)
      obtain ⟨Av, cv, hve⟩ := Kd.S_slice hv1
      rw [show (xs ++ [x]).length = xs.length + 1 by simp] at hve
      subst hve
      refine hK.out _ _ ?_
      clear hK K
      refine norm_ (a' := ?_) ?_ ?_
      rotate_left
      · show Act.put _ (some 44) _ = _
        simp only [Act.put, List.setIfInBounds_toArray, List.set_cons_zero, List.set_cons_succ, i64_w, i32_w]
        rfl
      refine pure_ (i := 10) (N := some 45) (v := ?_) (a' := ?_) #[true, true, true, true, true, true, true, true, true, true, true, false] rfl rfl (by kernel_rfl) (fun _ _ _ h => h) (Or.inl ⟨by rfl, ?_⟩) ?_ ?_
      rotate_left
      · intro w'
        go_simp
        try with_reducible rfl
      rotate_left
      · simp only [Act.put, List.setIfInBounds_toArray, List.set_cons_zero, List.set_cons_succ, i64_w, i32_w]
        rfl
      refine last_ (i := 11) (N := none) #[true, true, true, true, true, true, true, true, true, true, true, true] rfl rfl (by kernel_rfl) (by decide) (fun K hK => ?_)
      have s0 := hL4.out.cell
      have s1 := blk_frozen hL4.out.ho 0
      refine skip_ (w1 := ?_) (by rfl) rfl ?_ ?_
      rotate_left
      · go_simp
        rfl
      have hL5 := Aside0.mk (hL4.out.set (.slice Av (xs.length + 1) cv))
      refine hK.out _ _ ?_
      clear hK K
      refine done_ (by kernel_rfl) ?_
      try go_wp2
      go_roundw
      case rel => exact ⟨m + 1, _, by omega, by go_num, by rw [htk'.out]; exact hL5⟩
      case measure => simp [intOf]; omega
    · obtain rfl : m = l.length := by omega
      obtain ⟨Av, cv, hve⟩ := Kd.S_slice hL.out.hv
      rw [show ((O.take l.length).map fun k => rd_T37 l k).length = l.length by simp; omega] at hve
      subst hve
      have hc0 := hL.out.cell
      have hc1 : wr.cell? ⟨w.heap.size + 2, 1, none⟩ = some (.int .i64 t.f0) := (blk_cell hL.out.ho 1).trans rfl
      have hc2 : wr.cell? ⟨w.heap.size + 2, 2, none⟩ = some (.int .i64 t.f1) := (blk_cell hL.out.ho 2).trans rfl
      have hc3 : wr.cell? ⟨w.heap.size + 2, 3, none⟩ = some (.int .i64 t.f2) := (blk_cell hL.out.ho 3).trans rfl
      have hc4 : wr.cell? ⟨w.heap.size + 2, 4, none⟩ = some (.int .i64 t.f3) := (blk_cell hL.out.ho 4).trans rfl
      have hz0 : wr.cell? ⟨w.heap.size + 1, 0, none⟩ = some (.slice none 0 0) := (blk_cell hL.out.hz 0).trans rfl
      have hz1 : wr.cell? ⟨w.heap.size + 1, 1, none⟩ = some (.int .i64 0) := (blk_cell hL.out.hz 1).trans rfl
      have hz2 : wr.cell? ⟨w.heap.size + 1, 2, none⟩ = some (.int .i64 0) := (blk_cell hL.out.hz 2).trans rfl
      have hz3 : wr.cell? ⟨w.heap.size + 1, 3, none⟩ = some (.int .i64 0) := (blk_cell hL.out.hz 3).trans rfl
      have hz4 : wr.cell? ⟨w.heap.size + 1, 4, none⟩ = some (.int .i64 0) := (blk_cell hL.out.hz 4).trans rfl
      have hf0 := blk_frozen hL.out.hz 0
      have hf1 := blk_frozen hL.out.hz 1
      have hf2 := blk_frozen hL.out.hz 2
      have hf3 := blk_frozen hL.out.hz 3
      have hf4 := blk_frozen hL.out.hz 4
      have hend := hL.out.hv
      rw [show List.take l.length O = O by rw [← hOl, List.take_length]] at hend
      have hend' := Aside0.mk hend
      have hB := Aside0.mk hL.out.hB
      clear hend
      have hL' := Aside0.mk hL.out
      clear hL
      go_wp2_with fail
      refine bodyPost_ret (results_cell_row rfl _ _ (w.heap.size + 1) 29 #[.slice Av l.length cv, .int .i64 t.f0, .int .i64 t.f1, .int .i64 t.f2, .int .i64 t.f3] (0, 0) _ rfl (by refine blk_put (cs := #[.slice Av l.length cv, .int .i64 t.f0, .int .i64 t.f1, .int .i64 t.f2, .int .i64 0]) ?_ 4 _ rfl; refine blk_put (cs := #[.slice Av l.length cv, .int .i64 t.f0, .int .i64 t.f1, .int .i64 0, .int .i64 0]) ?_ 3 _ rfl; refine blk_put (cs := #[.slice Av l.length cv, .int .i64 t.f0, .int .i64 0, .int .i64 0, .int .i64 0]) ?_ 2 _ rfl; refine blk_put (cs := #[.slice Av l.length cv, .int .i64 0, .int .i64 0, .int .i64 0, .int .i64 0]) ?_ 1 _ rfl; refine blk_put (cs := #[.slice none 0 0, .int .i64 0, .int .i64 0, .int .i64 0, .int .i64 0]) ?_ 0 _ rfl; exact hL'.out.hz) Try.underlying29 rfl (by kernel_rfl)) rfl ?_
      have ge : w.heap.size ≤ w.heap.size + 1 := Nat.le_succ _
      have hne : ∀ k, w.heap.size + 3 ≤ k → k ≠ w.heap.size + 1 := fun k hk => by omega
      refine ⟨_, rfl, Kd.S_mono (Kd.S_far (p := ⟨w.heap.size + 1, 4, none⟩) (Kd.S_far (p := ⟨w.heap.size + 1, 3, none⟩) (Kd.S_far (p := ⟨w.heap.size + 1, 2, none⟩) (Kd.S_far (p := ⟨w.heap.size + 1, 1, none⟩) (Kd.S_far (p := ⟨w.heap.size + 1, 0, none⟩) hend'.out hne _) hne _) hne _) hne _) hne _) (fun _ _ => trivial), ?_⟩
      exact below_set (below_set (below_set (below_set (below_set hB.out ge) ge) ge) ge) ge
#print axioms block_calls
end Go.Proofs.Ytphmlkbmnmicpaa.A

/- The functions that a program does not print, in the form that printed texts take them. -/
namespace Go.Proofs.Ytphmlkbmnmicpaa.A
open Go.RowKit Go.Proofs.YtphmlkbmnmicpaaW.PrintWords Go.Proofs.YtphmlkbmnmicpaaW.PrintLast Go.Shelf
set_option linter.unusedVariables false
set_option linter.unusedSimpArgs false

def Few (l : List S37) : Prop := l.length ≤ 4096 ∧ ∀ x ∈ l, x.f5.length ≤ 1000
instance (l : List S37) : Decidable (Few l) := by unfold Few; exact inferInstance

def sched_Order.f (l0 : List S37) : Option (List Int) := if Few l0 then some (orderOf l0) else none
theorem sched_Order.calls (A0 : Option Addr) (c0 : Nat) (l0 : List S37) (r : List Int) (w : World) (hr0 : Kd.C k37 w A0 l0.length l0) (hc0 : l0.length ≤ c0) (h : sched_Order.f l0 = some r) :
    Calls Try.prog 22 #[.slice A0 l0.length c0] w fun e w' => ∃ v0_ : Value, e = .returned (v0_) ∧ Kd.R (Kd.int .i64) 3 w' w.heap.size (fun _ => True) v0_ r ∧ Below w.heap.size w w' := by
  unfold sched_Order.f at h
  split at h
  · obtain rfl := Option.some.inj h
    rename_i hf
    exact order_calls l0 hf.1 hf.2 A0 c0 w hr0 hc0
  · cases h

theorem orderOf_rng (l : List S37) : ∀ k ∈ orderOf l, 0 ≤ k ∧ k < l.length := by
  intro k hk
  obtain ⟨i, rfl, hi⟩ := orderBy_rng _ _ (depsOf_back l) k hk
  rw [depsOf_length] at hi
  omega

def sched_Block.f (l0 : List S37) (a b c d : Int) : Option (List S37 × Int × Int × Int × Int) := if Few l0 then some ((orderOf l0).map (fun k => rd_T37 l0 k), a, b, c, d) else none
theorem sched_Block.calls (A0 : Option Addr) (c0 : Nat) (l0 : List S37) (a b c d : Int) (r : List S37) (r1 r2 r3 r4 : Int) (w : World) (hr0 : Kd.C k37 w A0 l0.length l0) (hc0 : l0.length ≤ c0) (h : sched_Block.f l0 a b c d = some (r, r1, r2, r3, r4)) :
    Calls Try.prog 11 #[.agg #[.slice A0 l0.length c0, .int .i64 a, .int .i64 b, .int .i64 c, .int .i64 d]] w fun e w' => ∃ v0_ : Value, e = .returned (.agg #[v0_, .int .i64 r1, .int .i64 r2, .int .i64 r3, .int .i64 r4]) ∧ Kd.S k37 37 w' w.heap.size (fun _ => True) v0_ r ∧ Below w.heap.size w w' := by
  unfold sched_Block.f at h
  split at h
  · rename_i hf
    have h' := Option.some.inj h
    injection h' with e0 h'
    injection h' with e1 h'
    injection h' with e2 h'
    injection h' with e3 e4
    subst e0 e1 e2 e3 e4
    refine block_calls l0 ⟨a, b, c, d⟩ hf.1 hf.2 A0 c0 w hr0 hc0 (orderOf l0) (fun W hW => ?_) (orderOf_rng l0) (orderOf_length l0)
    refine (order_calls l0 hf.1 hf.2 A0 c0 W (Kd.C_below hr0 hW) hc0).mono ?_
    rintro e w' ⟨v, he, hv, hb⟩
    obtain ⟨Ao, co, rfl⟩ := Kd.R_slice hv
    rw [orderOf_length] at he hv
    exact ⟨Ao, co, he, hv, hb⟩
  · cases h

def sched_May.f (l0 : List S37) (o : List Int) : Option Bool := if Few l0 then some (decide (o.length = l0.length) && mayB (depsOf l0) l0.length (List.replicate l0.length false) o) else none
set_option maxHeartbeats 1000000 in
theorem sched_May.calls (A0 : Option Addr) (c0 : Nat) (l0 : List S37) (A1 : Option Addr) (c1 : Nat) (l1 : List Int) (r : Bool) (w : World) (hr0 : Kd.C k37 w A0 l0.length l0) (hc0 : l0.length ≤ c0) (hr1 : Kd.C (Kd.int .i64) w A1 l1.length l1) (hc1 : l1.length ≤ c1) (h : sched_May.f l0 l1 = some r) :
    Calls Try.prog 24 #[.slice A0 l0.length c0, .slice A1 l1.length c1] w fun e w' => e = .returned (.bool r) ∧ Below w.heap.size w w' := by
  unfold sched_May.f at h
  split at h
  · rename_i hf
    obtain rfl := Option.some.inj h
    by_cases hl : l1.length = l0.length
    · rw [decide_eq_true hl, Bool.true_and]
      exact may_calls l0 hf.1 hf.2 A0 c0 w hr0 hc0 l1 A1 c1 hr1 hl
    · rw [decide_eq_false hl, Bool.false_and]
      have h1 := hf.1
      have h2 : ((l1.length : Int) != (l0.length : Int)) = true := by simp; omega
      clear hf hr0 hr1 hc0 hc1 h hl
      go_enter Try.func24, Try.ntmps24
      go_wp2_with fail
      go_ret
      exact ⟨rfl, Below.refl _ _⟩
  · cases h

def sched_heights.f (l0 : List S37) (d : List (List Int)) : Option (List Int) := if Few l0 ∧ d = depsOf l0 then some (hAll l0 d (down l0.length 0)) else none
theorem sched_heights.calls (A0 : Option Addr) (c0 : Nat) (l0 : List S37) (A1 : Option Addr) (c1 : Nat) (l1 : List (List Int)) (r : List Int) (w : World) (hr0 : Kd.C k37 w A0 l0.length l0) (hc0 : l0.length ≤ c0) (hr1 : Kd.C (Kd.slice 3 (Kd.int .i64)) w A1 l1.length l1) (hc1 : l1.length ≤ c1) (h : sched_heights.f l0 l1 = some r) :
    Calls Try.prog 34 #[.slice A0 l0.length c0, .slice A1 l1.length c1] w fun e w' => ∃ v0_ : Value, e = .returned (v0_) ∧ Kd.R (Kd.int .i64) 3 w' w.heap.size (fun _ => True) v0_ r ∧ Below w.heap.size w w' := by
  unfold sched_heights.f at h
  split at h
  · rename_i hf
    obtain rfl := Option.some.inj h
    obtain ⟨hf, hd⟩ := hf
    have hdl : l1.length = l0.length := by rw [hd]; exact depsOf_length l0
    have hbk : Back l1 := by rw [hd]; exact depsOf_back l0
    clear hd h
    have h1 := hf.1
    have := heights_calls l0 l1 A0 A1 c0 c1 w hr0 hc0 hr1 hc1 (by omega) (by omega) (fun i hi k hk => by
      obtain ⟨m, rfl, hm⟩ := hbk i hi k hk
      omega)
    rw [hdl] at this ⊢
    exact this
  · cases h
#print axioms sched_May.calls
#print axioms sched_Block.calls
#print axioms sched_heights.calls
end Go.Proofs.Ytphmlkbmnmicpaa.A

/- What is ordered again stays; Order may be: over plain lists. -/
namespace Go.Proofs.Ytphmlkbmnmicpaa.A
open Go.RowKit Go.Proofs.YtphmlkbmnmicpaaW.PrintWords Go.Proofs.YtphmlkbmnmicpaaW.PrintLast Go.Shelf
set_option linter.unusedVariables false
set_option linter.unusedSimpArgs false

theorem mkL_mem' {n : Nat} {k : Nat} : ((k : Int) ∈ mkL n fun i : Nat => (i : Int)) ↔ k < n := by
  simp only [mkL, List.mem_map, List.mem_range]
  constructor
  · rintro ⟨a, h, e⟩; omega
  · intro h; exact ⟨k, h, rfl⟩

/-- the places of an order -/
structure Places (l : List S37) (ob : Nat → Nat) : Prop where
  get : ∀ i, i < l.length → (orderOf l)[i]? = some ((ob i : Nat) : Int)
  lt : ∀ i, i < l.length → ob i < l.length
  pick : ∀ i, i < l.length → Pick (heightsOf l) (depsOf l) ((orderOf l).take i) (ob i)
  mem : ∀ i k : Nat, i ≤ l.length → ((k : Int) ∈ (orderOf l).take i ↔ ∃ j, j < i ∧ k = ob j)
  inj : ∀ i j, i < l.length → j < l.length → ob i = ob j → i = j
  onto : ∀ k, k < l.length → ∃ i, i < l.length ∧ ob i = k
  back : ∀ i : Nat, i < l.length → ∀ k : Int, k ∈ rd_L1 (depsOf l) (ob i) → ∃ j, j < i ∧ k = (ob j : Nat)

theorem places (l : List S37) : ∃ ob, Places l ob := by
  have hd := depsOf_back l
  have hdl := depsOf_length l
  have hol := orderOf_length l
  obtain ⟨ob, hob⟩ := Go.Deep.choose_lt (α := Nat) (n := l.length) (p := fun i b => (orderOf l)[i]? = some (b : Int) ∧ Pick (heightsOf l) (depsOf l) ((orderOf l).take i) b) (fun i hi => orderBy_get (heightsOf l) (depsOf l) hd i (by omega))
  have hmem : ∀ i k : Nat, i ≤ l.length → ((k : Int) ∈ (orderOf l).take i ↔ ∃ j, j < i ∧ k = ob j) := by
    intro i k hi
    rw [List.mem_iff_getElem?]
    constructor
    · rintro ⟨j, hj⟩
      have hji : j < i := by
        have := (List.getElem?_eq_some_iff.1 hj).1
        rw [List.length_take] at this
        omega
      rw [List.getElem?_take_of_lt hji, (hob j (by omega)).1] at hj
      exact ⟨j, hji, by have := Option.some.inj hj; omega⟩
    · rintro ⟨j, hj, rfl⟩
      exact ⟨j, by rw [List.getElem?_take_of_lt hj]; exact (hob j (by omega)).1⟩
  refine ⟨ob, fun i hi => (hob i hi).1, fun i hi => by have := (hob i hi).2.lt; omega, fun i hi => (hob i hi).2, hmem, ?_, ?_, ?_⟩
  · intro i j hi hj he
    rcases Nat.lt_trichotomy i j with h | h | h
    · exact absurd ((hmem j (ob j) (by omega)).2 ⟨i, h, he.symm⟩) (hob j hj).2.new
    · exact h
    · exact absurd ((hmem i (ob i) (by omega)).2 ⟨j, h, he⟩) (hob i hi).2.new
  · intro k hk
    have := orderBy_all (heightsOf l) (depsOf l) hd k (by omega)
    have h2 : (k : Int) ∈ (orderOf l).take l.length := by rw [List.take_of_length_le (by omega)]; exact this
    obtain ⟨j, hj, e⟩ := (hmem l.length k (Nat.le_refl _)).1 h2
    exact ⟨j, hj, e.symm⟩
  · intro i hi k hk
    obtain ⟨m, rfl, hm⟩ := hd _ (hob i hi).2.lt k hk
    obtain ⟨j, hj, e⟩ := (hmem i m (by omega)).1 ((hob i hi).2.row _ hk)
    exact ⟨j, hj, by rw [e]⟩

theorem afterOf_comm (a b : S37) : afterOf a b = afterOf b a := by
  unfold afterOf
  by_cases h : setsOf a = setsOf b
  · rw [h]
    cases pureOf a <;> cases pureOf b <;> simp [Bool.or_comm, Bool.or_assoc, Bool.or_left_comm]
  · have h' : ¬ setsOf b = setsOf a := fun e => h e.symm
    cases pureOf a <;> cases pureOf b <;> simp [h, h', Bool.or_comm]

theorem dep_iff (l : List S37) (i k : Nat) (hi : i < l.length) : (k : Int) ∈ rd_L1 (depsOf l) (i : Int) ↔ k < i ∧ afterOf (rd_T37 l i) (rd_T37 l k) = true := by
  rw [depsOf_row l i hi, partOf_mem]
  constructor
  · rintro ⟨m, hm, h1, h2⟩
    obtain rfl : m = k := by omega
    exact ⟨h1, h2⟩
  · rintro ⟨h1, h2⟩
    exact ⟨k, rfl, h1, h2⟩

def again (l : List S37) : List S37 := (orderOf l).map fun k => rd_T37 l k
theorem again_length (l : List S37) : (again l).length = l.length := by unfold again; rw [List.length_map, orderOf_length]
theorem again_get {l : List S37} {ob : Nat → Nat} (hp : Places l ob) (i : Nat) (hi : i < l.length) : rd_T37 (again l) (i : Int) = rd_T37 l ((ob i : Nat) : Int) := by
  unfold again
  show (List.map _ _).getD _ _ = _
  rw [Int.toNat_natCast, List.getD_eq_getElem?_getD, List.getElem?_map, hp.get i hi]
  rfl
theorem again_dep {l : List S37} {ob : Nat → Nat} (hp : Places l ob) (i k : Nat) (hi : i < l.length) (hk : k < l.length) : (k : Int) ∈ rd_L1 (depsOf (again l)) (i : Int) ↔ ((ob k : Nat) : Int) ∈ rd_L1 (depsOf l) ((ob i : Nat) : Int) := by
  rw [dep_iff _ _ _ (by rw [again_length]; exact hi), again_get hp i hi, again_get hp k hk]
  constructor
  · rintro ⟨h1, h2⟩
    rw [dep_iff _ _ _ (hp.lt i hi)]
    refine ⟨?_, h2⟩
    rcases Nat.lt_trichotomy (ob k) (ob i) with h | h | h
    · exact h
    · have := hp.inj k i hk hi h; omega
    · rw [afterOf_comm] at h2
      obtain ⟨j, hj, e⟩ := hp.back k hk _ ((dep_iff l (ob k) (ob i) (hp.lt k hk)).2 ⟨h, h2⟩)
      have := hp.inj i j hi (by omega) (by omega)
      omega
  · intro h
    obtain ⟨j, hj, e⟩ := hp.back i hi _ h
    have := hp.inj k j hk (by omega) (by omega)
    exact ⟨by omega, ((dep_iff _ _ _ (hp.lt i hi)).1 h).2⟩

theorem again_high {l : List S37} (hn : l.length ≤ 4096) {ob : Nat → Nat} (hp : Places l ob) : ∀ d i : Nat, l.length - i ≤ d → i < l.length → rd (heightsOf (again l)) (i : Int) = rd (heightsOf l) ((ob i : Nat) : Int) := by
  have H := heightsOf_high l hn
  have H' := heightsOf_high (again l) (by rw [again_length]; exact hn)
  have el := again_length l
  have hlat : ∀ i, i < l.length → lt_ (again l) i = lt_ l (ob i) := fun i hi => by unfold lt_; rw [again_get hp i hi]
  intro d
  induction d with
  | zero => intro i h1 h2; omega
  | succ d ih =>
    intro i h1 h2
    have hoi := hp.lt i h2
    apply Int.le_antisymm
    · rcases H'.why i (by omega) with h3 | ⟨k, h3, h4, h5, h6⟩
      · rw [h3, hlat i h2]; exact H.lo _ hoi
      · rw [el] at h4
        rw [h6, hlat i h2, ih k (by omega) h4]
        exact H.row _ (hp.lt k h4) _ ((again_dep hp k i h4 h2).1 h5)
    · rcases H.why (ob i) hoi with h3 | ⟨kk, h3, h4, h5, h6⟩
      · rw [h3, ← hlat i h2]; exact H'.lo i (by omega)
      · obtain ⟨k, hk, rfl⟩ := hp.onto kk h4
        obtain ⟨j, hj, e⟩ := hp.back k hk _ h5
        have hij := hp.inj i j h2 (by omega) (by omega)
        rw [h6, ← hlat i h2, ← ih k (by omega) hk]
        exact H'.row k (by omega) i ((again_dep hp k i hk h2).2 h5)

theorem again_order (l : List S37) (hn : l.length ≤ 4096) : orderOf (again l) = mkL l.length fun i : Nat => (i : Int) := by
  obtain ⟨ob, hp⟩ := places l
  have el := again_length l
  have hol := orderOf_length (again l)
  have hh := again_high hn hp
  have step : ∀ m, m ≤ l.length → (orderOf (again l)).take m = mkL m fun i : Nat => (i : Int) := by
    intro m
    induction m with
    | zero => intro _; simp [mkL]
    | succ m ih =>
      intro hm
      have hi := ih (by omega)
      obtain ⟨b, hb, hpk⟩ := orderBy_get (heightsOf (again l)) (depsOf (again l)) (depsOf_back _) m (by rw [depsOf_length, el]; omega)
      have hb' : (orderOf (again l))[m]? = some (b : Int) := hb
      have hpk' : Pick (heightsOf (again l)) (depsOf (again l)) ((orderOf (again l)).take m) b := hpk
      rw [hi] at hpk'
      have h1 := hpk'.new
      have hbl := hpk'.lt
      rw [depsOf_length, el] at hbl
      rw [mkL_mem'] at h1
      have hbm : b = m := by
        rcases Nat.lt_or_eq_of_le (Nat.le_of_not_lt h1) with h2 | h2
        · exfalso
          have h3 := hpk'.top m (by rw [depsOf_length, el]; omega) (by rw [mkL_mem']; omega) (fun k hk => by
            obtain ⟨q, rfl, hq⟩ := depsOf_back (again l) m (by rw [depsOf_length, el]; omega) k hk
            rw [mkL_mem']; exact hq)
          have h4 := h3.2 h2
          rw [hh l.length m (by omega) (by omega), hh l.length b (by omega) hbl] at h4
          have h5 := (hp.pick m (by omega)).top (ob b) (by rw [depsOf_length]; exact hp.lt b hbl) (fun hk => by
            obtain ⟨j, hj, e⟩ := (hp.mem m (ob b) (by omega)).1 hk
            have := hp.inj b j hbl (by omega) e
            omega) (fun k hk => by
            obtain ⟨j, hj, rfl⟩ := hp.back b hbl k hk
            have h6 := hpk'.row _ ((again_dep hp b j hbl (by omega)).2 hk)
            rw [mkL_mem'] at h6
            exact (hp.mem m (ob j) (by omega)).2 ⟨j, h6, rfl⟩)
          omega
        · exact h2.symm
      subst hbm
      rw [show mkL (b + 1) (fun i : Nat => (i : Int)) = mkL b (fun i : Nat => (i : Int)) ++ [(b : Int)] by simp [mkL, List.range_succ], List.take_add_one, hi, hb']
      rfl
  have := step l.length (Nat.le_refl _)
  rwa [List.take_of_length_le (by omega)] at this
theorem again_again (l : List S37) (hn : l.length ≤ 4096) : again (again l) = again l := by
  have el := again_length l
  have e : again (again l) = (orderOf (again l)).map fun k => rd_T37 (again l) k := rfl
  rw [e, again_order l hn]
  apply List.ext_getElem
  · simp [mkL, el]
  · intro i h1 h2
    simp only [mkL, List.getElem_map, List.getElem_range, List.map_map]
    show (again l).getD _ _ = _
    show (again l).getD (i : Int).toNat z37 = _
    rw [Int.toNat_natCast, List.getD_eq_getElem?_getD, List.getElem?_eq_getElem h2]
    rfl

theorem may_order (l : List S37) : mayB (depsOf l) l.length (List.replicate l.length false) (orderOf l) = true := by
  obtain ⟨ob, hp⟩ := places l
  have hol := orderOf_length l
  suffices h : ∀ (d m : Nat) (ps : List Bool), m ≤ l.length → l.length - m = d → ps.length = l.length → (∀ i : Nat, i < l.length → (ps.getD i false = true ↔ (i : Int) ∈ (orderOf l).take m)) → mayB (depsOf l) l.length ps ((orderOf l).drop m) = true by
    have := h l.length 0 (List.replicate l.length false) (Nat.zero_le _) rfl (by simp) (fun i hi => by simp [List.getD_eq_getElem?_getD, hi])
    rwa [List.drop_zero] at this
  intro d
  induction d with
  | zero =>
    intro m ps hm hd hl hps
    rw [List.drop_of_length_le (by omega)]
    rfl
  | succ d ih =>
    intro m ps hm hd hl hps
    have hml : m < (orderOf l).length := by omega
    have hg : (orderOf l)[m] = ((ob m : Nat) : Int) := by
      have := hp.get m (by omega)
      rw [List.getElem?_eq_getElem hml] at this
      exact Option.some.inj this
    have hlt := hp.lt m (by omega)
    rw [List.drop_eq_getElem_cons hml, hg, mayB, if_neg (by omega), if_neg (by omega)]
    have h1 : ps.getD (ob m) false = false := by
      have := mt (hps (ob m) hlt).1 (hp.pick m (by omega)).new
      simpa using this
    rw [Int.toNat_natCast, h1, if_neg (by simp)]
    have h2 : ((rd_L1 (depsOf l) ((ob m : Nat) : Int)).any fun a => !(ps.getD a.toNat false)) = false := by
      rw [List.any_eq_false]
      intro k hk
      obtain ⟨j, hj, rfl⟩ := hp.back m (by omega) k hk
      have := (hps (ob j) (hp.lt j (by omega))).2 ((hp.mem m (ob j) (by omega)).2 ⟨j, hj, rfl⟩)
      rw [Int.toNat_natCast, this]
      simp
    rw [h2, if_neg (by simp)]
    refine ih (m + 1) _ (by omega) (by omega) (by simpa using hl) (fun i hi => ?_)
    rw [hp.mem (m + 1) i (by omega)]
    by_cases him : i = ob m
    · subst him
      have hb : ob m < ps.length := by omega
      simp only [List.getD_eq_getElem?_getD, List.getElem?_set_self hb, Option.getD_some, true_iff]
      exact ⟨m, by omega, rfl⟩
    · rw [List.getD_eq_getElem?_getD, List.getElem?_set_ne (by omega), ← List.getD_eq_getElem?_getD, hps i hi, hp.mem m i (by omega)]
      constructor
      · rintro ⟨j, hj, e⟩; exact ⟨j, by omega, e⟩
      · rintro ⟨j, hj, e⟩
        have : j ≠ m := fun h => him (by rw [e, h])
        exact ⟨j, by omega, e⟩

theorem nonpure_order (l : List S37) {ob : Nat → Nat} (hp : Places l ob) (i j : Nat) (hij : i < j) (hj : j < l.length) (h1 : pureOf (rd_T37 l (ob i : Nat)) = false) (h2 : pureOf (rd_T37 l (ob j : Nat)) = false) : ob i < ob j := by
  rcases Nat.lt_trichotomy (ob i) (ob j) with h | h | h
  · exact h
  · have := hp.inj i j (by omega) hj h; omega
  · have h3 : afterOf (rd_T37 l (ob i : Nat)) (rd_T37 l (ob j : Nat)) = true := by unfold afterOf; rw [h1, h2]; rfl
    obtain ⟨q, hq, e⟩ := hp.back i (by omega) _ ((dep_iff l (ob i) (ob j) (hp.lt i (by omega))).2 ⟨h, h3⟩)
    have := hp.inj j q hj (by omega) (by omega)
    omega
#print axioms again_again
#print axioms may_order
#print axioms nonpure_order
end Go.Proofs.Ytphmlkbmnmicpaa.A

/- What the machine does at this function, and a plain Lean function that says the same: written by a program for this claim; Lean checks it. -/
namespace Go.Proofs.Ytphmlkbmnmicpaa.A
open Go.RowKit Go.Proofs.YtphmlkbmnmicpaaW.PrintWords Go.Proofs.YtphmlkbmnmicpaaW.PrintLast Go.Proofs.YtphmlkbmnmicpaaW.PrintMore
attribute [local go_sem] max2_int min2_int max_two min_two max_three min_three max_four min_four   -- for this text's walks alone
set_option linter.unusedVariables false
set_option linter.unusedSimpArgs false

/-! ### swagelaw27_some: function 30 -/
def swagelaw27_some.f  : Option ((List (S37))) := some (([(⟨1, 1, 0, 0, 0, ([] : List Int)⟩ : S37), (⟨4, 2, 3, 0, 0, ([] : List Int)⟩ : S37), (⟨2, 4, 1, 2, 1, ([] : List Int)⟩ : S37)] : List (S37)))
set_option maxHeartbeats 8000000 in
set_option maxRecDepth 100000 in
theorem swagelaw27_some.calls  (r : List (S37)) (w : World) (h : swagelaw27_some.f  = some r) :
    Calls Try.prog 30 #[] w fun e w' => ∃ v0_ : Value, e = .returned (v0_) ∧ Kd.S k37 37 w' w.heap.size (fun _ => True) v0_ r ∧ Below w.heap.size w w' := by
  have hu37 := Try.underlying37
  have HB := Aside0.mk (Below.refl w.heap.size w)
  have H : (some (([(⟨1, 1, 0, 0, 0, ([] : List Int)⟩ : S37), (⟨4, 2, 3, 0, 0, ([] : List Int)⟩ : S37), (⟨2, 4, 1, 2, 1, ([] : List Int)⟩ : S37)] : List (S37)))) = some r := h
  clear h
  obtain ⟨y199, hy199⟩ : ∃ y_ : List (S37), y_ = (([(⟨1, 1, 0, 0, 0, ([] : List Int)⟩ : S37), (⟨4, 2, 3, 0, 0, ([] : List Int)⟩ : S37), (⟨2, 4, 1, 2, 1, ([] : List Int)⟩ : S37)] : List (S37))) := ⟨_, rfl⟩
  replace H : (some y199) = some r := by first | (rw [hy199]; with_reducible exact H) | (have H2_ := (Option.bind_some _ _).symm.trans H; rw [hy199]; with_reducible exact H2_) | (have H2_ := (Option.bind_some _ _).symm.trans H; with_reducible exact H2_) | with_reducible exact H | (rw [hy199]; exact H) | exact H
  have Ny199 := Aside0.mk hy199
  clear hy199
  obtain rfl := Option.some.inj H
  go_enter Try.func30, Try.ntmps30
  go_wp2_with (first | ((with_reducible refine gate_dst (N := 4) rfl ?_); refine Kd.S_lit k37 _ 37 ?hg (N := 4) ?hd (xs := ([(⟨1, 1, 0, 0, 0, ([] : List Int)⟩ : S37), (⟨4, 2, 3, 0, 0, ([] : List Int)⟩ : S37), (⟨2, 4, 1, 2, 1, ([] : List Int)⟩ : S37)] : List (S37))) (inner := [.int .i64 1, .int .i64 1, .int .i64 0, .int .i64 0, .int .i64 0, .slice none 0 0, .int .i64 4, .int .i64 2, .int .i64 3, .int .i64 0, .int .i64 0, .slice none 0 0, .int .i64 2, .int .i64 4, .int .i64 1, .int .i64 2, .int .i64 1, .slice none 0 0]) (ok := fun _ => True) (okp := fun _ => True) ?hr ?hp (fun _ hk => hk) trivial (Below.refl _ _) (Nat.le_refl _) (by simp) ?_; (case hd => rfl); (case hg => rfl); (case hr => first | (go_simp; done) | (go_simp; rfl)); (case hp => exact (Reps.c6 (show Kd.M k37 _ _ _ (⟨1, 1, 0, 0, 0, ([] : List Int)⟩ : S37) [.int .i64 1, .int .i64 1, .int .i64 0, .int .i64 0, .int .i64 0, .slice none 0 0] from (k37_mkM _ _ _ (⟨1, 1, 0, 0, 0, ([] : List Int)⟩ : S37) (Kd.R_nil _ _ _ _ _))) (Reps.c6 (show Kd.M k37 _ _ _ (⟨4, 2, 3, 0, 0, ([] : List Int)⟩ : S37) [.int .i64 4, .int .i64 2, .int .i64 3, .int .i64 0, .int .i64 0, .slice none 0 0] from (k37_mkM _ _ _ (⟨4, 2, 3, 0, 0, ([] : List Int)⟩ : S37) (Kd.R_nil _ _ _ _ _))) (Reps.c6 (show Kd.M k37 _ _ _ (⟨2, 4, 1, 2, 1, ([] : List Int)⟩ : S37) [.int .i64 2, .int .i64 4, .int .i64 1, .int .i64 2, .int .i64 1, .slice none 0 0] from (k37_mkM _ _ _ (⟨2, 4, 1, 2, 1, ([] : List Int)⟩ : S37) (Kd.R_nil _ _ _ _ _))) (Reps.none _ _))))); intro v200 w1 ho2 hb hg_ hnew_; clear hg_ hnew_; (first | rw [← Ny199.out] at ho2 | (simp only [Int.reduceToNat] at ho2; rw [← Ny199.out] at ho2)); have n0_ := Aside0.mk (Kd.S_lower ho2 (below_size (by repeat (first | (with_reducible first | exact HB.out | apply below_alloc | apply pw_below_drewN | apply below_drew1) | exact HB.out)))); have n1_ := Aside0.mk (below_step (by repeat (first | (with_reducible first | exact HB.out | apply below_alloc | apply pw_below_drewN | apply below_drew1) | exact HB.out)) hb); clear HB; have HO201 := n0_; have HB := n1_; clear n0_ n1_; clear hb ho2))
  go_ret
  exact ⟨_, by first | rfl | (simp [errW_none, errW_some] <;> rfl) | (simp [*, errW_none, errW_some] <;> rfl), by (with_reducible repeat (first | apply Kd.S_alloc | apply Kd.S_drewN | apply Kd.S_drew)); exact HO201.out, by repeat (first | (with_reducible first | exact HB.out | apply below_alloc | apply pw_below_drewN | apply below_drew1) | exact HB.out)⟩

end Go.Proofs.Ytphmlkbmnmicpaa.A

/- What the machine does at this function, and a plain Lean function that says the same: written by a program for this claim; Lean checks it. -/
namespace Go.Proofs.Ytphmlkbmnmicpaa.A
open Go.RowKit Go.Proofs.YtphmlkbmnmicpaaW.PrintWords Go.Proofs.YtphmlkbmnmicpaaW.PrintLast Go.Proofs.YtphmlkbmnmicpaaW.PrintMore
attribute [local go_sem] max2_int min2_int max_two min_two max_three min_three max_four min_four   -- for this text's walks alone
set_option linter.unusedVariables false
set_option linter.unusedSimpArgs false

/-! ### swageref02_Ints: function 19 -/
def swageref02_Ints.l0 : Nat → List Int → List Int → Int → Option (Bool)
  | 0, _, _, _ => none
  | k + 1, x0, x1, x5 => if x5 < (x0.length : Int) then (if 0 ≤ x5 then (if x5 < (x1.length : Int) then (if (rd x0 x5) = (rd x1 x5) then (swageref02_Ints.l0 k x0 x1 (wrap64 (x5 + 1))) else (some false)) else (none)) else (none)) else (some true)
def swageref02_Ints.f (k : Nat) (l0 : List Int) (l1 : List Int) : Option (Bool) := if (l0.length : Int) = (l1.length : Int) then (swageref02_Ints.l0 k l0 l1 0) else (some false)
theorem swageref02_Ints.mono_l : ∀ k, (∀ y0 y1 y2, LeO (swageref02_Ints.l0 k y0 y1 y2) (swageref02_Ints.l0 (k + 1) y0 y1 y2))
  | 0 => fun _ _ _ r h => by simp [swageref02_Ints.l0] at h
  | k + 1 => by
    have ih0 := swageref02_Ints.mono_l k
    · intro y0 y1 y2
      unfold swageref02_Ints.l0
      repeat' first
      | (with_reducible exact ih0 _ _ _)
      | (with_reducible exact LeO.refl _)
      | (with_reducible exact LeO.none _)
      | (with_reducible refine LeO.ite ?_ ?_)
      | (with_reducible refine LeO.bind ?_ (fun _ => ?_))
      | exact ih0 _ _ _
      | exact LeO.none _
      | refine LeO.ite ?_ ?_
      | refine LeO.bind ?_ (fun _ => ?_)
theorem swageref02_Ints.mono : ∀ a0 a1 k, LeO (swageref02_Ints.f k a0 a1) (swageref02_Ints.f (k + 1) a0 a1) := by
  intro a0 a1 k
  have ih0 := swageref02_Ints.mono_l k
  unfold swageref02_Ints.f
  repeat' first
      | (with_reducible exact ih0 _ _ _)
      | (with_reducible exact LeO.refl _)
      | (with_reducible exact LeO.none _)
      | (with_reducible refine LeO.ite ?_ ?_)
      | (with_reducible refine LeO.bind ?_ (fun _ => ?_))
      | exact ih0 _ _ _
      | exact LeO.none _
      | refine LeO.ite ?_ ?_
      | refine LeO.bind ?_ (fun _ => ?_)
set_option maxHeartbeats 8000000 in
set_option maxRecDepth 100000 in
theorem swageref02_Ints.calls (k : Nat) (A0 : Option Addr) (c0 : Nat) (l0 : List Int) (A1 : Option Addr) (c1 : Nat) (l1 : List Int) (r : Bool) (w : World) (hr0 : Kd.C (Kd.int .i64) w A0 l0.length l0) (hc0 : l0.length ≤ c0) (hr1 : Kd.C (Kd.int .i64) w A1 l1.length l1) (hc1 : l1.length ≤ c1) (h : swageref02_Ints.f k l0 l1 = some r) :
    Calls Try.prog 19 #[.slice A0 l0.length c0, .slice A1 l1.length c1] w fun e w' => e = .returned (.bool r) ∧ Drawn0 w w' := by
  have HR0 := Aside0.mk hr0
  have HC0 := Aside0.mk hc0
  clear hr0 hc0
  have HR1 := Aside0.mk hr1
  have HC1 := Aside0.mk hc1
  clear hr1 hc1
  have H : (if (l0.length : Int) = (l1.length : Int) then (swageref02_Ints.l0 k l0 l1 0) else (some false)) = some r := h
  clear h
  by_cases c3 : (l0.length : Int) = (l1.length : Int)
  · rw [if_pos c3] at H
    have c3b0 : ((l0.length : Int) == (l1.length : Int)) = true := beq_iff_eq.mpr c3
    have c3b1 : ((l0.length : Int) != (l1.length : Int)) = false := bne_eq_false_iff_eq.mpr c3
    have c3b2 : (l0.length == l1.length) = true := by first | simpa using c3 | (simp at c3 ⊢; omega)
    clear c3
    have H' := Aside0.mk H
    clear H
    go_enter Try.func19, Try.ntmps19
    go_wp2
    repeat (go_quiet (fail); try go_wp2)
    go_loopg [5] k (fun kq v5 w' => ∃ (x5_1 : Int), v5 = .int .i64 x5_1 ∧ Aside0 (swageref02_Ints.l0 kq l0 l1 x5_1 = some r) ∧ Aside0 (kq ≤ k) ∧ Drawn0 w w')
    case atStart => exact ⟨(0), (by first | rfl | (simp; done) | (simp [*]; done)), H', ⟨Nat.le_refl _⟩, by repeat (first | exact Drawn0.refl _ | apply Drawn0.step)⟩
    case round =>
      clear H'
      try clear c1
      try clear p2
      try clear c3
      try clear c3b0
      try clear c3b1
      try clear c3b2
      obtain ⟨x5_1, rfl, HA, HK1, ⟨m1, rfl⟩⟩ := hrel
      cases gk with
      | zero => exact absurd HA.out (by simp [swageref02_Ints.l0])
      | succ k1 =>
        have H := HA.out
        clear HA
        simp only [swageref02_Ints.l0] at H
        by_cases c4 : x5_1 < (l0.length : Int)
        · rw [if_pos c4] at H
          have c4b0 : decide (x5_1 < (l0.length : Int)) = true := decide_eq_true c4
          clear c4
          by_cases c5 : 0 ≤ x5_1
          · rw [if_pos c5] at H
            have c5b0 : decide (0 ≤ x5_1) = true := decide_eq_true c5
            clear c5
            by_cases c6 : x5_1 < (l1.length : Int)
            · rw [if_pos c6] at H
              have c6b0 : decide (x5_1 < (l1.length : Int)) = true := decide_eq_true c6
              clear c6
              by_cases c7 : (rd l0 x5_1) = (rd l1 x5_1)
              · rw [if_pos c7] at H
                have c7b0 : ((rd l0 x5_1) == (rd l1 x5_1)) = true := beq_iff_eq.mpr c7
                have c7b1 : ((rd l0 x5_1) != (rd l1 x5_1)) = false := bne_eq_false_iff_eq.mpr c7
                clear c7
                have H' := Aside0.mk H
                clear H
                have p171 : 0 ≤ (x5_1 : Int) := of_decide_eq_true (by first | (with_reducible assumption) | assumption)
                have q171 : x5_1 < (l0.length : Int) := of_decide_eq_true (by first | (with_reducible assumption) | assumption)
                obtain ⟨ad171, e171, hx171_0⟩ := Kd.at_int HR0.out x5_1 p171 q171
                cases e171
                replace p171 := eq_true p171
                replace q171 := eq_true q171
                have p172 : 0 ≤ (x5_1 : Int) := of_decide_eq_true (by first | (with_reducible assumption) | assumption)
                have q172 : x5_1 < (l1.length : Int) := of_decide_eq_true (by first | (with_reducible assumption) | assumption)
                obtain ⟨ad172, e172, hx172_0⟩ := Kd.at_int HR1.out x5_1 p172 q172
                cases e172
                replace p172 := eq_true p172
                replace q172 := eq_true q172
                go_wp2
                repeat (go_quiet (fail); try go_wp2)
                go_roundg k1
                case measure => have := HK1.out; omega
                case rel => exact ⟨(wrap64 (x5_1 + 1)), (by first | rfl | (simp; done) | (simp [*]; done)), H', ⟨by have := HK1.out; omega⟩, by repeat (first | exact Drawn0.refl _ | apply Drawn0.step)⟩
              · rw [if_neg c7] at H
                have c7b0 : ((rd l0 x5_1) == (rd l1 x5_1)) = false := beq_eq_false_iff_ne.mpr c7
                have c7b1 : ((rd l0 x5_1) != (rd l1 x5_1)) = true := bne_iff_ne.mpr c7
                obtain rfl := Option.some.inj H
                have p171 : 0 ≤ (x5_1 : Int) := of_decide_eq_true (by first | (with_reducible assumption) | assumption)
                have q171 : x5_1 < (l0.length : Int) := of_decide_eq_true (by first | (with_reducible assumption) | assumption)
                obtain ⟨ad171, e171, hx171_0⟩ := Kd.at_int HR0.out x5_1 p171 q171
                cases e171
                replace p171 := eq_true p171
                replace q171 := eq_true q171
                have p172 : 0 ≤ (x5_1 : Int) := of_decide_eq_true (by first | (with_reducible assumption) | assumption)
                have q172 : x5_1 < (l1.length : Int) := of_decide_eq_true (by first | (with_reducible assumption) | assumption)
                obtain ⟨ad172, e172, hx172_0⟩ := Kd.at_int HR1.out x5_1 p172 q172
                cases e172
                replace p172 := eq_true p172
                replace q172 := eq_true q172
                go_wp2
                repeat (go_quiet (fail); try go_wp2)
                go_ret
                exact ⟨by first | rfl | (simp; done) | (simp [*]; done), by repeat (first | exact Drawn0.refl _ | apply Drawn0.step)⟩
            · rw [if_neg c6] at H
              exact absurd H (by simp)
          · rw [if_neg c5] at H
            exact absurd H (by simp)
        · rw [if_neg c4] at H
          have c4b0 : decide (x5_1 < (l0.length : Int)) = false := decide_eq_false c4
          clear c4
          obtain rfl := Option.some.inj H
          go_wp2
          repeat (go_quiet (fail); try go_wp2)
          go_ret
          exact ⟨by first | rfl | (simp; done) | (simp [*]; done), by repeat (first | exact Drawn0.refl _ | apply Drawn0.step)⟩
  · rw [if_neg c3] at H
    have c3b0 : ((l0.length : Int) == (l1.length : Int)) = false := beq_eq_false_iff_ne.mpr c3
    have c3b1 : ((l0.length : Int) != (l1.length : Int)) = true := bne_iff_ne.mpr c3
    have c3b2 : (l0.length == l1.length) = false := by first | simpa using c3 | (simp at c3 ⊢; omega)
    obtain rfl := Option.some.inj H
    go_enter Try.func19, Try.ntmps19
    go_wp2
    repeat (go_quiet (fail); try go_wp2)
    go_ret
    exact ⟨by first | rfl | (simp; done) | (simp [*]; done), by repeat (first | exact Drawn0.refl _ | apply Drawn0.step)⟩

end Go.Proofs.Ytphmlkbmnmicpaa.A

/- What the machine does at this function, and a plain Lean function that says the same: written by a program for this claim; Lean checks it. -/
namespace Go.Proofs.Ytphmlkbmnmicpaa.A
open Go.RowKit Go.Proofs.YtphmlkbmnmicpaaW.PrintWords Go.Proofs.YtphmlkbmnmicpaaW.PrintLast Go.Proofs.YtphmlkbmnmicpaaW.PrintMore
attribute [local go_sem] max2_int min2_int max_two min_two max_three min_three max_four min_four   -- for this text's walks alone
set_option linter.unusedVariables false
set_option linter.unusedSimpArgs false

/-! ### swageref06_Rows: function 16 -/
def swageref06_Rows.l0 : Nat → List (List Int) → List (List Int) → Int → Option (Bool)
  | 0, _, _, _ => none
  | k + 1, x0, x1, x5 => if x5 < (x0.length : Int) then (if 0 ≤ x5 then (if x5 < (x1.length : Int) then ((swageref02_Ints.f k (rd_L1 x0 x5) (rd_L1 x1 x5)).bind fun t175 => (if t175 = true then (swageref06_Rows.l0 k x0 x1 (wrap64 (x5 + 1))) else (some false))) else (none)) else (none)) else (some true)
def swageref06_Rows.f (k : Nat) (l0 : List (List Int)) (l1 : List (List Int)) : Option (Bool) := if (l0.length : Int) = (l1.length : Int) then (swageref06_Rows.l0 k l0 l1 0) else (some false)
theorem swageref06_Rows.mono_l : ∀ k, (∀ y0 y1 y2, LeO (swageref06_Rows.l0 k y0 y1 y2) (swageref06_Rows.l0 (k + 1) y0 y1 y2))
  | 0 => fun _ _ _ r h => by simp [swageref06_Rows.l0] at h
  | k + 1 => by
    have ih0 := swageref06_Rows.mono_l k
    · intro y0 y1 y2
      unfold swageref06_Rows.l0
      repeat' first
      | (with_reducible exact ih0 _ _ _)
      | (with_reducible exact swageref02_Ints.mono _ _ _)
      | (with_reducible exact LeO.refl _)
      | (with_reducible exact LeO.none _)
      | (with_reducible refine LeO.ite ?_ ?_)
      | (with_reducible refine LeO.bind ?_ (fun _ => ?_))
      | exact ih0 _ _ _
      | exact swageref02_Ints.mono _ _ _
      | exact LeO.none _
      | refine LeO.ite ?_ ?_
      | refine LeO.bind ?_ (fun _ => ?_)
theorem swageref06_Rows.mono : ∀ a0 a1 k, LeO (swageref06_Rows.f k a0 a1) (swageref06_Rows.f (k + 1) a0 a1) := by
  intro a0 a1 k
  have ih0 := swageref06_Rows.mono_l k
  unfold swageref06_Rows.f
  repeat' first
      | (with_reducible exact ih0 _ _ _)
      | (with_reducible exact swageref02_Ints.mono _ _ _)
      | (with_reducible exact LeO.refl _)
      | (with_reducible exact LeO.none _)
      | (with_reducible refine LeO.ite ?_ ?_)
      | (with_reducible refine LeO.bind ?_ (fun _ => ?_))
      | exact ih0 _ _ _
      | exact swageref02_Ints.mono _ _ _
      | exact LeO.none _
      | refine LeO.ite ?_ ?_
      | refine LeO.bind ?_ (fun _ => ?_)
set_option maxHeartbeats 8000000 in
set_option maxRecDepth 100000 in
theorem swageref06_Rows.calls (k : Nat) (A0 : Option Addr) (c0 : Nat) (l0 : List (List Int)) (A1 : Option Addr) (c1 : Nat) (l1 : List (List Int)) (r : Bool) (w : World) (hr0 : Kd.C (Kd.slice 3 (Kd.int .i64)) w A0 l0.length l0) (hc0 : l0.length ≤ c0) (hr1 : Kd.C (Kd.slice 3 (Kd.int .i64)) w A1 l1.length l1) (hc1 : l1.length ≤ c1) (h : swageref06_Rows.f k l0 l1 = some r) :
    Calls Try.prog 16 #[.slice A0 l0.length c0, .slice A1 l1.length c1] w fun e w' => e = .returned (.bool r) ∧ Drawn0 w w' := by
  have HR0 := Aside0.mk hr0
  have HC0 := Aside0.mk hc0
  clear hr0 hc0
  have HR1 := Aside0.mk hr1
  have HC1 := Aside0.mk hc1
  clear hr1 hc1
  have H : (if (l0.length : Int) = (l1.length : Int) then (swageref06_Rows.l0 k l0 l1 0) else (some false)) = some r := h
  clear h
  by_cases c3 : (l0.length : Int) = (l1.length : Int)
  · rw [if_pos c3] at H
    have c3b0 : ((l0.length : Int) == (l1.length : Int)) = true := beq_iff_eq.mpr c3
    have c3b1 : ((l0.length : Int) != (l1.length : Int)) = false := bne_eq_false_iff_eq.mpr c3
    have c3b2 : (l0.length == l1.length) = true := by first | simpa using c3 | (simp at c3 ⊢; omega)
    clear c3
    have H' := Aside0.mk H
    clear H
    go_enter Try.func16, Try.ntmps16
    go_wp2
    repeat (go_quiet (fail); try go_wp2)
    go_loopg [5] k (fun kq v5 w' => ∃ (x5_1 : Int), v5 = .int .i64 x5_1 ∧ Aside0 (swageref06_Rows.l0 kq l0 l1 x5_1 = some r) ∧ Aside0 (kq ≤ k) ∧ Drawn0 w w')
    case atStart => exact ⟨(0), (by first | rfl | (simp; done) | (simp [*]; done)), H', ⟨Nat.le_refl _⟩, by repeat (first | exact Drawn0.refl _ | apply Drawn0.step)⟩
    case round =>
      clear H'
      try clear c1
      try clear p2
      try clear c3
      try clear c3b0
      try clear c3b1
      try clear c3b2
      obtain ⟨x5_1, rfl, HA, HK1, ⟨m1, rfl⟩⟩ := hrel
      cases gk with
      | zero => exact absurd HA.out (by simp [swageref06_Rows.l0])
      | succ k1 =>
        have H := HA.out
        clear HA
        simp only [swageref06_Rows.l0] at H
        by_cases c4 : x5_1 < (l0.length : Int)
        · rw [if_pos c4] at H
          have c4b0 : decide (x5_1 < (l0.length : Int)) = true := decide_eq_true c4
          clear c4
          by_cases c5 : 0 ≤ x5_1
          · rw [if_pos c5] at H
            have c5b0 : decide (0 ≤ x5_1) = true := decide_eq_true c5
            clear c5
            by_cases c6 : x5_1 < (l1.length : Int)
            · rw [if_pos c6] at H
              have c6b0 : decide (x5_1 < (l1.length : Int)) = true := decide_eq_true c6
              clear c6
              replace H := Option.bind_eq_some_iff.mp H
              obtain ⟨t175, A70, H⟩ := H
              replace H : (if t175 = true then (swageref06_Rows.l0 k1 l0 l1 (wrap64 (x5_1 + 1))) else (some false)) = some r := H
              have A7 := Aside0.mk A70
              clear A70
              by_cases c8 : t175 = true
              · subst c8
                have H1 : (swageref06_Rows.l0 k1 l0 l1 (wrap64 (x5_1 + 1))) = some r := by rw [if_pos rfl] at H; exact H
                clear H
                have H := H1
                clear H1
                have H' := Aside0.mk H
                clear H
                have p173 : 0 ≤ (x5_1 : Int) := of_decide_eq_true (by first | (with_reducible assumption) | assumption)
                have q173 : x5_1 < (l0.length : Int) := of_decide_eq_true (by first | (with_reducible assumption) | assumption)
                obtain ⟨ad173, A173_0, c173_0, e173, hx173_0, hl173_0, hi173_0⟩ := at_L1 HR0.out x5_1 p173 q173
                cases e173
                have HR173_0 := Aside0.mk hi173_0
                have HC173_0 := Aside0.mk hl173_0
                clear hi173_0 hl173_0
                replace p173 := eq_true p173
                replace q173 := eq_true q173
                have p174 : 0 ≤ (x5_1 : Int) := of_decide_eq_true (by first | (with_reducible assumption) | assumption)
                have q174 : x5_1 < (l1.length : Int) := of_decide_eq_true (by first | (with_reducible assumption) | assumption)
                obtain ⟨ad174, A174_0, c174_0, e174, hx174_0, hl174_0, hi174_0⟩ := at_L1 HR1.out x5_1 p174 q174
                cases e174
                have HR174_0 := Aside0.mk hi174_0
                have HC174_0 := Aside0.mk hl174_0
                clear hi174_0 hl174_0
                replace p174 := eq_true p174
                replace q174 := eq_true q174
                go_wp2_with (first | (go_at_call 19; (with_reducible refine (swageref02_Ints.calls k1 _ _ (rd_L1 l0 x5_1) _ _ (rd_L1 l1 x5_1) true _ ?side1 ?side2 ?side3 ?side4 A7.out).mono ?_); (case side1 => repeat (first | exact HR173_0.out | (with_reducible refine Kd.C_alloc ?_ _) | (with_reducible refine Kd.C_drewN ?_ _) | (with_reducible refine Kd.C_drew ?_))); (case side2 => exact HC173_0.out); (case side3 => repeat (first | exact HR174_0.out | (with_reducible refine Kd.C_alloc ?_ _) | (with_reducible refine Kd.C_drewN ?_ _) | (with_reducible refine Kd.C_drew ?_))); (case side4 => exact HC174_0.out); rintro e w' ⟨rfl, ⟨nd, rfl⟩⟩; (try first | exact ⟨rfl, _, World.drewN_drewN _ _ _⟩ | exact ⟨rfl, _, Eq.trans (World.drewN_drewN _ _ _) (congrArg (World.drewN _) (Nat.add_assoc _ _ _))⟩)))
                repeat (go_quiet (first | (go_at_call 19; (with_reducible refine (swageref02_Ints.calls k1 _ _ (rd_L1 l0 x5_1) _ _ (rd_L1 l1 x5_1) true _ ?side1 ?side2 ?side3 ?side4 A7.out).mono ?_); (case side1 => repeat (first | exact HR173_0.out | (with_reducible refine Kd.C_alloc ?_ _) | (with_reducible refine Kd.C_drewN ?_ _) | (with_reducible refine Kd.C_drew ?_))); (case side2 => exact HC173_0.out); (case side3 => repeat (first | exact HR174_0.out | (with_reducible refine Kd.C_alloc ?_ _) | (with_reducible refine Kd.C_drewN ?_ _) | (with_reducible refine Kd.C_drew ?_))); (case side4 => exact HC174_0.out); rintro e w' ⟨rfl, ⟨nd, rfl⟩⟩; (try first | exact ⟨rfl, _, World.drewN_drewN _ _ _⟩ | exact ⟨rfl, _, Eq.trans (World.drewN_drewN _ _ _) (congrArg (World.drewN _) (Nat.add_assoc _ _ _))⟩))); try go_wp2_with (first | (go_at_call 19; (with_reducible refine (swageref02_Ints.calls k1 _ _ (rd_L1 l0 x5_1) _ _ (rd_L1 l1 x5_1) true _ ?side1 ?side2 ?side3 ?side4 A7.out).mono ?_); (case side1 => repeat (first | exact HR173_0.out | (with_reducible refine Kd.C_alloc ?_ _) | (with_reducible refine Kd.C_drewN ?_ _) | (with_reducible refine Kd.C_drew ?_))); (case side2 => exact HC173_0.out); (case side3 => repeat (first | exact HR174_0.out | (with_reducible refine Kd.C_alloc ?_ _) | (with_reducible refine Kd.C_drewN ?_ _) | (with_reducible refine Kd.C_drew ?_))); (case side4 => exact HC174_0.out); rintro e w' ⟨rfl, ⟨nd, rfl⟩⟩; (try first | exact ⟨rfl, _, World.drewN_drewN _ _ _⟩ | exact ⟨rfl, _, Eq.trans (World.drewN_drewN _ _ _) (congrArg (World.drewN _) (Nat.add_assoc _ _ _))⟩))))
                go_roundg k1
                case measure => have := HK1.out; omega
                case rel => exact ⟨(wrap64 (x5_1 + 1)), (by first | rfl | (simp; done) | (simp [*]; done)), H', ⟨by have := HK1.out; omega⟩, by repeat (first | exact Drawn0.refl _ | apply Drawn0.step)⟩
              · replace c8 := Bool.eq_false_iff.mpr c8
                subst c8
                have H1 : (some false) = some r := by rw [if_neg (show ¬ (false = true) by decide)] at H; exact H
                clear H
                have H := H1
                clear H1
                obtain rfl := Option.some.inj H
                have p173 : 0 ≤ (x5_1 : Int) := of_decide_eq_true (by first | (with_reducible assumption) | assumption)
                have q173 : x5_1 < (l0.length : Int) := of_decide_eq_true (by first | (with_reducible assumption) | assumption)
                obtain ⟨ad173, A173_0, c173_0, e173, hx173_0, hl173_0, hi173_0⟩ := at_L1 HR0.out x5_1 p173 q173
                cases e173
                have HR173_0 := Aside0.mk hi173_0
                have HC173_0 := Aside0.mk hl173_0
                clear hi173_0 hl173_0
                replace p173 := eq_true p173
                replace q173 := eq_true q173
                have p174 : 0 ≤ (x5_1 : Int) := of_decide_eq_true (by first | (with_reducible assumption) | assumption)
                have q174 : x5_1 < (l1.length : Int) := of_decide_eq_true (by first | (with_reducible assumption) | assumption)
                obtain ⟨ad174, A174_0, c174_0, e174, hx174_0, hl174_0, hi174_0⟩ := at_L1 HR1.out x5_1 p174 q174
                cases e174
                have HR174_0 := Aside0.mk hi174_0
                have HC174_0 := Aside0.mk hl174_0
                clear hi174_0 hl174_0
                replace p174 := eq_true p174
                replace q174 := eq_true q174
                go_wp2_with (first | (go_at_call 19; (with_reducible refine (swageref02_Ints.calls k1 _ _ (rd_L1 l0 x5_1) _ _ (rd_L1 l1 x5_1) false _ ?side1 ?side2 ?side3 ?side4 A7.out).mono ?_); (case side1 => repeat (first | exact HR173_0.out | (with_reducible refine Kd.C_alloc ?_ _) | (with_reducible refine Kd.C_drewN ?_ _) | (with_reducible refine Kd.C_drew ?_))); (case side2 => exact HC173_0.out); (case side3 => repeat (first | exact HR174_0.out | (with_reducible refine Kd.C_alloc ?_ _) | (with_reducible refine Kd.C_drewN ?_ _) | (with_reducible refine Kd.C_drew ?_))); (case side4 => exact HC174_0.out); rintro e w' ⟨rfl, ⟨nd, rfl⟩⟩; (try first | exact ⟨rfl, _, World.drewN_drewN _ _ _⟩ | exact ⟨rfl, _, Eq.trans (World.drewN_drewN _ _ _) (congrArg (World.drewN _) (Nat.add_assoc _ _ _))⟩)))
                repeat (go_quiet (first | (go_at_call 19; (with_reducible refine (swageref02_Ints.calls k1 _ _ (rd_L1 l0 x5_1) _ _ (rd_L1 l1 x5_1) false _ ?side1 ?side2 ?side3 ?side4 A7.out).mono ?_); (case side1 => repeat (first | exact HR173_0.out | (with_reducible refine Kd.C_alloc ?_ _) | (with_reducible refine Kd.C_drewN ?_ _) | (with_reducible refine Kd.C_drew ?_))); (case side2 => exact HC173_0.out); (case side3 => repeat (first | exact HR174_0.out | (with_reducible refine Kd.C_alloc ?_ _) | (with_reducible refine Kd.C_drewN ?_ _) | (with_reducible refine Kd.C_drew ?_))); (case side4 => exact HC174_0.out); rintro e w' ⟨rfl, ⟨nd, rfl⟩⟩; (try first | exact ⟨rfl, _, World.drewN_drewN _ _ _⟩ | exact ⟨rfl, _, Eq.trans (World.drewN_drewN _ _ _) (congrArg (World.drewN _) (Nat.add_assoc _ _ _))⟩))); try go_wp2_with (first | (go_at_call 19; (with_reducible refine (swageref02_Ints.calls k1 _ _ (rd_L1 l0 x5_1) _ _ (rd_L1 l1 x5_1) false _ ?side1 ?side2 ?side3 ?side4 A7.out).mono ?_); (case side1 => repeat (first | exact HR173_0.out | (with_reducible refine Kd.C_alloc ?_ _) | (with_reducible refine Kd.C_drewN ?_ _) | (with_reducible refine Kd.C_drew ?_))); (case side2 => exact HC173_0.out); (case side3 => repeat (first | exact HR174_0.out | (with_reducible refine Kd.C_alloc ?_ _) | (with_reducible refine Kd.C_drewN ?_ _) | (with_reducible refine Kd.C_drew ?_))); (case side4 => exact HC174_0.out); rintro e w' ⟨rfl, ⟨nd, rfl⟩⟩; (try first | exact ⟨rfl, _, World.drewN_drewN _ _ _⟩ | exact ⟨rfl, _, Eq.trans (World.drewN_drewN _ _ _) (congrArg (World.drewN _) (Nat.add_assoc _ _ _))⟩))))
                go_ret
                exact ⟨by first | rfl | (simp; done) | (simp [*]; done), by repeat (first | exact Drawn0.refl _ | apply Drawn0.step)⟩
            · rw [if_neg c6] at H
              exact absurd H (by simp)
          · rw [if_neg c5] at H
            exact absurd H (by simp)
        · rw [if_neg c4] at H
          have c4b0 : decide (x5_1 < (l0.length : Int)) = false := decide_eq_false c4
          clear c4
          obtain rfl := Option.some.inj H
          go_wp2
          repeat (go_quiet (fail); try go_wp2)
          go_ret
          exact ⟨by first | rfl | (simp; done) | (simp [*]; done), by repeat (first | exact Drawn0.refl _ | apply Drawn0.step)⟩
  · rw [if_neg c3] at H
    have c3b0 : ((l0.length : Int) == (l1.length : Int)) = false := beq_eq_false_iff_ne.mpr c3
    have c3b1 : ((l0.length : Int) != (l1.length : Int)) = true := bne_iff_ne.mpr c3
    have c3b2 : (l0.length == l1.length) = false := by first | simpa using c3 | (simp at c3 ⊢; omega)
    obtain rfl := Option.some.inj H
    go_enter Try.func16, Try.ntmps16
    go_wp2
    repeat (go_quiet (fail); try go_wp2)
    go_ret
    exact ⟨by first | rfl | (simp; done) | (simp [*]; done), by repeat (first | exact Drawn0.refl _ | apply Drawn0.step)⟩

end Go.Proofs.Ytphmlkbmnmicpaa.A
