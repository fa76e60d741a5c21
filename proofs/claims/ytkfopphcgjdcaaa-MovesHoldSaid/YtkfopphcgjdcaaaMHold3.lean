/- Parts of the proof, in the order in which they rest on one another. -/
import Derived.Test.YtkfopphcgjdcaaaMHold2
import Derived.OpenShut
import Derived.Deep.Slices
import Derived.ChangeArms
/- What the machine does at this function, and a plain Lean function that says the same: written by a program for this claim; Lean checks it. -/
namespace Go.Proofs.Ytkfopphcgjdcaaa.A
open Go.RowKit Go.Proofs.YtkfopphcgjdcaaaW.PrintWords Go.Proofs.YtkfopphcgjdcaaaW.PrintLast Go.Proofs.YtkfopphcgjdcaaaW.PrintMore
attribute [local go_sem] max2_int min2_int max_two min_two max_three min_three max_four min_four   -- for this text's walks alone
set_option linter.unusedVariables false
set_option linter.unusedSimpArgs false

/-! ### swageref18_sorted: function 42 -/
def swageref18_sorted.l0 : Nat → List (S42) → List (S42) → Int → Option ((List (S42)))
  | 0, _, _, _ => none
  | k + 1, x0, x3, x4 => if x4 < (x0.length : Int) then (if 0 ≤ x4 then ((swageref18_value.f k x0 ((rd_T42 x0 x4).f0)).bind fun t433 => ((swageref18_put.f k x3 ((rd_T42 x0 x4).f0) t433).bind fun t434 => (swageref18_sorted.l0 k x0 t434 (wrap64 (x4 + 1))))) else (none)) else (some x3)
def swageref18_sorted.f (k : Nat) (l0 : List (S42)) : Option ((List (S42))) := swageref18_sorted.l0 k l0 ([] : List (S42)) 0
theorem swageref18_sorted.mono_l : ∀ k, (∀ y0 y1 y2, LeO (swageref18_sorted.l0 k y0 y1 y2) (swageref18_sorted.l0 (k + 1) y0 y1 y2))
  | 0 => fun _ _ _ r h => by simp [swageref18_sorted.l0] at h
  | k + 1 => by
    have ih0 := swageref18_sorted.mono_l k
    · intro y0 y1 y2
      unfold swageref18_sorted.l0
      repeat' first
      | (with_reducible exact ih0 _ _ _)
      | (with_reducible exact swageref18_put.mono _ _ _ _)
      | (with_reducible exact swageref18_value.mono _ _ _)
      | (with_reducible exact LeO.refl _)
      | (with_reducible exact LeO.none _)
      | (with_reducible refine LeO.ite ?_ ?_)
      | (with_reducible refine LeO.bind ?_ (fun _ => ?_))
      | exact ih0 _ _ _
      | exact swageref18_put.mono _ _ _ _
      | exact swageref18_value.mono _ _ _
      | exact LeO.none _
      | refine LeO.ite ?_ ?_
      | refine LeO.bind ?_ (fun _ => ?_)
theorem swageref18_sorted.mono : ∀ a0 k, LeO (swageref18_sorted.f k a0) (swageref18_sorted.f (k + 1) a0) := by
  intro a0 k
  have ih0 := swageref18_sorted.mono_l k
  unfold swageref18_sorted.f
  repeat' first
      | (with_reducible exact ih0 _ _ _)
      | (with_reducible exact swageref18_put.mono _ _ _ _)
      | (with_reducible exact swageref18_value.mono _ _ _)
      | (with_reducible exact LeO.refl _)
      | (with_reducible exact LeO.none _)
      | (with_reducible refine LeO.ite ?_ ?_)
      | (with_reducible refine LeO.bind ?_ (fun _ => ?_))
      | exact ih0 _ _ _
      | exact swageref18_put.mono _ _ _ _
      | exact swageref18_value.mono _ _ _
      | exact LeO.none _
      | refine LeO.ite ?_ ?_
      | refine LeO.bind ?_ (fun _ => ?_)
def swageref18_sorted.T5 : Bool × List (List Nat × List Nat) := (true, [([], []), ([], []), ([], []), ([1, 2], [1, 2]), ([3], [3]), ([4], [4]), ([], []), ([], []), ([], []), ([7, 8], [7, 8]), ([9], [9]), ([10], [10]), ([6, 11], [6, 11]), ([0, 5, 12, 12], [0, 5, 12]), ([13, 13, 0, 1, 2, 3, 4, 5, 6, 7, 8, 9, 10, 11, 12, 13], [0, 13])])
def swageref18_sorted.B5 : List Nat := [0, 0, 0, 6, 14, 30, 0, 0, 0, 384, 896, 1920, 4032, 8191, 16383]
theorem swageref18_sorted.tab5 : rtab .any (opsOf Try.f42 5) = swageref18_sorted.T5 := by kernel_rfl
theorem swageref18_sorted.bits5 : waitsOk swageref18_sorted.T5.2 swageref18_sorted.B5 = true := by kernel_rfl
set_option maxHeartbeats 8000000 in
set_option maxRecDepth 100000 in
theorem swageref18_sorted.calls (k : Nat) (A0 : Option Addr) (c0 : Nat) (l0 : List (S42)) (r : List (S42)) (w : World) (hr0 : Kd.C k42 w A0 l0.length l0) (hc0 : l0.length ≤ c0) (h : swageref18_sorted.f k l0 = some r) :
    Calls Try.prog 42 #[.slice A0 l0.length c0] w fun e w' => ∃ v0_ : Value, e = .returned (v0_) ∧ Kd.R k42 42 w' w.heap.size (fun _ => True) v0_ r ∧ Below w.heap.size w w' := by
  have HR0 := Aside0.mk hr0
  have HC0 := Aside0.mk hc0
  clear hr0 hc0
  have HB := Aside0.mk (Below.refl w.heap.size w)
  have H : (swageref18_sorted.l0 k l0 ([] : List (S42)) 0) = some r := h
  clear h
  have H' := Aside0.mk H
  clear H
  go_enter Try.func42, Try.ntmps42
  go_wp2
  go_loopg [3, 4] k (fun kq v3 v4 w' => ∃ (x3_1 : List (S42)) (x4_1 : Int), v4 = .int .i64 x4_1 ∧ Aside0 (swageref18_sorted.l0 kq l0 x3_1 x4_1 = some r) ∧ Aside0 (kq ≤ k) ∧ Aside0 (Kd.R k42 42 w' w.heap.size (fun _ => True) v3 x3_1) ∧ Aside0 (Below w.heap.size w w'))
  case atStart => exact ⟨(([] : List (S42))), (0), (by first | rfl | (simp; done) | (simp [*]; done)), H', ⟨Nat.le_refl _⟩, ⟨by first | exact Kd.R_nil _ _ _ _ _ | exact Kd.N_nil _ _ _ _ _ | exact Kd.V_nil _ _ _ _ _ | exact Kd.Q_nil _ _ _ _ _ | exact Kd.S_nil _ _ _ _ _⟩, ⟨by repeat (first | (with_reducible first | exact HB.out | apply below_alloc | apply pw_below_drewN | apply below_drew1) | exact HB.out)⟩⟩
  case round =>
    clear H'
    obtain ⟨x3_1, x4_1, rfl, HA, HK1, HO_3, HB⟩ := hrel
    cases gk with
    | zero => exact absurd HA.out (by simp [swageref18_sorted.l0])
    | succ k1 =>
      have H := HA.out
      clear HA
      simp only [swageref18_sorted.l0] at H
      by_cases c2 : x4_1 < (l0.length : Int)
      · rw [if_pos c2] at H
        have c2b0 : decide (x4_1 < (l0.length : Int)) = true := decide_eq_true c2
        clear c2
        by_cases c3 : 0 ≤ x4_1
        · rw [if_pos c3] at H
          have c3b0 : decide (0 ≤ x4_1) = true := decide_eq_true c3
          clear c3
          replace H := Option.bind_eq_some_iff.mp H
          obtain ⟨t433, A40, H⟩ := H
          replace H : ((swageref18_put.f k1 x3_1 ((rd_T42 l0 x4_1).f0) t433).bind fun t434 => (swageref18_sorted.l0 k1 l0 t434 (wrap64 (x4_1 + 1)))) = some r := H
          have A4 := Aside0.mk A40
          clear A40
          replace H := Option.bind_eq_some_iff.mp H
          obtain ⟨t434, A50, H⟩ := H
          replace H : (swageref18_sorted.l0 k1 l0 t434 (wrap64 (x4_1 + 1))) = some r := H
          have A5 := Aside0.mk A50
          clear A50
          have H' := Aside0.mk H
          clear H
          try go_wp2
          have n0_ := Aside0.mk (Kd.R_drew HO_3.out)
          have n1_ := Aside0.mk (below_drew1 HB.out)
          clear HO_3
          clear HB
          have HO_3 := n0_
          have HB := n1_
          clear n0_ n1_
          have p431 : 0 ≤ (x4_1 : Int) := of_decide_eq_true (by first | (with_reducible assumption) | assumption)
          have q431 : x4_1 < (l0.length : Int) := of_decide_eq_true (by first | (with_reducible assumption) | assumption)
          obtain ⟨ad431, e431, hx431_0, hx431_1⟩ := at_T42 HR0.out x4_1 p431 q431
          have hw431_1 := hx431_1
          have hw431_0 := hx431_0
          cases e431
          replace hx431_0 := (HB.out.cell (World.block_lt_of_cell? w _ hx431_0)).trans hx431_0
          replace hx431_1 := (HB.out.cell (World.block_lt_of_cell? w _ hx431_1)).trans hx431_1
          replace p431 := eq_true p431
          replace q431 := eq_true q431
          have p432 : 0 ≤ (x4_1 : Int) := of_decide_eq_true (by first | (with_reducible assumption) | assumption)
          have q432 : x4_1 < (l0.length : Int) := of_decide_eq_true (by first | (with_reducible assumption) | assumption)
          obtain ⟨ad432, e432, hx432_0, hx432_1⟩ := at_T42 HR0.out x4_1 p432 q432
          have hw432_1 := hx432_1
          have hw432_0 := hx432_0
          obtain rfl : ad431 = ad432 := (by injection e432)
          replace hx432_0 := (HB.out.cell (World.block_lt_of_cell? w _ hx432_0)).trans hx432_0
          replace hx432_1 := (HB.out.cell (World.block_lt_of_cell? w _ hx432_1)).trans hx432_1
          replace p432 := eq_true p432
          replace q432 := eq_true q432
          refine start_ (n := 15) (S := fun w' => w'.cell? (ad431.add ((x4_1).toNat * 2)) = some (.int .i64 ((rd_T42 l0 x4_1).f0)) ∧ w'.cell? ⟨(ad431.add ((x4_1).toNat * 2)).block, (ad431.add ((x4_1).toNat * 2)).off + 1, none⟩ = some (.int .i64 ((rd_T42 l0 x4_1).f1)) ∧ w'.cell? (ad431.add ((x4_1).toNat * 2)) = some (.int .i64 ((rd_T42 l0 x4_1).f0)) ∧ w'.cell? ⟨(ad431.add ((x4_1).toNat * 2)).block, (ad431.add ((x4_1).toNat * 2)).off + 1, none⟩ = some (.int .i64 ((rd_T42 l0 x4_1).f1))) (ds := []) #[false, false, false, false, false, false, false, false, false, false, false, false, false, false, false] (by kernel_rfl) rfl rfl ⟨((HB.out.cell (World.block_lt_of_cell? w _ hw431_0)).trans hw431_0), ((HB.out.cell (World.block_lt_of_cell? w _ hw431_1)).trans hw431_1), ((HB.out.cell (World.block_lt_of_cell? w _ hw432_0)).trans hw432_0), ((HB.out.cell (World.block_lt_of_cell? w _ hw432_1)).trans hw432_1)⟩ (fun hHeld => ?_); refine with_tabW swageref18_sorted.tab5 swageref18_sorted.bits5 (fun HT_ HW_ => ?_)
          generalize wr.drew = w6 at HO_3 HB hx431_0 hx431_1 hx432_0 hx432_1 hHeld ⊢
          refine pure_ (i := 0) (N := some 11) (v := ?_) (a' := ?_) #[true, false, false, false, false, false, false, false, false, false, false, false, false, false, false] rfl rfl (any_of HT_.out (by kernel_rfl)) (fun _ _ _ h => h) (Or.inl ⟨by rfl, ?_⟩) ?_ ?_
          rotate_left
          · intro w'
            go_simp
            with_reducible rfl
          rotate_left
          · simp only [Act.put, List.setIfInBounds_toArray, List.set_cons_zero, List.set_cons_succ, i64_w, i32_w]
            rfl
          refine pure_ (i := 1) (N := some 12) (v := ?_) (a' := ?_) #[true, true, false, false, false, false, false, false, false, false, false, false, false, false, false] rfl rfl (any_of HT_.out (by kernel_rfl)) (fun _ _ _ h => h) (Or.inl ⟨by rfl, ?_⟩) ?_ ?_
          rotate_left
          · intro w'
            go_simp
            with_reducible rfl
          rotate_left
          · simp only [Act.put, List.setIfInBounds_toArray, List.set_cons_zero, List.set_cons_succ, i64_w, i32_w]
            rfl
          refine pure_ (i := 2) (N := some 13) (v := ?_) (a' := ?_) #[true, true, true, false, false, false, false, false, false, false, false, false, false, false, false] rfl rfl (any_of HT_.out (by kernel_rfl)) (fun _ _ _ h => h) (Or.inl ⟨by rfl, ?_⟩) ?_ ?_
          rotate_left
          · intro w'
            go_simp
            with_reducible rfl
          rotate_left
          · simp only [Act.put, List.setIfInBounds_toArray, List.set_cons_zero, List.set_cons_succ, i64_w, i32_w]
            rfl
          refine pure_ (i := 3) (N := some 14) (v := ?_) (a' := ?_) #[true, true, true, true, false, false, false, false, false, false, false, false, false, false, false] rfl rfl (any_of HT_.out (by kernel_rfl)) (fun _ _ _ h => h) (Or.inl ⟨by rfl, ?_⟩) ?_ ?_
          rotate_left
          · intro w'
            go_simp
            with_reducible rfl
          rotate_left
          · simp only [Act.put, List.setIfInBounds_toArray, List.set_cons_zero, List.set_cons_succ, i64_w, i32_w]
            rfl
          refine pure_ (i := 4) (N := some 15) (v := ?_) (a' := ?_) #[true, true, true, true, true, false, false, false, false, false, false, false, false, false, false] rfl rfl (any_of HT_.out (by kernel_rfl)) (fun _ _ _ h => h) (Or.inl ⟨by rfl, ?_⟩) ?_ ?_
          rotate_left
          · intro w'
            go_simp
            with_reducible rfl
          rotate_left
          · simp only [Act.put, List.setIfInBounds_toArray, List.set_cons_zero, List.set_cons_succ, i64_w, i32_w]
            rfl
          refine pure_ (i := 6) (N := some 17) (v := ?_) (a' := ?_) #[true, true, true, true, true, false, true, false, false, false, false, false, false, false, false] rfl rfl (any_of HT_.out (by kernel_rfl)) (fun _ _ _ h => h) (Or.inl ⟨by rfl, ?_⟩) ?_ ?_
          rotate_left
          · intro w'
            go_simp
            with_reducible rfl
          rotate_left
          · simp only [Act.put, List.setIfInBounds_toArray, List.set_cons_zero, List.set_cons_succ, i64_w, i32_w]
            rfl
          refine pure_ (i := 7) (N := some 18) (v := ?_) (a' := ?_) #[true, true, true, true, true, false, true, true, false, false, false, false, false, false, false] rfl rfl (any_of HT_.out (by kernel_rfl)) (fun _ _ _ h => h) (Or.inl ⟨by rfl, ?_⟩) ?_ ?_
          rotate_left
          · intro w'
            go_simp
            with_reducible rfl
          rotate_left
          · simp only [Act.put, List.setIfInBounds_toArray, List.set_cons_zero, List.set_cons_succ, i64_w, i32_w]
            rfl
          refine pure_ (i := 8) (N := some 19) (v := ?_) (a' := ?_) #[true, true, true, true, true, false, true, true, true, false, false, false, false, false, false] rfl rfl (any_of HT_.out (by kernel_rfl)) (fun _ _ _ h => h) (Or.inl ⟨by rfl, ?_⟩) ?_ ?_
          rotate_left
          · intro w'
            go_simp
            with_reducible rfl
          rotate_left
          · simp only [Act.put, List.setIfInBounds_toArray, List.set_cons_zero, List.set_cons_succ, i64_w, i32_w]
            rfl
          refine pure_ (i := 9) (N := some 20) (v := ?_) (a' := ?_) #[true, true, true, true, true, false, true, true, true, true, false, false, false, false, false] rfl rfl (any_of HT_.out (by kernel_rfl)) (fun _ _ _ h => h) (Or.inl ⟨by rfl, ?_⟩) ?_ ?_
          rotate_left
          · intro w'
            go_simp
            with_reducible rfl
          rotate_left
          · simp only [Act.put, List.setIfInBounds_toArray, List.set_cons_zero, List.set_cons_succ, i64_w, i32_w]
            rfl
          refine pure_ (i := 10) (N := some 21) (v := ?_) (a' := ?_) #[true, true, true, true, true, false, true, true, true, true, true, false, false, false, false] rfl rfl (any_of HT_.out (by kernel_rfl)) (fun _ _ _ h => h) (Or.inl ⟨by rfl, ?_⟩) ?_ ?_
          rotate_left
          · intro w'
            go_simp
            with_reducible rfl
          rotate_left
          · simp only [Act.put, List.setIfInBounds_toArray, List.set_cons_zero, List.set_cons_succ, i64_w, i32_w]
            rfl
          refine take_ (i := 5) (N := some 16) (v := ?_) (a' := ?_) #[true, true, true, true, true, true, true, true, true, true, true, false, false, false, false] rfl rfl (take_ofW HT_.out HW_.out (by kernel_rfl)) (fun _ _ _ h => h) (Or.inl ⟨by rfl, ?_⟩) hHeld ?_ ?_
          rotate_left
          · rintro w' ⟨s0, s1, s2, s3⟩
            go_simp
            with_reducible rfl
          rotate_left
          · simp only [Act.put, List.setIfInBounds_toArray, List.set_cons_zero, List.set_cons_succ, i64_w, i32_w]
            rfl
          refine take_ (i := 11) (N := some 22) (v := ?_) (a' := ?_) #[true, true, true, true, true, true, true, true, true, true, true, true, false, false, false] rfl rfl (take_ofW HT_.out HW_.out (by kernel_rfl)) (fun _ _ _ h => h) (Or.inl ⟨by rfl, ?_⟩) hHeld ?_ ?_
          rotate_left
          · rintro w' ⟨s0, s1, s2, s3⟩
            go_simp
            with_reducible rfl
          rotate_left
          · simp only [Act.put, List.setIfInBounds_toArray, List.set_cons_zero, List.set_cons_succ, i64_w, i32_w]
            rfl
          refine one_ (i := 12) (N := some 23) #[true, true, true, true, true, true, true, true, true, true, true, true, true, false, false] rfl rfl (one_of HT_.out (by kernel_rfl)) (by decide) (fun K hK => ?_)
          refine goes_ Try.func44 (by kernel_rfl) rfl #[.slice (some ad431) l0.length c0, .int .i64 ((rd_T42 l0 x4_1).f0)] (by rfl) rfl rfl (by (try simp only [List.map_toArray, List.map_cons, List.map_nil]); first | done | rfl | (simp only [List.length_drop, List.length_take]; rfl)) ?_
          with_reducible refine (swageref18_value.calls k1 _ _ l0 ((rd_T42 l0 x4_1).f0) t433 _ ?side1 ?side2 A4.out).mono ?_
          (case side1 => repeat (first | exact (Kd.C_below HR0.out HB.out) | (with_reducible refine Kd.C_alloc ?_ _) | (with_reducible refine Kd.C_drewN ?_ _) | (with_reducible refine Kd.C_drew ?_)))
          (case side2 => exact HC0.out)
          rintro e w' ⟨rfl, ⟨nd, rfl⟩⟩
          refine ⟨_, rfl, ?_⟩
          obtain ⟨Ao7, co7, eo7⟩ := Kd.R_slice HO_3.out
          (first | subst eo7 | (injection eo7 with f1_ f2_ f3_; have f4_ := f1_.symm; have f5_ := f3_.symm; clear f1_ f2_ f3_; subst f4_; subst f5_))
          refine hK.out _ _ ⟨((HB.out.cell (World.block_lt_of_cell? w _ hw431_0)).trans hw431_0), ((HB.out.cell (World.block_lt_of_cell? w _ hw431_1)).trans hw431_1), ((HB.out.cell (World.block_lt_of_cell? w _ hw432_0)).trans hw432_0), ((HB.out.cell (World.block_lt_of_cell? w _ hw432_1)).trans hw432_1)⟩ (fun hHeld => ?_)
          clear hK K
          refine norm_ (a' := ?_) ?_ ?_
          rotate_left
          · show Act.put _ (some 23) _ = _
            simp only [Act.put, List.setIfInBounds_toArray, List.set_cons_zero, List.set_cons_succ, i64_w, i32_w]
            rfl
          refine one_ (i := 13) (N := some 24) #[true, true, true, true, true, true, true, true, true, true, true, true, true, true, false] rfl rfl (one_of HT_.out (by kernel_rfl)) (by decide) (fun K hK => ?_)
          refine goes_ Try.func43 (by kernel_rfl) rfl #[.slice Ao7 x3_1.length co7, .int .i64 ((rd_T42 l0 x4_1).f0), .int .i64 t433] (by rfl) rfl rfl (by (try simp only [List.map_toArray, List.map_cons, List.map_nil]); first | done | rfl | (simp only [List.length_drop, List.length_take]; rfl)) ?_
          with_reducible refine (swageref18_put.calls k1 _ _ x3_1 ((rd_T42 l0 x4_1).f0) t433 t434 _ ?side1 ?side2 A5.out).mono ?_
          (case side1 => repeat (first | exact (Kd.R_reads' HO_3.out).2.2 | (with_reducible refine Kd.C_alloc ?_ _) | (with_reducible refine Kd.C_drewN ?_ _) | (with_reducible refine Kd.C_drew ?_)))
          (case side2 => exact (Kd.R_reads' HO_3.out).2.1)
          rintro e w8 ⟨v435, rfl, ho0, hb⟩
          refine ⟨_, rfl, ?_⟩
          have n0_ := Aside0.mk (Kd.R_elder' (by (with_reducible repeat (first | apply Kd.R_alloc | apply Kd.R_drewN | apply Kd.R_drew)); exact HO_3.out) (Kd.R_base ho0) hb)
          have n1_ := Aside0.mk (Kd.R_lower (Kd.R_new' ho0 (Kd.R_lt (by (with_reducible repeat (first | apply Kd.R_alloc | apply Kd.R_drewN | apply Kd.R_drew)); exact HO_3.out))) (below_size (by repeat (first | (with_reducible first | exact HB.out | apply below_alloc | apply pw_below_drewN | apply below_drew1) | exact HB.out))))
          have n2_ := Aside0.mk (below_step (by repeat (first | (with_reducible first | exact HB.out | apply below_alloc | apply pw_below_drewN | apply below_drew1) | exact HB.out)) hb)
          clear HO_3
          clear HB
          have HO_3 := n0_
          have HO436 := n1_
          have HB := n2_
          clear n0_ n1_ n2_
          (try clear hb)
          (try clear hb2)
          (try clear hk)
          (try clear hi)
          (try clear ho0)
          refine hK.out _ _ ⟨((HB.out.cell (World.block_lt_of_cell? w _ hw431_0)).trans hw431_0), ((HB.out.cell (World.block_lt_of_cell? w _ hw431_1)).trans hw431_1), ((HB.out.cell (World.block_lt_of_cell? w _ hw432_0)).trans hw432_0), ((HB.out.cell (World.block_lt_of_cell? w _ hw432_1)).trans hw432_1)⟩ (fun hHeld => ?_)
          clear hK K
          refine norm_ (a' := ?_) ?_ ?_
          rotate_left
          · show Act.put _ (some 24) _ = _
            simp only [Act.put, List.setIfInBounds_toArray, List.set_cons_zero, List.set_cons_succ, i64_w, i32_w]
            rfl
          refine pure_ (i := 14) (N := some 3) (v := ?_) (a' := ?_) #[true, true, true, true, true, true, true, true, true, true, true, true, true, true, true] rfl rfl (any_of HT_.out (by kernel_rfl)) (fun _ _ _ h => h) (Or.inl ⟨by rfl, ?_⟩) ?_ ?_
          rotate_left
          · intro w'
            go_simp
            with_reducible rfl
          rotate_left
          · simp only [Act.put, List.setIfInBounds_toArray, List.set_cons_zero, List.set_cons_succ, i64_w, i32_w]
            rfl
          refine done_ (done_of HT_.out (by kernel_rfl)) ?_
          try go_wp2
          go_roundg k1
          case measure => have := HK1.out; omega
          case rel => exact ⟨(t434), (wrap64 (x4_1 + 1)), (by first | rfl | (simp; done) | (simp [*]; done)), H', ⟨by have := HK1.out; omega⟩, ⟨by (with_reducible repeat (first | apply Kd.R_alloc | apply Kd.R_drewN | apply Kd.R_drew)); exact Kd.R_mono HO436.out (fun _ hk => trivial)⟩, ⟨by repeat (first | (with_reducible first | exact HB.out | apply below_alloc | apply pw_below_drewN | apply below_drew1) | exact HB.out)⟩⟩
        · rw [if_neg c3] at H
          exact absurd H (by simp)
      · rw [if_neg c2] at H
        have c2b0 : decide (x4_1 < (l0.length : Int)) = false := decide_eq_false c2
        clear c2
        obtain rfl := Option.some.inj H
        go_wp2
        go_ret
        exact ⟨_, by first | rfl | (simp [errW_none, errW_some] <;> rfl) | (simp [*, errW_none, errW_some] <;> rfl), by (with_reducible repeat (first | apply Kd.R_alloc | apply Kd.R_drewN | apply Kd.R_drew)); exact HO_3.out, by repeat (first | (with_reducible first | exact HB.out | apply below_alloc | apply pw_below_drewN | apply below_drew1) | exact HB.out)⟩

end Go.Proofs.Ytkfopphcgjdcaaa.A

/- What the machine does at this function, and a plain Lean function that says the same: written by a program for this claim; Lean checks it. -/
namespace Go.Proofs.Ytkfopphcgjdcaaa.A
open Go.RowKit Go.Proofs.YtkfopphcgjdcaaaW.PrintWords Go.Proofs.YtkfopphcgjdcaaaW.PrintLast Go.Proofs.YtkfopphcgjdcaaaW.PrintMore
attribute [local go_sem] max2_int min2_int max_two min_two max_three min_three max_four min_four   -- for this text's walks alone
set_option linter.unusedVariables false
set_option linter.unusedSimpArgs false

/-! ### swageref18_AtOnce: function 19 -/
def swageref18_AtOnce.l0 : Nat → List (S38) → List (S42) → List (S42) → Int → Option ((List (S42)))
  | 0, _, _, _, _ => none
  | k + 1, x0, x1, x6, x7 => if x7 < (x0.length : Int) then (if 0 ≤ x7 then ((swageref18_value.f k x1 ((rd_T38 x0 x7).f1)).bind fun t443 => ((swageref18_put.f k x6 ((rd_T38 x0 x7).f0) t443).bind fun t444 => (swageref18_AtOnce.l0 k x0 x1 t444 (wrap64 (x7 + 1))))) else (none)) else (some x6)
def swageref18_AtOnce.f (k : Nat) (l0 : List (S38)) (l1 : List (S42)) : Option ((List (S42))) := (swageref18_Right.f k l0).bind fun t437 => (if t437 = true then ((swageref18_sorted.f k l1).bind fun t438 => (swageref18_AtOnce.l0 k l0 l1 t438 0)) else (some ([] : List (S42))))
theorem swageref18_AtOnce.mono_l : ∀ k, (∀ y0 y1 y2 y3, LeO (swageref18_AtOnce.l0 k y0 y1 y2 y3) (swageref18_AtOnce.l0 (k + 1) y0 y1 y2 y3))
  | 0 => fun _ _ _ _ r h => by simp [swageref18_AtOnce.l0] at h
  | k + 1 => by
    have ih0 := swageref18_AtOnce.mono_l k
    · intro y0 y1 y2 y3
      unfold swageref18_AtOnce.l0
      repeat' first
      | (with_reducible exact ih0 _ _ _ _)
      | (with_reducible exact swageref18_Right.mono _ _)
      | (with_reducible exact swageref18_put.mono _ _ _ _)
      | (with_reducible exact swageref18_sorted.mono _ _)
      | (with_reducible exact swageref18_value.mono _ _ _)
      | (with_reducible exact LeO.refl _)
      | (with_reducible exact LeO.none _)
      | (with_reducible refine LeO.ite ?_ ?_)
      | (with_reducible refine LeO.bind ?_ (fun _ => ?_))
      | exact ih0 _ _ _ _
      | exact swageref18_Right.mono _ _
      | exact swageref18_put.mono _ _ _ _
      | exact swageref18_sorted.mono _ _
      | exact swageref18_value.mono _ _ _
      | exact LeO.none _
      | refine LeO.ite ?_ ?_
      | refine LeO.bind ?_ (fun _ => ?_)
theorem swageref18_AtOnce.mono : ∀ a0 a1 k, LeO (swageref18_AtOnce.f k a0 a1) (swageref18_AtOnce.f (k + 1) a0 a1) := by
  intro a0 a1 k
  have ih0 := swageref18_AtOnce.mono_l k
  unfold swageref18_AtOnce.f
  repeat' first
      | (with_reducible exact ih0 _ _ _ _)
      | (with_reducible exact swageref18_Right.mono _ _)
      | (with_reducible exact swageref18_put.mono _ _ _ _)
      | (with_reducible exact swageref18_sorted.mono _ _)
      | (with_reducible exact swageref18_value.mono _ _ _)
      | (with_reducible exact LeO.refl _)
      | (with_reducible exact LeO.none _)
      | (with_reducible refine LeO.ite ?_ ?_)
      | (with_reducible refine LeO.bind ?_ (fun _ => ?_))
      | exact ih0 _ _ _ _
      | exact swageref18_Right.mono _ _
      | exact swageref18_put.mono _ _ _ _
      | exact swageref18_sorted.mono _ _
      | exact swageref18_value.mono _ _ _
      | exact LeO.none _
      | refine LeO.ite ?_ ?_
      | refine LeO.bind ?_ (fun _ => ?_)
def swageref18_AtOnce.T8 : Bool × List (List Nat × List Nat) := (true, [([], []), ([], []), ([], []), ([1, 2], [1, 2]), ([3], [3]), ([4], [4]), ([], []), ([], []), ([], []), ([7, 8], [7, 8]), ([9], [9]), ([10], [10]), ([6, 11], [6, 11]), ([0, 5, 12, 12], [0, 5, 12]), ([13, 13, 0, 1, 2, 3, 4, 5, 6, 7, 8, 9, 10, 11, 12, 13], [0, 13])])
def swageref18_AtOnce.B8 : List Nat := [0, 0, 0, 6, 14, 30, 0, 0, 0, 384, 896, 1920, 4032, 8191, 16383]
theorem swageref18_AtOnce.tab8 : rtab .any (opsOf Try.f19 8) = swageref18_AtOnce.T8 := by kernel_rfl
theorem swageref18_AtOnce.bits8 : waitsOk swageref18_AtOnce.T8.2 swageref18_AtOnce.B8 = true := by kernel_rfl
set_option maxHeartbeats 8000000 in
set_option maxRecDepth 100000 in
theorem swageref18_AtOnce.calls (k : Nat) (A0 : Option Addr) (c0 : Nat) (l0 : List (S38)) (A1 : Option Addr) (c1 : Nat) (l1 : List (S42)) (r : List (S42)) (w : World) (hr0 : Kd.C k38 w A0 l0.length l0) (hc0 : l0.length ≤ c0) (hr1 : Kd.C k42 w A1 l1.length l1) (hc1 : l1.length ≤ c1) (h : swageref18_AtOnce.f k l0 l1 = some r) :
    Calls Try.prog 19 #[.slice A0 l0.length c0, .slice A1 l1.length c1] w fun e w' => ∃ v0_ : Value, e = .returned (v0_) ∧ Kd.R k42 42 w' w.heap.size (fun _ => True) v0_ r ∧ Below w.heap.size w w' := by
  have HR0 := Aside0.mk hr0
  have HC0 := Aside0.mk hc0
  clear hr0 hc0
  have HR1 := Aside0.mk hr1
  have HC1 := Aside0.mk hc1
  clear hr1 hc1
  have HB := Aside0.mk (Below.refl w.heap.size w)
  have H : ((swageref18_Right.f k l0).bind fun t437 => (if t437 = true then ((swageref18_sorted.f k l1).bind fun t438 => (swageref18_AtOnce.l0 k l0 l1 t438 0)) else (some ([] : List (S42))))) = some r := h
  clear h
  replace H := Option.bind_eq_some_iff.mp H
  obtain ⟨t437, A30, H⟩ := H
  replace H : (if t437 = true then ((swageref18_sorted.f k l1).bind fun t438 => (swageref18_AtOnce.l0 k l0 l1 t438 0)) else (some ([] : List (S42)))) = some r := H
  have A3 := Aside0.mk A30
  clear A30
  by_cases c4 : t437 = true
  · subst c4
    have H1 : ((swageref18_sorted.f k l1).bind fun t438 => (swageref18_AtOnce.l0 k l0 l1 t438 0)) = some r := by rw [if_pos rfl] at H; exact H
    clear H
    have H := H1
    clear H1
    replace H := Option.bind_eq_some_iff.mp H
    obtain ⟨t438, A50, H⟩ := H
    replace H : (swageref18_AtOnce.l0 k l0 l1 t438 0) = some r := H
    have A5 := Aside0.mk A50
    clear A50
    have H' := Aside0.mk H
    clear H
    go_enter Try.func19, Try.ntmps19
    go_wp2_with (first | ((with_reducible refine gate_callee (f := 13) rfl ?_); refine goesL_ (some 9) rfl rfl Try.func13 (by kernel_rfl) rfl #[.slice A0 l0.length c0] rfl (by (try simp only [List.map_toArray, List.map_cons, List.map_nil]); first | done | rfl | (simp only [List.length_drop, List.length_take]; rfl)) ?_; (with_reducible refine (swageref18_Right.calls k _ _ l0 true _ ?side1 ?side2 A3.out).mono ?_); (case side1 => repeat (first | exact HR0.out | (with_reducible refine Kd.C_alloc ?_ _) | (with_reducible refine Kd.C_drewN ?_ _) | (with_reducible refine Kd.C_drew ?_))); (case side2 => exact HC0.out); rintro e w' ⟨rfl, ⟨nd, rfl⟩⟩; refine ⟨_, rfl, ?_⟩) | ((with_reducible refine gate_callee (f := 42) rfl ?_); refine goesL_ (some 13) rfl rfl Try.func42 (by kernel_rfl) rfl #[.slice A1 l1.length c1] rfl (by (try simp only [List.map_toArray, List.map_cons, List.map_nil]); first | done | rfl | (simp only [List.length_drop, List.length_take]; rfl)) ?_; (with_reducible refine (swageref18_sorted.calls k _ _ l1 t438 _ ?side1 ?side2 A5.out).mono ?_); (case side1 => repeat (first | exact HR1.out | (with_reducible refine Kd.C_alloc ?_ _) | (with_reducible refine Kd.C_drewN ?_ _) | (with_reducible refine Kd.C_drew ?_))); (case side2 => exact HC1.out); rintro e w6 ⟨v439, rfl, ho0, hb⟩; refine ⟨_, rfl, ?_⟩; have n0_ := Aside0.mk (Kd.R_lower ho0 (below_size (by repeat (first | (with_reducible first | exact HB.out | apply below_alloc | apply pw_below_drewN | apply below_drew1) | exact HB.out)))); have n1_ := Aside0.mk (below_step (by repeat (first | (with_reducible first | exact HB.out | apply below_alloc | apply pw_below_drewN | apply below_drew1) | exact HB.out)) hb); clear HB; have HO440 := n0_; have HB := n1_; clear n0_ n1_; (try clear hb); (try clear hb2); (try clear hk); (try clear hi); (try clear ho0)))
    go_loopg [6, 7] k (fun kq v6 v7 w' => ∃ (x6_1 : List (S42)) (x7_1 : Int), v7 = .int .i64 x7_1 ∧ Aside0 (swageref18_AtOnce.l0 kq l0 l1 x6_1 x7_1 = some r) ∧ Aside0 (kq ≤ k) ∧ Aside0 (Kd.R k42 42 w' w.heap.size (fun _ => True) v6 x6_1) ∧ Aside0 (Below w.heap.size w w'))
    case atStart => exact ⟨(t438), (0), (by first | rfl | (simp; done) | (simp [*]; done)), H', ⟨Nat.le_refl _⟩, ⟨by (with_reducible repeat (first | apply Kd.R_alloc | apply Kd.R_drewN | apply Kd.R_drew)); exact HO440.out⟩, ⟨by repeat (first | (with_reducible first | exact HB.out | apply below_alloc | apply pw_below_drewN | apply below_drew1) | exact HB.out)⟩⟩
    case round =>
      clear H'
      try clear c1
      try clear p2
      try clear c4
      obtain ⟨x6_1, x7_1, rfl, HA, HK1, HO_6, HB⟩ := hrel
      cases gk with
      | zero => exact absurd HA.out (by simp [swageref18_AtOnce.l0])
      | succ k1 =>
        have H := HA.out
        clear HA
        simp only [swageref18_AtOnce.l0] at H
        by_cases c7 : x7_1 < (l0.length : Int)
        · rw [if_pos c7] at H
          have c7b0 : decide (x7_1 < (l0.length : Int)) = true := decide_eq_true c7
          clear c7
          by_cases c8 : 0 ≤ x7_1
          · rw [if_pos c8] at H
            have c8b0 : decide (0 ≤ x7_1) = true := decide_eq_true c8
            clear c8
            replace H := Option.bind_eq_some_iff.mp H
            obtain ⟨t443, A90, H⟩ := H
            replace H : ((swageref18_put.f k1 x6_1 ((rd_T38 l0 x7_1).f0) t443).bind fun t444 => (swageref18_AtOnce.l0 k1 l0 l1 t444 (wrap64 (x7_1 + 1)))) = some r := H
            have A9 := Aside0.mk A90
            clear A90
            replace H := Option.bind_eq_some_iff.mp H
            obtain ⟨t444, A100, H⟩ := H
            replace H : (swageref18_AtOnce.l0 k1 l0 l1 t444 (wrap64 (x7_1 + 1))) = some r := H
            have A10 := Aside0.mk A100
            clear A100
            have H' := Aside0.mk H
            clear H
            try go_wp2
            have n0_ := Aside0.mk (Kd.R_drew HO_6.out)
            have n1_ := Aside0.mk (below_drew1 HB.out)
            clear HO_6
            clear HB
            have HO_6 := n0_
            have HB := n1_
            clear n0_ n1_
            have p441 : 0 ≤ (x7_1 : Int) := of_decide_eq_true (by first | (with_reducible assumption) | assumption)
            have q441 : x7_1 < (l0.length : Int) := of_decide_eq_true (by first | (with_reducible assumption) | assumption)
            obtain ⟨ad441, e441, hx441_0, hx441_1⟩ := at_T38 HR0.out x7_1 p441 q441
            have hw441_1 := hx441_1
            have hw441_0 := hx441_0
            cases e441
            replace hx441_0 := (HB.out.cell (World.block_lt_of_cell? w _ hx441_0)).trans hx441_0
            replace hx441_1 := (HB.out.cell (World.block_lt_of_cell? w _ hx441_1)).trans hx441_1
            replace p441 := eq_true p441
            replace q441 := eq_true q441
            have p442 : 0 ≤ (x7_1 : Int) := of_decide_eq_true (by first | (with_reducible assumption) | assumption)
            have q442 : x7_1 < (l0.length : Int) := of_decide_eq_true (by first | (with_reducible assumption) | assumption)
            obtain ⟨ad442, e442, hx442_0, hx442_1⟩ := at_T38 HR0.out x7_1 p442 q442
            have hw442_1 := hx442_1
            have hw442_0 := hx442_0
            obtain rfl : ad441 = ad442 := (by injection e442)
            replace hx442_0 := (HB.out.cell (World.block_lt_of_cell? w _ hx442_0)).trans hx442_0
            replace hx442_1 := (HB.out.cell (World.block_lt_of_cell? w _ hx442_1)).trans hx442_1
            replace p442 := eq_true p442
            replace q442 := eq_true q442
            refine start_ (n := 15) (S := fun w' => w'.cell? (ad441.add ((x7_1).toNat * 2)) = some (.int .i64 ((rd_T38 l0 x7_1).f0)) ∧ w'.cell? ⟨(ad441.add ((x7_1).toNat * 2)).block, (ad441.add ((x7_1).toNat * 2)).off + 1, none⟩ = some (.int .i64 ((rd_T38 l0 x7_1).f1)) ∧ w'.cell? (ad441.add ((x7_1).toNat * 2)) = some (.int .i64 ((rd_T38 l0 x7_1).f0)) ∧ w'.cell? ⟨(ad441.add ((x7_1).toNat * 2)).block, (ad441.add ((x7_1).toNat * 2)).off + 1, none⟩ = some (.int .i64 ((rd_T38 l0 x7_1).f1))) (ds := []) #[false, false, false, false, false, false, false, false, false, false, false, false, false, false, false] (by kernel_rfl) rfl rfl ⟨((HB.out.cell (World.block_lt_of_cell? w _ hw441_0)).trans hw441_0), ((HB.out.cell (World.block_lt_of_cell? w _ hw441_1)).trans hw441_1), ((HB.out.cell (World.block_lt_of_cell? w _ hw442_0)).trans hw442_0), ((HB.out.cell (World.block_lt_of_cell? w _ hw442_1)).trans hw442_1)⟩ (fun hHeld => ?_); refine with_tabW swageref18_AtOnce.tab8 swageref18_AtOnce.bits8 (fun HT_ HW_ => ?_)
            generalize wr.drew = w11 at HO_6 HB hx441_0 hx441_1 hx442_0 hx442_1 hHeld ⊢
            refine pure_ (i := 0) (N := some 20) (v := ?_) (a' := ?_) #[true, false, false, false, false, false, false, false, false, false, false, false, false, false, false] rfl rfl (any_of HT_.out (by kernel_rfl)) (fun _ _ _ h => h) (Or.inl ⟨by rfl, ?_⟩) ?_ ?_
            rotate_left
            · intro w'
              go_simp
              with_reducible rfl
            rotate_left
            · simp only [Act.put, List.setIfInBounds_toArray, List.set_cons_zero, List.set_cons_succ, i64_w, i32_w]
              rfl
            refine pure_ (i := 1) (N := some 21) (v := ?_) (a' := ?_) #[true, true, false, false, false, false, false, false, false, false, false, false, false, false, false] rfl rfl (any_of HT_.out (by kernel_rfl)) (fun _ _ _ h => h) (Or.inl ⟨by rfl, ?_⟩) ?_ ?_
            rotate_left
            · intro w'
              go_simp
              with_reducible rfl
            rotate_left
            · simp only [Act.put, List.setIfInBounds_toArray, List.set_cons_zero, List.set_cons_succ, i64_w, i32_w]
              rfl
            refine pure_ (i := 2) (N := some 22) (v := ?_) (a' := ?_) #[true, true, true, false, false, false, false, false, false, false, false, false, false, false, false] rfl rfl (any_of HT_.out (by kernel_rfl)) (fun _ _ _ h => h) (Or.inl ⟨by rfl, ?_⟩) ?_ ?_
            rotate_left
            · intro w'
              go_simp
              with_reducible rfl
            rotate_left
            · simp only [Act.put, List.setIfInBounds_toArray, List.set_cons_zero, List.set_cons_succ, i64_w, i32_w]
              rfl
            refine pure_ (i := 3) (N := some 23) (v := ?_) (a' := ?_) #[true, true, true, true, false, false, false, false, false, false, false, false, false, false, false] rfl rfl (any_of HT_.out (by kernel_rfl)) (fun _ _ _ h => h) (Or.inl ⟨by rfl, ?_⟩) ?_ ?_
            rotate_left
            · intro w'
              go_simp
              with_reducible rfl
            rotate_left
            · simp only [Act.put, List.setIfInBounds_toArray, List.set_cons_zero, List.set_cons_succ, i64_w, i32_w]
              rfl
            refine pure_ (i := 4) (N := some 24) (v := ?_) (a' := ?_) #[true, true, true, true, true, false, false, false, false, false, false, false, false, false, false] rfl rfl (any_of HT_.out (by kernel_rfl)) (fun _ _ _ h => h) (Or.inl ⟨by rfl, ?_⟩) ?_ ?_
            rotate_left
            · intro w'
              go_simp
              with_reducible rfl
            rotate_left
            · simp only [Act.put, List.setIfInBounds_toArray, List.set_cons_zero, List.set_cons_succ, i64_w, i32_w]
              rfl
            refine pure_ (i := 6) (N := some 26) (v := ?_) (a' := ?_) #[true, true, true, true, true, false, true, false, false, false, false, false, false, false, false] rfl rfl (any_of HT_.out (by kernel_rfl)) (fun _ _ _ h => h) (Or.inl ⟨by rfl, ?_⟩) ?_ ?_
            rotate_left
            · intro w'
              go_simp
              with_reducible rfl
            rotate_left
            · simp only [Act.put, List.setIfInBounds_toArray, List.set_cons_zero, List.set_cons_succ, i64_w, i32_w]
              rfl
            refine pure_ (i := 7) (N := some 27) (v := ?_) (a' := ?_) #[true, true, true, true, true, false, true, true, false, false, false, false, false, false, false] rfl rfl (any_of HT_.out (by kernel_rfl)) (fun _ _ _ h => h) (Or.inl ⟨by rfl, ?_⟩) ?_ ?_
            rotate_left
            · intro w'
              go_simp
              with_reducible rfl
            rotate_left
            · simp only [Act.put, List.setIfInBounds_toArray, List.set_cons_zero, List.set_cons_succ, i64_w, i32_w]
              rfl
            refine pure_ (i := 8) (N := some 28) (v := ?_) (a' := ?_) #[true, true, true, true, true, false, true, true, true, false, false, false, false, false, false] rfl rfl (any_of HT_.out (by kernel_rfl)) (fun _ _ _ h => h) (Or.inl ⟨by rfl, ?_⟩) ?_ ?_
            rotate_left
            · intro w'
              go_simp
              with_reducible rfl
            rotate_left
            · simp only [Act.put, List.setIfInBounds_toArray, List.set_cons_zero, List.set_cons_succ, i64_w, i32_w]
              rfl
            refine pure_ (i := 9) (N := some 29) (v := ?_) (a' := ?_) #[true, true, true, true, true, false, true, true, true, true, false, false, false, false, false] rfl rfl (any_of HT_.out (by kernel_rfl)) (fun _ _ _ h => h) (Or.inl ⟨by rfl, ?_⟩) ?_ ?_
            rotate_left
            · intro w'
              go_simp
              with_reducible rfl
            rotate_left
            · simp only [Act.put, List.setIfInBounds_toArray, List.set_cons_zero, List.set_cons_succ, i64_w, i32_w]
              rfl
            refine pure_ (i := 10) (N := some 30) (v := ?_) (a' := ?_) #[true, true, true, true, true, false, true, true, true, true, true, false, false, false, false] rfl rfl (any_of HT_.out (by kernel_rfl)) (fun _ _ _ h => h) (Or.inl ⟨by rfl, ?_⟩) ?_ ?_
            rotate_left
            · intro w'
              go_simp
              with_reducible rfl
            rotate_left
            · simp only [Act.put, List.setIfInBounds_toArray, List.set_cons_zero, List.set_cons_succ, i64_w, i32_w]
              rfl
            refine take_ (i := 5) (N := some 25) (v := ?_) (a' := ?_) #[true, true, true, true, true, true, true, true, true, true, true, false, false, false, false] rfl rfl (take_ofW HT_.out HW_.out (by kernel_rfl)) (fun _ _ _ h => h) (Or.inl ⟨by rfl, ?_⟩) hHeld ?_ ?_
            rotate_left
            · rintro w' ⟨s0, s1, s2, s3⟩
              go_simp
              with_reducible rfl
            rotate_left
            · simp only [Act.put, List.setIfInBounds_toArray, List.set_cons_zero, List.set_cons_succ, i64_w, i32_w]
              rfl
            refine take_ (i := 11) (N := some 31) (v := ?_) (a' := ?_) #[true, true, true, true, true, true, true, true, true, true, true, true, false, false, false] rfl rfl (take_ofW HT_.out HW_.out (by kernel_rfl)) (fun _ _ _ h => h) (Or.inl ⟨by rfl, ?_⟩) hHeld ?_ ?_
            rotate_left
            · rintro w' ⟨s0, s1, s2, s3⟩
              go_simp
              with_reducible rfl
            rotate_left
            · simp only [Act.put, List.setIfInBounds_toArray, List.set_cons_zero, List.set_cons_succ, i64_w, i32_w]
              rfl
            refine one_ (i := 12) (N := some 32) #[true, true, true, true, true, true, true, true, true, true, true, true, true, false, false] rfl rfl (one_of HT_.out (by kernel_rfl)) (by decide) (fun K hK => ?_)
            refine goes_ Try.func44 (by kernel_rfl) rfl #[.slice A1 l1.length c1, .int .i64 ((rd_T38 l0 x7_1).f1)] (by rfl) rfl rfl (by (try simp only [List.map_toArray, List.map_cons, List.map_nil]); first | done | rfl | (simp only [List.length_drop, List.length_take]; rfl)) ?_
            with_reducible refine (swageref18_value.calls k1 _ _ l1 ((rd_T38 l0 x7_1).f1) t443 _ ?side1 ?side2 A9.out).mono ?_
            (case side1 => repeat (first | exact (Kd.C_below HR1.out HB.out) | (with_reducible refine Kd.C_alloc ?_ _) | (with_reducible refine Kd.C_drewN ?_ _) | (with_reducible refine Kd.C_drew ?_)))
            (case side2 => exact HC1.out)
            rintro e w' ⟨rfl, ⟨nd, rfl⟩⟩
            refine ⟨_, rfl, ?_⟩
            obtain ⟨Ao12, co12, eo12⟩ := Kd.R_slice HO_6.out
            (first | subst eo12 | (injection eo12 with f1_ f2_ f3_; have f4_ := f1_.symm; have f5_ := f3_.symm; clear f1_ f2_ f3_; subst f4_; subst f5_))
            refine hK.out _ _ ⟨((HB.out.cell (World.block_lt_of_cell? w _ hw441_0)).trans hw441_0), ((HB.out.cell (World.block_lt_of_cell? w _ hw441_1)).trans hw441_1), ((HB.out.cell (World.block_lt_of_cell? w _ hw442_0)).trans hw442_0), ((HB.out.cell (World.block_lt_of_cell? w _ hw442_1)).trans hw442_1)⟩ (fun hHeld => ?_)
            clear hK K
            refine norm_ (a' := ?_) ?_ ?_
            rotate_left
            · show Act.put _ (some 32) _ = _
              simp only [Act.put, List.setIfInBounds_toArray, List.set_cons_zero, List.set_cons_succ, i64_w, i32_w]
              rfl
            refine one_ (i := 13) (N := some 33) #[true, true, true, true, true, true, true, true, true, true, true, true, true, true, false] rfl rfl (one_of HT_.out (by kernel_rfl)) (by decide) (fun K hK => ?_)
            refine goes_ Try.func43 (by kernel_rfl) rfl #[.slice Ao12 x6_1.length co12, .int .i64 ((rd_T38 l0 x7_1).f0), .int .i64 t443] (by rfl) rfl rfl (by (try simp only [List.map_toArray, List.map_cons, List.map_nil]); first | done | rfl | (simp only [List.length_drop, List.length_take]; rfl)) ?_
            with_reducible refine (swageref18_put.calls k1 _ _ x6_1 ((rd_T38 l0 x7_1).f0) t443 t444 _ ?side1 ?side2 A10.out).mono ?_
            (case side1 => repeat (first | exact (Kd.R_reads' HO_6.out).2.2 | (with_reducible refine Kd.C_alloc ?_ _) | (with_reducible refine Kd.C_drewN ?_ _) | (with_reducible refine Kd.C_drew ?_)))
            (case side2 => exact (Kd.R_reads' HO_6.out).2.1)
            rintro e w13 ⟨v445, rfl, ho0, hb⟩
            refine ⟨_, rfl, ?_⟩
            have n0_ := Aside0.mk (Kd.R_elder' (by (with_reducible repeat (first | apply Kd.R_alloc | apply Kd.R_drewN | apply Kd.R_drew)); exact HO_6.out) (Kd.R_base ho0) hb)
            have n1_ := Aside0.mk (Kd.R_lower (Kd.R_new' ho0 (Kd.R_lt (by (with_reducible repeat (first | apply Kd.R_alloc | apply Kd.R_drewN | apply Kd.R_drew)); exact HO_6.out))) (below_size (by repeat (first | (with_reducible first | exact HB.out | apply below_alloc | apply pw_below_drewN | apply below_drew1) | exact HB.out))))
            have n2_ := Aside0.mk (below_step (by repeat (first | (with_reducible first | exact HB.out | apply below_alloc | apply pw_below_drewN | apply below_drew1) | exact HB.out)) hb)
            clear HO_6
            clear HB
            have HO_6 := n0_
            have HO446 := n1_
            have HB := n2_
            clear n0_ n1_ n2_
            (try clear hb)
            (try clear hb2)
            (try clear hk)
            (try clear hi)
            (try clear ho0)
            refine hK.out _ _ ⟨((HB.out.cell (World.block_lt_of_cell? w _ hw441_0)).trans hw441_0), ((HB.out.cell (World.block_lt_of_cell? w _ hw441_1)).trans hw441_1), ((HB.out.cell (World.block_lt_of_cell? w _ hw442_0)).trans hw442_0), ((HB.out.cell (World.block_lt_of_cell? w _ hw442_1)).trans hw442_1)⟩ (fun hHeld => ?_)
            clear hK K
            refine norm_ (a' := ?_) ?_ ?_
            rotate_left
            · show Act.put _ (some 33) _ = _
              simp only [Act.put, List.setIfInBounds_toArray, List.set_cons_zero, List.set_cons_succ, i64_w, i32_w]
              rfl
            refine pure_ (i := 14) (N := some 6) (v := ?_) (a' := ?_) #[true, true, true, true, true, true, true, true, true, true, true, true, true, true, true] rfl rfl (any_of HT_.out (by kernel_rfl)) (fun _ _ _ h => h) (Or.inl ⟨by rfl, ?_⟩) ?_ ?_
            rotate_left
            · intro w'
              go_simp
              with_reducible rfl
            rotate_left
            · simp only [Act.put, List.setIfInBounds_toArray, List.set_cons_zero, List.set_cons_succ, i64_w, i32_w]
              rfl
            refine done_ (done_of HT_.out (by kernel_rfl)) ?_
            try go_wp2
            go_roundg k1
            case measure => have := HK1.out; omega
            case rel => exact ⟨(t444), (wrap64 (x7_1 + 1)), (by first | rfl | (simp; done) | (simp [*]; done)), H', ⟨by have := HK1.out; omega⟩, ⟨by (with_reducible repeat (first | apply Kd.R_alloc | apply Kd.R_drewN | apply Kd.R_drew)); exact Kd.R_mono HO446.out (fun _ hk => trivial)⟩, ⟨by repeat (first | (with_reducible first | exact HB.out | apply below_alloc | apply pw_below_drewN | apply below_drew1) | exact HB.out)⟩⟩
          · rw [if_neg c8] at H
            exact absurd H (by simp)
        · rw [if_neg c7] at H
          have c7b0 : decide (x7_1 < (l0.length : Int)) = false := decide_eq_false c7
          clear c7
          obtain rfl := Option.some.inj H
          go_wp2
          go_ret
          exact ⟨_, by first | rfl | (simp [errW_none, errW_some] <;> rfl) | (simp [*, errW_none, errW_some] <;> rfl), by (with_reducible repeat (first | apply Kd.R_alloc | apply Kd.R_drewN | apply Kd.R_drew)); exact HO_6.out, by repeat (first | (with_reducible first | exact HB.out | apply below_alloc | apply pw_below_drewN | apply below_drew1) | exact HB.out)⟩
  · replace c4 := Bool.eq_false_iff.mpr c4
    subst c4
    have H1 : (some ([] : List (S42))) = some r := by rw [if_neg (show ¬ (false = true) by decide)] at H; exact H
    clear H
    have H := H1
    clear H1
    obtain rfl := Option.some.inj H
    go_enter Try.func19, Try.ntmps19
    go_wp2_with (first | ((with_reducible refine gate_callee (f := 13) rfl ?_); refine goesL_ (some 9) rfl rfl Try.func13 (by kernel_rfl) rfl #[.slice A0 l0.length c0] rfl (by (try simp only [List.map_toArray, List.map_cons, List.map_nil]); first | done | rfl | (simp only [List.length_drop, List.length_take]; rfl)) ?_; (with_reducible refine (swageref18_Right.calls k _ _ l0 false _ ?side1 ?side2 A3.out).mono ?_); (case side1 => repeat (first | exact HR0.out | (with_reducible refine Kd.C_alloc ?_ _) | (with_reducible refine Kd.C_drewN ?_ _) | (with_reducible refine Kd.C_drew ?_))); (case side2 => exact HC0.out); rintro e w' ⟨rfl, ⟨nd, rfl⟩⟩; refine ⟨_, rfl, ?_⟩))
    go_ret
    exact ⟨_, by first | rfl | (simp [errW_none, errW_some] <;> rfl) | (simp [*, errW_none, errW_some] <;> rfl), by first | exact Kd.R_nil _ _ _ _ _ | exact Kd.N_nil _ _ _ _ _ | exact Kd.V_nil _ _ _ _ _ | exact Kd.Q_nil _ _ _ _ _ | exact Kd.S_nil _ _ _ _ _, by repeat (first | (with_reducible first | exact HB.out | apply below_alloc | apply pw_below_drewN | apply below_drew1) | exact HB.out)⟩

end Go.Proofs.Ytkfopphcgjdcaaa.A

/- What the machine does at this function, and a plain Lean function that says the same: written by a program for this claim; Lean checks it. -/
namespace Go.Proofs.Ytkfopphcgjdcaaa.A
open Go.RowKit Go.Proofs.YtkfopphcgjdcaaaW.PrintWords Go.Proofs.YtkfopphcgjdcaaaW.PrintLast Go.Proofs.YtkfopphcgjdcaaaW.PrintMore
attribute [local go_sem] max2_int min2_int max_two min_two max_three min_three max_four min_four   -- for this text's walks alone
set_option linter.unusedVariables false
set_option linter.unusedSimpArgs false

/-! ### swageref18_OneByOne: function 21 -/
def swageref18_OneByOne.l0 : Nat → List (S38) → List (S42) → Int → Option ((List (S42)))
  | 0, _, _, _ => none
  | k + 1, x0, x5, x6 => if x6 < (x0.length : Int) then (if 0 ≤ x6 then ((swageref18_value.f k x5 ((rd_T38 x0 x6).f1)).bind fun t452 => ((swageref18_put.f k x5 ((rd_T38 x0 x6).f0) t452).bind fun t453 => (swageref18_OneByOne.l0 k x0 t453 (wrap64 (x6 + 1))))) else (none)) else (some x5)
def swageref18_OneByOne.f (k : Nat) (l0 : List (S38)) (l1 : List (S42)) : Option ((List (S42))) := (swageref18_sorted.f k l1).bind fun t447 => (swageref18_OneByOne.l0 k l0 t447 0)
theorem swageref18_OneByOne.mono_l : ∀ k, (∀ y0 y1 y2, LeO (swageref18_OneByOne.l0 k y0 y1 y2) (swageref18_OneByOne.l0 (k + 1) y0 y1 y2))
  | 0 => fun _ _ _ r h => by simp [swageref18_OneByOne.l0] at h
  | k + 1 => by
    have ih0 := swageref18_OneByOne.mono_l k
    · intro y0 y1 y2
      unfold swageref18_OneByOne.l0
      repeat' first
      | (with_reducible exact ih0 _ _ _)
      | (with_reducible exact swageref18_put.mono _ _ _ _)
      | (with_reducible exact swageref18_sorted.mono _ _)
      | (with_reducible exact swageref18_value.mono _ _ _)
      | (with_reducible exact LeO.refl _)
      | (with_reducible exact LeO.none _)
      | (with_reducible refine LeO.ite ?_ ?_)
      | (with_reducible refine LeO.bind ?_ (fun _ => ?_))
      | exact ih0 _ _ _
      | exact swageref18_put.mono _ _ _ _
      | exact swageref18_sorted.mono _ _
      | exact swageref18_value.mono _ _ _
      | exact LeO.none _
      | refine LeO.ite ?_ ?_
      | refine LeO.bind ?_ (fun _ => ?_)
theorem swageref18_OneByOne.mono : ∀ a0 a1 k, LeO (swageref18_OneByOne.f k a0 a1) (swageref18_OneByOne.f (k + 1) a0 a1) := by
  intro a0 a1 k
  have ih0 := swageref18_OneByOne.mono_l k
  unfold swageref18_OneByOne.f
  repeat' first
      | (with_reducible exact ih0 _ _ _)
      | (with_reducible exact swageref18_put.mono _ _ _ _)
      | (with_reducible exact swageref18_sorted.mono _ _)
      | (with_reducible exact swageref18_value.mono _ _ _)
      | (with_reducible exact LeO.refl _)
      | (with_reducible exact LeO.none _)
      | (with_reducible refine LeO.ite ?_ ?_)
      | (with_reducible refine LeO.bind ?_ (fun _ => ?_))
      | exact ih0 _ _ _
      | exact swageref18_put.mono _ _ _ _
      | exact swageref18_sorted.mono _ _
      | exact swageref18_value.mono _ _ _
      | exact LeO.none _
      | refine LeO.ite ?_ ?_
      | refine LeO.bind ?_ (fun _ => ?_)
def swageref18_OneByOne.T5 : Bool × List (List Nat × List Nat) := (true, [([], []), ([], []), ([], []), ([1, 2], [1, 2]), ([3], [3]), ([4], [4]), ([], []), ([], []), ([], []), ([7, 8], [7, 8]), ([9], [9]), ([10], [10]), ([6, 11], [6, 11]), ([0, 5, 12, 12], [0, 5, 12]), ([13, 13, 0, 1, 2, 3, 4, 5, 6, 7, 8, 9, 10, 11, 12, 13], [0, 6, 13])])
def swageref18_OneByOne.B5 : List Nat := [0, 0, 0, 6, 14, 30, 0, 0, 0, 384, 896, 1920, 4032, 8191, 16383]
theorem swageref18_OneByOne.tab5 : rtab .any (opsOf Try.f21 5) = swageref18_OneByOne.T5 := by kernel_rfl
theorem swageref18_OneByOne.bits5 : waitsOk swageref18_OneByOne.T5.2 swageref18_OneByOne.B5 = true := by kernel_rfl
set_option maxHeartbeats 8000000 in
set_option maxRecDepth 100000 in
theorem swageref18_OneByOne.calls (k : Nat) (A0 : Option Addr) (c0 : Nat) (l0 : List (S38)) (A1 : Option Addr) (c1 : Nat) (l1 : List (S42)) (r : List (S42)) (w : World) (hr0 : Kd.C k38 w A0 l0.length l0) (hc0 : l0.length ≤ c0) (hr1 : Kd.C k42 w A1 l1.length l1) (hc1 : l1.length ≤ c1) (h : swageref18_OneByOne.f k l0 l1 = some r) :
    Calls Try.prog 21 #[.slice A0 l0.length c0, .slice A1 l1.length c1] w fun e w' => ∃ v0_ : Value, e = .returned (v0_) ∧ Kd.R k42 42 w' w.heap.size (fun _ => True) v0_ r ∧ Below w.heap.size w w' := by
  have HR0 := Aside0.mk hr0
  have HC0 := Aside0.mk hc0
  clear hr0 hc0
  have HR1 := Aside0.mk hr1
  have HC1 := Aside0.mk hc1
  clear hr1 hc1
  have HB := Aside0.mk (Below.refl w.heap.size w)
  have H : ((swageref18_sorted.f k l1).bind fun t447 => (swageref18_OneByOne.l0 k l0 t447 0)) = some r := h
  clear h
  replace H := Option.bind_eq_some_iff.mp H
  obtain ⟨t447, A30, H⟩ := H
  replace H : (swageref18_OneByOne.l0 k l0 t447 0) = some r := H
  have A3 := Aside0.mk A30
  clear A30
  have H' := Aside0.mk H
  clear H
  go_enter Try.func21, Try.ntmps21
  go_wp2_with (first | ((with_reducible refine gate_callee (f := 42) rfl ?_); refine goesL_ (some 8) rfl rfl Try.func42 (by kernel_rfl) rfl #[.slice A1 l1.length c1] rfl (by (try simp only [List.map_toArray, List.map_cons, List.map_nil]); first | done | rfl | (simp only [List.length_drop, List.length_take]; rfl)) ?_; (with_reducible refine (swageref18_sorted.calls k _ _ l1 t447 _ ?side1 ?side2 A3.out).mono ?_); (case side1 => repeat (first | exact HR1.out | (with_reducible refine Kd.C_alloc ?_ _) | (with_reducible refine Kd.C_drewN ?_ _) | (with_reducible refine Kd.C_drew ?_))); (case side2 => exact HC1.out); rintro e w4 ⟨v448, rfl, ho0, hb⟩; refine ⟨_, rfl, ?_⟩; have n0_ := Aside0.mk (Kd.R_lower ho0 (below_size (by repeat (first | (with_reducible first | exact HB.out | apply below_alloc | apply pw_below_drewN | apply below_drew1) | exact HB.out)))); have n1_ := Aside0.mk (below_step (by repeat (first | (with_reducible first | exact HB.out | apply below_alloc | apply pw_below_drewN | apply below_drew1) | exact HB.out)) hb); clear HB; have HO449 := n0_; have HB := n1_; clear n0_ n1_; (try clear hb); (try clear hb2); (try clear hk); (try clear hi); (try clear ho0)))
  go_loopg [5, 6] k (fun kq v5 v6 w' => ∃ (x5_1 : List (S42)) (x6_1 : Int), v6 = .int .i64 x6_1 ∧ Aside0 (swageref18_OneByOne.l0 kq l0 x5_1 x6_1 = some r) ∧ Aside0 (kq ≤ k) ∧ Aside0 (Kd.R k42 42 w' w.heap.size (fun _ => True) v5 x5_1) ∧ Aside0 (Below w.heap.size w w'))
  case atStart => exact ⟨(t447), (0), (by first | rfl | (simp; done) | (simp [*]; done)), H', ⟨Nat.le_refl _⟩, ⟨by (with_reducible repeat (first | apply Kd.R_alloc | apply Kd.R_drewN | apply Kd.R_drew)); exact HO449.out⟩, ⟨by repeat (first | (with_reducible first | exact HB.out | apply below_alloc | apply pw_below_drewN | apply below_drew1) | exact HB.out)⟩⟩
  case round =>
    clear H'
    try clear c1
    try clear c2
    try clear p2
    try clear c4
    obtain ⟨x5_1, x6_1, rfl, HA, HK1, HO_5, HB⟩ := hrel
    cases gk with
    | zero => exact absurd HA.out (by simp [swageref18_OneByOne.l0])
    | succ k1 =>
      have H := HA.out
      clear HA
      simp only [swageref18_OneByOne.l0] at H
      by_cases c5 : x6_1 < (l0.length : Int)
      · rw [if_pos c5] at H
        have c5b0 : decide (x6_1 < (l0.length : Int)) = true := decide_eq_true c5
        clear c5
        by_cases c6 : 0 ≤ x6_1
        · rw [if_pos c6] at H
          have c6b0 : decide (0 ≤ x6_1) = true := decide_eq_true c6
          clear c6
          replace H := Option.bind_eq_some_iff.mp H
          obtain ⟨t452, A70, H⟩ := H
          replace H : ((swageref18_put.f k1 x5_1 ((rd_T38 l0 x6_1).f0) t452).bind fun t453 => (swageref18_OneByOne.l0 k1 l0 t453 (wrap64 (x6_1 + 1)))) = some r := H
          have A7 := Aside0.mk A70
          clear A70
          replace H := Option.bind_eq_some_iff.mp H
          obtain ⟨t453, A80, H⟩ := H
          replace H : (swageref18_OneByOne.l0 k1 l0 t453 (wrap64 (x6_1 + 1))) = some r := H
          have A8 := Aside0.mk A80
          clear A80
          have H' := Aside0.mk H
          clear H
          try go_wp2
          have n0_ := Aside0.mk (Kd.R_drew HO_5.out)
          have n1_ := Aside0.mk (below_drew1 HB.out)
          clear HO_5
          clear HB
          have HO_5 := n0_
          have HB := n1_
          clear n0_ n1_
          have p450 : 0 ≤ (x6_1 : Int) := of_decide_eq_true (by first | (with_reducible assumption) | assumption)
          have q450 : x6_1 < (l0.length : Int) := of_decide_eq_true (by first | (with_reducible assumption) | assumption)
          obtain ⟨ad450, e450, hx450_0, hx450_1⟩ := at_T38 HR0.out x6_1 p450 q450
          have hw450_1 := hx450_1
          have hw450_0 := hx450_0
          cases e450
          replace hx450_0 := (HB.out.cell (World.block_lt_of_cell? w _ hx450_0)).trans hx450_0
          replace hx450_1 := (HB.out.cell (World.block_lt_of_cell? w _ hx450_1)).trans hx450_1
          replace p450 := eq_true p450
          replace q450 := eq_true q450
          have p451 : 0 ≤ (x6_1 : Int) := of_decide_eq_true (by first | (with_reducible assumption) | assumption)
          have q451 : x6_1 < (l0.length : Int) := of_decide_eq_true (by first | (with_reducible assumption) | assumption)
          obtain ⟨ad451, e451, hx451_0, hx451_1⟩ := at_T38 HR0.out x6_1 p451 q451
          have hw451_1 := hx451_1
          have hw451_0 := hx451_0
          obtain rfl : ad450 = ad451 := (by injection e451)
          replace hx451_0 := (HB.out.cell (World.block_lt_of_cell? w _ hx451_0)).trans hx451_0
          replace hx451_1 := (HB.out.cell (World.block_lt_of_cell? w _ hx451_1)).trans hx451_1
          replace p451 := eq_true p451
          replace q451 := eq_true q451
          obtain ⟨Ao10, co10, eo10⟩ := Kd.R_slice HO_5.out
          (first | subst eo10 | (injection eo10 with f1_ f2_ f3_; have f4_ := f1_.symm; have f5_ := f3_.symm; clear f1_ f2_ f3_; subst f4_; subst f5_))
          refine start_ (n := 15) (S := fun w' => w'.cell? (ad450.add ((x6_1).toNat * 2)) = some (.int .i64 ((rd_T38 l0 x6_1).f0)) ∧ w'.cell? ⟨(ad450.add ((x6_1).toNat * 2)).block, (ad450.add ((x6_1).toNat * 2)).off + 1, none⟩ = some (.int .i64 ((rd_T38 l0 x6_1).f1)) ∧ w'.cell? (ad450.add ((x6_1).toNat * 2)) = some (.int .i64 ((rd_T38 l0 x6_1).f0)) ∧ w'.cell? ⟨(ad450.add ((x6_1).toNat * 2)).block, (ad450.add ((x6_1).toNat * 2)).off + 1, none⟩ = some (.int .i64 ((rd_T38 l0 x6_1).f1))) (ds := []) #[false, false, false, false, false, false, false, false, false, false, false, false, false, false, false] (by kernel_rfl) rfl rfl ⟨((HB.out.cell (World.block_lt_of_cell? w _ hw450_0)).trans hw450_0), ((HB.out.cell (World.block_lt_of_cell? w _ hw450_1)).trans hw450_1), ((HB.out.cell (World.block_lt_of_cell? w _ hw451_0)).trans hw451_0), ((HB.out.cell (World.block_lt_of_cell? w _ hw451_1)).trans hw451_1)⟩ (fun hHeld => ?_); refine with_tabW swageref18_OneByOne.tab5 swageref18_OneByOne.bits5 (fun HT_ HW_ => ?_)
          generalize wr.drew = w9 at HO_5 HB hx450_0 hx450_1 hx451_0 hx451_1 hHeld ⊢
          refine pure_ (i := 0) (N := some 15) (v := ?_) (a' := ?_) #[true, false, false, false, false, false, false, false, false, false, false, false, false, false, false] rfl rfl (any_of HT_.out (by kernel_rfl)) (fun _ _ _ h => h) (Or.inl ⟨by rfl, ?_⟩) ?_ ?_
          rotate_left
          · intro w'
            go_simp
            with_reducible rfl
          rotate_left
          · simp only [Act.put, List.setIfInBounds_toArray, List.set_cons_zero, List.set_cons_succ, i64_w, i32_w]
            rfl
          refine pure_ (i := 1) (N := some 16) (v := ?_) (a' := ?_) #[true, true, false, false, false, false, false, false, false, false, false, false, false, false, false] rfl rfl (any_of HT_.out (by kernel_rfl)) (fun _ _ _ h => h) (Or.inl ⟨by rfl, ?_⟩) ?_ ?_
          rotate_left
          · intro w'
            go_simp
            with_reducible rfl
          rotate_left
          · simp only [Act.put, List.setIfInBounds_toArray, List.set_cons_zero, List.set_cons_succ, i64_w, i32_w]
            rfl
          refine pure_ (i := 2) (N := some 17) (v := ?_) (a' := ?_) #[true, true, true, false, false, false, false, false, false, false, false, false, false, false, false] rfl rfl (any_of HT_.out (by kernel_rfl)) (fun _ _ _ h => h) (Or.inl ⟨by rfl, ?_⟩) ?_ ?_
          rotate_left
          · intro w'
            go_simp
            with_reducible rfl
          rotate_left
          · simp only [Act.put, List.setIfInBounds_toArray, List.set_cons_zero, List.set_cons_succ, i64_w, i32_w]
            rfl
          refine pure_ (i := 3) (N := some 18) (v := ?_) (a' := ?_) #[true, true, true, true, false, false, false, false, false, false, false, false, false, false, false] rfl rfl (any_of HT_.out (by kernel_rfl)) (fun _ _ _ h => h) (Or.inl ⟨by rfl, ?_⟩) ?_ ?_
          rotate_left
          · intro w'
            go_simp
            with_reducible rfl
          rotate_left
          · simp only [Act.put, List.setIfInBounds_toArray, List.set_cons_zero, List.set_cons_succ, i64_w, i32_w]
            rfl
          refine pure_ (i := 4) (N := some 19) (v := ?_) (a' := ?_) #[true, true, true, true, true, false, false, false, false, false, false, false, false, false, false] rfl rfl (any_of HT_.out (by kernel_rfl)) (fun _ _ _ h => h) (Or.inl ⟨by rfl, ?_⟩) ?_ ?_
          rotate_left
          · intro w'
            go_simp
            with_reducible rfl
          rotate_left
          · simp only [Act.put, List.setIfInBounds_toArray, List.set_cons_zero, List.set_cons_succ, i64_w, i32_w]
            rfl
          refine pure_ (i := 6) (N := some 21) (v := ?_) (a' := ?_) #[true, true, true, true, true, false, true, false, false, false, false, false, false, false, false] rfl rfl (any_of HT_.out (by kernel_rfl)) (fun _ _ _ h => h) (Or.inl ⟨by rfl, ?_⟩) ?_ ?_
          rotate_left
          · intro w'
            go_simp
            with_reducible rfl
          rotate_left
          · simp only [Act.put, List.setIfInBounds_toArray, List.set_cons_zero, List.set_cons_succ, i64_w, i32_w]
            rfl
          refine pure_ (i := 7) (N := some 22) (v := ?_) (a' := ?_) #[true, true, true, true, true, false, true, true, false, false, false, false, false, false, false] rfl rfl (any_of HT_.out (by kernel_rfl)) (fun _ _ _ h => h) (Or.inl ⟨by rfl, ?_⟩) ?_ ?_
          rotate_left
          · intro w'
            go_simp
            with_reducible rfl
          rotate_left
          · simp only [Act.put, List.setIfInBounds_toArray, List.set_cons_zero, List.set_cons_succ, i64_w, i32_w]
            rfl
          refine pure_ (i := 8) (N := some 23) (v := ?_) (a' := ?_) #[true, true, true, true, true, false, true, true, true, false, false, false, false, false, false] rfl rfl (any_of HT_.out (by kernel_rfl)) (fun _ _ _ h => h) (Or.inl ⟨by rfl, ?_⟩) ?_ ?_
          rotate_left
          · intro w'
            go_simp
            with_reducible rfl
          rotate_left
          · simp only [Act.put, List.setIfInBounds_toArray, List.set_cons_zero, List.set_cons_succ, i64_w, i32_w]
            rfl
          refine pure_ (i := 9) (N := some 24) (v := ?_) (a' := ?_) #[true, true, true, true, true, false, true, true, true, true, false, false, false, false, false] rfl rfl (any_of HT_.out (by kernel_rfl)) (fun _ _ _ h => h) (Or.inl ⟨by rfl, ?_⟩) ?_ ?_
          rotate_left
          · intro w'
            go_simp
            with_reducible rfl
          rotate_left
          · simp only [Act.put, List.setIfInBounds_toArray, List.set_cons_zero, List.set_cons_succ, i64_w, i32_w]
            rfl
          refine pure_ (i := 10) (N := some 25) (v := ?_) (a' := ?_) #[true, true, true, true, true, false, true, true, true, true, true, false, false, false, false] rfl rfl (any_of HT_.out (by kernel_rfl)) (fun _ _ _ h => h) (Or.inl ⟨by rfl, ?_⟩) ?_ ?_
          rotate_left
          · intro w'
            go_simp
            with_reducible rfl
          rotate_left
          · simp only [Act.put, List.setIfInBounds_toArray, List.set_cons_zero, List.set_cons_succ, i64_w, i32_w]
            rfl
          refine take_ (i := 5) (N := some 20) (v := ?_) (a' := ?_) #[true, true, true, true, true, true, true, true, true, true, true, false, false, false, false] rfl rfl (take_ofW HT_.out HW_.out (by kernel_rfl)) (fun _ _ _ h => h) (Or.inl ⟨by rfl, ?_⟩) hHeld ?_ ?_
          rotate_left
          · rintro w' ⟨s0, s1, s2, s3⟩
            go_simp
            with_reducible rfl
          rotate_left
          · simp only [Act.put, List.setIfInBounds_toArray, List.set_cons_zero, List.set_cons_succ, i64_w, i32_w]
            rfl
          refine take_ (i := 11) (N := some 26) (v := ?_) (a' := ?_) #[true, true, true, true, true, true, true, true, true, true, true, true, false, false, false] rfl rfl (take_ofW HT_.out HW_.out (by kernel_rfl)) (fun _ _ _ h => h) (Or.inl ⟨by rfl, ?_⟩) hHeld ?_ ?_
          rotate_left
          · rintro w' ⟨s0, s1, s2, s3⟩
            go_simp
            with_reducible rfl
          rotate_left
          · simp only [Act.put, List.setIfInBounds_toArray, List.set_cons_zero, List.set_cons_succ, i64_w, i32_w]
            rfl
          refine one_ (i := 12) (N := some 27) #[true, true, true, true, true, true, true, true, true, true, true, true, true, false, false] rfl rfl (one_of HT_.out (by kernel_rfl)) (by decide) (fun K hK => ?_)
          refine goes_ Try.func44 (by kernel_rfl) rfl #[.slice Ao10 x5_1.length co10, .int .i64 ((rd_T38 l0 x6_1).f1)] (by rfl) rfl rfl (by (try simp only [List.map_toArray, List.map_cons, List.map_nil]); first | done | rfl | (simp only [List.length_drop, List.length_take]; rfl)) ?_
          with_reducible refine (swageref18_value.calls k1 _ _ x5_1 ((rd_T38 l0 x6_1).f1) t452 _ ?side1 ?side2 A7.out).mono ?_
          (case side1 => repeat (first | exact (Kd.R_reads' HO_5.out).2.2 | (with_reducible refine Kd.C_alloc ?_ _) | (with_reducible refine Kd.C_drewN ?_ _) | (with_reducible refine Kd.C_drew ?_)))
          (case side2 => exact (Kd.R_reads' HO_5.out).2.1)
          rintro e w' ⟨rfl, ⟨nd, rfl⟩⟩
          refine ⟨_, rfl, ?_⟩
          refine hK.out _ _ ⟨((HB.out.cell (World.block_lt_of_cell? w _ hw450_0)).trans hw450_0), ((HB.out.cell (World.block_lt_of_cell? w _ hw450_1)).trans hw450_1), ((HB.out.cell (World.block_lt_of_cell? w _ hw451_0)).trans hw451_0), ((HB.out.cell (World.block_lt_of_cell? w _ hw451_1)).trans hw451_1)⟩ (fun hHeld => ?_)
          clear hK K
          refine norm_ (a' := ?_) ?_ ?_
          rotate_left
          · show Act.put _ (some 27) _ = _
            simp only [Act.put, List.setIfInBounds_toArray, List.set_cons_zero, List.set_cons_succ, i64_w, i32_w]
            rfl
          refine one_ (i := 13) (N := some 28) #[true, true, true, true, true, true, true, true, true, true, true, true, true, true, false] rfl rfl (one_of HT_.out (by kernel_rfl)) (by decide) (fun K hK => ?_)
          refine goes_ Try.func43 (by kernel_rfl) rfl #[.slice Ao10 x5_1.length co10, .int .i64 ((rd_T38 l0 x6_1).f0), .int .i64 t452] (by rfl) rfl rfl (by (try simp only [List.map_toArray, List.map_cons, List.map_nil]); first | done | rfl | (simp only [List.length_drop, List.length_take]; rfl)) ?_
          with_reducible refine (swageref18_put.calls k1 _ _ x5_1 ((rd_T38 l0 x6_1).f0) t452 t453 _ ?side1 ?side2 A8.out).mono ?_
          (case side1 => repeat (first | exact (Kd.R_reads' HO_5.out).2.2 | (with_reducible refine Kd.C_alloc ?_ _) | (with_reducible refine Kd.C_drewN ?_ _) | (with_reducible refine Kd.C_drew ?_)))
          (case side2 => exact (Kd.R_reads' HO_5.out).2.1)
          rintro e w11 ⟨v454, rfl, ho0, hb⟩
          refine ⟨_, rfl, ?_⟩
          have n0_ := Aside0.mk (Kd.R_elder' (by (with_reducible repeat (first | apply Kd.R_alloc | apply Kd.R_drewN | apply Kd.R_drew)); exact HO_5.out) (Kd.R_base ho0) hb)
          have n1_ := Aside0.mk (Kd.R_lower (Kd.R_new' ho0 (Kd.R_lt (by (with_reducible repeat (first | apply Kd.R_alloc | apply Kd.R_drewN | apply Kd.R_drew)); exact HO_5.out))) (below_size (by repeat (first | (with_reducible first | exact HB.out | apply below_alloc | apply pw_below_drewN | apply below_drew1) | exact HB.out))))
          have n2_ := Aside0.mk (below_step (by repeat (first | (with_reducible first | exact HB.out | apply below_alloc | apply pw_below_drewN | apply below_drew1) | exact HB.out)) hb)
          clear HO_5
          clear HB
          have HO_5 := n0_
          have HO455 := n1_
          have HB := n2_
          clear n0_ n1_ n2_
          (try clear hb)
          (try clear hb2)
          (try clear hk)
          (try clear hi)
          (try clear ho0)
          refine hK.out _ _ ⟨((HB.out.cell (World.block_lt_of_cell? w _ hw450_0)).trans hw450_0), ((HB.out.cell (World.block_lt_of_cell? w _ hw450_1)).trans hw450_1), ((HB.out.cell (World.block_lt_of_cell? w _ hw451_0)).trans hw451_0), ((HB.out.cell (World.block_lt_of_cell? w _ hw451_1)).trans hw451_1)⟩ (fun hHeld => ?_)
          clear hK K
          refine norm_ (a' := ?_) ?_ ?_
          rotate_left
          · show Act.put _ (some 28) _ = _
            simp only [Act.put, List.setIfInBounds_toArray, List.set_cons_zero, List.set_cons_succ, i64_w, i32_w]
            rfl
          refine pure_ (i := 14) (N := some 5) (v := ?_) (a' := ?_) #[true, true, true, true, true, true, true, true, true, true, true, true, true, true, true] rfl rfl (any_of HT_.out (by kernel_rfl)) (fun _ _ _ h => h) (Or.inl ⟨by rfl, ?_⟩) ?_ ?_
          rotate_left
          · intro w'
            go_simp
            with_reducible rfl
          rotate_left
          · simp only [Act.put, List.setIfInBounds_toArray, List.set_cons_zero, List.set_cons_succ, i64_w, i32_w]
            rfl
          refine done_ (done_of HT_.out (by kernel_rfl)) ?_
          try go_wp2
          go_roundg k1
          case measure => have := HK1.out; omega
          case rel => exact ⟨(t453), (wrap64 (x6_1 + 1)), (by first | rfl | (simp; done) | (simp [*]; done)), H', ⟨by have := HK1.out; omega⟩, ⟨by (with_reducible repeat (first | apply Kd.R_alloc | apply Kd.R_drewN | apply Kd.R_drew)); exact Kd.R_mono HO455.out (fun _ hk => trivial)⟩, ⟨by repeat (first | (with_reducible first | exact HB.out | apply below_alloc | apply pw_below_drewN | apply below_drew1) | exact HB.out)⟩⟩
        · rw [if_neg c6] at H
          exact absurd H (by simp)
      · rw [if_neg c5] at H
        have c5b0 : decide (x6_1 < (l0.length : Int)) = false := decide_eq_false c5
        clear c5
        obtain rfl := Option.some.inj H
        go_wp2
        go_ret
        exact ⟨_, by first | rfl | (simp [errW_none, errW_some] <;> rfl) | (simp [*, errW_none, errW_some] <;> rfl), by (with_reducible repeat (first | apply Kd.R_alloc | apply Kd.R_drewN | apply Kd.R_drew)); exact HO_5.out, by repeat (first | (with_reducible first | exact HB.out | apply below_alloc | apply pw_below_drewN | apply below_drew1) | exact HB.out)⟩

end Go.Proofs.Ytkfopphcgjdcaaa.A

/- What the machine does at this function, and a plain Lean function that says the same: written by a program for this claim; Lean checks it. -/
namespace Go.Proofs.Ytkfopphcgjdcaaa.A
open Go.RowKit Go.Proofs.YtkfopphcgjdcaaaW.PrintWords Go.Proofs.YtkfopphcgjdcaaaW.PrintLast Go.Proofs.YtkfopphcgjdcaaaW.PrintMore
attribute [local go_sem] max2_int min2_int max_two min_two max_three min_three max_four min_four   -- for this text's walks alone
set_option linter.unusedVariables false
set_option linter.unusedSimpArgs false

/-! ### swagelaw18_MovesHold: function 4 -/
def swagelaw18_MovesHold.j0 : Nat → List (S38) → List (S42) → Bool → Bool → Option (Bool)
  | 0, _, _, _, _ => none
  | k + 1, x0, x1, x5, x14 => if x14 = true then (some x5) else (if x5 = true then ((moves_AtOnce.f x0 x1).bind fun t457 => ((swageref18_AtOnce.f k x0 x1).bind fun t460 => ((swageref05_Pairs.f k t457 t460).bind fun t463 => (if t463 = true then ((moves_OneByOne.f x0 x1).bind fun t464 => ((swageref18_OneByOne.f k x0 x1).bind fun t467 => ((swageref05_Pairs.f k t464 t467).bind fun t470 => (some t470)))) else (some false))))) else (some false))
def swagelaw18_MovesHold.f (k : Nat) (l0 : List (S38)) (l1 : List (S42)) : Option (Bool) := (swagelaw18_small.f).bind fun t456 => (if (l0.length : Int) > 40 then (swagelaw18_MovesHold.j0 k l0 l1 t456 true) else (swagelaw18_MovesHold.j0 k l0 l1 t456 (decide ((l1.length : Int) > 40))))
theorem swagelaw18_MovesHold.mono_l : ∀ k, (∀ y0 y1 y2 y3, LeO (swagelaw18_MovesHold.j0 k y0 y1 y2 y3) (swagelaw18_MovesHold.j0 (k + 1) y0 y1 y2 y3))
  | 0 => fun _ _ _ _ r h => by simp [swagelaw18_MovesHold.j0] at h
  | k + 1 => by
    have ih0 := swagelaw18_MovesHold.mono_l k
    · intro y0 y1 y2 y3
      unfold swagelaw18_MovesHold.j0
      repeat' first
      | (with_reducible exact ih0 _ _ _ _)
      | (with_reducible exact swageref05_Pairs.mono _ _ _)
      | (with_reducible exact swageref18_AtOnce.mono _ _ _)
      | (with_reducible exact swageref18_OneByOne.mono _ _ _)
      | (with_reducible exact LeO.refl _)
      | (with_reducible exact LeO.none _)
      | (with_reducible refine LeO.ite ?_ ?_)
      | (with_reducible refine LeO.bind ?_ (fun _ => ?_))
      | exact ih0 _ _ _ _
      | exact swageref05_Pairs.mono _ _ _
      | exact swageref18_AtOnce.mono _ _ _
      | exact swageref18_OneByOne.mono _ _ _
      | exact LeO.none _
      | refine LeO.ite ?_ ?_
      | refine LeO.bind ?_ (fun _ => ?_)
theorem swagelaw18_MovesHold.mono : ∀ a0 a1 k, LeO (swagelaw18_MovesHold.f k a0 a1) (swagelaw18_MovesHold.f (k + 1) a0 a1) := by
  intro a0 a1 k
  have ih0 := swagelaw18_MovesHold.mono_l k
  unfold swagelaw18_MovesHold.f
  repeat' first
      | (with_reducible exact ih0 _ _ _ _)
      | (with_reducible exact swageref05_Pairs.mono _ _ _)
      | (with_reducible exact swageref18_AtOnce.mono _ _ _)
      | (with_reducible exact swageref18_OneByOne.mono _ _ _)
      | (with_reducible exact LeO.refl _)
      | (with_reducible exact LeO.none _)
      | (with_reducible refine LeO.ite ?_ ?_)
      | (with_reducible refine LeO.bind ?_ (fun _ => ?_))
      | exact ih0 _ _ _ _
      | exact swageref05_Pairs.mono _ _ _
      | exact swageref18_AtOnce.mono _ _ _
      | exact swageref18_OneByOne.mono _ _ _
      | exact LeO.none _
      | refine LeO.ite ?_ ?_
      | refine LeO.bind ?_ (fun _ => ?_)
set_option maxHeartbeats 8000000 in
set_option maxRecDepth 100000 in
theorem swagelaw18_MovesHold.calls (k : Nat) (A0 : Option Addr) (c0 : Nat) (l0 : List (S38)) (A1 : Option Addr) (c1 : Nat) (l1 : List (S42)) (r : Bool) (w : World) (hr0 : Kd.C k38 w A0 l0.length l0) (hc0 : l0.length ≤ c0) (hr1 : Kd.C k42 w A1 l1.length l1) (hc1 : l1.length ≤ c1) (h : swagelaw18_MovesHold.f k l0 l1 = some r) :
    Calls Try.prog 4 #[.slice A0 l0.length c0, .slice A1 l1.length c1] w fun e w' => e = .returned (.bool r) ∧ Below w.heap.size w w' := by
  have HR0 := Aside0.mk hr0
  have HC0 := Aside0.mk hc0
  clear hr0 hc0
  have HR1 := Aside0.mk hr1
  have HC1 := Aside0.mk hc1
  clear hr1 hc1
  have HB := Aside0.mk (Below.refl w.heap.size w)
  have H : ((swagelaw18_small.f).bind fun t456 => (if (l0.length : Int) > 40 then (swagelaw18_MovesHold.j0 k l0 l1 t456 true) else (swagelaw18_MovesHold.j0 k l0 l1 t456 (decide ((l1.length : Int) > 40))))) = some r := h
  clear h
  replace H := Option.bind_eq_some_iff.mp H
  obtain ⟨t456, A30, H⟩ := H
  replace H : (if (l0.length : Int) > 40 then (swagelaw18_MovesHold.j0 k l0 l1 t456 true) else (swagelaw18_MovesHold.j0 k l0 l1 t456 (decide ((l1.length : Int) > 40)))) = some r := H
  have A3 := Aside0.mk A30
  clear A30
  have HC4 := Aside0.mk H
  clear H
  go_enter Try.func4, Try.ntmps4
  go_upto_region 2 with (first | ((with_reducible refine gate_callee (f := 8) rfl ?_); refine goesL_ (some 6) rfl rfl Try.func8 (by kernel_rfl) rfl #[] rfl (by (try simp only [List.map_toArray, List.map_cons, List.map_nil]); first | done | rfl | (simp only [List.length_drop, List.length_take]; rfl)) ?_; (with_reducible refine (swagelaw18_small.calls  t456 _ A3.out).mono ?_); rintro e w5 ⟨rfl, hb⟩; refine ⟨_, rfl, ?_⟩; have n0_ := Aside0.mk (below_step (by repeat (first | (with_reducible first | exact HB.out | apply below_alloc | apply pw_below_drewN | apply below_drew1) | exact HB.out)) hb); clear HB; have HB := n0_; clear n0_; (try clear hb); (try clear hb2); (try clear hk); (try clear hi)))
  (try simp only [Act.put, List.setIfInBounds_toArray, List.set_cons_zero, List.set_cons_succ])
  go_cut [14] (fun v14 wc => ∃ (kq : Nat) (x14_3 : Bool), v14 = .bool x14_3 ∧ Aside0 (swagelaw18_MovesHold.j0 kq l0 l1 t456 x14_3 = some r) ∧ Aside0 (kq ≤ k) ∧ Aside0 (Below w.heap.size w wc))
  case first =>
    have H := HC4.out
    clear HC4
    by_cases c6 : (l0.length : Int) > 40
    · rw [if_pos c6] at H
      have c6b0 : decide (40 < (l0.length : Int)) = true := decide_eq_true c6
      have c6b1 : decide (40 < l0.length) = true := decide_eq_true (by omega)
      clear c6
      (first | rw [c6b0] | (simp only [i64_w, i32_w]; rw [c6b0]) | skip)
      have H' := Aside0.mk H
      clear H
      go_wp2
      go_meet
      case rel => exact ⟨_, (true), (by first | rfl | (simp; done) | (simp [*]; done)), H', ⟨by first | omega | exact Nat.le_refl _⟩, ⟨by repeat (first | (with_reducible first | exact HB.out | apply below_alloc | apply pw_below_drewN | apply below_drew1) | exact HB.out)⟩⟩
    · rw [if_neg c6] at H
      have c6b0 : decide (40 < (l0.length : Int)) = false := decide_eq_false c6
      have c6b1 : decide (40 < l0.length) = false := decide_eq_false (by omega)
      clear c6
      (first | rw [c6b0] | (simp only [i64_w, i32_w]; rw [c6b0]) | skip)
      have H' := Aside0.mk H
      clear H
      go_wp2
      go_meet
      case rel => exact ⟨_, (decide ((l1.length : Int) > 40)), (by first | rfl | (simp; done) | (simp [*]; done)), H', ⟨by first | omega | exact Nat.le_refl _⟩, ⟨by repeat (first | (with_reducible first | exact HB.out | apply below_alloc | apply pw_below_drewN | apply below_drew1) | exact HB.out)⟩⟩
  case rest =>
    clear HC4
    try clear c1
    try clear p2
    try clear c4
    try clear c6
    try clear c6b0
    try clear c6b1
    obtain ⟨kq, x14_3, rfl, HA, HJ3, HB⟩ := hcut
    cases kq with
    | zero => exact absurd HA.out (by simp [swagelaw18_MovesHold.j0])
    | succ kj3 =>
      have H := HA.out
      clear HA
      simp only [swagelaw18_MovesHold.j0] at H
      by_cases c7 : x14_3 = true
      · subst c7
        have H1 : (some t456) = some r := by rw [if_pos rfl] at H; exact H
        clear H
        have H := H1
        clear H1
        obtain rfl := Option.some.inj H
        go_wp2
        go_ret
        exact ⟨by first | rfl | (simp [errW_none, errW_some] <;> rfl) | (simp [*, errW_none, errW_some] <;> rfl), by repeat (first | (with_reducible first | exact HB.out | apply below_alloc | apply pw_below_drewN | apply below_drew1) | exact HB.out)⟩
      · replace c7 := Bool.eq_false_iff.mpr c7
        subst c7
        have H1 : (if t456 = true then ((moves_AtOnce.f l0 l1).bind fun t457 => ((swageref18_AtOnce.f kj3 l0 l1).bind fun t460 => ((swageref05_Pairs.f kj3 t457 t460).bind fun t463 => (if t463 = true then ((moves_OneByOne.f l0 l1).bind fun t464 => ((swageref18_OneByOne.f kj3 l0 l1).bind fun t467 => ((swageref05_Pairs.f kj3 t464 t467).bind fun t470 => (some t470)))) else (some false))))) else (some false)) = some r := by rw [if_neg (show ¬ (false = true) by decide)] at H; exact H
        clear H
        have H := H1
        clear H1
        by_cases c8 : t456 = true
        · subst c8
          have H1 : ((moves_AtOnce.f l0 l1).bind fun t457 => ((swageref18_AtOnce.f kj3 l0 l1).bind fun t460 => ((swageref05_Pairs.f kj3 t457 t460).bind fun t463 => (if t463 = true then ((moves_OneByOne.f l0 l1).bind fun t464 => ((swageref18_OneByOne.f kj3 l0 l1).bind fun t467 => ((swageref05_Pairs.f kj3 t464 t467).bind fun t470 => (some t470)))) else (some false))))) = some r := by rw [if_pos rfl] at H; exact H
          clear H
          have H := H1
          clear H1
          replace H := Option.bind_eq_some_iff.mp H
          obtain ⟨t457, A90, H⟩ := H
          replace H : ((swageref18_AtOnce.f kj3 l0 l1).bind fun t460 => ((swageref05_Pairs.f kj3 t457 t460).bind fun t463 => (if t463 = true then ((moves_OneByOne.f l0 l1).bind fun t464 => ((swageref18_OneByOne.f kj3 l0 l1).bind fun t467 => ((swageref05_Pairs.f kj3 t464 t467).bind fun t470 => (some t470)))) else (some false)))) = some r := H
          have A9 := Aside0.mk A90
          clear A90
          replace H := Option.bind_eq_some_iff.mp H
          obtain ⟨t460, A100, H⟩ := H
          replace H : ((swageref05_Pairs.f kj3 t457 t460).bind fun t463 => (if t463 = true then ((moves_OneByOne.f l0 l1).bind fun t464 => ((swageref18_OneByOne.f kj3 l0 l1).bind fun t467 => ((swageref05_Pairs.f kj3 t464 t467).bind fun t470 => (some t470)))) else (some false))) = some r := H
          have A10 := Aside0.mk A100
          clear A100
          replace H := Option.bind_eq_some_iff.mp H
          obtain ⟨t463, A110, H⟩ := H
          replace H : (if t463 = true then ((moves_OneByOne.f l0 l1).bind fun t464 => ((swageref18_OneByOne.f kj3 l0 l1).bind fun t467 => ((swageref05_Pairs.f kj3 t464 t467).bind fun t470 => (some t470)))) else (some false)) = some r := H
          have A11 := Aside0.mk A110
          clear A110
          by_cases c12 : t463 = true
          · subst c12
            have H1 : ((moves_OneByOne.f l0 l1).bind fun t464 => ((swageref18_OneByOne.f kj3 l0 l1).bind fun t467 => ((swageref05_Pairs.f kj3 t464 t467).bind fun t470 => (some t470)))) = some r := by rw [if_pos rfl] at H; exact H
            clear H
            have H := H1
            clear H1
            replace H := Option.bind_eq_some_iff.mp H
            obtain ⟨t464, A130, H⟩ := H
            replace H : ((swageref18_OneByOne.f kj3 l0 l1).bind fun t467 => ((swageref05_Pairs.f kj3 t464 t467).bind fun t470 => (some t470))) = some r := H
            have A13 := Aside0.mk A130
            clear A130
            replace H := Option.bind_eq_some_iff.mp H
            obtain ⟨t467, A140, H⟩ := H
            replace H : ((swageref05_Pairs.f kj3 t464 t467).bind fun t470 => (some t470)) = some r := H
            have A14 := Aside0.mk A140
            clear A140
            replace H := Option.bind_eq_some_iff.mp H
            obtain ⟨t470, A150, H⟩ := H
            replace H : (some t470) = some r := H
            have A15 := Aside0.mk A150
            clear A150
            obtain rfl := Option.some.inj H
            go_wp2_with (first | (go_at_call 18; (with_reducible refine (moves_AtOnce.calls _ _ l0 _ _ l1 t457 _ ?side1 ?side2 ?side3 ?side4 A9.out).mono ?_); (case side1 => repeat (first | exact (Kd.C_below HR0.out HB.out) | (with_reducible refine Kd.C_alloc ?_ _) | (with_reducible refine Kd.C_drewN ?_ _) | (with_reducible refine Kd.C_drew ?_))); (case side2 => exact HC0.out); (case side3 => repeat (first | exact (Kd.C_below HR1.out HB.out) | (with_reducible refine Kd.C_alloc ?_ _) | (with_reducible refine Kd.C_drewN ?_ _) | (with_reducible refine Kd.C_drew ?_))); (case side4 => exact HC1.out); rintro e w16 ⟨v458, rfl, ho0, hb⟩; have n0_ := Aside0.mk (Kd.R_lower ho0 (below_size (by repeat (first | (with_reducible first | exact HB.out | apply below_alloc | apply pw_below_drewN | apply below_drew1) | exact HB.out)))); have n1_ := Aside0.mk (below_step (by repeat (first | (with_reducible first | exact HB.out | apply below_alloc | apply pw_below_drewN | apply below_drew1) | exact HB.out)) hb); clear HB; have HO459 := n0_; have HB := n1_; clear n0_ n1_; (try clear hb); (try clear hb2); (try clear hk); (try clear hi); (try clear ho0)) | (go_at_call 19; (with_reducible refine (swageref18_AtOnce.calls kj3 _ _ l0 _ _ l1 t460 _ ?side1 ?side2 ?side3 ?side4 A10.out).mono ?_); (case side1 => repeat (first | exact (Kd.C_below HR0.out HB.out) | (with_reducible refine Kd.C_alloc ?_ _) | (with_reducible refine Kd.C_drewN ?_ _) | (with_reducible refine Kd.C_drew ?_))); (case side2 => exact HC0.out); (case side3 => repeat (first | exact (Kd.C_below HR1.out HB.out) | (with_reducible refine Kd.C_alloc ?_ _) | (with_reducible refine Kd.C_drewN ?_ _) | (with_reducible refine Kd.C_drew ?_))); (case side4 => exact HC1.out); rintro e w17 ⟨v461, rfl, ho0, hb⟩; have n0_ := Aside0.mk (Kd.R_elder' (by (with_reducible repeat (first | apply Kd.R_alloc | apply Kd.R_drewN | apply Kd.R_drew)); exact HO459.out) (Kd.R_base ho0) hb); have n1_ := Aside0.mk (Kd.R_lower (Kd.R_new' ho0 (Kd.R_lt (by (with_reducible repeat (first | apply Kd.R_alloc | apply Kd.R_drewN | apply Kd.R_drew)); exact HO459.out))) (below_size (by repeat (first | (with_reducible first | exact HB.out | apply below_alloc | apply pw_below_drewN | apply below_drew1) | exact HB.out)))); have n2_ := Aside0.mk (below_step (by repeat (first | (with_reducible first | exact HB.out | apply below_alloc | apply pw_below_drewN | apply below_drew1) | exact HB.out)) hb); clear HO459; clear HB; have HO459 := n0_; have HO462 := n1_; have HB := n2_; clear n0_ n1_ n2_; (try clear hb); (try clear hb2); (try clear hk); (try clear hi); (try clear ho0); obtain ⟨Ao18, co18, eo18⟩ := Kd.R_slice HO459.out; subst eo18; obtain ⟨Ao19, co19, eo19⟩ := Kd.R_slice HO462.out; subst eo19) | (go_at_call 17; (with_reducible refine (swageref05_Pairs.calls kj3 _ _ t457 _ _ t460 true _ ?side1 ?side2 ?side3 ?side4 A11.out).mono ?_); (case side1 => repeat (first | exact (Kd.R_reads' HO459.out).2.2 | (with_reducible refine Kd.C_alloc ?_ _) | (with_reducible refine Kd.C_drewN ?_ _) | (with_reducible refine Kd.C_drew ?_))); (case side2 => exact (Kd.R_reads' HO459.out).2.1); (case side3 => repeat (first | exact (Kd.R_reads' HO462.out).2.2 | (with_reducible refine Kd.C_alloc ?_ _) | (with_reducible refine Kd.C_drewN ?_ _) | (with_reducible refine Kd.C_drew ?_))); (case side4 => exact (Kd.R_reads' HO462.out).2.1); rintro e w' ⟨rfl, ⟨nd, rfl⟩⟩) | (go_at_call 20; (with_reducible refine (moves_OneByOne.calls _ _ l0 _ _ l1 t464 _ ?side1 ?side2 ?side3 ?side4 A13.out).mono ?_); (case side1 => repeat (first | exact (Kd.C_below HR0.out (by repeat (first | (with_reducible first | exact HB.out | apply below_alloc | apply pw_below_drewN | apply below_drew1) | exact HB.out))) | (with_reducible refine Kd.C_alloc ?_ _) | (with_reducible refine Kd.C_drewN ?_ _) | (with_reducible refine Kd.C_drew ?_))); (case side2 => exact HC0.out); (case side3 => repeat (first | exact (Kd.C_below HR1.out (by repeat (first | (with_reducible first | exact HB.out | apply below_alloc | apply pw_below_drewN | apply below_drew1) | exact HB.out))) | (with_reducible refine Kd.C_alloc ?_ _) | (with_reducible refine Kd.C_drewN ?_ _) | (with_reducible refine Kd.C_drew ?_))); (case side4 => exact HC1.out); rintro e w20 ⟨v465, rfl, ho0, hb⟩; have n0_ := Aside0.mk (Kd.R_elder' (by (with_reducible repeat (first | apply Kd.R_alloc | apply Kd.R_drewN | apply Kd.R_drew)); exact HO459.out) (Kd.R_base ho0) hb); have n1_ := Aside0.mk (Kd.R_elder' (by (with_reducible repeat (first | apply Kd.R_alloc | apply Kd.R_drewN | apply Kd.R_drew)); exact HO462.out) (Kd.R_base ho0) hb); have n2_ := Aside0.mk (Kd.R_lower (Kd.R_new' (Kd.R_new' ho0 (Kd.R_lt (by (with_reducible repeat (first | apply Kd.R_alloc | apply Kd.R_drewN | apply Kd.R_drew)); exact HO459.out))) (Kd.R_lt (by (with_reducible repeat (first | apply Kd.R_alloc | apply Kd.R_drewN | apply Kd.R_drew)); exact HO462.out))) (below_size (by repeat (first | (with_reducible first | exact HB.out | apply below_alloc | apply pw_below_drewN | apply below_drew1) | exact HB.out)))); have n3_ := Aside0.mk (below_step (by repeat (first | (with_reducible first | exact HB.out | apply below_alloc | apply pw_below_drewN | apply below_drew1) | exact HB.out)) hb); clear HO459; clear HO462; clear HB; have HO459 := n0_; have HO462 := n1_; have HO466 := n2_; have HB := n3_; clear n0_ n1_ n2_ n3_; (try clear hb); (try clear hb2); (try clear hk); (try clear hi); (try clear ho0)) | (go_at_call 21; (with_reducible refine (swageref18_OneByOne.calls kj3 _ _ l0 _ _ l1 t467 _ ?side1 ?side2 ?side3 ?side4 A14.out).mono ?_); (case side1 => repeat (first | exact (Kd.C_below HR0.out HB.out) | (with_reducible refine Kd.C_alloc ?_ _) | (with_reducible refine Kd.C_drewN ?_ _) | (with_reducible refine Kd.C_drew ?_))); (case side2 => exact HC0.out); (case side3 => repeat (first | exact (Kd.C_below HR1.out HB.out) | (with_reducible refine Kd.C_alloc ?_ _) | (with_reducible refine Kd.C_drewN ?_ _) | (with_reducible refine Kd.C_drew ?_))); (case side4 => exact HC1.out); rintro e w21 ⟨v468, rfl, ho0, hb⟩; have n0_ := Aside0.mk (Kd.R_elder' (by (with_reducible repeat (first | apply Kd.R_alloc | apply Kd.R_drewN | apply Kd.R_drew)); exact HO459.out) (Kd.R_base ho0) hb); have n1_ := Aside0.mk (Kd.R_elder' (by (with_reducible repeat (first | apply Kd.R_alloc | apply Kd.R_drewN | apply Kd.R_drew)); exact HO462.out) (Kd.R_base ho0) hb); have n2_ := Aside0.mk (Kd.R_elder' (by (with_reducible repeat (first | apply Kd.R_alloc | apply Kd.R_drewN | apply Kd.R_drew)); exact HO466.out) (Kd.R_base ho0) hb); have n3_ := Aside0.mk (Kd.R_lower (Kd.R_new' (Kd.R_new' (Kd.R_new' ho0 (Kd.R_lt (by (with_reducible repeat (first | apply Kd.R_alloc | apply Kd.R_drewN | apply Kd.R_drew)); exact HO459.out))) (Kd.R_lt (by (with_reducible repeat (first | apply Kd.R_alloc | apply Kd.R_drewN | apply Kd.R_drew)); exact HO462.out))) (Kd.R_lt (by (with_reducible repeat (first | apply Kd.R_alloc | apply Kd.R_drewN | apply Kd.R_drew)); exact HO466.out))) (below_size (by repeat (first | (with_reducible first | exact HB.out | apply below_alloc | apply pw_below_drewN | apply below_drew1) | exact HB.out)))); have n4_ := Aside0.mk (below_step (by repeat (first | (with_reducible first | exact HB.out | apply below_alloc | apply pw_below_drewN | apply below_drew1) | exact HB.out)) hb); clear HO459; clear HO462; clear HO466; clear HB; have HO459 := n0_; have HO462 := n1_; have HO466 := n2_; have HO469 := n3_; have HB := n4_; clear n0_ n1_ n2_ n3_ n4_; (try clear hb); (try clear hb2); (try clear hk); (try clear hi); (try clear ho0); obtain ⟨Ao22, co22, eo22⟩ := Kd.R_slice HO466.out; subst eo22; obtain ⟨Ao23, co23, eo23⟩ := Kd.R_slice HO469.out; subst eo23) | (go_at_call 17; (with_reducible refine (swageref05_Pairs.calls kj3 _ _ t464 _ _ t467 t470 _ ?side1 ?side2 ?side3 ?side4 A15.out).mono ?_); (case side1 => repeat (first | exact (Kd.R_reads' HO466.out).2.2 | (with_reducible refine Kd.C_alloc ?_ _) | (with_reducible refine Kd.C_drewN ?_ _) | (with_reducible refine Kd.C_drew ?_))); (case side2 => exact (Kd.R_reads' HO466.out).2.1); (case side3 => repeat (first | exact (Kd.R_reads' HO469.out).2.2 | (with_reducible refine Kd.C_alloc ?_ _) | (with_reducible refine Kd.C_drewN ?_ _) | (with_reducible refine Kd.C_drew ?_))); (case side4 => exact (Kd.R_reads' HO469.out).2.1); rintro e w' ⟨rfl, ⟨nd, rfl⟩⟩))
            go_ret
            exact ⟨by first | rfl | (simp [errW_none, errW_some] <;> rfl) | (simp [*, errW_none, errW_some] <;> rfl), by repeat (first | (with_reducible first | exact HB.out | apply below_alloc | apply pw_below_drewN | apply below_drew1) | exact HB.out)⟩
          · replace c12 := Bool.eq_false_iff.mpr c12
            subst c12
            have H1 : (some false) = some r := by rw [if_neg (show ¬ (false = true) by decide)] at H; exact H
            clear H
            have H := H1
            clear H1
            obtain rfl := Option.some.inj H
            go_wp2_with (first | (go_at_call 18; (with_reducible refine (moves_AtOnce.calls _ _ l0 _ _ l1 t457 _ ?side1 ?side2 ?side3 ?side4 A9.out).mono ?_); (case side1 => repeat (first | exact (Kd.C_below HR0.out HB.out) | (with_reducible refine Kd.C_alloc ?_ _) | (with_reducible refine Kd.C_drewN ?_ _) | (with_reducible refine Kd.C_drew ?_))); (case side2 => exact HC0.out); (case side3 => repeat (first | exact (Kd.C_below HR1.out HB.out) | (with_reducible refine Kd.C_alloc ?_ _) | (with_reducible refine Kd.C_drewN ?_ _) | (with_reducible refine Kd.C_drew ?_))); (case side4 => exact HC1.out); rintro e w24 ⟨v458, rfl, ho0, hb⟩; have n0_ := Aside0.mk (Kd.R_lower ho0 (below_size (by repeat (first | (with_reducible first | exact HB.out | apply below_alloc | apply pw_below_drewN | apply below_drew1) | exact HB.out)))); have n1_ := Aside0.mk (below_step (by repeat (first | (with_reducible first | exact HB.out | apply below_alloc | apply pw_below_drewN | apply below_drew1) | exact HB.out)) hb); clear HB; have HO459 := n0_; have HB := n1_; clear n0_ n1_; (try clear hb); (try clear hb2); (try clear hk); (try clear hi); (try clear ho0)) | (go_at_call 19; (with_reducible refine (swageref18_AtOnce.calls kj3 _ _ l0 _ _ l1 t460 _ ?side1 ?side2 ?side3 ?side4 A10.out).mono ?_); (case side1 => repeat (first | exact (Kd.C_below HR0.out HB.out) | (with_reducible refine Kd.C_alloc ?_ _) | (with_reducible refine Kd.C_drewN ?_ _) | (with_reducible refine Kd.C_drew ?_))); (case side2 => exact HC0.out); (case side3 => repeat (first | exact (Kd.C_below HR1.out HB.out) | (with_reducible refine Kd.C_alloc ?_ _) | (with_reducible refine Kd.C_drewN ?_ _) | (with_reducible refine Kd.C_drew ?_))); (case side4 => exact HC1.out); rintro e w25 ⟨v461, rfl, ho0, hb⟩; have n0_ := Aside0.mk (Kd.R_elder' (by (with_reducible repeat (first | apply Kd.R_alloc | apply Kd.R_drewN | apply Kd.R_drew)); exact HO459.out) (Kd.R_base ho0) hb); have n1_ := Aside0.mk (Kd.R_lower (Kd.R_new' ho0 (Kd.R_lt (by (with_reducible repeat (first | apply Kd.R_alloc | apply Kd.R_drewN | apply Kd.R_drew)); exact HO459.out))) (below_size (by repeat (first | (with_reducible first | exact HB.out | apply below_alloc | apply pw_below_drewN | apply below_drew1) | exact HB.out)))); have n2_ := Aside0.mk (below_step (by repeat (first | (with_reducible first | exact HB.out | apply below_alloc | apply pw_below_drewN | apply below_drew1) | exact HB.out)) hb); clear HO459; clear HB; have HO459 := n0_; have HO462 := n1_; have HB := n2_; clear n0_ n1_ n2_; (try clear hb); (try clear hb2); (try clear hk); (try clear hi); (try clear ho0); obtain ⟨Ao26, co26, eo26⟩ := Kd.R_slice HO459.out; subst eo26; obtain ⟨Ao27, co27, eo27⟩ := Kd.R_slice HO462.out; subst eo27) | (go_at_call 17; (with_reducible refine (swageref05_Pairs.calls kj3 _ _ t457 _ _ t460 false _ ?side1 ?side2 ?side3 ?side4 A11.out).mono ?_); (case side1 => repeat (first | exact (Kd.R_reads' HO459.out).2.2 | (with_reducible refine Kd.C_alloc ?_ _) | (with_reducible refine Kd.C_drewN ?_ _) | (with_reducible refine Kd.C_drew ?_))); (case side2 => exact (Kd.R_reads' HO459.out).2.1); (case side3 => repeat (first | exact (Kd.R_reads' HO462.out).2.2 | (with_reducible refine Kd.C_alloc ?_ _) | (with_reducible refine Kd.C_drewN ?_ _) | (with_reducible refine Kd.C_drew ?_))); (case side4 => exact (Kd.R_reads' HO462.out).2.1); rintro e w' ⟨rfl, ⟨nd, rfl⟩⟩))
            go_ret
            exact ⟨by first | rfl | (simp [errW_none, errW_some] <;> rfl) | (simp [*, errW_none, errW_some] <;> rfl), by repeat (first | (with_reducible first | exact HB.out | apply below_alloc | apply pw_below_drewN | apply below_drew1) | exact HB.out)⟩
        · replace c8 := Bool.eq_false_iff.mpr c8
          subst c8
          have H1 : (some false) = some r := by rw [if_neg (show ¬ (false = true) by decide)] at H; exact H
          clear H
          have H := H1
          clear H1
          obtain rfl := Option.some.inj H
          go_wp2
          go_ret
          exact ⟨by first | rfl | (simp [errW_none, errW_some] <;> rfl) | (simp [*, errW_none, errW_some] <;> rfl), by repeat (first | (with_reducible first | exact HB.out | apply below_alloc | apply pw_below_drewN | apply below_drew1) | exact HB.out)⟩

end Go.Proofs.Ytkfopphcgjdcaaa.A

/- What the document's own functions answer: value, put, sorted, AtOnce, OneByOne, Right. The law MovesHold. -/
namespace Go.Proofs.Ytkfopphcgjdcaaa.A
open Go.RowKit Go.Maps Go.Proofs.YtkfopphcgjdcaaaW.PrintWords Go.Proofs.YtkfopphcgjdcaaaW.PrintLast Go.Shelf
set_option linter.unusedVariables false
set_option linter.unusedSimpArgs false

theorem value_l0 (h : List S42) (p : Int) (hl : h.length ≤ 1000000) : ∀ (d i : Nat), i + d = h.length → Evt (fun k => swageref18_value.l0 k h p i) ((((h.drop i).find? fun x => decide (x.f0 = p)).map (·.f1)).getD 0)
  | 0, i, hi => by
    refine Evt.step (Evt.const rfl) fun k => ?_
    rw [swageref18_value.l0, if_neg (by omega), List.drop_eq_nil_of_le (by omega)]
    rfl
  | d + 1, i, hi => by
    have hlt : i < h.length := by omega
    have hd : h.drop i = h[i] :: h.drop (i + 1) := List.drop_eq_getElem_cons hlt
    rw [hd, List.find?_cons]
    by_cases hc : h[i].f0 = p
    · refine Evt.step (Evt.const rfl) fun k => ?_
      rw [swageref18_value.l0, if_pos (by omega), if_pos (by omega), rd42_lt hlt, if_pos hc]
      simp [hc]
    · have ih := value_l0 h p hl d (i + 1) (by omega)
      simp only [hc, decide_false]
      refine Evt.step ih fun k => ?_
      rw [swageref18_value.l0, if_pos (by omega), if_pos (by omega), rd42_lt hlt, if_neg hc, w64 (by omega) (by omega)]
      rfl
theorem value_ev (h : List S42) (p : Int) (hl : h.length ≤ 1000000) : Evt (fun k => swageref18_value.f k h p) ((holdF h p).getD 0) := by
  rw [holdF_find]
  exact value_l0 h p hl h.length 0 (by omega)

def insR (p v : Int) : List S42 → List S42
  | [] => [⟨p, v⟩]
  | x :: l => if x.f0 < p then x :: insR p v l else if x.f0 = p then ⟨p, v⟩ :: l else ⟨p, v⟩ :: x :: l
theorem insR_length (p v : Int) : ∀ l, (insR p v l).length ≤ l.length + 1
  | [] => by simp [insR]
  | x :: l => by
    unfold insR
    have := insR_length p v l
    split
    · simp; omega
    · split <;> simp
def RiseR (l : List S42) : Prop := l.Pairwise fun a b => a.f0 < b.f0
theorem insR_mem (p v : Int) (y : S42) : ∀ l, RiseR l → (y ∈ insR p v l ↔ y = ⟨p, v⟩ ∨ (y ∈ l ∧ y.f0 ≠ p))
  | [], _ => by simp [insR]
  | x :: l, h => by
    have h' := List.pairwise_cons.1 h
    unfold insR
    split
    · rename_i hlt
      rw [List.mem_cons, insR_mem p v y l h'.2, List.mem_cons]
      constructor
      · rintro (rfl | rfl | ⟨h1, h2⟩)
        · exact .inr ⟨.inl rfl, by omega⟩
        · exact .inl rfl
        · exact .inr ⟨.inr h1, h2⟩
      · rintro (rfl | ⟨rfl | h1, h2⟩)
        · exact .inr (.inl rfl)
        · exact .inl rfl
        · exact .inr (.inr ⟨h1, h2⟩)
    · split
      · rename_i hge heq
        rw [List.mem_cons, List.mem_cons]
        constructor
        · rintro (rfl | h1)
          · exact .inl rfl
          · exact .inr ⟨.inr h1, by have := h'.1 y h1; omega⟩
        · rintro (rfl | ⟨rfl | h1, h2⟩)
          · exact .inl rfl
          · exact absurd heq h2
          · exact .inr h1
      · rename_i hge hne
        rw [List.mem_cons, List.mem_cons]
        constructor
        · rintro (rfl | rfl | h1)
          · exact .inl rfl
          · exact .inr ⟨.inl rfl, hne⟩
          · exact .inr ⟨.inr h1, by have := h'.1 y h1; omega⟩
        · rintro (rfl | ⟨rfl | h1, h2⟩)
          · exact .inl rfl
          · exact .inr (.inl rfl)
          · exact .inr (.inr h1)
theorem insR_rise (p v : Int) : ∀ l, RiseR l → RiseR (insR p v l)
  | [], _ => List.Pairwise.cons (by simp) List.Pairwise.nil
  | x :: l, h => by
    have h' := List.pairwise_cons.1 h
    unfold insR
    split
    · rename_i hlt
      refine List.Pairwise.cons (fun b hb => ?_) (insR_rise p v l h'.2)
      rcases (insR_mem p v b l h'.2).1 hb with rfl | ⟨h1, _⟩
      · exact hlt
      · exact h'.1 b h1
    · split
      · rename_i hge heq
        exact List.Pairwise.cons (fun b hb => by have := h'.1 b hb; show p < b.f0; omega) h'.2
      · rename_i hge hne
        refine List.Pairwise.cons (fun b hb => ?_) h
        show p < b.f0
        rcases List.mem_cons.1 hb with rfl | hb
        · omega
        · have := h'.1 b hb; omega
theorem RowsOf.ins {f : Int → Option Int} {out : List S42} (h : RowsOf f out) (p v : Int) : RowsOf (upd f p v) (insR p v out) := by
  refine ⟨insR_rise p v out h.rise, fun x => ?_⟩
  rw [insR_mem p v x out h.rise, h.mem]
  unfold upd
  by_cases e : x.f0 = p
  · rw [if_pos e]
    constructor
    · rintro (rfl | ⟨_, h2⟩)
      · rfl
      · exact absurd e h2
    · intro hv
      left
      injection hv with hv
      obtain ⟨a, b⟩ := x
      simp only at e hv
      subst e; subst hv; rfl
  · rw [if_neg e]
    constructor
    · rintro (rfl | ⟨h1, _⟩)
      · exact absurd rfl e
      · exact h1
    · exact fun h1 => .inr ⟨h1, e⟩
theorem RowsOf.hold {f : Int → Option Int} {out : List S42} (h : RowsOf f out) (k : Int) : holdF out k = f k := by
  rw [holdF_find]
  cases hf : out.find? (fun x => decide (x.f0 = k)) with
  | some x =>
    have hm := (h.mem x).1 (List.mem_of_find?_eq_some hf)
    have hp : x.f0 = k := by simpa using List.find?_some hf
    subst hp; rw [hm]; rfl
  | none =>
    cases hv : f k with
    | none => rfl
    | some v =>
      have := List.find?_eq_none.1 hf ⟨k, v⟩ ((h.mem ⟨k, v⟩).2 hv)
      simp at this
theorem put_l0 (out : List S42) (p v : Int) (hl : out.length ≤ 1000000) : ∀ (d i : Nat), i + d = out.length → Evt (fun k => swageref18_put.l0 k out p v i) (out.take i ++ insR p v (out.drop i))
  | 0, i, hi => by
    refine Evt.step (Evt.const rfl) fun k => ?_
    rw [swageref18_put.l0, if_neg (by omega), if_pos (by omega), if_pos (by omega), Int.toNat_natCast]
    simp only [Option.bind_some]
    rw [if_pos (by simp; omega), if_pos (by simp; omega), if_pos (by simp; omega), List.drop_eq_nil_of_le (by omega)]
    simp [insR]
  | d + 1, i, hi => by
    have hlt : i < out.length := by omega
    have hd : out.drop i = out[i] :: out.drop (i + 1) := List.drop_eq_getElem_cons hlt
    by_cases hc : out[i].f0 < p
    · have ih := put_l0 out p v hl d (i + 1) (by omega)
      rw [List.take_succ_eq_append_getElem hlt, List.append_assoc] at ih
      rw [hd]
      unfold insR
      rw [if_pos hc]
      refine Evt.step ih fun k => ?_
      rw [swageref18_put.l0, if_pos (by omega), if_pos (by omega), rd42_lt hlt, if_pos hc, w64 (by omega) (by omega)]
      rfl
    · refine Evt.step (Evt.const rfl) fun k => ?_
      rw [swageref18_put.l0, if_pos (by omega), if_pos (by omega), rd42_lt hlt, if_neg hc, if_pos (by omega), Int.toNat_natCast, w64 (by omega) (by omega)]
      simp only [Option.bind_some]
      rw [if_pos (by simp; omega), if_pos (by simp; omega)]
      by_cases he : out[i].f0 = p
      · rw [if_pos he, if_pos (by omega), if_pos (by omega), if_pos (by simp; omega), show ((i : Int) + 1).toNat = i + 1 by omega]
        conv => rhs; rw [hd]; unfold insR
        rw [if_neg hc, if_pos he]
        simp
      · rw [if_neg he, if_pos (by simp; omega)]
        conv => rhs; rw [hd]; unfold insR
        rw [if_neg hc, if_neg he, ← hd]
        simp
theorem put_ev (out : List S42) (p v : Int) (hl : out.length ≤ 1000000) : Evt (fun k => swageref18_put.f k out p v) (insR p v out) := by
  have := put_l0 out p v hl out.length 0 (by omega)
  rw [List.take_zero, List.drop_zero, List.nil_append] at this
  exact this

def partF (h : List S42) (i : Nat) : Int → Option Int := fun k => if k ∈ (h.take i).map (fun x => x.f0) then some ((holdF h k).getD 0) else none
theorem partF_succ (h : List S42) (i : Nat) (hi : i < h.length) : partF h (i + 1) = upd (partF h i) h[i].f0 ((holdF h h[i].f0).getD 0) := by
  funext k
  unfold partF upd
  rw [List.take_succ_eq_append_getElem hi, List.map_append]
  simp only [List.mem_append, List.map_cons, List.map_nil, List.mem_singleton]
  by_cases e : k = h[i].f0
  · subst e; simp
  · simp [e]
theorem partF_all (h : List S42) : partF h h.length = holdF h := by
  funext k
  unfold partF
  rw [List.take_length]
  cases hf : holdF h k with
  | some v => rw [if_pos ((holdF_some h k).1 (by rw [hf]; rfl))]; rfl
  | none => rw [if_neg (fun e => by have := (holdF_some h k).2 e; rw [hf] at this; cases this)]
theorem sorted_l0 (h : List S42) (hl : h.length ≤ 400000) : ∀ (d i : Nat) (out : List S42), i + d = h.length → RowsOf (partF h i) out → out.length ≤ i →
    ∃ R, RowsOf (holdF h) R ∧ R.length ≤ h.length ∧ Evt (fun k => swageref18_sorted.l0 k h out i) R
  | 0, i, out, hi, hr, ho => by
    obtain rfl : i = h.length := by omega
    rw [partF_all] at hr
    refine ⟨out, hr, ho, Evt.step (Evt.const rfl) fun k => ?_⟩
    rw [swageref18_sorted.l0, if_neg (by omega)]
  | d + 1, i, out, hi, hr, ho => by
    have hlt : i < h.length := by omega
    have hin := insR_length h[i].f0 ((holdF h h[i].f0).getD 0) out
    obtain ⟨R, h1, h2, h3⟩ := sorted_l0 h hl d (i + 1) (insR h[i].f0 ((holdF h h[i].f0).getD 0) out) (by omega) (by rw [partF_succ h i hlt]; exact hr.ins _ _) (by omega)
    refine ⟨R, h1, h2, Evt.step (g := fun k => (swageref18_value.f k h h[i].f0).bind fun t => (swageref18_put.f k out h[i].f0 t).bind fun t2 => swageref18_sorted.l0 k h t2 ((i + 1 : Nat) : Int)) ((value_ev h h[i].f0 (by omega)).bind ((put_ev out h[i].f0 _ (by omega)).bind h3)) fun k => ?_⟩
    rw [swageref18_sorted.l0, if_pos (by omega), if_pos (by omega), rd42_lt hlt, w64 (by omega) (by omega)]
    rfl
theorem sorted_ev (h : List S42) (hl : h.length ≤ 400000) : ∃ R, RowsOf (holdF h) R ∧ R.length ≤ h.length ∧ Evt (fun k => swageref18_sorted.f k h) R :=
  sorted_l0 h hl h.length 0 [] (by omega) ⟨List.Pairwise.nil, fun x => by simp [partF]⟩ (Nat.le_refl _)

theorem rone_l0 (l : List S38) (h : List S42) (hl : l.length ≤ 400000) (hh : h.length ≤ 400000) : ∀ (d i : Nat) (out : List S42), i + d = l.length → RowsOf (oneF (holdF h) (l.take i)) out → out.length ≤ h.length + i →
    Evt (fun k => swageref18_OneByOne.l0 k l out i) (oneRows l h)
  | 0, i, out, hi, hr, ho => by
    rw [List.take_of_length_le (by omega)] at hr
    have : out = oneRows l h := rowsOf_eq hr (skeys_rising _) (one_keys l h)
    subst this
    refine Evt.step (Evt.const rfl) fun k => ?_
    rw [swageref18_OneByOne.l0, if_neg (by omega)]
  | d + 1, i, out, hi, hr, ho => by
    have hlt : i < l.length := by omega
    have hv := value_ev out l[i].f1 (by omega)
    rw [hr.hold] at hv
    have hin := insR_length l[i].f0 (((oneF (holdF h) (l.take i)) l[i].f1).getD 0) out
    have ih := rone_l0 l h hl hh d (i + 1) (insR l[i].f0 (((oneF (holdF h) (l.take i)) l[i].f1).getD 0) out) (by omega) (by
      rw [List.take_succ_eq_append_getElem hlt, oneF_snoc]; exact hr.ins _ _) (by omega)
    refine Evt.step (g := fun k => (swageref18_value.f k out l[i].f1).bind fun t => (swageref18_put.f k out l[i].f0 t).bind fun t2 => swageref18_OneByOne.l0 k l t2 ((i + 1 : Nat) : Int)) (hv.bind ((put_ev out l[i].f0 _ (by omega)).bind ih)) fun k => ?_
    rw [swageref18_OneByOne.l0, if_pos (by omega), if_pos (by omega), rd38_lt hlt, w64 (by omega) (by omega)]
    rfl
theorem rone_ev (l : List S38) (h : List S42) (hl : l.length ≤ 400000) (hh : h.length ≤ 400000) : Evt (fun k => swageref18_OneByOne.f k l h) (oneRows l h) := by
  obtain ⟨R, h1, h2, h3⟩ := sorted_ev h hh
  exact h3.bind (rone_l0 l h hl hh l.length 0 R (by omega) h1 (by omega))
theorem ronce_l0 (l : List S38) (h : List S42) (hl : l.length ≤ 400000) (hh : h.length ≤ 400000) : ∀ (d i : Nat) (out : List S42), i + d = l.length → RowsOf (onceF (holdF h) (l.take i)) out → out.length ≤ h.length + i →
    Evt (fun k => swageref18_AtOnce.l0 k l h out i) (onceRows l h)
  | 0, i, out, hi, hr, ho => by
    rw [List.take_of_length_le (by omega)] at hr
    have : out = onceRows l h := rowsOf_eq hr (skeys_rising _) (once_keys l h)
    subst this
    refine Evt.step (Evt.const rfl) fun k => ?_
    rw [swageref18_AtOnce.l0, if_neg (by omega)]
  | d + 1, i, out, hi, hr, ho => by
    have hlt : i < l.length := by omega
    have hv := value_ev h l[i].f1 (by omega)
    have hin := insR_length l[i].f0 (((holdF h) l[i].f1).getD 0) out
    have ih := ronce_l0 l h hl hh d (i + 1) (insR l[i].f0 (((holdF h) l[i].f1).getD 0) out) (by omega) (by
      rw [List.take_succ_eq_append_getElem hlt, onceF_snoc]; exact hr.ins _ _) (by omega)
    refine Evt.step (g := fun k => (swageref18_value.f k h l[i].f1).bind fun t => (swageref18_put.f k out l[i].f0 t).bind fun t2 => swageref18_AtOnce.l0 k l h t2 ((i + 1 : Nat) : Int)) (hv.bind ((put_ev out l[i].f0 _ (by omega)).bind ih)) fun k => ?_
    rw [swageref18_AtOnce.l0, if_pos (by omega), if_pos (by omega), rd38_lt hlt, w64 (by omega) (by omega)]
    rfl

/-! Right -/
theorem nodup_take {l : List S38} {i : Nat} (hi : i < l.length) : (tos (l.take (i + 1))).Nodup ↔ (tos (l.take i)).Nodup ∧ ∀ j (hj : j < i), l[j].f0 ≠ l[i].f0 := by
  rw [List.take_succ_eq_append_getElem hi]
  unfold tos
  rw [List.map_append, List.nodup_append]
  simp only [List.map_cons, List.map_nil, List.mem_singleton, List.mem_map]
  constructor
  · rintro ⟨h1, _, h3⟩
    refine ⟨h1, fun j hj e => ?_⟩
    refine h3 l[j].f0 ⟨l[j], ?_, rfl⟩ l[i].f0 rfl e
    rw [List.mem_take_iff_getElem]
    exact ⟨j, by omega, rfl⟩
  · rintro ⟨h1, h2⟩
    refine ⟨h1, by simp, ?_⟩
    rintro a ⟨x, hx, rfl⟩ b rfl e
    rw [List.mem_take_iff_getElem] at hx
    obtain ⟨j, hj, rfl⟩ := hx
    exact h2 j (by omega) e
theorem nodup_mono {l : List S38} (h : (tos l).Nodup) (i : Nat) : (tos (l.take i)).Nodup := List.Nodup.sublist (List.Sublist.map _ (List.take_sublist _ _)) h
theorem rright_l1 (l : List S38) (hl : l.length ≤ 1000000) (i : Nat) (hi : i < l.length) (b : Bool) (hb : b = decide (tos l).Nodup) (hk : (∀ j (hj : j < i), l[j].f0 ≠ l[i].f0) → Evt (fun k => swageref18_Right.l0 k l ((i + 1 : Nat) : Int)) b) :
    ∀ (d j : Nat), j + d = i → (∀ j' (h : j' < j) (h2 : j' < i), l[j'].f0 ≠ l[i].f0) → Evt (fun k => swageref18_Right.l1 k l i j) b
  | 0, j, hj, hn => by
    obtain rfl : j = i := by omega
    refine Evt.step (hk (fun j' h => hn j' h h)) fun k => ?_
    rw [swageref18_Right.l1, if_neg (by omega), w64 (by omega) (by omega)]
    rfl
  | d + 1, j, hj, hn => by
    have hlt : j < i := by omega
    by_cases hc : l[j].f0 = l[i].f0
    · have : b = false := by
        rw [hb, decide_eq_false_iff_not]
        intro h
        exact ((nodup_take hi).1 (nodup_mono h (i + 1))).2 j hlt hc
      subst this
      refine Evt.step (Evt.const rfl) fun k => ?_
      rw [swageref18_Right.l1, if_pos (by omega), if_pos (by omega), if_pos (by omega), if_pos (by omega), if_pos (by omega), rd38_lt (show j < l.length by omega), rd38_lt hi, if_pos hc]
    · have ih := rright_l1 l hl i hi b hb hk d (j + 1) (by omega) (fun j' h h2 => by
        by_cases e : j' = j
        · subst e; exact hc
        · exact hn j' (by omega) h2)
      refine Evt.step ih fun k => ?_
      rw [swageref18_Right.l1, if_pos (by omega), if_pos (by omega), if_pos (by omega), if_pos (by omega), if_pos (by omega), rd38_lt (show j < l.length by omega), rd38_lt hi, if_neg hc, w64 (by omega) (by omega)]
      rfl
theorem rright_l0 (l : List S38) (hl : l.length ≤ 1000000) (b : Bool) (hb : b = decide (tos l).Nodup) : ∀ (d i : Nat), i + d = l.length → (tos (l.take i)).Nodup → Evt (fun k => swageref18_Right.l0 k l i) b
  | 0, i, hi, hn => by
    rw [List.take_of_length_le (by omega)] at hn
    have : b = true := by rw [hb]; exact decide_eq_true hn
    subst this
    refine Evt.step (Evt.const rfl) fun k => ?_
    rw [swageref18_Right.l0, if_neg (by omega)]
  | d + 1, i, hi, hn => by
    have hlt : i < l.length := by omega
    have := rright_l1 l hl i hlt b hb (fun h => rright_l0 l hl b hb d (i + 1) (by omega) ((nodup_take hlt).2 ⟨hn, h⟩)) i 0 (by omega) (fun j h _ => by omega)
    refine Evt.step this fun k => ?_
    rw [swageref18_Right.l0, if_pos (by omega)]
    rfl
theorem rright_ev (l : List S38) (hl : l.length ≤ 1000000) : Evt (fun k => swageref18_Right.f k l) (okN l l.length) := by
  refine rright_l0 l hl _ ?_ l.length 0 (by omega) (by simp [tos])
  rw [Bool.eq_iff_iff, okN_iff, decide_eq_true_iff]
theorem ronce_ev (l : List S38) (h : List S42) (hl : l.length ≤ 400000) (hh : h.length ≤ 400000) : Evt (fun k => swageref18_AtOnce.f k l h) (if okN l l.length = true then onceRows l h else []) := by
  refine (rright_ev l (by omega)).bind ?_
  cases hok : okN l l.length with
  | false => exact Evt.const rfl
  | true =>
    obtain ⟨R, h1, h2, h3⟩ := sorted_ev h hh
    have : Evt (fun k => (swageref18_sorted.f k h).bind fun t => swageref18_AtOnce.l0 k l h t 0) (onceRows l h) := h3.bind (ronce_l0 l h hl hh l.length 0 R (by omega) h1 (by omega))
    rw [if_pos rfl]
    refine this.congr fun k => ?_
    rw [if_pos rfl]
theorem hold_law (l : List S38) (h : List S42) (hw : WfL l) (hw2 : WfH h) : ∃ k, swagelaw18_MovesHold.f k l h = some true := by
  refine Evt.get ?_
  show Evt (fun k => (swagelaw18_small.f).bind fun t456 => (if (l.length : Int) > 40 then (swagelaw18_MovesHold.j0 k l h t456 true) else (swagelaw18_MovesHold.j0 k l h t456 (decide ((h.length : Int) > 40))))) true
  have ht : Evt (fun k => swagelaw18_MovesHold.j0 k l h true true) true := by
    refine Evt.step (Evt.const rfl) fun k => ?_
    rw [swagelaw18_MovesHold.j0, if_pos rfl]
  by_cases h1 : (l.length : Int) > 40
  · refine ht.congr fun k => ?_
    show (if (l.length : Int) > 40 then _ else _) = _
    rw [if_pos h1]
  by_cases h2 : (h.length : Int) > 40
  · refine ht.congr fun k => ?_
    show (if (l.length : Int) > 40 then _ else _) = _
    rw [if_neg h1, decide_eq_true h2]
  suffices hs : Evt (fun k => swagelaw18_MovesHold.j0 k l h true false) true by
    refine hs.congr fun k => ?_
    show (if (l.length : Int) > 40 then _ else _) = _
    rw [if_neg h1, decide_eq_false h2]
  have e1 : moves_AtOnce.f l h = some (if okN l l.length = true then onceRows l h else []) := by unfold moves_AtOnce.f; rw [if_pos ⟨by omega, by omega, hw, hw2⟩]
  have e2 : moves_OneByOne.f l h = some (oneRows l h) := by unfold moves_OneByOne.f; rw [if_pos ⟨by omega, by omega, hw, hw2⟩]
  have hk := held_len l h
  have n1 : (if okN l l.length = true then onceRows l h else []).length ≤ 1000 := by
    split
    · unfold onceRows rowF; rw [List.length_map]; omega
    · simp
  have n2 : (oneRows l h).length ≤ 1000 := by unfold oneRows rowF; rw [List.length_map]; omega
  refine Evt.step (g := fun k => (moves_AtOnce.f l h).bind fun t457 => ((swageref18_AtOnce.f k l h).bind fun t460 => ((swageref05_Pairs.f k t457 t460).bind fun t463 => (if t463 = true then ((moves_OneByOne.f l h).bind fun t464 => ((swageref18_OneByOne.f k l h).bind fun t467 => ((swageref05_Pairs.f k t464 t467).bind fun t470 => (some t470)))) else (some false))))) ?_ fun k => ?_
  · rw [e1, e2]
    refine (ronce_ev l h (by omega) (by omega)).bind ?_
    refine (pairs_ev _ (by omega)).bind ?_
    refine (rone_ev l h (by omega) (by omega)).bind ?_
    exact (pairs_ev _ (by omega)).bind (Evt.const rfl)
  · rw [swagelaw18_MovesHold.j0, if_neg (by simp), if_pos rfl]
theorem law_hold (A0 : Option Addr) (c0 : Nat) (l0 : List S38) (A1 : Option Addr) (c1 : Nat) (l1 : List S42) (w : World) (h0 : Kd.C k38 w A0 l0.length l0) (hc0 : l0.length ≤ c0) (hw0 : WfL l0) (h1 : Kd.C k42 w A1 l1.length l1) (hc1 : l1.length ≤ c1) (hw1 : WfH l1) :
    Calls Try.prog 4 #[.slice A0 l0.length c0, .slice A1 l1.length c1] w fun e w' => e = .returned (.bool true) ∧ Below w.heap.size w w' := by
  obtain ⟨k, hk⟩ := hold_law l0 l1 hw0 hw1
  exact swagelaw18_MovesHold.calls k A0 c0 l0 A1 c1 l1 true w h0 hc0 h1 hc1 hk
#print axioms hold_law
end Go.Proofs.Ytkfopphcgjdcaaa.A

/- What comes in, opened: a datum that is trodden at a type is a value of the kind. -/
namespace Go.Proofs.Ytkfopphcgjdcaaa.A
open Go.Deep Go.RowKit Go.Proofs.YtkfopphcgjdcaaaW.PrintWords Go.Proofs.YtkfopphcgjdcaaaW.PrintLast
set_option linter.unusedVariables false
set_option linter.unusedSimpArgs false

section
variable {H : Type} {enc : TypeId × Value → H} {P : Program} {w : World} {base : Nat} {α : Type} [Inhabited α]

def Opens (enc : TypeId × Value → H) (P : Program) (w : World) (base : Nat) (t : TypeId) (d : Kd α) (p : α → Prop) : Prop :=
  ∀ fuel cs x, DataW.trod enc P w base (fun _ => true) true fuel t cs = some x → ∃ y, d.K w y cs ∧ p y

theorem opens_int {t : TypeId} {k : IntKind} (ht : P.underlying t = some (.int k)) : Opens enc P w base t (Kd.int k) (fun n => (Lit.int k n).wf = true) := by
  intro fuel cs x h
  obtain ⟨n, rfl, _, hw⟩ := DataW.trod_int ht h
  exact ⟨n, rfl, hw⟩

theorem opens_slice {t e : TypeId} {d : Kd α} {p : α → Prop} (ht : P.underlying t = some (.slice e)) (hc : P.cellsOf e = d.sz) (ho : Opens enc P w base e d p) : Opens enc P w base t (Kd.slice e d) (fun xs => ∀ x ∈ xs, p x) := by
  intro fuel cs x h
  rcases open_slice ht h with ⟨rfl, _⟩ | ⟨a, len, cap, m, n, D, Pl, rfl, hb, hl, hm, hmm, _, hx⟩
  · exact ⟨[], ⟨none, 0, rfl, Nat.le_refl _, rfl, by simp, fun h => by simp at h⟩, fun x hx => by simp at hx⟩
  · simp only [if_true] at hmm
    obtain ⟨Y, hY⟩ := choose_lt (α := α) (n := len) (p := fun i y => p y ∧ ∃ c, d.K w y c ∧ ∀ j u, c[j]? = some u → w.cell? (a.add (i * d.sz + j)) = some u) (fun i hi => by
      obtain ⟨cs', h1, h2⟩ := hx i (by omega)
      obtain ⟨y, hy, hp⟩ := ho _ _ _ h2
      obtain ⟨_, hlen, hcell⟩ := World.cells?_some h1
      refine ⟨y, hp, cs', hy, fun j u hj => ?_⟩
      have hj' : j < cs'.length := (List.getElem?_eq_some_iff.1 hj).1
      have := hcell j (by omega)
      rw [hj, hc] at this
      rwa [Addr.add_add] at this)
    have hlen : ((List.range len).map Y).length = len := by simp
    refine ⟨(List.range len).map Y, ⟨some a, cap, by rw [hlen], by rw [hlen]; exact hl, hlen.trans hlen.symm, by rw [hlen]; unfold maxLen at hm; omega, fun _ => ⟨a, rfl, fun j y hj => ?_⟩⟩, fun y hy => ?_⟩
    · have hjl : j < len := by have := (List.getElem?_eq_some_iff.1 hj).1; omega
      rw [List.getElem?_map, List.getElem?_range hjl] at hj
      obtain rfl := Option.some.inj hj
      obtain ⟨_, c, hk, hcell⟩ := hY j hjl
      exact ⟨c, d.K_len hk, hk, hcell⟩
    · obtain ⟨i, hi, rfl⟩ := List.mem_map.1 hy
      exact (hY i (List.mem_range.1 hi)).1
omit [Inhabited α] in
/-- of a parameter: a slice -/
theorem opens_param {t e : TypeId} {d : Kd α} {p : List α → Prop} (ho : Opens enc P w base t (Kd.slice e d) p) {A : Option Addr} {len cap : Nat} {x : DataW H} {ps : List MemPlace} (h : DataW.Trod enc P w base (fun _ => true) true t (.slice A len cap) x ps) :
    ∃ xs : List α, len = xs.length ∧ xs.length ≤ cap ∧ d.C w A xs.length xs ∧ p xs := by
  obtain ⟨fuel, hf⟩ := h
  obtain ⟨xs, ⟨A', c', he, hl, hC⟩, hp⟩ := ho _ _ _ hf
  simp [Value.cells] at he
  obtain ⟨rfl, rfl, rfl⟩ := he
  exact ⟨xs, rfl, hl, hC, hp⟩
end

instance : Inhabited S38 := ⟨z38⟩
instance : Inhabited S42 := ⟨z42⟩
theorem opens_copy {H : Type} {enc : TypeId × Value → H} {w : World} {base : Nat} : Opens enc Try.prog w base 38 k38 (fun x => Wf x.f0 ∧ Wf x.f1) := by
  intro fuel cs x h
  obtain ⟨xs, n, _, _, hl, hlen, hf⟩ := DataW.trod_struct Try.underlying38 h
  have hl' : cs.length = 2 := hl.trans (by kernel_rfl)
  match cs, hl' with
  | [c0, c1], _ =>
    have h0 : DataW.trod enc Try.prog w base (fun _ => true) true n 3 (([c0, c1].drop 0).take (Try.prog.cellsOf 3)) = xs[0]? := hf 0 _ rfl
    have h1 : DataW.trod enc Try.prog w base (fun _ => true) true n 3 (([c0, c1].drop 1).take (Try.prog.cellsOf 3)) = xs[1]? := hf 1 _ rfl
    rw [show Try.prog.cellsOf 3 = 1 by kernel_rfl] at h0 h1
    have hx : xs.length = 2 := by rw [hlen]; rfl
    rw [List.getElem?_eq_getElem (by omega)] at h0 h1
    obtain ⟨m0, e0, _, w0⟩ := DataW.trod_int Try.underlying3 h0
    obtain ⟨m1, e1, _, w1⟩ := DataW.trod_int Try.underlying3 h1
    have e0' : c0 = .int .i64 m0 := by simpa using e0
    have e1' : c1 = .int .i64 m1 := by simpa using e1
    subst e0' e1'
    exact ⟨⟨m0, m1⟩, k38_mk w ⟨m0, m1⟩, w0, w1⟩
theorem opens_pair {H : Type} {enc : TypeId × Value → H} {w : World} {base : Nat} : Opens enc Try.prog w base 42 k42 (fun x => Wf x.f0 ∧ Wf x.f1) := by
  intro fuel cs x h
  obtain ⟨xs, n, _, _, hl, hlen, hf⟩ := DataW.trod_array Try.underlying42 h
  have hl' : cs.length = 2 := hl.trans (by kernel_rfl)
  match cs, hl' with
  | [c0, c1], _ =>
    have h0 := hf 0 (by omega)
    have h1 := hf 1 (by omega)
    rw [show Try.prog.cellsOf 3 = 1 by kernel_rfl] at h0 h1
    rw [List.getElem?_eq_getElem (by omega)] at h0 h1
    obtain ⟨m0, e0, _, w0⟩ := DataW.trod_int Try.underlying3 h0
    obtain ⟨m1, e1, _, w1⟩ := DataW.trod_int Try.underlying3 h1
    have e0' : c0 = .int .i64 m0 := by simpa using e0
    have e1' : c1 = .int .i64 m1 := by simpa using e1
    subst e0' e1'
    exact ⟨⟨m0, m1⟩, k42_mk w ⟨m0, m1⟩, w0, w1⟩
theorem opens_copies {H : Type} {enc : TypeId × Value → H} {w : World} {base : Nat} : Opens enc Try.prog w base 22 (Kd.slice 38 k38) WfL := opens_slice Try.underlying22 (by kernel_rfl) opens_copy
theorem opens_pairs {H : Type} {enc : TypeId × Value → H} {w : World} {base : Nat} : Opens enc Try.prog w base 33 (Kd.slice 42 k42) WfH := opens_slice Try.underlying33 (by kernel_rfl) opens_pair
end Go.Proofs.Ytkfopphcgjdcaaa.A
