/- Parts of the proof, in the order in which they rest on one another. -/
import Derived.Test.YtkfopphcgjdcaaaMOrder4
import Derived.OpenShut
import Derived.Deep.Slices
import Derived.ChangeArms
/- What the machine does at this function, and a plain Lean function that says the same: written by a program for this claim; Lean checks it. -/
namespace Go.Proofs.Ytkfopphcgjdcaaa.A
open Go.RowKit Go.Proofs.YtkfopphcgjdcaaaW.PrintWords Go.Proofs.YtkfopphcgjdcaaaW.PrintLast Go.Proofs.YtkfopphcgjdcaaaW.PrintMore
attribute [local go_sem] max2_int min2_int max_two min_two max_three min_three max_four min_four   -- for this text's walks alone
set_option linter.unusedVariables false
set_option linter.unusedSimpArgs false

/-! ### swagelaw18_MovesOrder: function 3 -/
def swagelaw18_MovesOrder.f (k : Nat) (l0 : List (S38)) (a1 : Int) : Option (Bool) := (swagelaw18_small.f).bind fun t360 => (if (l0.length : Int) > 40 then (some t360) else ((some (([] : List (S38)) : List (S38))).bind fun y361 => (if y361.length + l0.length < 8796093022208 then ((some (y361 ++ l0 : List (S38))).bind fun y364 => ((moves_Order.f y364 a1).bind fun bt367 => ((swageref18_Order.f k l0 a1).bind fun bt371 => (if t360 = true then ((swageref18_Same.f k bt367.1 bt371.1).bind fun t375 => (if t375 = true then (if bt367.2 = bt371.2 then ((moves_Right.f y364).bind fun t376 => ((swageref18_Right.f k l0).bind fun t377 => (if (t376 == t377) = true then ((moves_Cycles.f y364).bind fun t378 => ((swageref18_Cycles.f k l0).bind fun t381 => ((swageref06_Rows.f k t378 t381).bind fun t384 => (if t384 = true then ((swageref18_Same.f k y364 l0).bind fun t385 => (some t385)) else (some false))))) else (some false)))) else (some false)) else (some false))) else (some false))))) else (none))))
theorem swagelaw18_MovesOrder.mono : ∀ a0 a1 k, LeO (swagelaw18_MovesOrder.f k a0 a1) (swagelaw18_MovesOrder.f (k + 1) a0 a1) := by
  intro a0 a1 k
  unfold swagelaw18_MovesOrder.f
  repeat' first
      | (with_reducible exact swageref06_Rows.mono _ _ _)
      | (with_reducible exact swageref18_Cycles.mono _ _)
      | (with_reducible exact swageref18_Order.mono _ _ _)
      | (with_reducible exact swageref18_Right.mono _ _)
      | (with_reducible exact swageref18_Same.mono _ _ _)
      | (with_reducible exact LeO.refl _)
      | (with_reducible exact LeO.none _)
      | (with_reducible refine LeO.ite ?_ ?_)
      | (with_reducible refine LeO.bind ?_ (fun _ => ?_))
      | exact swageref06_Rows.mono _ _ _
      | exact swageref18_Cycles.mono _ _
      | exact swageref18_Order.mono _ _ _
      | exact swageref18_Right.mono _ _
      | exact swageref18_Same.mono _ _ _
      | exact LeO.none _
      | refine LeO.ite ?_ ?_
      | refine LeO.bind ?_ (fun _ => ?_)
set_option maxHeartbeats 8000000 in
set_option maxRecDepth 100000 in
theorem swagelaw18_MovesOrder.calls (k : Nat) (A0 : Option Addr) (c0 : Nat) (l0 : List (S38)) (a1 : Int) (r : Bool) (w : World) (hr0 : Kd.C k38 w A0 l0.length l0) (hc0 : l0.length ≤ c0) (h : swagelaw18_MovesOrder.f k l0 a1 = some r) :
    Calls Try.prog 3 #[.slice A0 l0.length c0, .int .i64 a1] w fun e w' => e = .returned (.bool r) ∧ Below w.heap.size w w' := by
  have HR0 := Aside0.mk hr0
  have HC0 := Aside0.mk hc0
  clear hr0 hc0
  have HB := Aside0.mk (Below.refl w.heap.size w)
  have H : ((swagelaw18_small.f).bind fun t360 => (if (l0.length : Int) > 40 then (some t360) else ((some (([] : List (S38)) : List (S38))).bind fun y361 => (if y361.length + l0.length < 8796093022208 then ((some (y361 ++ l0 : List (S38))).bind fun y364 => ((moves_Order.f y364 a1).bind fun bt367 => ((swageref18_Order.f k l0 a1).bind fun bt371 => (if t360 = true then ((swageref18_Same.f k bt367.1 bt371.1).bind fun t375 => (if t375 = true then (if bt367.2 = bt371.2 then ((moves_Right.f y364).bind fun t376 => ((swageref18_Right.f k l0).bind fun t377 => (if (t376 == t377) = true then ((moves_Cycles.f y364).bind fun t378 => ((swageref18_Cycles.f k l0).bind fun t381 => ((swageref06_Rows.f k t378 t381).bind fun t384 => (if t384 = true then ((swageref18_Same.f k y364 l0).bind fun t385 => (some t385)) else (some false))))) else (some false)))) else (some false)) else (some false))) else (some false))))) else (none))))) = some r := h
  clear h
  replace H := Option.bind_eq_some_iff.mp H
  obtain ⟨t360, A30, H⟩ := H
  replace H : (if (l0.length : Int) > 40 then (some t360) else ((some (([] : List (S38)) : List (S38))).bind fun y361 => (if y361.length + l0.length < 8796093022208 then ((some (y361 ++ l0 : List (S38))).bind fun y364 => ((moves_Order.f y364 a1).bind fun bt367 => ((swageref18_Order.f k l0 a1).bind fun bt371 => (if t360 = true then ((swageref18_Same.f k bt367.1 bt371.1).bind fun t375 => (if t375 = true then (if bt367.2 = bt371.2 then ((moves_Right.f y364).bind fun t376 => ((swageref18_Right.f k l0).bind fun t377 => (if (t376 == t377) = true then ((moves_Cycles.f y364).bind fun t378 => ((swageref18_Cycles.f k l0).bind fun t381 => ((swageref06_Rows.f k t378 t381).bind fun t384 => (if t384 = true then ((swageref18_Same.f k y364 l0).bind fun t385 => (some t385)) else (some false))))) else (some false)))) else (some false)) else (some false))) else (some false))))) else (none)))) = some r := H
  have A3 := Aside0.mk A30
  clear A30
  by_cases c4 : (l0.length : Int) > 40
  · rw [if_pos c4] at H
    have c4b0 : decide (40 < (l0.length : Int)) = true := decide_eq_true c4
    have c4b1 : decide (40 < l0.length) = true := decide_eq_true (by omega)
    clear c4
    obtain rfl := Option.some.inj H
    go_enter Try.func3, Try.ntmps3
    go_wp2_with (first | ((with_reducible refine gate_callee (f := 8) rfl ?_); refine goesL_ (some 11) rfl rfl Try.func8 (by kernel_rfl) rfl #[] rfl (by (try simp only [List.map_toArray, List.map_cons, List.map_nil]); first | done | rfl | (simp only [List.length_drop, List.length_take]; rfl)) ?_; (with_reducible refine (swagelaw18_small.calls  t360 _ A3.out).mono ?_); rintro e w5 ⟨rfl, hb⟩; refine ⟨_, rfl, ?_⟩; have n0_ := Aside0.mk (below_step (by repeat (first | (with_reducible first | exact HB.out | apply below_alloc | apply pw_below_drewN | apply below_drew1) | exact HB.out)) hb); clear HB; have HB := n0_; clear n0_; (try clear hb); (try clear hb2); (try clear hk); (try clear hi)))
    go_ret
    exact ⟨by first | rfl | (simp [errW_none, errW_some] <;> rfl) | (simp [*, errW_none, errW_some] <;> rfl), by repeat (first | (with_reducible first | exact HB.out | apply below_alloc | apply pw_below_drewN | apply below_drew1) | exact HB.out)⟩
  · rw [if_neg c4] at H
    have c4b0 : decide (40 < (l0.length : Int)) = false := decide_eq_false c4
    have c4b1 : decide (40 < l0.length) = false := decide_eq_false (by omega)
    clear c4
    obtain ⟨y361, hy361⟩ : ∃ y_ : List (S38), y_ = (([] : List (S38))) := ⟨_, rfl⟩
    replace H : (if y361.length + l0.length < 8796093022208 then ((some (y361 ++ l0 : List (S38))).bind fun y364 => ((moves_Order.f y364 a1).bind fun bt367 => ((swageref18_Order.f k l0 a1).bind fun bt371 => (if t360 = true then ((swageref18_Same.f k bt367.1 bt371.1).bind fun t375 => (if t375 = true then (if bt367.2 = bt371.2 then ((moves_Right.f y364).bind fun t376 => ((swageref18_Right.f k l0).bind fun t377 => (if (t376 == t377) = true then ((moves_Cycles.f y364).bind fun t378 => ((swageref18_Cycles.f k l0).bind fun t381 => ((swageref06_Rows.f k t378 t381).bind fun t384 => (if t384 = true then ((swageref18_Same.f k y364 l0).bind fun t385 => (some t385)) else (some false))))) else (some false)))) else (some false)) else (some false))) else (some false))))) else (none)) = some r := by first | (rw [hy361]; with_reducible exact H) | (have H2_ := (Option.bind_some _ _).symm.trans H; rw [hy361]; with_reducible exact H2_) | (have H2_ := (Option.bind_some _ _).symm.trans H; with_reducible exact H2_) | with_reducible exact H | (rw [hy361]; exact H) | exact H
    have Ny361 := Aside0.mk hy361
    clear hy361
    by_cases c6 : y361.length + l0.length < 8796093022208
    · rw [if_pos c6] at H
      have LMc6 := Aside0.mk c6
      clear c6
      obtain ⟨y364, hy364⟩ : ∃ y_ : List (S38), y_ = (y361 ++ l0) := ⟨_, rfl⟩
      replace H : ((moves_Order.f y364 a1).bind fun bt367 => ((swageref18_Order.f k l0 a1).bind fun bt371 => (if t360 = true then ((swageref18_Same.f k bt367.1 bt371.1).bind fun t375 => (if t375 = true then (if bt367.2 = bt371.2 then ((moves_Right.f y364).bind fun t376 => ((swageref18_Right.f k l0).bind fun t377 => (if (t376 == t377) = true then ((moves_Cycles.f y364).bind fun t378 => ((swageref18_Cycles.f k l0).bind fun t381 => ((swageref06_Rows.f k t378 t381).bind fun t384 => (if t384 = true then ((swageref18_Same.f k y364 l0).bind fun t385 => (some t385)) else (some false))))) else (some false)))) else (some false)) else (some false))) else (some false)))) = some r := by first | (rw [hy364]; with_reducible exact H) | (have H2_ := (Option.bind_some _ _).symm.trans H; rw [hy364]; with_reducible exact H2_) | (have H2_ := (Option.bind_some _ _).symm.trans H; with_reducible exact H2_) | with_reducible exact H | (rw [hy364]; exact H) | exact H
      have Ny364 := Aside0.mk hy364
      clear hy364
      replace H := Option.bind_eq_some_iff.mp H
      obtain ⟨⟨t367, t368⟩, A70, H⟩ := H
      replace H : ((swageref18_Order.f k l0 a1).bind fun bt371 => (if t360 = true then ((swageref18_Same.f k t367 bt371.1).bind fun t375 => (if t375 = true then (if t368 = bt371.2 then ((moves_Right.f y364).bind fun t376 => ((swageref18_Right.f k l0).bind fun t377 => (if (t376 == t377) = true then ((moves_Cycles.f y364).bind fun t378 => ((swageref18_Cycles.f k l0).bind fun t381 => ((swageref06_Rows.f k t378 t381).bind fun t384 => (if t384 = true then ((swageref18_Same.f k y364 l0).bind fun t385 => (some t385)) else (some false))))) else (some false)))) else (some false)) else (some false))) else (some false))) = some r := H
      have A7 := Aside0.mk A70
      clear A70
      replace H := Option.bind_eq_some_iff.mp H
      obtain ⟨⟨t371, t372⟩, A80, H⟩ := H
      replace H : (if t360 = true then ((swageref18_Same.f k t367 t371).bind fun t375 => (if t375 = true then (if t368 = t372 then ((moves_Right.f y364).bind fun t376 => ((swageref18_Right.f k l0).bind fun t377 => (if (t376 == t377) = true then ((moves_Cycles.f y364).bind fun t378 => ((swageref18_Cycles.f k l0).bind fun t381 => ((swageref06_Rows.f k t378 t381).bind fun t384 => (if t384 = true then ((swageref18_Same.f k y364 l0).bind fun t385 => (some t385)) else (some false))))) else (some false)))) else (some false)) else (some false))) else (some false)) = some r := H
      have A8 := Aside0.mk A80
      clear A80
      by_cases c9 : t360 = true
      · subst c9
        have H1 : ((swageref18_Same.f k t367 t371).bind fun t375 => (if t375 = true then (if t368 = t372 then ((moves_Right.f y364).bind fun t376 => ((swageref18_Right.f k l0).bind fun t377 => (if (t376 == t377) = true then ((moves_Cycles.f y364).bind fun t378 => ((swageref18_Cycles.f k l0).bind fun t381 => ((swageref06_Rows.f k t378 t381).bind fun t384 => (if t384 = true then ((swageref18_Same.f k y364 l0).bind fun t385 => (some t385)) else (some false))))) else (some false)))) else (some false)) else (some false))) = some r := by rw [if_pos rfl] at H; exact H
        clear H
        have H := H1
        clear H1
        replace H := Option.bind_eq_some_iff.mp H
        obtain ⟨t375, A100, H⟩ := H
        replace H : (if t375 = true then (if t368 = t372 then ((moves_Right.f y364).bind fun t376 => ((swageref18_Right.f k l0).bind fun t377 => (if (t376 == t377) = true then ((moves_Cycles.f y364).bind fun t378 => ((swageref18_Cycles.f k l0).bind fun t381 => ((swageref06_Rows.f k t378 t381).bind fun t384 => (if t384 = true then ((swageref18_Same.f k y364 l0).bind fun t385 => (some t385)) else (some false))))) else (some false)))) else (some false)) else (some false)) = some r := H
        have A10 := Aside0.mk A100
        clear A100
        by_cases c11 : t375 = true
        · subst c11
          have H1 : (if t368 = t372 then ((moves_Right.f y364).bind fun t376 => ((swageref18_Right.f k l0).bind fun t377 => (if (t376 == t377) = true then ((moves_Cycles.f y364).bind fun t378 => ((swageref18_Cycles.f k l0).bind fun t381 => ((swageref06_Rows.f k t378 t381).bind fun t384 => (if t384 = true then ((swageref18_Same.f k y364 l0).bind fun t385 => (some t385)) else (some false))))) else (some false)))) else (some false)) = some r := by rw [if_pos rfl] at H; exact H
          clear H
          have H := H1
          clear H1
          by_cases c12 : t368 = t372
          · rw [if_pos c12] at H
            have c12b0 : (t368 == t372) = true := beq_iff_eq.mpr c12
            have c12b1 : (t368 != t372) = false := bne_eq_false_iff_eq.mpr c12
            clear c12
            replace H := Option.bind_eq_some_iff.mp H
            obtain ⟨t376, A130, H⟩ := H
            replace H : ((swageref18_Right.f k l0).bind fun t377 => (if (t376 == t377) = true then ((moves_Cycles.f y364).bind fun t378 => ((swageref18_Cycles.f k l0).bind fun t381 => ((swageref06_Rows.f k t378 t381).bind fun t384 => (if t384 = true then ((swageref18_Same.f k y364 l0).bind fun t385 => (some t385)) else (some false))))) else (some false))) = some r := H
            have A13 := Aside0.mk A130
            clear A130
            replace H := Option.bind_eq_some_iff.mp H
            obtain ⟨t377, A140, H⟩ := H
            replace H : (if (t376 == t377) = true then ((moves_Cycles.f y364).bind fun t378 => ((swageref18_Cycles.f k l0).bind fun t381 => ((swageref06_Rows.f k t378 t381).bind fun t384 => (if t384 = true then ((swageref18_Same.f k y364 l0).bind fun t385 => (some t385)) else (some false))))) else (some false)) = some r := H
            have A14 := Aside0.mk A140
            clear A140
            by_cases c15 : (t376 == t377) = true
            · rw [if_pos c15] at H
              have c15b0 : (t376 == t377) = true := c15
              (try (have c15b1 : decide (t376 = t377) = true := by simpa using c15))
              (try (have c15b2 : (t376 == t377) = true := by simpa using c15))
              clear c15
              replace H := Option.bind_eq_some_iff.mp H
              obtain ⟨t378, A160, H⟩ := H
              replace H : ((swageref18_Cycles.f k l0).bind fun t381 => ((swageref06_Rows.f k t378 t381).bind fun t384 => (if t384 = true then ((swageref18_Same.f k y364 l0).bind fun t385 => (some t385)) else (some false)))) = some r := H
              have A16 := Aside0.mk A160
              clear A160
              replace H := Option.bind_eq_some_iff.mp H
              obtain ⟨t381, A170, H⟩ := H
              replace H : ((swageref06_Rows.f k t378 t381).bind fun t384 => (if t384 = true then ((swageref18_Same.f k y364 l0).bind fun t385 => (some t385)) else (some false))) = some r := H
              have A17 := Aside0.mk A170
              clear A170
              replace H := Option.bind_eq_some_iff.mp H
              obtain ⟨t384, A180, H⟩ := H
              replace H : (if t384 = true then ((swageref18_Same.f k y364 l0).bind fun t385 => (some t385)) else (some false)) = some r := H
              have A18 := Aside0.mk A180
              clear A180
              by_cases c19 : t384 = true
              · subst c19
                have H1 : ((swageref18_Same.f k y364 l0).bind fun t385 => (some t385)) = some r := by rw [if_pos rfl] at H; exact H
                clear H
                have H := H1
                clear H1
                replace H := Option.bind_eq_some_iff.mp H
                obtain ⟨t385, A200, H⟩ := H
                replace H : (some t385) = some r := H
                have A20 := Aside0.mk A200
                clear A200
                obtain rfl := Option.some.inj H
                go_enter Try.func3, Try.ntmps3
                go_wp2_with (first | ((with_reducible refine gate_callee (f := 8) rfl ?_); refine goesL_ (some 11) rfl rfl Try.func8 (by kernel_rfl) rfl #[] rfl (by (try simp only [List.map_toArray, List.map_cons, List.map_nil]); first | done | rfl | (simp only [List.length_drop, List.length_take]; rfl)) ?_; (with_reducible refine (swagelaw18_small.calls  true _ A3.out).mono ?_); rintro e w21 ⟨rfl, hb⟩; refine ⟨_, rfl, ?_⟩; have n0_ := Aside0.mk (below_step (by repeat (first | (with_reducible first | exact HB.out | apply below_alloc | apply pw_below_drewN | apply below_drew1) | exact HB.out)) hb); clear HB; have HB := n0_; clear n0_; (try clear hb); (try clear hb2); (try clear hk); (try clear hi)) | ((with_reducible refine gate_dst (N := 16) rfl ?_); refine Kd.R_lit k38 _ 38 ?hg (N := 16) ?hd (xs := ([] : List (S38))) (inner := []) (ok := fun _ => True) (okp := fun _ => True) ?hr ?hp (fun _ hk => hk) trivial (Below.refl _ _) (Nat.le_refl _) (by simp) ?_; (case hd => rfl); (case hg => rfl); (case hr => first | (go_simp; done) | (go_simp; rfl)); (case hp => exact (Reps.none _ _)); intro v362 w22 ho23 hb hg_ hnew_; clear hg_ hnew_; (first | rw [← Ny361.out] at ho23 | (simp only [Int.reduceToNat] at ho23; rw [← Ny361.out] at ho23)); have n0_ := Aside0.mk (Kd.R_lower ho23 (below_size (by repeat (first | (with_reducible first | exact HB.out | apply below_alloc | apply pw_below_drewN | apply below_drew1) | exact HB.out)))); have n1_ := Aside0.mk (below_step (by repeat (first | (with_reducible first | exact HB.out | apply below_alloc | apply pw_below_drewN | apply below_drew1) | exact HB.out)) hb); clear HB; have HO363 := n0_; have HB := n1_; clear n0_ n1_; clear hb ho23) | ((with_reducible refine gate_builtin (b := .append) (xs := #[.tmp 16, .tmp 17]) rfl ?_); at_builtin; refine Kd.R_append_rows k38 (w0 := w) w.heap.size rfl (.tmp 16) (.tmp 17) 22 38 (.agg #[(.int .i64 0), (.int .i64 0)]) 16 rfl Try.underlying22 info38 rfl (by decide) (by omega) v362 y361 l0 _ _ _ (fun _ => True) (fun _ => False) rfl rfl ?aO ?aR (fun _ _ h => h) (fun _ h => h.elim) ?aF ?aB ?aS ?aL ?_; (case aR => repeat (first | exact (Kd.C_below HR0.out HB.out) | (with_reducible refine Kd.C_alloc ?_ _) | (with_reducible refine Kd.C_drewN ?_ _) | (with_reducible refine Kd.C_drew ?_))); (case aB => exact (by repeat (first | (with_reducible first | exact HB.out | apply below_alloc | apply pw_below_drewN | apply below_drew1) | exact HB.out))); (case aF => exact (fun _ _ => trivial)); (case aO => exact (by (with_reducible repeat (first | apply Kd.R_alloc | apply Kd.R_drewN | apply Kd.R_drew)); exact HO363.out)); (case aS => exact (below_size (by repeat (first | (with_reducible first | exact HB.out | apply below_alloc | apply pw_below_drewN | apply below_drew1) | exact HB.out)))); (case aL => have := LMc6.out; omega); intro v365 w24 ho hb hg hat; rw [← Ny364.out] at ho; have n0_ := Aside0.mk (hb); have n1_ := Aside0.mk (ho); clear HB; clear HO363; have HB := n0_; have HO366 := n1_; clear n0_ n1_; clear ho hb hg hat; obtain ⟨Ao25, co25, eo25⟩ := Kd.R_slice HO366.out; subst eo25) | ((with_reducible refine gate_callee (f := 9) rfl ?_); refine goesL_ (some 22) rfl rfl Try.func9 (by kernel_rfl) rfl #[.slice Ao25 y364.length co25, .int .i64 a1] rfl (by (try simp only [List.map_toArray, List.map_cons, List.map_nil]); first | done | rfl | (simp only [List.length_drop, List.length_take]; rfl)) ?_; (with_reducible refine (moves_Order.calls _ _ y364 a1 t367 t368 _ ?side1 ?side2 A7.out).mono ?_); (case side1 => repeat (first | exact (Kd.R_reads' HO366.out).2.2 | (with_reducible refine Kd.C_alloc ?_ _) | (with_reducible refine Kd.C_drewN ?_ _) | (with_reducible refine Kd.C_drew ?_))); (case side2 => exact (Kd.R_reads' HO366.out).2.1); rintro e w26 ⟨v369, rfl, ho0, hb⟩; refine ⟨_, rfl, ?_⟩; have n0_ := Aside0.mk (Kd.R_elder' (by (with_reducible repeat (first | apply Kd.R_alloc | apply Kd.R_drewN | apply Kd.R_drew)); exact HO366.out) (Kd.R_base ho0) hb); have n1_ := Aside0.mk (Kd.R_lower (Kd.R_new' ho0 (Kd.R_lt (by (with_reducible repeat (first | apply Kd.R_alloc | apply Kd.R_drewN | apply Kd.R_drew)); exact HO366.out))) (below_size (by repeat (first | (with_reducible first | exact HB.out | apply below_alloc | apply pw_below_drewN | apply below_drew1) | exact HB.out)))); have n2_ := Aside0.mk (below_step (by repeat (first | (with_reducible first | exact HB.out | apply below_alloc | apply pw_below_drewN | apply below_drew1) | exact HB.out)) hb); clear HO366; clear HB; have HO366 := n0_; have HO370 := n1_; have HB := n2_; clear n0_ n1_ n2_; (try clear hb); (try clear hb2); (try clear hk); (try clear hi); (try clear ho0)) | ((with_reducible refine gate_callee (f := 10) rfl ?_); refine goesL_ (some 28) rfl rfl Try.func10 (by kernel_rfl) rfl #[.slice A0 l0.length c0, .int .i64 a1] rfl (by (try simp only [List.map_toArray, List.map_cons, List.map_nil]); first | done | rfl | (simp only [List.length_drop, List.length_take]; rfl)) ?_; (with_reducible refine (swageref18_Order.calls k _ _ l0 a1 t371 t372 _ ?side1 ?side2 A8.out).mono ?_); (case side1 => repeat (first | exact (Kd.C_below HR0.out HB.out) | (with_reducible refine Kd.C_alloc ?_ _) | (with_reducible refine Kd.C_drewN ?_ _) | (with_reducible refine Kd.C_drew ?_))); (case side2 => exact HC0.out); rintro e w27 ⟨v373, rfl, ho0, hb⟩; refine ⟨_, rfl, ?_⟩; have n0_ := Aside0.mk (Kd.R_elder' (by (with_reducible repeat (first | apply Kd.R_alloc | apply Kd.R_drewN | apply Kd.R_drew)); exact HO366.out) (Kd.R_base ho0) hb); have n1_ := Aside0.mk (Kd.R_elder' (by (with_reducible repeat (first | apply Kd.R_alloc | apply Kd.R_drewN | apply Kd.R_drew)); exact HO370.out) (Kd.R_base ho0) hb); have n2_ := Aside0.mk (Kd.R_lower (Kd.R_new' (Kd.R_new' ho0 (Kd.R_lt (by (with_reducible repeat (first | apply Kd.R_alloc | apply Kd.R_drewN | apply Kd.R_drew)); exact HO366.out))) (Kd.R_lt (by (with_reducible repeat (first | apply Kd.R_alloc | apply Kd.R_drewN | apply Kd.R_drew)); exact HO370.out))) (below_size (by repeat (first | (with_reducible first | exact HB.out | apply below_alloc | apply pw_below_drewN | apply below_drew1) | exact HB.out)))); have n3_ := Aside0.mk (below_step (by repeat (first | (with_reducible first | exact HB.out | apply below_alloc | apply pw_below_drewN | apply below_drew1) | exact HB.out)) hb); clear HO366; clear HO370; clear HB; have HO366 := n0_; have HO370 := n1_; have HO374 := n2_; have HB := n3_; clear n0_ n1_ n2_ n3_; (try clear hb); (try clear hb2); (try clear hk); (try clear hi); (try clear ho0); obtain ⟨Ao28, co28, eo28⟩ := Kd.R_slice HO370.out; subst eo28; obtain ⟨Ao29, co29, eo29⟩ := Kd.R_slice HO374.out; subst eo29) | (go_at_call 11; (with_reducible refine (swageref18_Same.calls k _ _ t367 _ _ t371 true _ ?side1 ?side2 ?side3 ?side4 A10.out).mono ?_); (case side1 => repeat (first | exact (Kd.R_reads' HO370.out).2.2 | (with_reducible refine Kd.C_alloc ?_ _) | (with_reducible refine Kd.C_drewN ?_ _) | (with_reducible refine Kd.C_drew ?_))); (case side2 => exact (Kd.R_reads' HO370.out).2.1); (case side3 => repeat (first | exact (Kd.R_reads' HO374.out).2.2 | (with_reducible refine Kd.C_alloc ?_ _) | (with_reducible refine Kd.C_drewN ?_ _) | (with_reducible refine Kd.C_drew ?_))); (case side4 => exact (Kd.R_reads' HO374.out).2.1); rintro e w' ⟨rfl, ⟨nd, rfl⟩⟩) | (go_at_call 12; (with_reducible refine (moves_Right.calls _ _ y364 t376 _ ?side1 ?side2 A13.out).mono ?_); (case side1 => repeat (first | exact (Kd.R_reads' HO366.out).2.2 | (with_reducible refine Kd.C_alloc ?_ _) | (with_reducible refine Kd.C_drewN ?_ _) | (with_reducible refine Kd.C_drew ?_))); (case side2 => exact (Kd.R_reads' HO366.out).2.1); rintro e w30 ⟨rfl, hb⟩; have n0_ := Aside0.mk (Kd.R_below (by (with_reducible repeat (first | apply Kd.R_alloc | apply Kd.R_drewN | apply Kd.R_drew)); exact HO366.out) hb); have n1_ := Aside0.mk (Kd.R_below (by (with_reducible repeat (first | apply Kd.R_alloc | apply Kd.R_drewN | apply Kd.R_drew)); exact HO370.out) hb); have n2_ := Aside0.mk (Kd.R_below (by (with_reducible repeat (first | apply Kd.R_alloc | apply Kd.R_drewN | apply Kd.R_drew)); exact HO374.out) hb); have n3_ := Aside0.mk (below_step (by repeat (first | (with_reducible first | exact HB.out | apply below_alloc | apply pw_below_drewN | apply below_drew1) | exact HB.out)) hb); clear HO366; clear HO370; clear HO374; clear HB; have HO366 := n0_; have HO370 := n1_; have HO374 := n2_; have HB := n3_; clear n0_ n1_ n2_ n3_; (try clear hb); (try clear hb2); (try clear hk); (try clear hi)) | (go_at_call 13; (with_reducible refine (swageref18_Right.calls k _ _ l0 t377 _ ?side1 ?side2 A14.out).mono ?_); (case side1 => repeat (first | exact (Kd.C_below HR0.out HB.out) | (with_reducible refine Kd.C_alloc ?_ _) | (with_reducible refine Kd.C_drewN ?_ _) | (with_reducible refine Kd.C_drew ?_))); (case side2 => exact HC0.out); rintro e w' ⟨rfl, ⟨nd, rfl⟩⟩) | (go_at_call 15; (with_reducible refine (moves_Cycles.calls _ _ y364 t378 _ ?side1 ?side2 A16.out).mono ?_); (case side1 => repeat (first | exact (Kd.R_reads' HO366.out).2.2 | (with_reducible refine Kd.C_alloc ?_ _) | (with_reducible refine Kd.C_drewN ?_ _) | (with_reducible refine Kd.C_drew ?_))); (case side2 => exact (Kd.R_reads' HO366.out).2.1); rintro e w31 ⟨v379, rfl, ho0, hb⟩; have n0_ := Aside0.mk (Kd.R_below (by (with_reducible repeat (first | apply Kd.R_alloc | apply Kd.R_drewN | apply Kd.R_drew)); exact HO366.out) hb); have n1_ := Aside0.mk (Kd.R_below (by (with_reducible repeat (first | apply Kd.R_alloc | apply Kd.R_drewN | apply Kd.R_drew)); exact HO370.out) hb); have n2_ := Aside0.mk (Kd.R_below (by (with_reducible repeat (first | apply Kd.R_alloc | apply Kd.R_drewN | apply Kd.R_drew)); exact HO374.out) hb); have n3_ := Aside0.mk (Kd.N_lower (Kd.N_mono (ok' := fun k_ => some k_ ≠ (.slice Ao25 y364.length co25 : Value).ownBlock ∧ some k_ ≠ (.slice Ao28 t367.length co28 : Value).ownBlock ∧ some k_ ≠ (.slice Ao29 t371.length co29 : Value).ownBlock) (Kd.S_N (Kd.S_bound ho0)) (fun k_ hk_ => ⟨(Kd.fresh' (Kd.R_lt (by (with_reducible repeat (first | apply Kd.R_alloc | apply Kd.R_drewN | apply Kd.R_drew)); exact HO366.out)) k_ hk_.2.1), (Kd.fresh' (Kd.R_lt (by (with_reducible repeat (first | apply Kd.R_alloc | apply Kd.R_drewN | apply Kd.R_drew)); exact HO370.out)) k_ hk_.2.1), (Kd.fresh' (Kd.R_lt (by (with_reducible repeat (first | apply Kd.R_alloc | apply Kd.R_drewN | apply Kd.R_drew)); exact HO374.out)) k_ hk_.2.1)⟩)) (below_size (by repeat (first | (with_reducible first | exact HB.out | apply below_alloc | apply pw_below_drewN | apply below_drew1) | exact HB.out)))); have n4_ := Aside0.mk (below_step (by repeat (first | (with_reducible first | exact HB.out | apply below_alloc | apply pw_below_drewN | apply below_drew1) | exact HB.out)) hb); clear HO366; clear HO370; clear HO374; clear HB; have HO366 := n0_; have HO370 := n1_; have HO374 := n2_; have HO380 := n3_; have HB := n4_; clear n0_ n1_ n2_ n3_ n4_; (try clear hb); (try clear hb2); (try clear hk); (try clear hi); (try clear ho0)) | (go_at_call 16; (with_reducible refine (swageref18_Cycles.calls k _ _ l0 t381 _ ?side1 ?side2 A17.out).mono ?_); (case side1 => repeat (first | exact (Kd.C_below HR0.out HB.out) | (with_reducible refine Kd.C_alloc ?_ _) | (with_reducible refine Kd.C_drewN ?_ _) | (with_reducible refine Kd.C_drew ?_))); (case side2 => exact HC0.out); rintro e w32 ⟨v382, rfl, ho0, hb⟩; have n0_ := Aside0.mk (Kd.R_below (by (with_reducible repeat (first | apply Kd.R_alloc | apply Kd.R_drewN | apply Kd.R_drew)); exact HO366.out) hb); have n1_ := Aside0.mk (Kd.R_below (by (with_reducible repeat (first | apply Kd.R_alloc | apply Kd.R_drewN | apply Kd.R_drew)); exact HO370.out) hb); have n2_ := Aside0.mk (Kd.R_below (by (with_reducible repeat (first | apply Kd.R_alloc | apply Kd.R_drewN | apply Kd.R_drew)); exact HO374.out) hb); have n3_ := Aside0.mk (Kd.N_elder' (by (with_reducible repeat (first | apply Kd.N_alloc | apply Kd.N_drewN | apply Kd.N_drew)); exact HO380.out) (Kd.N_base ho0) hb); have n4_ := Aside0.mk (Kd.N_lower (Kd.N_mono (ok' := fun k_ => some k_ ≠ (.slice Ao25 y364.length co25 : Value).ownBlock ∧ some k_ ≠ (.slice Ao28 t367.length co28 : Value).ownBlock ∧ some k_ ≠ (.slice Ao29 t371.length co29 : Value).ownBlock ∧ some k_ ≠ (v379 : Value).ownBlock) ho0 (fun k_ hk_ => ⟨(Kd.fresh' (Kd.R_lt (by (with_reducible repeat (first | apply Kd.R_alloc | apply Kd.R_drewN | apply Kd.R_drew)); exact HO366.out)) k_ hk_), (Kd.fresh' (Kd.R_lt (by (with_reducible repeat (first | apply Kd.R_alloc | apply Kd.R_drewN | apply Kd.R_drew)); exact HO370.out)) k_ hk_), (Kd.fresh' (Kd.R_lt (by (with_reducible repeat (first | apply Kd.R_alloc | apply Kd.R_drewN | apply Kd.R_drew)); exact HO374.out)) k_ hk_), (Kd.fresh' (Kd.N_lt (by (with_reducible repeat (first | apply Kd.N_alloc | apply Kd.N_drewN | apply Kd.N_drew)); exact HO380.out)) k_ hk_)⟩)) (below_size (by repeat (first | (with_reducible first | exact HB.out | apply below_alloc | apply pw_below_drewN | apply below_drew1) | exact HB.out)))); have n5_ := Aside0.mk (below_step (by repeat (first | (with_reducible first | exact HB.out | apply below_alloc | apply pw_below_drewN | apply below_drew1) | exact HB.out)) hb); clear HO366; clear HO370; clear HO374; clear HO380; clear HB; have HO366 := n0_; have HO370 := n1_; have HO374 := n2_; have HO380 := n3_; have HO383 := n4_; have HB := n5_; clear n0_ n1_ n2_ n3_ n4_ n5_; (try clear hb); (try clear hb2); (try clear hk); (try clear hi); (try clear ho0); obtain ⟨Ao33, co33, eo33⟩ := Kd.N_slice HO380.out; subst eo33; obtain ⟨Ao34, co34, eo34⟩ := Kd.N_slice HO383.out; subst eo34) | (go_at_call 14; (with_reducible refine (swageref06_Rows.calls k _ _ t378 _ _ t381 true _ ?side1 ?side2 ?side3 ?side4 A18.out).mono ?_); (case side1 => repeat (first | exact (Kd.N_reads' HO380.out).2.2 | (with_reducible refine Kd.C_alloc ?_ _) | (with_reducible refine Kd.C_drewN ?_ _) | (with_reducible refine Kd.C_drew ?_))); (case side2 => exact (Kd.N_reads' HO380.out).2.1); (case side3 => repeat (first | exact (Kd.N_reads' HO383.out).2.2 | (with_reducible refine Kd.C_alloc ?_ _) | (with_reducible refine Kd.C_drewN ?_ _) | (with_reducible refine Kd.C_drew ?_))); (case side4 => exact (Kd.N_reads' HO383.out).2.1); rintro e w' ⟨rfl, ⟨nd, rfl⟩⟩) | (go_at_call 11; (with_reducible refine (swageref18_Same.calls k _ _ y364 _ _ l0 t385 _ ?side1 ?side2 ?side3 ?side4 A20.out).mono ?_); (case side1 => repeat (first | exact (Kd.R_reads' HO366.out).2.2 | (with_reducible refine Kd.C_alloc ?_ _) | (with_reducible refine Kd.C_drewN ?_ _) | (with_reducible refine Kd.C_drew ?_))); (case side2 => exact (Kd.R_reads' HO366.out).2.1); (case side3 => repeat (first | exact (Kd.C_below HR0.out (by repeat (first | (with_reducible first | exact HB.out | apply below_alloc | apply pw_below_drewN | apply below_drew1) | exact HB.out))) | (with_reducible refine Kd.C_alloc ?_ _) | (with_reducible refine Kd.C_drewN ?_ _) | (with_reducible refine Kd.C_drew ?_))); (case side4 => exact HC0.out); rintro e w' ⟨rfl, ⟨nd, rfl⟩⟩))
                go_ret
                exact ⟨by first | rfl | (simp [errW_none, errW_some] <;> rfl) | (simp [*, errW_none, errW_some] <;> rfl), by repeat (first | (with_reducible first | exact HB.out | apply below_alloc | apply pw_below_drewN | apply below_drew1) | exact HB.out)⟩
              · replace c19 := Bool.eq_false_iff.mpr c19
                subst c19
                have H1 : (some false) = some r := by rw [if_neg (show ¬ (false = true) by decide)] at H; exact H
                clear H
                have H := H1
                clear H1
                obtain rfl := Option.some.inj H
                go_enter Try.func3, Try.ntmps3
                go_wp2_with (first | ((with_reducible refine gate_callee (f := 8) rfl ?_); refine goesL_ (some 11) rfl rfl Try.func8 (by kernel_rfl) rfl #[] rfl (by (try simp only [List.map_toArray, List.map_cons, List.map_nil]); first | done | rfl | (simp only [List.length_drop, List.length_take]; rfl)) ?_; (with_reducible refine (swagelaw18_small.calls  true _ A3.out).mono ?_); rintro e w35 ⟨rfl, hb⟩; refine ⟨_, rfl, ?_⟩; have n0_ := Aside0.mk (below_step (by repeat (first | (with_reducible first | exact HB.out | apply below_alloc | apply pw_below_drewN | apply below_drew1) | exact HB.out)) hb); clear HB; have HB := n0_; clear n0_; (try clear hb); (try clear hb2); (try clear hk); (try clear hi)) | ((with_reducible refine gate_dst (N := 16) rfl ?_); refine Kd.R_lit k38 _ 38 ?hg (N := 16) ?hd (xs := ([] : List (S38))) (inner := []) (ok := fun _ => True) (okp := fun _ => True) ?hr ?hp (fun _ hk => hk) trivial (Below.refl _ _) (Nat.le_refl _) (by simp) ?_; (case hd => rfl); (case hg => rfl); (case hr => first | (go_simp; done) | (go_simp; rfl)); (case hp => exact (Reps.none _ _)); intro v362 w36 ho37 hb hg_ hnew_; clear hg_ hnew_; (first | rw [← Ny361.out] at ho37 | (simp only [Int.reduceToNat] at ho37; rw [← Ny361.out] at ho37)); have n0_ := Aside0.mk (Kd.R_lower ho37 (below_size (by repeat (first | (with_reducible first | exact HB.out | apply below_alloc | apply pw_below_drewN | apply below_drew1) | exact HB.out)))); have n1_ := Aside0.mk (below_step (by repeat (first | (with_reducible first | exact HB.out | apply below_alloc | apply pw_below_drewN | apply below_drew1) | exact HB.out)) hb); clear HB; have HO363 := n0_; have HB := n1_; clear n0_ n1_; clear hb ho37) | ((with_reducible refine gate_builtin (b := .append) (xs := #[.tmp 16, .tmp 17]) rfl ?_); at_builtin; refine Kd.R_append_rows k38 (w0 := w) w.heap.size rfl (.tmp 16) (.tmp 17) 22 38 (.agg #[(.int .i64 0), (.int .i64 0)]) 16 rfl Try.underlying22 info38 rfl (by decide) (by omega) v362 y361 l0 _ _ _ (fun _ => True) (fun _ => False) rfl rfl ?aO ?aR (fun _ _ h => h) (fun _ h => h.elim) ?aF ?aB ?aS ?aL ?_; (case aR => repeat (first | exact (Kd.C_below HR0.out HB.out) | (with_reducible refine Kd.C_alloc ?_ _) | (with_reducible refine Kd.C_drewN ?_ _) | (with_reducible refine Kd.C_drew ?_))); (case aB => exact (by repeat (first | (with_reducible first | exact HB.out | apply below_alloc | apply pw_below_drewN | apply below_drew1) | exact HB.out))); (case aF => exact (fun _ _ => trivial)); (case aO => exact (by (with_reducible repeat (first | apply Kd.R_alloc | apply Kd.R_drewN | apply Kd.R_drew)); exact HO363.out)); (case aS => exact (below_size (by repeat (first | (with_reducible first | exact HB.out | apply below_alloc | apply pw_below_drewN | apply below_drew1) | exact HB.out)))); (case aL => have := LMc6.out; omega); intro v365 w38 ho hb hg hat; rw [← Ny364.out] at ho; have n0_ := Aside0.mk (hb); have n1_ := Aside0.mk (ho); clear HB; clear HO363; have HB := n0_; have HO366 := n1_; clear n0_ n1_; clear ho hb hg hat; obtain ⟨Ao39, co39, eo39⟩ := Kd.R_slice HO366.out; subst eo39) | ((with_reducible refine gate_callee (f := 9) rfl ?_); refine goesL_ (some 22) rfl rfl Try.func9 (by kernel_rfl) rfl #[.slice Ao39 y364.length co39, .int .i64 a1] rfl (by (try simp only [List.map_toArray, List.map_cons, List.map_nil]); first | done | rfl | (simp only [List.length_drop, List.length_take]; rfl)) ?_; (with_reducible refine (moves_Order.calls _ _ y364 a1 t367 t368 _ ?side1 ?side2 A7.out).mono ?_); (case side1 => repeat (first | exact (Kd.R_reads' HO366.out).2.2 | (with_reducible refine Kd.C_alloc ?_ _) | (with_reducible refine Kd.C_drewN ?_ _) | (with_reducible refine Kd.C_drew ?_))); (case side2 => exact (Kd.R_reads' HO366.out).2.1); rintro e w40 ⟨v369, rfl, ho0, hb⟩; refine ⟨_, rfl, ?_⟩; have n0_ := Aside0.mk (Kd.R_elder' (by (with_reducible repeat (first | apply Kd.R_alloc | apply Kd.R_drewN | apply Kd.R_drew)); exact HO366.out) (Kd.R_base ho0) hb); have n1_ := Aside0.mk (Kd.R_lower (Kd.R_new' ho0 (Kd.R_lt (by (with_reducible repeat (first | apply Kd.R_alloc | apply Kd.R_drewN | apply Kd.R_drew)); exact HO366.out))) (below_size (by repeat (first | (with_reducible first | exact HB.out | apply below_alloc | apply pw_below_drewN | apply below_drew1) | exact HB.out)))); have n2_ := Aside0.mk (below_step (by repeat (first | (with_reducible first | exact HB.out | apply below_alloc | apply pw_below_drewN | apply below_drew1) | exact HB.out)) hb); clear HO366; clear HB; have HO366 := n0_; have HO370 := n1_; have HB := n2_; clear n0_ n1_ n2_; (try clear hb); (try clear hb2); (try clear hk); (try clear hi); (try clear ho0)) | ((with_reducible refine gate_callee (f := 10) rfl ?_); refine goesL_ (some 28) rfl rfl Try.func10 (by kernel_rfl) rfl #[.slice A0 l0.length c0, .int .i64 a1] rfl (by (try simp only [List.map_toArray, List.map_cons, List.map_nil]); first | done | rfl | (simp only [List.length_drop, List.length_take]; rfl)) ?_; (with_reducible refine (swageref18_Order.calls k _ _ l0 a1 t371 t372 _ ?side1 ?side2 A8.out).mono ?_); (case side1 => repeat (first | exact (Kd.C_below HR0.out HB.out) | (with_reducible refine Kd.C_alloc ?_ _) | (with_reducible refine Kd.C_drewN ?_ _) | (with_reducible refine Kd.C_drew ?_))); (case side2 => exact HC0.out); rintro e w41 ⟨v373, rfl, ho0, hb⟩; refine ⟨_, rfl, ?_⟩; have n0_ := Aside0.mk (Kd.R_elder' (by (with_reducible repeat (first | apply Kd.R_alloc | apply Kd.R_drewN | apply Kd.R_drew)); exact HO366.out) (Kd.R_base ho0) hb); have n1_ := Aside0.mk (Kd.R_elder' (by (with_reducible repeat (first | apply Kd.R_alloc | apply Kd.R_drewN | apply Kd.R_drew)); exact HO370.out) (Kd.R_base ho0) hb); have n2_ := Aside0.mk (Kd.R_lower (Kd.R_new' (Kd.R_new' ho0 (Kd.R_lt (by (with_reducible repeat (first | apply Kd.R_alloc | apply Kd.R_drewN | apply Kd.R_drew)); exact HO366.out))) (Kd.R_lt (by (with_reducible repeat (first | apply Kd.R_alloc | apply Kd.R_drewN | apply Kd.R_drew)); exact HO370.out))) (below_size (by repeat (first | (with_reducible first | exact HB.out | apply below_alloc | apply pw_below_drewN | apply below_drew1) | exact HB.out)))); have n3_ := Aside0.mk (below_step (by repeat (first | (with_reducible first | exact HB.out | apply below_alloc | apply pw_below_drewN | apply below_drew1) | exact HB.out)) hb); clear HO366; clear HO370; clear HB; have HO366 := n0_; have HO370 := n1_; have HO374 := n2_; have HB := n3_; clear n0_ n1_ n2_ n3_; (try clear hb); (try clear hb2); (try clear hk); (try clear hi); (try clear ho0); obtain ⟨Ao42, co42, eo42⟩ := Kd.R_slice HO370.out; subst eo42; obtain ⟨Ao43, co43, eo43⟩ := Kd.R_slice HO374.out; subst eo43) | (go_at_call 11; (with_reducible refine (swageref18_Same.calls k _ _ t367 _ _ t371 true _ ?side1 ?side2 ?side3 ?side4 A10.out).mono ?_); (case side1 => repeat (first | exact (Kd.R_reads' HO370.out).2.2 | (with_reducible refine Kd.C_alloc ?_ _) | (with_reducible refine Kd.C_drewN ?_ _) | (with_reducible refine Kd.C_drew ?_))); (case side2 => exact (Kd.R_reads' HO370.out).2.1); (case side3 => repeat (first | exact (Kd.R_reads' HO374.out).2.2 | (with_reducible refine Kd.C_alloc ?_ _) | (with_reducible refine Kd.C_drewN ?_ _) | (with_reducible refine Kd.C_drew ?_))); (case side4 => exact (Kd.R_reads' HO374.out).2.1); rintro e w' ⟨rfl, ⟨nd, rfl⟩⟩) | (go_at_call 12; (with_reducible refine (moves_Right.calls _ _ y364 t376 _ ?side1 ?side2 A13.out).mono ?_); (case side1 => repeat (first | exact (Kd.R_reads' HO366.out).2.2 | (with_reducible refine Kd.C_alloc ?_ _) | (with_reducible refine Kd.C_drewN ?_ _) | (with_reducible refine Kd.C_drew ?_))); (case side2 => exact (Kd.R_reads' HO366.out).2.1); rintro e w44 ⟨rfl, hb⟩; have n0_ := Aside0.mk (Kd.R_below (by (with_reducible repeat (first | apply Kd.R_alloc | apply Kd.R_drewN | apply Kd.R_drew)); exact HO366.out) hb); have n1_ := Aside0.mk (Kd.R_below (by (with_reducible repeat (first | apply Kd.R_alloc | apply Kd.R_drewN | apply Kd.R_drew)); exact HO370.out) hb); have n2_ := Aside0.mk (Kd.R_below (by (with_reducible repeat (first | apply Kd.R_alloc | apply Kd.R_drewN | apply Kd.R_drew)); exact HO374.out) hb); have n3_ := Aside0.mk (below_step (by repeat (first | (with_reducible first | exact HB.out | apply below_alloc | apply pw_below_drewN | apply below_drew1) | exact HB.out)) hb); clear HO366; clear HO370; clear HO374; clear HB; have HO366 := n0_; have HO370 := n1_; have HO374 := n2_; have HB := n3_; clear n0_ n1_ n2_ n3_; (try clear hb); (try clear hb2); (try clear hk); (try clear hi)) | (go_at_call 13; (with_reducible refine (swageref18_Right.calls k _ _ l0 t377 _ ?side1 ?side2 A14.out).mono ?_); (case side1 => repeat (first | exact (Kd.C_below HR0.out HB.out) | (with_reducible refine Kd.C_alloc ?_ _) | (with_reducible refine Kd.C_drewN ?_ _) | (with_reducible refine Kd.C_drew ?_))); (case side2 => exact HC0.out); rintro e w' ⟨rfl, ⟨nd, rfl⟩⟩) | (go_at_call 15; (with_reducible refine (moves_Cycles.calls _ _ y364 t378 _ ?side1 ?side2 A16.out).mono ?_); (case side1 => repeat (first | exact (Kd.R_reads' HO366.out).2.2 | (with_reducible refine Kd.C_alloc ?_ _) | (with_reducible refine Kd.C_drewN ?_ _) | (with_reducible refine Kd.C_drew ?_))); (case side2 => exact (Kd.R_reads' HO366.out).2.1); rintro e w45 ⟨v379, rfl, ho0, hb⟩; have n0_ := Aside0.mk (Kd.R_below (by (with_reducible repeat (first | apply Kd.R_alloc | apply Kd.R_drewN | apply Kd.R_drew)); exact HO366.out) hb); have n1_ := Aside0.mk (Kd.R_below (by (with_reducible repeat (first | apply Kd.R_alloc | apply Kd.R_drewN | apply Kd.R_drew)); exact HO370.out) hb); have n2_ := Aside0.mk (Kd.R_below (by (with_reducible repeat (first | apply Kd.R_alloc | apply Kd.R_drewN | apply Kd.R_drew)); exact HO374.out) hb); have n3_ := Aside0.mk (Kd.N_lower (Kd.N_mono (ok' := fun k_ => some k_ ≠ (.slice Ao39 y364.length co39 : Value).ownBlock ∧ some k_ ≠ (.slice Ao42 t367.length co42 : Value).ownBlock ∧ some k_ ≠ (.slice Ao43 t371.length co43 : Value).ownBlock) (Kd.S_N (Kd.S_bound ho0)) (fun k_ hk_ => ⟨(Kd.fresh' (Kd.R_lt (by (with_reducible repeat (first | apply Kd.R_alloc | apply Kd.R_drewN | apply Kd.R_drew)); exact HO366.out)) k_ hk_.2.1), (Kd.fresh' (Kd.R_lt (by (with_reducible repeat (first | apply Kd.R_alloc | apply Kd.R_drewN | apply Kd.R_drew)); exact HO370.out)) k_ hk_.2.1), (Kd.fresh' (Kd.R_lt (by (with_reducible repeat (first | apply Kd.R_alloc | apply Kd.R_drewN | apply Kd.R_drew)); exact HO374.out)) k_ hk_.2.1)⟩)) (below_size (by repeat (first | (with_reducible first | exact HB.out | apply below_alloc | apply pw_below_drewN | apply below_drew1) | exact HB.out)))); have n4_ := Aside0.mk (below_step (by repeat (first | (with_reducible first | exact HB.out | apply below_alloc | apply pw_below_drewN | apply below_drew1) | exact HB.out)) hb); clear HO366; clear HO370; clear HO374; clear HB; have HO366 := n0_; have HO370 := n1_; have HO374 := n2_; have HO380 := n3_; have HB := n4_; clear n0_ n1_ n2_ n3_ n4_; (try clear hb); (try clear hb2); (try clear hk); (try clear hi); (try clear ho0)) | (go_at_call 16; (with_reducible refine (swageref18_Cycles.calls k _ _ l0 t381 _ ?side1 ?side2 A17.out).mono ?_); (case side1 => repeat (first | exact (Kd.C_below HR0.out HB.out) | (with_reducible refine Kd.C_alloc ?_ _) | (with_reducible refine Kd.C_drewN ?_ _) | (with_reducible refine Kd.C_drew ?_))); (case side2 => exact HC0.out); rintro e w46 ⟨v382, rfl, ho0, hb⟩; have n0_ := Aside0.mk (Kd.R_below (by (with_reducible repeat (first | apply Kd.R_alloc | apply Kd.R_drewN | apply Kd.R_drew)); exact HO366.out) hb); have n1_ := Aside0.mk (Kd.R_below (by (with_reducible repeat (first | apply Kd.R_alloc | apply Kd.R_drewN | apply Kd.R_drew)); exact HO370.out) hb); have n2_ := Aside0.mk (Kd.R_below (by (with_reducible repeat (first | apply Kd.R_alloc | apply Kd.R_drewN | apply Kd.R_drew)); exact HO374.out) hb); have n3_ := Aside0.mk (Kd.N_elder' (by (with_reducible repeat (first | apply Kd.N_alloc | apply Kd.N_drewN | apply Kd.N_drew)); exact HO380.out) (Kd.N_base ho0) hb); have n4_ := Aside0.mk (Kd.N_lower (Kd.N_mono (ok' := fun k_ => some k_ ≠ (.slice Ao39 y364.length co39 : Value).ownBlock ∧ some k_ ≠ (.slice Ao42 t367.length co42 : Value).ownBlock ∧ some k_ ≠ (.slice Ao43 t371.length co43 : Value).ownBlock ∧ some k_ ≠ (v379 : Value).ownBlock) ho0 (fun k_ hk_ => ⟨(Kd.fresh' (Kd.R_lt (by (with_reducible repeat (first | apply Kd.R_alloc | apply Kd.R_drewN | apply Kd.R_drew)); exact HO366.out)) k_ hk_), (Kd.fresh' (Kd.R_lt (by (with_reducible repeat (first | apply Kd.R_alloc | apply Kd.R_drewN | apply Kd.R_drew)); exact HO370.out)) k_ hk_), (Kd.fresh' (Kd.R_lt (by (with_reducible repeat (first | apply Kd.R_alloc | apply Kd.R_drewN | apply Kd.R_drew)); exact HO374.out)) k_ hk_), (Kd.fresh' (Kd.N_lt (by (with_reducible repeat (first | apply Kd.N_alloc | apply Kd.N_drewN | apply Kd.N_drew)); exact HO380.out)) k_ hk_)⟩)) (below_size (by repeat (first | (with_reducible first | exact HB.out | apply below_alloc | apply pw_below_drewN | apply below_drew1) | exact HB.out)))); have n5_ := Aside0.mk (below_step (by repeat (first | (with_reducible first | exact HB.out | apply below_alloc | apply pw_below_drewN | apply below_drew1) | exact HB.out)) hb); clear HO366; clear HO370; clear HO374; clear HO380; clear HB; have HO366 := n0_; have HO370 := n1_; have HO374 := n2_; have HO380 := n3_; have HO383 := n4_; have HB := n5_; clear n0_ n1_ n2_ n3_ n4_ n5_; (try clear hb); (try clear hb2); (try clear hk); (try clear hi); (try clear ho0); obtain ⟨Ao47, co47, eo47⟩ := Kd.N_slice HO380.out; subst eo47; obtain ⟨Ao48, co48, eo48⟩ := Kd.N_slice HO383.out; subst eo48) | (go_at_call 14; (with_reducible refine (swageref06_Rows.calls k _ _ t378 _ _ t381 false _ ?side1 ?side2 ?side3 ?side4 A18.out).mono ?_); (case side1 => repeat (first | exact (Kd.N_reads' HO380.out).2.2 | (with_reducible refine Kd.C_alloc ?_ _) | (with_reducible refine Kd.C_drewN ?_ _) | (with_reducible refine Kd.C_drew ?_))); (case side2 => exact (Kd.N_reads' HO380.out).2.1); (case side3 => repeat (first | exact (Kd.N_reads' HO383.out).2.2 | (with_reducible refine Kd.C_alloc ?_ _) | (with_reducible refine Kd.C_drewN ?_ _) | (with_reducible refine Kd.C_drew ?_))); (case side4 => exact (Kd.N_reads' HO383.out).2.1); rintro e w' ⟨rfl, ⟨nd, rfl⟩⟩))
                go_ret
                exact ⟨by first | rfl | (simp [errW_none, errW_some] <;> rfl) | (simp [*, errW_none, errW_some] <;> rfl), by repeat (first | (with_reducible first | exact HB.out | apply below_alloc | apply pw_below_drewN | apply below_drew1) | exact HB.out)⟩
            · rw [if_neg c15] at H
              have c15b0 : (t376 == t377) = false := by simpa using c15
              (try (have c15b1 : decide (t376 = t377) = false := by simpa using c15))
              (try (have c15b2 : (t376 == t377) = false := by simpa using c15))
              (try (have c15b3 : ¬ (t376 = t377) := by simpa using c15))
              clear c15
              obtain rfl := Option.some.inj H
              go_enter Try.func3, Try.ntmps3
              go_wp2_with (first | ((with_reducible refine gate_callee (f := 8) rfl ?_); refine goesL_ (some 11) rfl rfl Try.func8 (by kernel_rfl) rfl #[] rfl (by (try simp only [List.map_toArray, List.map_cons, List.map_nil]); first | done | rfl | (simp only [List.length_drop, List.length_take]; rfl)) ?_; (with_reducible refine (swagelaw18_small.calls  true _ A3.out).mono ?_); rintro e w49 ⟨rfl, hb⟩; refine ⟨_, rfl, ?_⟩; have n0_ := Aside0.mk (below_step (by repeat (first | (with_reducible first | exact HB.out | apply below_alloc | apply pw_below_drewN | apply below_drew1) | exact HB.out)) hb); clear HB; have HB := n0_; clear n0_; (try clear hb); (try clear hb2); (try clear hk); (try clear hi)) | ((with_reducible refine gate_dst (N := 16) rfl ?_); refine Kd.R_lit k38 _ 38 ?hg (N := 16) ?hd (xs := ([] : List (S38))) (inner := []) (ok := fun _ => True) (okp := fun _ => True) ?hr ?hp (fun _ hk => hk) trivial (Below.refl _ _) (Nat.le_refl _) (by simp) ?_; (case hd => rfl); (case hg => rfl); (case hr => first | (go_simp; done) | (go_simp; rfl)); (case hp => exact (Reps.none _ _)); intro v362 w50 ho51 hb hg_ hnew_; clear hg_ hnew_; (first | rw [← Ny361.out] at ho51 | (simp only [Int.reduceToNat] at ho51; rw [← Ny361.out] at ho51)); have n0_ := Aside0.mk (Kd.R_lower ho51 (below_size (by repeat (first | (with_reducible first | exact HB.out | apply below_alloc | apply pw_below_drewN | apply below_drew1) | exact HB.out)))); have n1_ := Aside0.mk (below_step (by repeat (first | (with_reducible first | exact HB.out | apply below_alloc | apply pw_below_drewN | apply below_drew1) | exact HB.out)) hb); clear HB; have HO363 := n0_; have HB := n1_; clear n0_ n1_; clear hb ho51) | ((with_reducible refine gate_builtin (b := .append) (xs := #[.tmp 16, .tmp 17]) rfl ?_); at_builtin; refine Kd.R_append_rows k38 (w0 := w) w.heap.size rfl (.tmp 16) (.tmp 17) 22 38 (.agg #[(.int .i64 0), (.int .i64 0)]) 16 rfl Try.underlying22 info38 rfl (by decide) (by omega) v362 y361 l0 _ _ _ (fun _ => True) (fun _ => False) rfl rfl ?aO ?aR (fun _ _ h => h) (fun _ h => h.elim) ?aF ?aB ?aS ?aL ?_; (case aR => repeat (first | exact (Kd.C_below HR0.out HB.out) | (with_reducible refine Kd.C_alloc ?_ _) | (with_reducible refine Kd.C_drewN ?_ _) | (with_reducible refine Kd.C_drew ?_))); (case aB => exact (by repeat (first | (with_reducible first | exact HB.out | apply below_alloc | apply pw_below_drewN | apply below_drew1) | exact HB.out))); (case aF => exact (fun _ _ => trivial)); (case aO => exact (by (with_reducible repeat (first | apply Kd.R_alloc | apply Kd.R_drewN | apply Kd.R_drew)); exact HO363.out)); (case aS => exact (below_size (by repeat (first | (with_reducible first | exact HB.out | apply below_alloc | apply pw_below_drewN | apply below_drew1) | exact HB.out)))); (case aL => have := LMc6.out; omega); intro v365 w52 ho hb hg hat; rw [← Ny364.out] at ho; have n0_ := Aside0.mk (hb); have n1_ := Aside0.mk (ho); clear HB; clear HO363; have HB := n0_; have HO366 := n1_; clear n0_ n1_; clear ho hb hg hat; obtain ⟨Ao53, co53, eo53⟩ := Kd.R_slice HO366.out; subst eo53) | ((with_reducible refine gate_callee (f := 9) rfl ?_); refine goesL_ (some 22) rfl rfl Try.func9 (by kernel_rfl) rfl #[.slice Ao53 y364.length co53, .int .i64 a1] rfl (by (try simp only [List.map_toArray, List.map_cons, List.map_nil]); first | done | rfl | (simp only [List.length_drop, List.length_take]; rfl)) ?_; (with_reducible refine (moves_Order.calls _ _ y364 a1 t367 t368 _ ?side1 ?side2 A7.out).mono ?_); (case side1 => repeat (first | exact (Kd.R_reads' HO366.out).2.2 | (with_reducible refine Kd.C_alloc ?_ _) | (with_reducible refine Kd.C_drewN ?_ _) | (with_reducible refine Kd.C_drew ?_))); (case side2 => exact (Kd.R_reads' HO366.out).2.1); rintro e w54 ⟨v369, rfl, ho0, hb⟩; refine ⟨_, rfl, ?_⟩; have n0_ := Aside0.mk (Kd.R_elder' (by (with_reducible repeat (first | apply Kd.R_alloc | apply Kd.R_drewN | apply Kd.R_drew)); exact HO366.out) (Kd.R_base ho0) hb); have n1_ := Aside0.mk (Kd.R_lower (Kd.R_new' ho0 (Kd.R_lt (by (with_reducible repeat (first | apply Kd.R_alloc | apply Kd.R_drewN | apply Kd.R_drew)); exact HO366.out))) (below_size (by repeat (first | (with_reducible first | exact HB.out | apply below_alloc | apply pw_below_drewN | apply below_drew1) | exact HB.out)))); have n2_ := Aside0.mk (below_step (by repeat (first | (with_reducible first | exact HB.out | apply below_alloc | apply pw_below_drewN | apply below_drew1) | exact HB.out)) hb); clear HO366; clear HB; have HO366 := n0_; have HO370 := n1_; have HB := n2_; clear n0_ n1_ n2_; (try clear hb); (try clear hb2); (try clear hk); (try clear hi); (try clear ho0)) | ((with_reducible refine gate_callee (f := 10) rfl ?_); refine goesL_ (some 28) rfl rfl Try.func10 (by kernel_rfl) rfl #[.slice A0 l0.length c0, .int .i64 a1] rfl (by (try simp only [List.map_toArray, List.map_cons, List.map_nil]); first | done | rfl | (simp only [List.length_drop, List.length_take]; rfl)) ?_; (with_reducible refine (swageref18_Order.calls k _ _ l0 a1 t371 t372 _ ?side1 ?side2 A8.out).mono ?_); (case side1 => repeat (first | exact (Kd.C_below HR0.out HB.out) | (with_reducible refine Kd.C_alloc ?_ _) | (with_reducible refine Kd.C_drewN ?_ _) | (with_reducible refine Kd.C_drew ?_))); (case side2 => exact HC0.out); rintro e w55 ⟨v373, rfl, ho0, hb⟩; refine ⟨_, rfl, ?_⟩; have n0_ := Aside0.mk (Kd.R_elder' (by (with_reducible repeat (first | apply Kd.R_alloc | apply Kd.R_drewN | apply Kd.R_drew)); exact HO366.out) (Kd.R_base ho0) hb); have n1_ := Aside0.mk (Kd.R_elder' (by (with_reducible repeat (first | apply Kd.R_alloc | apply Kd.R_drewN | apply Kd.R_drew)); exact HO370.out) (Kd.R_base ho0) hb); have n2_ := Aside0.mk (Kd.R_lower (Kd.R_new' (Kd.R_new' ho0 (Kd.R_lt (by (with_reducible repeat (first | apply Kd.R_alloc | apply Kd.R_drewN | apply Kd.R_drew)); exact HO366.out))) (Kd.R_lt (by (with_reducible repeat (first | apply Kd.R_alloc | apply Kd.R_drewN | apply Kd.R_drew)); exact HO370.out))) (below_size (by repeat (first | (with_reducible first | exact HB.out | apply below_alloc | apply pw_below_drewN | apply below_drew1) | exact HB.out)))); have n3_ := Aside0.mk (below_step (by repeat (first | (with_reducible first | exact HB.out | apply below_alloc | apply pw_below_drewN | apply below_drew1) | exact HB.out)) hb); clear HO366; clear HO370; clear HB; have HO366 := n0_; have HO370 := n1_; have HO374 := n2_; have HB := n3_; clear n0_ n1_ n2_ n3_; (try clear hb); (try clear hb2); (try clear hk); (try clear hi); (try clear ho0); obtain ⟨Ao56, co56, eo56⟩ := Kd.R_slice HO370.out; subst eo56; obtain ⟨Ao57, co57, eo57⟩ := Kd.R_slice HO374.out; subst eo57) | (go_at_call 11; (with_reducible refine (swageref18_Same.calls k _ _ t367 _ _ t371 true _ ?side1 ?side2 ?side3 ?side4 A10.out).mono ?_); (case side1 => repeat (first | exact (Kd.R_reads' HO370.out).2.2 | (with_reducible refine Kd.C_alloc ?_ _) | (with_reducible refine Kd.C_drewN ?_ _) | (with_reducible refine Kd.C_drew ?_))); (case side2 => exact (Kd.R_reads' HO370.out).2.1); (case side3 => repeat (first | exact (Kd.R_reads' HO374.out).2.2 | (with_reducible refine Kd.C_alloc ?_ _) | (with_reducible refine Kd.C_drewN ?_ _) | (with_reducible refine Kd.C_drew ?_))); (case side4 => exact (Kd.R_reads' HO374.out).2.1); rintro e w' ⟨rfl, ⟨nd, rfl⟩⟩) | (go_at_call 12; (with_reducible refine (moves_Right.calls _ _ y364 t376 _ ?side1 ?side2 A13.out).mono ?_); (case side1 => repeat (first | exact (Kd.R_reads' HO366.out).2.2 | (with_reducible refine Kd.C_alloc ?_ _) | (with_reducible refine Kd.C_drewN ?_ _) | (with_reducible refine Kd.C_drew ?_))); (case side2 => exact (Kd.R_reads' HO366.out).2.1); rintro e w58 ⟨rfl, hb⟩; have n0_ := Aside0.mk (Kd.R_below (by (with_reducible repeat (first | apply Kd.R_alloc | apply Kd.R_drewN | apply Kd.R_drew)); exact HO366.out) hb); have n1_ := Aside0.mk (Kd.R_below (by (with_reducible repeat (first | apply Kd.R_alloc | apply Kd.R_drewN | apply Kd.R_drew)); exact HO370.out) hb); have n2_ := Aside0.mk (Kd.R_below (by (with_reducible repeat (first | apply Kd.R_alloc | apply Kd.R_drewN | apply Kd.R_drew)); exact HO374.out) hb); have n3_ := Aside0.mk (below_step (by repeat (first | (with_reducible first | exact HB.out | apply below_alloc | apply pw_below_drewN | apply below_drew1) | exact HB.out)) hb); clear HO366; clear HO370; clear HO374; clear HB; have HO366 := n0_; have HO370 := n1_; have HO374 := n2_; have HB := n3_; clear n0_ n1_ n2_ n3_; (try clear hb); (try clear hb2); (try clear hk); (try clear hi)) | (go_at_call 13; (with_reducible refine (swageref18_Right.calls k _ _ l0 t377 _ ?side1 ?side2 A14.out).mono ?_); (case side1 => repeat (first | exact (Kd.C_below HR0.out HB.out) | (with_reducible refine Kd.C_alloc ?_ _) | (with_reducible refine Kd.C_drewN ?_ _) | (with_reducible refine Kd.C_drew ?_))); (case side2 => exact HC0.out); rintro e w' ⟨rfl, ⟨nd, rfl⟩⟩))
              go_ret
              exact ⟨by first | rfl | (simp [errW_none, errW_some] <;> rfl) | (simp [*, errW_none, errW_some] <;> rfl), by repeat (first | (with_reducible first | exact HB.out | apply below_alloc | apply pw_below_drewN | apply below_drew1) | exact HB.out)⟩
          · rw [if_neg c12] at H
            have c12b0 : (t368 == t372) = false := beq_eq_false_iff_ne.mpr c12
            have c12b1 : (t368 != t372) = true := bne_iff_ne.mpr c12
            obtain rfl := Option.some.inj H
            go_enter Try.func3, Try.ntmps3
            go_wp2_with (first | ((with_reducible refine gate_callee (f := 8) rfl ?_); refine goesL_ (some 11) rfl rfl Try.func8 (by kernel_rfl) rfl #[] rfl (by (try simp only [List.map_toArray, List.map_cons, List.map_nil]); first | done | rfl | (simp only [List.length_drop, List.length_take]; rfl)) ?_; (with_reducible refine (swagelaw18_small.calls  true _ A3.out).mono ?_); rintro e w59 ⟨rfl, hb⟩; refine ⟨_, rfl, ?_⟩; have n0_ := Aside0.mk (below_step (by repeat (first | (with_reducible first | exact HB.out | apply below_alloc | apply pw_below_drewN | apply below_drew1) | exact HB.out)) hb); clear HB; have HB := n0_; clear n0_; (try clear hb); (try clear hb2); (try clear hk); (try clear hi)) | ((with_reducible refine gate_dst (N := 16) rfl ?_); refine Kd.R_lit k38 _ 38 ?hg (N := 16) ?hd (xs := ([] : List (S38))) (inner := []) (ok := fun _ => True) (okp := fun _ => True) ?hr ?hp (fun _ hk => hk) trivial (Below.refl _ _) (Nat.le_refl _) (by simp) ?_; (case hd => rfl); (case hg => rfl); (case hr => first | (go_simp; done) | (go_simp; rfl)); (case hp => exact (Reps.none _ _)); intro v362 w60 ho61 hb hg_ hnew_; clear hg_ hnew_; (first | rw [← Ny361.out] at ho61 | (simp only [Int.reduceToNat] at ho61; rw [← Ny361.out] at ho61)); have n0_ := Aside0.mk (Kd.R_lower ho61 (below_size (by repeat (first | (with_reducible first | exact HB.out | apply below_alloc | apply pw_below_drewN | apply below_drew1) | exact HB.out)))); have n1_ := Aside0.mk (below_step (by repeat (first | (with_reducible first | exact HB.out | apply below_alloc | apply pw_below_drewN | apply below_drew1) | exact HB.out)) hb); clear HB; have HO363 := n0_; have HB := n1_; clear n0_ n1_; clear hb ho61) | ((with_reducible refine gate_builtin (b := .append) (xs := #[.tmp 16, .tmp 17]) rfl ?_); at_builtin; refine Kd.R_append_rows k38 (w0 := w) w.heap.size rfl (.tmp 16) (.tmp 17) 22 38 (.agg #[(.int .i64 0), (.int .i64 0)]) 16 rfl Try.underlying22 info38 rfl (by decide) (by omega) v362 y361 l0 _ _ _ (fun _ => True) (fun _ => False) rfl rfl ?aO ?aR (fun _ _ h => h) (fun _ h => h.elim) ?aF ?aB ?aS ?aL ?_; (case aR => repeat (first | exact (Kd.C_below HR0.out HB.out) | (with_reducible refine Kd.C_alloc ?_ _) | (with_reducible refine Kd.C_drewN ?_ _) | (with_reducible refine Kd.C_drew ?_))); (case aB => exact (by repeat (first | (with_reducible first | exact HB.out | apply below_alloc | apply pw_below_drewN | apply below_drew1) | exact HB.out))); (case aF => exact (fun _ _ => trivial)); (case aO => exact (by (with_reducible repeat (first | apply Kd.R_alloc | apply Kd.R_drewN | apply Kd.R_drew)); exact HO363.out)); (case aS => exact (below_size (by repeat (first | (with_reducible first | exact HB.out | apply below_alloc | apply pw_below_drewN | apply below_drew1) | exact HB.out)))); (case aL => have := LMc6.out; omega); intro v365 w62 ho hb hg hat; rw [← Ny364.out] at ho; have n0_ := Aside0.mk (hb); have n1_ := Aside0.mk (ho); clear HB; clear HO363; have HB := n0_; have HO366 := n1_; clear n0_ n1_; clear ho hb hg hat; obtain ⟨Ao63, co63, eo63⟩ := Kd.R_slice HO366.out; subst eo63) | ((with_reducible refine gate_callee (f := 9) rfl ?_); refine goesL_ (some 22) rfl rfl Try.func9 (by kernel_rfl) rfl #[.slice Ao63 y364.length co63, .int .i64 a1] rfl (by (try simp only [List.map_toArray, List.map_cons, List.map_nil]); first | done | rfl | (simp only [List.length_drop, List.length_take]; rfl)) ?_; (with_reducible refine (moves_Order.calls _ _ y364 a1 t367 t368 _ ?side1 ?side2 A7.out).mono ?_); (case side1 => repeat (first | exact (Kd.R_reads' HO366.out).2.2 | (with_reducible refine Kd.C_alloc ?_ _) | (with_reducible refine Kd.C_drewN ?_ _) | (with_reducible refine Kd.C_drew ?_))); (case side2 => exact (Kd.R_reads' HO366.out).2.1); rintro e w64 ⟨v369, rfl, ho0, hb⟩; refine ⟨_, rfl, ?_⟩; have n0_ := Aside0.mk (Kd.R_elder' (by (with_reducible repeat (first | apply Kd.R_alloc | apply Kd.R_drewN | apply Kd.R_drew)); exact HO366.out) (Kd.R_base ho0) hb); have n1_ := Aside0.mk (Kd.R_lower (Kd.R_new' ho0 (Kd.R_lt (by (with_reducible repeat (first | apply Kd.R_alloc | apply Kd.R_drewN | apply Kd.R_drew)); exact HO366.out))) (below_size (by repeat (first | (with_reducible first | exact HB.out | apply below_alloc | apply pw_below_drewN | apply below_drew1) | exact HB.out)))); have n2_ := Aside0.mk (below_step (by repeat (first | (with_reducible first | exact HB.out | apply below_alloc | apply pw_below_drewN | apply below_drew1) | exact HB.out)) hb); clear HO366; clear HB; have HO366 := n0_; have HO370 := n1_; have HB := n2_; clear n0_ n1_ n2_; (try clear hb); (try clear hb2); (try clear hk); (try clear hi); (try clear ho0)) | ((with_reducible refine gate_callee (f := 10) rfl ?_); refine goesL_ (some 28) rfl rfl Try.func10 (by kernel_rfl) rfl #[.slice A0 l0.length c0, .int .i64 a1] rfl (by (try simp only [List.map_toArray, List.map_cons, List.map_nil]); first | done | rfl | (simp only [List.length_drop, List.length_take]; rfl)) ?_; (with_reducible refine (swageref18_Order.calls k _ _ l0 a1 t371 t372 _ ?side1 ?side2 A8.out).mono ?_); (case side1 => repeat (first | exact (Kd.C_below HR0.out HB.out) | (with_reducible refine Kd.C_alloc ?_ _) | (with_reducible refine Kd.C_drewN ?_ _) | (with_reducible refine Kd.C_drew ?_))); (case side2 => exact HC0.out); rintro e w65 ⟨v373, rfl, ho0, hb⟩; refine ⟨_, rfl, ?_⟩; have n0_ := Aside0.mk (Kd.R_elder' (by (with_reducible repeat (first | apply Kd.R_alloc | apply Kd.R_drewN | apply Kd.R_drew)); exact HO366.out) (Kd.R_base ho0) hb); have n1_ := Aside0.mk (Kd.R_elder' (by (with_reducible repeat (first | apply Kd.R_alloc | apply Kd.R_drewN | apply Kd.R_drew)); exact HO370.out) (Kd.R_base ho0) hb); have n2_ := Aside0.mk (Kd.R_lower (Kd.R_new' (Kd.R_new' ho0 (Kd.R_lt (by (with_reducible repeat (first | apply Kd.R_alloc | apply Kd.R_drewN | apply Kd.R_drew)); exact HO366.out))) (Kd.R_lt (by (with_reducible repeat (first | apply Kd.R_alloc | apply Kd.R_drewN | apply Kd.R_drew)); exact HO370.out))) (below_size (by repeat (first | (with_reducible first | exact HB.out | apply below_alloc | apply pw_below_drewN | apply below_drew1) | exact HB.out)))); have n3_ := Aside0.mk (below_step (by repeat (first | (with_reducible first | exact HB.out | apply below_alloc | apply pw_below_drewN | apply below_drew1) | exact HB.out)) hb); clear HO366; clear HO370; clear HB; have HO366 := n0_; have HO370 := n1_; have HO374 := n2_; have HB := n3_; clear n0_ n1_ n2_ n3_; (try clear hb); (try clear hb2); (try clear hk); (try clear hi); (try clear ho0); obtain ⟨Ao66, co66, eo66⟩ := Kd.R_slice HO370.out; subst eo66; obtain ⟨Ao67, co67, eo67⟩ := Kd.R_slice HO374.out; subst eo67) | (go_at_call 11; (with_reducible refine (swageref18_Same.calls k _ _ t367 _ _ t371 true _ ?side1 ?side2 ?side3 ?side4 A10.out).mono ?_); (case side1 => repeat (first | exact (Kd.R_reads' HO370.out).2.2 | (with_reducible refine Kd.C_alloc ?_ _) | (with_reducible refine Kd.C_drewN ?_ _) | (with_reducible refine Kd.C_drew ?_))); (case side2 => exact (Kd.R_reads' HO370.out).2.1); (case side3 => repeat (first | exact (Kd.R_reads' HO374.out).2.2 | (with_reducible refine Kd.C_alloc ?_ _) | (with_reducible refine Kd.C_drewN ?_ _) | (with_reducible refine Kd.C_drew ?_))); (case side4 => exact (Kd.R_reads' HO374.out).2.1); rintro e w' ⟨rfl, ⟨nd, rfl⟩⟩))
            go_ret
            exact ⟨by first | rfl | (simp [errW_none, errW_some] <;> rfl) | (simp [*, errW_none, errW_some] <;> rfl), by repeat (first | (with_reducible first | exact HB.out | apply below_alloc | apply pw_below_drewN | apply below_drew1) | exact HB.out)⟩
        · replace c11 := Bool.eq_false_iff.mpr c11
          subst c11
          have H1 : (some false) = some r := by rw [if_neg (show ¬ (false = true) by decide)] at H; exact H
          clear H
          have H := H1
          clear H1
          obtain rfl := Option.some.inj H
          go_enter Try.func3, Try.ntmps3
          go_wp2_with (first | ((with_reducible refine gate_callee (f := 8) rfl ?_); refine goesL_ (some 11) rfl rfl Try.func8 (by kernel_rfl) rfl #[] rfl (by (try simp only [List.map_toArray, List.map_cons, List.map_nil]); first | done | rfl | (simp only [List.length_drop, List.length_take]; rfl)) ?_; (with_reducible refine (swagelaw18_small.calls  true _ A3.out).mono ?_); rintro e w68 ⟨rfl, hb⟩; refine ⟨_, rfl, ?_⟩; have n0_ := Aside0.mk (below_step (by repeat (first | (with_reducible first | exact HB.out | apply below_alloc | apply pw_below_drewN | apply below_drew1) | exact HB.out)) hb); clear HB; have HB := n0_; clear n0_; (try clear hb); (try clear hb2); (try clear hk); (try clear hi)) | ((with_reducible refine gate_dst (N := 16) rfl ?_); refine Kd.R_lit k38 _ 38 ?hg (N := 16) ?hd (xs := ([] : List (S38))) (inner := []) (ok := fun _ => True) (okp := fun _ => True) ?hr ?hp (fun _ hk => hk) trivial (Below.refl _ _) (Nat.le_refl _) (by simp) ?_; (case hd => rfl); (case hg => rfl); (case hr => first | (go_simp; done) | (go_simp; rfl)); (case hp => exact (Reps.none _ _)); intro v362 w69 ho70 hb hg_ hnew_; clear hg_ hnew_; (first | rw [← Ny361.out] at ho70 | (simp only [Int.reduceToNat] at ho70; rw [← Ny361.out] at ho70)); have n0_ := Aside0.mk (Kd.R_lower ho70 (below_size (by repeat (first | (with_reducible first | exact HB.out | apply below_alloc | apply pw_below_drewN | apply below_drew1) | exact HB.out)))); have n1_ := Aside0.mk (below_step (by repeat (first | (with_reducible first | exact HB.out | apply below_alloc | apply pw_below_drewN | apply below_drew1) | exact HB.out)) hb); clear HB; have HO363 := n0_; have HB := n1_; clear n0_ n1_; clear hb ho70) | ((with_reducible refine gate_builtin (b := .append) (xs := #[.tmp 16, .tmp 17]) rfl ?_); at_builtin; refine Kd.R_append_rows k38 (w0 := w) w.heap.size rfl (.tmp 16) (.tmp 17) 22 38 (.agg #[(.int .i64 0), (.int .i64 0)]) 16 rfl Try.underlying22 info38 rfl (by decide) (by omega) v362 y361 l0 _ _ _ (fun _ => True) (fun _ => False) rfl rfl ?aO ?aR (fun _ _ h => h) (fun _ h => h.elim) ?aF ?aB ?aS ?aL ?_; (case aR => repeat (first | exact (Kd.C_below HR0.out HB.out) | (with_reducible refine Kd.C_alloc ?_ _) | (with_reducible refine Kd.C_drewN ?_ _) | (with_reducible refine Kd.C_drew ?_))); (case aB => exact (by repeat (first | (with_reducible first | exact HB.out | apply below_alloc | apply pw_below_drewN | apply below_drew1) | exact HB.out))); (case aF => exact (fun _ _ => trivial)); (case aO => exact (by (with_reducible repeat (first | apply Kd.R_alloc | apply Kd.R_drewN | apply Kd.R_drew)); exact HO363.out)); (case aS => exact (below_size (by repeat (first | (with_reducible first | exact HB.out | apply below_alloc | apply pw_below_drewN | apply below_drew1) | exact HB.out)))); (case aL => have := LMc6.out; omega); intro v365 w71 ho hb hg hat; rw [← Ny364.out] at ho; have n0_ := Aside0.mk (hb); have n1_ := Aside0.mk (ho); clear HB; clear HO363; have HB := n0_; have HO366 := n1_; clear n0_ n1_; clear ho hb hg hat; obtain ⟨Ao72, co72, eo72⟩ := Kd.R_slice HO366.out; subst eo72) | ((with_reducible refine gate_callee (f := 9) rfl ?_); refine goesL_ (some 22) rfl rfl Try.func9 (by kernel_rfl) rfl #[.slice Ao72 y364.length co72, .int .i64 a1] rfl (by (try simp only [List.map_toArray, List.map_cons, List.map_nil]); first | done | rfl | (simp only [List.length_drop, List.length_take]; rfl)) ?_; (with_reducible refine (moves_Order.calls _ _ y364 a1 t367 t368 _ ?side1 ?side2 A7.out).mono ?_); (case side1 => repeat (first | exact (Kd.R_reads' HO366.out).2.2 | (with_reducible refine Kd.C_alloc ?_ _) | (with_reducible refine Kd.C_drewN ?_ _) | (with_reducible refine Kd.C_drew ?_))); (case side2 => exact (Kd.R_reads' HO366.out).2.1); rintro e w73 ⟨v369, rfl, ho0, hb⟩; refine ⟨_, rfl, ?_⟩; have n0_ := Aside0.mk (Kd.R_elder' (by (with_reducible repeat (first | apply Kd.R_alloc | apply Kd.R_drewN | apply Kd.R_drew)); exact HO366.out) (Kd.R_base ho0) hb); have n1_ := Aside0.mk (Kd.R_lower (Kd.R_new' ho0 (Kd.R_lt (by (with_reducible repeat (first | apply Kd.R_alloc | apply Kd.R_drewN | apply Kd.R_drew)); exact HO366.out))) (below_size (by repeat (first | (with_reducible first | exact HB.out | apply below_alloc | apply pw_below_drewN | apply below_drew1) | exact HB.out)))); have n2_ := Aside0.mk (below_step (by repeat (first | (with_reducible first | exact HB.out | apply below_alloc | apply pw_below_drewN | apply below_drew1) | exact HB.out)) hb); clear HO366; clear HB; have HO366 := n0_; have HO370 := n1_; have HB := n2_; clear n0_ n1_ n2_; (try clear hb); (try clear hb2); (try clear hk); (try clear hi); (try clear ho0)) | ((with_reducible refine gate_callee (f := 10) rfl ?_); refine goesL_ (some 28) rfl rfl Try.func10 (by kernel_rfl) rfl #[.slice A0 l0.length c0, .int .i64 a1] rfl (by (try simp only [List.map_toArray, List.map_cons, List.map_nil]); first | done | rfl | (simp only [List.length_drop, List.length_take]; rfl)) ?_; (with_reducible refine (swageref18_Order.calls k _ _ l0 a1 t371 t372 _ ?side1 ?side2 A8.out).mono ?_); (case side1 => repeat (first | exact (Kd.C_below HR0.out HB.out) | (with_reducible refine Kd.C_alloc ?_ _) | (with_reducible refine Kd.C_drewN ?_ _) | (with_reducible refine Kd.C_drew ?_))); (case side2 => exact HC0.out); rintro e w74 ⟨v373, rfl, ho0, hb⟩; refine ⟨_, rfl, ?_⟩; have n0_ := Aside0.mk (Kd.R_elder' (by (with_reducible repeat (first | apply Kd.R_alloc | apply Kd.R_drewN | apply Kd.R_drew)); exact HO366.out) (Kd.R_base ho0) hb); have n1_ := Aside0.mk (Kd.R_elder' (by (with_reducible repeat (first | apply Kd.R_alloc | apply Kd.R_drewN | apply Kd.R_drew)); exact HO370.out) (Kd.R_base ho0) hb); have n2_ := Aside0.mk (Kd.R_lower (Kd.R_new' (Kd.R_new' ho0 (Kd.R_lt (by (with_reducible repeat (first | apply Kd.R_alloc | apply Kd.R_drewN | apply Kd.R_drew)); exact HO366.out))) (Kd.R_lt (by (with_reducible repeat (first | apply Kd.R_alloc | apply Kd.R_drewN | apply Kd.R_drew)); exact HO370.out))) (below_size (by repeat (first | (with_reducible first | exact HB.out | apply below_alloc | apply pw_below_drewN | apply below_drew1) | exact HB.out)))); have n3_ := Aside0.mk (below_step (by repeat (first | (with_reducible first | exact HB.out | apply below_alloc | apply pw_below_drewN | apply below_drew1) | exact HB.out)) hb); clear HO366; clear HO370; clear HB; have HO366 := n0_; have HO370 := n1_; have HO374 := n2_; have HB := n3_; clear n0_ n1_ n2_ n3_; (try clear hb); (try clear hb2); (try clear hk); (try clear hi); (try clear ho0); obtain ⟨Ao75, co75, eo75⟩ := Kd.R_slice HO370.out; subst eo75; obtain ⟨Ao76, co76, eo76⟩ := Kd.R_slice HO374.out; subst eo76) | (go_at_call 11; (with_reducible refine (swageref18_Same.calls k _ _ t367 _ _ t371 false _ ?side1 ?side2 ?side3 ?side4 A10.out).mono ?_); (case side1 => repeat (first | exact (Kd.R_reads' HO370.out).2.2 | (with_reducible refine Kd.C_alloc ?_ _) | (with_reducible refine Kd.C_drewN ?_ _) | (with_reducible refine Kd.C_drew ?_))); (case side2 => exact (Kd.R_reads' HO370.out).2.1); (case side3 => repeat (first | exact (Kd.R_reads' HO374.out).2.2 | (with_reducible refine Kd.C_alloc ?_ _) | (with_reducible refine Kd.C_drewN ?_ _) | (with_reducible refine Kd.C_drew ?_))); (case side4 => exact (Kd.R_reads' HO374.out).2.1); rintro e w' ⟨rfl, ⟨nd, rfl⟩⟩))
          go_ret
          exact ⟨by first | rfl | (simp [errW_none, errW_some] <;> rfl) | (simp [*, errW_none, errW_some] <;> rfl), by repeat (first | (with_reducible first | exact HB.out | apply below_alloc | apply pw_below_drewN | apply below_drew1) | exact HB.out)⟩
      · replace c9 := Bool.eq_false_iff.mpr c9
        subst c9
        have H1 : (some false) = some r := by rw [if_neg (show ¬ (false = true) by decide)] at H; exact H
        clear H
        have H := H1
        clear H1
        obtain rfl := Option.some.inj H
        go_enter Try.func3, Try.ntmps3
        go_wp2_with (first | ((with_reducible refine gate_callee (f := 8) rfl ?_); refine goesL_ (some 11) rfl rfl Try.func8 (by kernel_rfl) rfl #[] rfl (by (try simp only [List.map_toArray, List.map_cons, List.map_nil]); first | done | rfl | (simp only [List.length_drop, List.length_take]; rfl)) ?_; (with_reducible refine (swagelaw18_small.calls  false _ A3.out).mono ?_); rintro e w77 ⟨rfl, hb⟩; refine ⟨_, rfl, ?_⟩; have n0_ := Aside0.mk (below_step (by repeat (first | (with_reducible first | exact HB.out | apply below_alloc | apply pw_below_drewN | apply below_drew1) | exact HB.out)) hb); clear HB; have HB := n0_; clear n0_; (try clear hb); (try clear hb2); (try clear hk); (try clear hi)) | ((with_reducible refine gate_dst (N := 16) rfl ?_); refine Kd.R_lit k38 _ 38 ?hg (N := 16) ?hd (xs := ([] : List (S38))) (inner := []) (ok := fun _ => True) (okp := fun _ => True) ?hr ?hp (fun _ hk => hk) trivial (Below.refl _ _) (Nat.le_refl _) (by simp) ?_; (case hd => rfl); (case hg => rfl); (case hr => first | (go_simp; done) | (go_simp; rfl)); (case hp => exact (Reps.none _ _)); intro v362 w78 ho79 hb hg_ hnew_; clear hg_ hnew_; (first | rw [← Ny361.out] at ho79 | (simp only [Int.reduceToNat] at ho79; rw [← Ny361.out] at ho79)); have n0_ := Aside0.mk (Kd.R_lower ho79 (below_size (by repeat (first | (with_reducible first | exact HB.out | apply below_alloc | apply pw_below_drewN | apply below_drew1) | exact HB.out)))); have n1_ := Aside0.mk (below_step (by repeat (first | (with_reducible first | exact HB.out | apply below_alloc | apply pw_below_drewN | apply below_drew1) | exact HB.out)) hb); clear HB; have HO363 := n0_; have HB := n1_; clear n0_ n1_; clear hb ho79) | ((with_reducible refine gate_builtin (b := .append) (xs := #[.tmp 16, .tmp 17]) rfl ?_); at_builtin; refine Kd.R_append_rows k38 (w0 := w) w.heap.size rfl (.tmp 16) (.tmp 17) 22 38 (.agg #[(.int .i64 0), (.int .i64 0)]) 16 rfl Try.underlying22 info38 rfl (by decide) (by omega) v362 y361 l0 _ _ _ (fun _ => True) (fun _ => False) rfl rfl ?aO ?aR (fun _ _ h => h) (fun _ h => h.elim) ?aF ?aB ?aS ?aL ?_; (case aR => repeat (first | exact (Kd.C_below HR0.out HB.out) | (with_reducible refine Kd.C_alloc ?_ _) | (with_reducible refine Kd.C_drewN ?_ _) | (with_reducible refine Kd.C_drew ?_))); (case aB => exact (by repeat (first | (with_reducible first | exact HB.out | apply below_alloc | apply pw_below_drewN | apply below_drew1) | exact HB.out))); (case aF => exact (fun _ _ => trivial)); (case aO => exact (by (with_reducible repeat (first | apply Kd.R_alloc | apply Kd.R_drewN | apply Kd.R_drew)); exact HO363.out)); (case aS => exact (below_size (by repeat (first | (with_reducible first | exact HB.out | apply below_alloc | apply pw_below_drewN | apply below_drew1) | exact HB.out)))); (case aL => have := LMc6.out; omega); intro v365 w80 ho hb hg hat; rw [← Ny364.out] at ho; have n0_ := Aside0.mk (hb); have n1_ := Aside0.mk (ho); clear HB; clear HO363; have HB := n0_; have HO366 := n1_; clear n0_ n1_; clear ho hb hg hat; obtain ⟨Ao81, co81, eo81⟩ := Kd.R_slice HO366.out; subst eo81) | ((with_reducible refine gate_callee (f := 9) rfl ?_); refine goesL_ (some 22) rfl rfl Try.func9 (by kernel_rfl) rfl #[.slice Ao81 y364.length co81, .int .i64 a1] rfl (by (try simp only [List.map_toArray, List.map_cons, List.map_nil]); first | done | rfl | (simp only [List.length_drop, List.length_take]; rfl)) ?_; (with_reducible refine (moves_Order.calls _ _ y364 a1 t367 t368 _ ?side1 ?side2 A7.out).mono ?_); (case side1 => repeat (first | exact (Kd.R_reads' HO366.out).2.2 | (with_reducible refine Kd.C_alloc ?_ _) | (with_reducible refine Kd.C_drewN ?_ _) | (with_reducible refine Kd.C_drew ?_))); (case side2 => exact (Kd.R_reads' HO366.out).2.1); rintro e w82 ⟨v369, rfl, ho0, hb⟩; refine ⟨_, rfl, ?_⟩; have n0_ := Aside0.mk (Kd.R_elder' (by (with_reducible repeat (first | apply Kd.R_alloc | apply Kd.R_drewN | apply Kd.R_drew)); exact HO366.out) (Kd.R_base ho0) hb); have n1_ := Aside0.mk (Kd.R_lower (Kd.R_new' ho0 (Kd.R_lt (by (with_reducible repeat (first | apply Kd.R_alloc | apply Kd.R_drewN | apply Kd.R_drew)); exact HO366.out))) (below_size (by repeat (first | (with_reducible first | exact HB.out | apply below_alloc | apply pw_below_drewN | apply below_drew1) | exact HB.out)))); have n2_ := Aside0.mk (below_step (by repeat (first | (with_reducible first | exact HB.out | apply below_alloc | apply pw_below_drewN | apply below_drew1) | exact HB.out)) hb); clear HO366; clear HB; have HO366 := n0_; have HO370 := n1_; have HB := n2_; clear n0_ n1_ n2_; (try clear hb); (try clear hb2); (try clear hk); (try clear hi); (try clear ho0)) | ((with_reducible refine gate_callee (f := 10) rfl ?_); refine goesL_ (some 28) rfl rfl Try.func10 (by kernel_rfl) rfl #[.slice A0 l0.length c0, .int .i64 a1] rfl (by (try simp only [List.map_toArray, List.map_cons, List.map_nil]); first | done | rfl | (simp only [List.length_drop, List.length_take]; rfl)) ?_; (with_reducible refine (swageref18_Order.calls k _ _ l0 a1 t371 t372 _ ?side1 ?side2 A8.out).mono ?_); (case side1 => repeat (first | exact (Kd.C_below HR0.out HB.out) | (with_reducible refine Kd.C_alloc ?_ _) | (with_reducible refine Kd.C_drewN ?_ _) | (with_reducible refine Kd.C_drew ?_))); (case side2 => exact HC0.out); rintro e w83 ⟨v373, rfl, ho0, hb⟩; refine ⟨_, rfl, ?_⟩; have n0_ := Aside0.mk (Kd.R_elder' (by (with_reducible repeat (first | apply Kd.R_alloc | apply Kd.R_drewN | apply Kd.R_drew)); exact HO366.out) (Kd.R_base ho0) hb); have n1_ := Aside0.mk (Kd.R_elder' (by (with_reducible repeat (first | apply Kd.R_alloc | apply Kd.R_drewN | apply Kd.R_drew)); exact HO370.out) (Kd.R_base ho0) hb); have n2_ := Aside0.mk (Kd.R_lower (Kd.R_new' (Kd.R_new' ho0 (Kd.R_lt (by (with_reducible repeat (first | apply Kd.R_alloc | apply Kd.R_drewN | apply Kd.R_drew)); exact HO366.out))) (Kd.R_lt (by (with_reducible repeat (first | apply Kd.R_alloc | apply Kd.R_drewN | apply Kd.R_drew)); exact HO370.out))) (below_size (by repeat (first | (with_reducible first | exact HB.out | apply below_alloc | apply pw_below_drewN | apply below_drew1) | exact HB.out)))); have n3_ := Aside0.mk (below_step (by repeat (first | (with_reducible first | exact HB.out | apply below_alloc | apply pw_below_drewN | apply below_drew1) | exact HB.out)) hb); clear HO366; clear HO370; clear HB; have HO366 := n0_; have HO370 := n1_; have HO374 := n2_; have HB := n3_; clear n0_ n1_ n2_ n3_; (try clear hb); (try clear hb2); (try clear hk); (try clear hi); (try clear ho0)))
        go_ret
        exact ⟨by first | rfl | (simp [errW_none, errW_some] <;> rfl) | (simp [*, errW_none, errW_some] <;> rfl), by repeat (first | (with_reducible first | exact HB.out | apply below_alloc | apply pw_below_drewN | apply below_drew1) | exact HB.out)⟩
    · rw [if_neg c6] at H
      exact absurd H (by simp)

end Go.Proofs.Ytkfopphcgjdcaaa.A

/- What the document's own Cycles answers. The law MovesOrder. -/
namespace Go.Proofs.Ytkfopphcgjdcaaa.A
open Go.RowKit Go.Maps Go.Proofs.YtkfopphcgjdcaaaW.PrintWords Go.Proofs.YtkfopphcgjdcaaaW.PrintLast Go.Shelf
set_option linter.unusedVariables false
set_option linter.unusedSimpArgs false

/-! rows by their heads -/
def hd (r : List Int) : Int := rd r 0
def insC (r : List Int) : List (List Int) → List (List Int)
  | [] => [r]
  | x :: l => if hd x < hd r then x :: insC r l else r :: x :: l
theorem insC_cons (r x : List Int) (l : List (List Int)) : insC r (x :: l) = if hd x < hd r then x :: insC r l else r :: x :: l := rfl
theorem insC_mem (r y : List Int) : ∀ l, y ∈ insC r l ↔ y = r ∨ y ∈ l
  | [] => by simp [insC]
  | x :: l => by
    unfold insC
    split
    · rw [List.mem_cons, insC_mem r y l, List.mem_cons]
      constructor
      · rintro (h | h | h) <;> simp [h]
      · rintro (h | h | h) <;> simp [h]
    · simp
theorem insC_length (r : List Int) : ∀ l, (insC r l).length = l.length + 1
  | [] => rfl
  | x :: l => by
    unfold insC
    split
    · simp [insC_length r l]
    · simp
def RiseC (l : List (List Int)) : Prop := l.Pairwise fun a b => hd a < hd b
theorem insC_rise (r : List Int) : ∀ l, RiseC l → (∀ x ∈ l, hd x ≠ hd r) → RiseC (insC r l)
  | [], _, _ => List.Pairwise.cons (by simp) List.Pairwise.nil
  | x :: l, h, hne => by
    have h' := List.pairwise_cons.1 h
    unfold insC
    split
    · rename_i hlt
      refine List.Pairwise.cons (fun b hb => ?_) (insC_rise r l h'.2 (fun y hy => hne y (by simp [hy])))
      rcases (insC_mem r b l).1 hb with rfl | hb
      · exact hlt
      · exact h'.1 b hb
    · rename_i hge
      have := hne x (by simp)
      refine List.Pairwise.cons (fun b hb => ?_) h
      rcases List.mem_cons.1 hb with rfl | hb
      · omega
      · have := h'.1 b hb; omega
theorem riseC_eq {a b : List (List Int)} (ha : RiseC a) (hb : RiseC b) (h : ∀ r, r ∈ a ↔ r ∈ b) : a = b := by
  have hna : a.Nodup := ha.imp (fun h e => by rw [e] at h; omega)
  have hnb : b.Nodup := hb.imp (fun h e => by rw [e] at h; omega)
  have hp : a.Perm b := (List.perm_ext_iff_of_nodup hna hnb).2 h
  exact List.Perm.eq_of_pairwise (le := fun a b => hd a < hd b) (fun x y _ _ h1 h2 => by omega) ha hb hp

theorem from_l0 (l : List S38) (p : Int) (hl : l.length ≤ 1000000) : ∀ (d i : Nat), i + d = l.length → Evt (fun k => swageref18_from.l0 k l p i) (match (l.drop i).find? (fun c => decide (c.f0 = p)) with | some c => (c.f1, true) | none => (0, false))
  | 0, i, hi => by
    rw [List.drop_eq_nil_of_le (by omega)]
    refine Evt.step (Evt.const rfl) fun k => ?_
    rw [swageref18_from.l0, if_neg (by omega)]
    rfl
  | d + 1, i, hi => by
    have hlt : i < l.length := by omega
    have hd : l.drop i = l[i] :: l.drop (i + 1) := List.drop_eq_getElem_cons hlt
    rw [hd, List.find?_cons]
    by_cases hc : l[i].f0 = p
    · simp only [hc, decide_true]
      refine Evt.step (Evt.const rfl) fun k => ?_
      rw [swageref18_from.l0, if_pos (by omega), if_pos (by omega), rd38_lt hlt, if_pos hc]
    · simp only [hc, decide_false]
      refine Evt.step (from_l0 l p hl d (i + 1) (by omega)) fun k => ?_
      rw [swageref18_from.l0, if_pos (by omega), if_pos (by omega), rd38_lt hlt, if_neg hc, w64 (by omega) (by omega)]
      rfl
theorem from_ev (l : List S38) (p : Int) (hl : l.length ≤ 1000000) : Evt (fun k => swageref18_from.f k l p) ((lk l p).getD 0, (lk l p).isSome) := by
  have h := from_l0 l p hl l.length 0 (by omega)
  rw [List.drop_zero] at h
  have e : (match l.find? (fun c => decide (c.f0 = p)) with | some c => (c.f1, true) | none => (0, false)) = ((lk l p).getD 0, (lk l p).isSome) := by
    unfold lk
    cases l.find? (fun c => decide (c.f0 = p)) <;> rfl
  rw [e] at h
  exact h

section
variable {l : List S38} {R : List (List Int)}
/-- a row is put in its place -/
theorem rcyc_l2 (hl : l.length ≤ 1000) (i : Nat) (hi : i < l.length) (out : List (List Int)) (row : List Int) (ho : out.length ≤ 1000) (hr : row ≠ []) (hout : ∀ x ∈ out, x ≠ []) (hk : Evt (fun k => swageref18_Cycles.l0 k l true (insC row out) ((i + 1 : Nat) : Int)) R) :
    ∀ (d j : Nat), j + d = out.length → out.take j ++ insC row (out.drop j) = insC row out → Evt (fun k => swageref18_Cycles.l2 k l true out i row j) R
  | 0, j, hj, he => by
    refine Evt.step hk fun k => ?_
    rw [List.drop_eq_nil_of_le (by omega)] at he
    rw [swageref18_Cycles.l2, if_neg (by omega), if_pos (by omega), if_pos (by omega), Int.toNat_natCast]
    simp only [Option.bind_some]
    rw [if_pos (by simp; omega), if_pos (by simp; omega), List.drop_eq_nil_of_le (by omega), if_pos (by simp; omega), w64 (by omega) (by omega), List.nil_append, List.append_nil]
    rw [← he]
    rfl
  | d + 1, j, hj, he => by
    have hlt : j < out.length := by omega
    have hd' : out.drop j = out[j] :: out.drop (j + 1) := List.drop_eq_getElem_cons hlt
    have hx : rd_L4 out (j : Int) = out[j] := by unfold rd_L4; simp [hlt]
    have hne := hout out[j] (List.getElem_mem _)
    have h1 : 0 < out[j].length := by
      rcases Nat.eq_zero_or_pos out[j].length with h | h
      · exact absurd (List.eq_nil_of_length_eq_zero h) hne
      · exact h
    have h2 : 0 < row.length := by
      rcases Nat.eq_zero_or_pos row.length with h | h
      · exact absurd (List.eq_nil_of_length_eq_zero h) hr
      · exact h
    by_cases hc : hd out[j] < hd row
    · have ih := rcyc_l2 hl i hi out row ho hr hout hk d (j + 1) (by omega) (by
        rw [hd', insC_cons, if_pos hc] at he
        rw [List.take_succ_eq_append_getElem hlt, List.append_assoc]
        exact he)
      refine Evt.step ih fun k => ?_
      rw [swageref18_Cycles.l2, if_pos (by omega), if_pos (by omega), hx, if_pos (by omega), if_pos (by omega), if_pos (show rd out[j] 0 < rd row 0 from hc), w64 (by omega) (by omega)]
      rfl
    · refine Evt.step hk fun k => ?_
      rw [swageref18_Cycles.l2, if_pos (by omega), if_pos (by omega), hx, if_pos (by omega), if_pos (by omega), if_neg (show ¬ rd out[j] 0 < rd row 0 from hc), if_pos (by omega), Int.toNat_natCast]
      simp only [Option.bind_some]
      rw [if_pos (by simp; omega), if_pos (by simp; omega), if_pos (by simp; omega), w64 (by omega) (by omega), List.nil_append]
      rw [← he, hd', insC_cons, if_neg hc]
      simp
/-- going round from one To -/
theorem rcyc_j4 (hl : l.length ≤ 1000) (i : Nat) (hi : i < l.length) (out : List (List Int)) (row : List Int) (ho : out.length ≤ 1000) (hr : row ≠ []) (hout : ∀ x ∈ out, x ≠ []) (b : Bool)
    (hk : Evt (fun k => swageref18_Cycles.l0 k l true (if b = true then out else insC row out) ((i + 1 : Nat) : Int)) R) : Evt (fun k => swageref18_Cycles.j4 k l true out i row b) R := by
  cases b with
  | true =>
    refine Evt.step hk fun k => ?_
    rw [swageref18_Cycles.j4, if_pos rfl, w64 (by omega) (by omega), if_pos rfl]
    rfl
  | false =>
    rw [if_neg (by simp)] at hk
    refine Evt.step (rcyc_l2 hl i hi out row ho hr hout hk out.length 0 (by omega) (by simp)) fun k => ?_
    rw [swageref18_Cycles.j4, if_neg (by simp)]
    rfl
def nextOut (l : List S38) (t : Int) (out : List (List Int)) : List (List Int) := match circOf (lk l) l.length t with | some r => insC r out | none => out
theorem rcyc_j3 (hl : l.length ≤ 1000) (i : Nat) (hi : i < l.length) (out : List (List Int)) (ho : out.length ≤ 1000) (hout : ∀ x ∈ out, x ≠ []) (j : Nat)
    (hb : ∀ a, 0 < a → a ≤ j → ∃ x, itf (lk l) l[i].f0 a = some x ∧ x ≠ l[i].f0) (cur : Option Int) (hcur : itf (lk l) l[i].f0 (j + 1) = cur) (least : Bool) (hle : least = true ↔ ∀ a, 0 < a → a ≤ j → ∃ x, itf (lk l) l[i].f0 a = some x ∧ l[i].f0 < x)
    (hend : cur = none ∨ cur = some l[i].f0 ∨ l.length ≤ j) (hk : Evt (fun k => swageref18_Cycles.l0 k l true (nextOut l l[i].f0 out) ((i + 1 : Nat) : Int)) R) :
    Evt (fun k => swageref18_Cycles.j3 k l true out i (l[i].f0 :: (seqOf (lk l) l[i].f0 j).reverse) least (cur.getD 0) cur.isSome) R := by
  have hno : (∀ m, 2 ≤ m → itf (lk l) l[i].f0 m = some l[i].f0 → (∀ a, 0 < a → a < m → ∃ x, itf (lk l) l[i].f0 a = some x ∧ l[i].f0 < x) → False) → circOf (lk l) l.length l[i].f0 = none := fun h => by
    cases hc : circOf (lk l) l.length l[i].f0 with
    | none => rfl
    | some r =>
      obtain ⟨m, h1, h2, h3⟩ := circOf_iff.1 (show (circOf (lk l) l.length l[i].f0).isSome = true by rw [hc]; rfl)
      exact absurd (h m h1 h2 h3) (by simp)
  have skip : circOf (lk l) l.length l[i].f0 = none → Evt (fun k => swageref18_Cycles.j4 k l true out i (l[i].f0 :: (seqOf (lk l) l[i].f0 j).reverse) true) R := fun h => by
    refine rcyc_j4 hl i hi out _ ho (by simp) hout true ?_
    unfold nextOut at hk
    rw [h] at hk
    rw [if_pos rfl]; exact hk
  -- whatever comes back comes back behind j
  have hlate : ∀ m, 2 ≤ m → itf (lk l) l[i].f0 m = some l[i].f0 → j < m := fun m hm he => by
    rcases Nat.lt_or_ge j m with h | h
    · exact h
    · obtain ⟨x, hx, hne⟩ := hb m (by omega) h
      rw [he] at hx; injection hx with hx; exact absurd hx.symm hne
  cases cur with
  | none =>
    refine Evt.step (skip (hno fun m hm he hall => ?_)) fun k => ?_
    · have hj := hlate m hm he
      by_cases e : m = j + 1
      · subst e; rw [hcur] at he; cases he
      · obtain ⟨x, hx, _⟩ := hall (j + 1) (by omega) (by omega)
        rw [hcur] at hx; cases hx
    · rw [swageref18_Cycles.j3, if_neg (by simp)]
  | some a =>
    by_cases ha : a = l[i].f0
    · subst ha
      cases least with
      | false =>
        refine Evt.step (skip (hno fun m hm he hall => ?_)) fun k => ?_
        · have hj := hlate m hm he
          have := hle.2 (fun a h1 h2 => hall a h1 (by omega))
          cases this
        · rw [swageref18_Cycles.j3, if_pos (show (some l[i].f0).isSome = true from rfl), if_pos (by omega), if_pos (by omega), rd38_lt hi, if_pos (show (some l[i].f0).getD 0 = l[i].f0 from rfl), if_neg (by simp)]
      | true =>
        have hall := hle.1 rfl
        rcases Nat.eq_zero_or_pos j with hj | hj
        · subst hj
          refine Evt.step (skip (hno fun m hm he hall => ?_)) fun k => ?_
          · obtain ⟨x, hx, hlt⟩ := hall 1 (by omega) (by omega)
            rw [hcur] at hx; injection hx with hx; omega
          · rw [swageref18_Cycles.j3, if_pos (show (some l[i].f0).isSome = true from rfl), if_pos (by omega), if_pos (by omega), rd38_lt hi, if_pos (show (some l[i].f0).getD 0 = l[i].f0 from rfl), if_pos rfl]
            rfl
        · have hs := circ_short (m := j + 1) (by omega) hcur (fun a h1 h2 => hall a h1 (by omega))
          have hc : circOf (lk l) l.length l[i].f0 = some (l[i].f0 :: (seqOf (lk l) l[i].f0 j).reverse) :=
            circGo_some (m := j + 1) (n := l.length) (by omega) hcur (fun a h1 h2 => hall a h1 (by omega)) (by omega) j 0 (l.length + 3) (by omega) (by omega)
          have hb4 := rcyc_j4 (R := R) hl i hi out (l[i].f0 :: (seqOf (lk l) l[i].f0 j).reverse) ho (by simp) hout false (by
            unfold nextOut at hk
            rw [hc] at hk
            rw [if_neg (by simp)]; exact hk)
          refine Evt.step hb4 fun k => ?_
          have hrl : (l[i].f0 :: (seqOf (lk l) l[i].f0 j).reverse).length = j + 1 := by simp [seqOf_length]
          rw [swageref18_Cycles.j3, if_pos (show (some l[i].f0).isSome = true from rfl), if_pos (by omega), if_pos (by omega), rd38_lt hi, if_pos (show (some l[i].f0).getD 0 = l[i].f0 from rfl), if_pos rfl, hrl, decide_eq_false (by omega)]
    · have hlj : l.length ≤ j := by
        rcases hend with h | h | h
        · cases h
        · injection h with h; exact absurd h ha
        · exact h
      refine Evt.step (skip (hno fun m hm he hall => ?_)) fun k => ?_
      · have hj := hlate m hm he
        have := circ_short hm he hall
        omega
      · rw [swageref18_Cycles.j3, if_pos (show (some a).isSome = true from rfl), if_pos (by omega), if_pos (by omega), rd38_lt hi, if_neg (show ¬ (some a).getD 0 = l[i].f0 from ha)]
theorem rcyc_l1 (hl : l.length ≤ 1000) (i : Nat) (hi : i < l.length) (out : List (List Int)) (ho : out.length ≤ 1000) (hout : ∀ x ∈ out, x ≠ []) (hk : Evt (fun k => swageref18_Cycles.l0 k l true (nextOut l l[i].f0 out) ((i + 1 : Nat) : Int)) R) :
    ∀ (d j : Nat) (cur : Option Int) (least : Bool), j + d = l.length → (∀ a, 0 < a → a ≤ j → ∃ x, itf (lk l) l[i].f0 a = some x ∧ x ≠ l[i].f0) → itf (lk l) l[i].f0 (j + 1) = cur → (least = true ↔ ∀ a, 0 < a → a ≤ j → ∃ x, itf (lk l) l[i].f0 a = some x ∧ l[i].f0 < x) →
    Evt (fun k => swageref18_Cycles.l1 k l true out i (l[i].f0 :: (seqOf (lk l) l[i].f0 j).reverse) least (cur.getD 0) cur.isSome) R := by
  intro d
  induction d with
  | zero =>
    intro j cur least hj hb hcur hle
    have h3 := rcyc_j3 hl i hi out ho hout j hb cur hcur least hle (.inr (.inr (by omega))) hk
    have hrl : (l[i].f0 :: (seqOf (lk l) l[i].f0 j).reverse).length = j + 1 := by simp [seqOf_length]
    refine Evt.step h3 fun k => ?_
    cases cur with
    | none => rw [swageref18_Cycles.l1, if_neg (by simp)]
    | some a =>
      rw [swageref18_Cycles.l1, if_pos (show (some a).isSome = true from rfl), if_pos (by omega), if_pos (by omega), rd38_lt hi]
      by_cases ha : a = l[i].f0
      · rw [if_pos (show (some a).getD 0 = l[i].f0 from ha)]
      · rw [if_neg (show ¬ (some a).getD 0 = l[i].f0 from ha), if_neg (by rw [hrl]; omega)]
  | succ d ih =>
    intro j cur least hj hb hcur hle
    have hrl : (l[i].f0 :: (seqOf (lk l) l[i].f0 j).reverse).length = j + 1 := by simp [seqOf_length]
    cases cur with
    | none =>
      have h3 := rcyc_j3 hl i hi out ho hout j hb none hcur least hle (.inl rfl) hk
      refine Evt.step h3 fun k => ?_
      rw [swageref18_Cycles.l1, if_neg (by simp)]
    | some a =>
      by_cases ha : a = l[i].f0
      · have h3 := rcyc_j3 hl i hi out ho hout j hb (some a) hcur least hle (.inr (.inl (by rw [ha]))) hk
        refine Evt.step h3 fun k => ?_
        rw [swageref18_Cycles.l1, if_pos (show (some a).isSome = true from rfl), if_pos (by omega), if_pos (by omega), rd38_lt hi, if_pos (show (some a).getD 0 = l[i].f0 from ha)]
      · have hfr := from_ev l a (by omega)
        have hnext : itf (lk l) l[i].f0 (j + 1 + 1) = lk l a := by rw [itf, hcur]; rfl
        have hseq : l[i].f0 :: (seqOf (lk l) l[i].f0 (j + 1)).reverse = [l[i].f0, a] ++ (l[i].f0 :: (seqOf (lk l) l[i].f0 j).reverse).drop 1 := by
          rw [seqOf_succ, hcur]; simp
        have hr0 : rd (l[i].f0 :: (seqOf (lk l) l[i].f0 j).reverse) 0 = l[i].f0 := rfl
        have hstep := fun (b : Bool) (hb2 : b = true ↔ ∀ x, 0 < x → x ≤ j + 1 → ∃ y, itf (lk l) l[i].f0 x = some y ∧ l[i].f0 < y) => ih (j + 1) (lk l a) b (by omega) (fun x h1 h2 => by
          by_cases e : x = j + 1
          · subst e; exact ⟨a, hcur, ha⟩
          · exact hb x h1 (by omega)) hnext hb2
        have hlen2 : ([l[i].f0, a] : List Int).length + ((l[i].f0 :: (seqOf (lk l) l[i].f0 j).reverse).drop 1).length < 17592186044416 := by
          rw [List.length_drop, hrl]; simp; omega
        cases least with
        | true =>
          have hall := hle.1 rfl
          have h4 := hstep (decide (a > l[i].f0)) (by
            rw [decide_eq_true_iff]
            constructor
            · intro hgt x h1 h2
              by_cases e : x = j + 1
              · subst e; exact ⟨a, hcur, hgt⟩
              · exact hall x h1 (by omega)
            · intro h
              obtain ⟨y, hy, hlt⟩ := h (j + 1) (by omega) (by omega)
              rw [hcur] at hy; injection hy with hy; omega)
          rw [hseq] at h4
          refine Evt.step1 hfr h4 fun k hk1 => ?_
          rw [swageref18_Cycles.l1, if_pos (show (some a).isSome = true from rfl), if_pos (by omega), if_pos (by omega), rd38_lt hi]
          simp only [Option.getD_some]
          rw [if_neg ha, if_pos (by rw [hrl]; omega), if_pos trivial, if_pos (by rw [hrl]; omega), hr0]
          simp only [Option.bind_some]
          rw [if_pos (by rw [hrl]; omega), if_pos hlen2, hk1]
          rfl
        | false =>
          have h4 := hstep false (by
            constructor
            · intro h; cases h
            · intro h
              have := hle.2 (fun x h1 h2 => h x h1 (by omega))
              cases this)
          rw [hseq] at h4
          refine Evt.step1 hfr h4 fun k hk1 => ?_
          rw [swageref18_Cycles.l1, if_pos (show (some a).isSome = true from rfl), if_pos (by omega), if_pos (by omega), rd38_lt hi]
          simp only [Option.getD_some]
          rw [if_neg ha, if_pos (by rw [hrl]; omega), if_neg (by simp), if_pos (by rw [hrl]; omega), hr0]
          simp only [Option.bind_some]
          rw [if_pos (by rw [hrl]; omega), if_pos hlen2, hk1]
          rfl
end
/-- the circles of the first Tos -/
structure CycOf (l : List S38) (i : Nat) (out : List (List Int)) : Prop where
  rise : RiseC out
  mem : ∀ r, r ∈ out ↔ ∃ t ∈ tos (l.take i), circOf (lk l) l.length t = some r
theorem circ_head {l : List S38} {t : Int} {r : List Int} (h : circOf (lk l) l.length t = some r) : hd r = t ∧ r ≠ [] := by
  obtain ⟨m, _, _, _, rfl⟩ := circGo_back (l.length + 3) 0 r (fun i h1 h2 => by omega) h
  exact ⟨rfl, by simp⟩
theorem CycOf.next {l : List S38} (hn : (tos l).Nodup) {i : Nat} (hi : i < l.length) {out : List (List Int)} (h : CycOf l i out) : CycOf l (i + 1) (nextOut l l[i].f0 out) := by
  have hmem : ∀ t, t ∈ tos (l.take (i + 1)) ↔ t ∈ tos (l.take i) ∨ t = l[i].f0 := fun t => by
    rw [List.take_succ_eq_append_getElem hi]; unfold tos; rw [List.map_append, List.mem_append]; simp only [List.map_cons, List.map_nil, List.mem_singleton]
  have hnew : l[i].f0 ∉ tos (l.take i) := fun hm => by
    have := (nodup_take hi).1 (nodup_mono hn (i + 1))
    obtain ⟨x, hx, e⟩ := List.mem_map.1 hm
    rw [List.mem_take_iff_getElem] at hx
    obtain ⟨j, hj, rfl⟩ := hx
    exact this.2 j (by omega) e
  unfold nextOut
  cases hc : circOf (lk l) l.length l[i].f0 with
  | none =>
    refine ⟨h.rise, fun r => ?_⟩
    rw [h.mem]
    constructor
    · rintro ⟨t, ht, he⟩; exact ⟨t, (hmem t).2 (.inl ht), he⟩
    · rintro ⟨t, ht, he⟩
      rcases (hmem t).1 ht with h1 | rfl
      · exact ⟨t, h1, he⟩
      · rw [hc] at he; cases he
  | some r0 =>
    refine ⟨insC_rise r0 out h.rise (fun x hx e => ?_), fun r => ?_⟩
    · obtain ⟨t, ht, he⟩ := (h.mem x).1 hx
      rw [(circ_head he).1, (circ_head hc).1] at e
      exact hnew (e ▸ ht)
    · show r ∈ insC r0 out ↔ _
      rw [insC_mem, h.mem]
      constructor
      · rintro (rfl | ⟨t, ht, he⟩)
        · exact ⟨_, (hmem _).2 (.inr rfl), hc⟩
        · exact ⟨t, (hmem t).2 (.inl ht), he⟩
      · rintro ⟨t, ht, he⟩
        rcases (hmem t).1 ht with h1 | rfl
        · exact .inr ⟨t, h1, he⟩
        · rw [hc] at he; injection he with he; exact .inl he.symm
theorem CycOf.all {l : List S38} (hn : (tos l).Nodup) {out : List (List Int)} (h : CycOf l l.length out) : out = cycOf l (skeys (tos l)) := by
  refine riseC_eq h.rise ?_ fun r => ?_
  · unfold cycOf RiseC
    rw [List.pairwise_filterMap]
    refine (skeys_rising (tos l)).imp fun {a b} hab x hx y hy => ?_
    rw [fromF_eq hn] at hx hy
    rw [(circ_head hx).1, (circ_head hy).1]
    exact hab
  · rw [h.mem, List.take_length]
    unfold cycOf
    rw [List.mem_filterMap, fromF_eq hn]
    constructor
    · rintro ⟨t, ht, he⟩; exact ⟨t, (skeys_mem t _).2 ht, he⟩
    · rintro ⟨t, ht, he⟩; exact ⟨t, (skeys_mem t _).1 ht, he⟩
theorem nextOut_length (l : List S38) (t : Int) (out : List (List Int)) : (nextOut l t out).length ≤ out.length + 1 := by
  unfold nextOut
  cases circOf (lk l) l.length t with
  | none => simp
  | some r => simp [insC_length]
theorem rcyc_l0 {l : List S38} (hl : l.length ≤ 400) (hn : (tos l).Nodup) : ∀ (d i : Nat) (out : List (List Int)), i + d = l.length → CycOf l i out → out.length ≤ i → Evt (fun k => swageref18_Cycles.l0 k l true out i) (cycOf l (skeys (tos l)))
  | 0, i, out, hi, hc, ho => by
    obtain rfl : i = l.length := by omega
    have := hc.all hn
    subst this
    have hj : Evt (fun k => swageref18_Cycles.j1 k l true (cycOf l (skeys (tos l))) l.length false) (cycOf l (skeys (tos l))) := by
      refine Evt.step (Evt.const rfl) fun k => ?_
      rw [swageref18_Cycles.j1, if_neg (by simp)]
    refine Evt.step hj fun k => ?_
    rw [swageref18_Cycles.l0, if_neg (by omega)]
  | d + 1, i, out, hi, hc, ho => by
    have hlt : i < l.length := by omega
    have hno := nextOut_length l l[i].f0 out
    have ih := rcyc_l0 hl hn d (i + 1) (nextOut l l[i].f0 out) (by omega) (hc.next hn hlt) (by omega)
    have h1 := rcyc_l1 (by omega) i hlt out (by omega) (fun x hx => by
      obtain ⟨t, _, he⟩ := (hc.mem x).1 hx
      exact (circ_head he).2) ih l.length 0 (lk l l[i].f0) true (by omega) (fun a h1 h2 => by omega) rfl (by simp; intro a h1 h2; omega)
    have hj : Evt (fun k => swageref18_Cycles.j1 k l true out i true) (cycOf l (skeys (tos l))) := by
      refine Evt.step1 (from_ev l l[i].f0 (by omega)) h1 fun k hk => ?_
      rw [swageref18_Cycles.j1, if_pos rfl, if_pos (by omega), if_pos (by omega), rd38_lt hlt, hk]
      rfl
    refine Evt.step hj fun k => ?_
    rw [swageref18_Cycles.l0, if_pos (by omega)]
theorem rcyc_ev (l : List S38) (hl : l.length ≤ 400) : Evt (fun k => swageref18_Cycles.f k l) (cycRes l) := by
  refine (rright_ev l (by omega)).bind ?_
  unfold cycRes
  cases hok : okN l l.length with
  | false =>
    rw [if_neg (by simp)]
    have hj : Evt (fun k => swageref18_Cycles.j1 k l false ([] : List (List Int)) 0 false) [] := by
      refine Evt.step (Evt.const rfl) fun k => ?_
      rw [swageref18_Cycles.j1, if_neg (by simp)]
    refine Evt.step hj fun k => ?_
    rw [swageref18_Cycles.l0]
    split <;> rfl
  | true =>
    rw [if_pos rfl]
    exact rcyc_l0 hl ((okN_iff l).1 hok) l.length 0 [] (by omega) ⟨List.Pairwise.nil, fun r => by simp [tos]⟩ (Nat.le_refl _)

theorem same18_l0 (a : List S38) (hl : a.length ≤ 1000000) : ∀ (d i : Nat), i + d = a.length → Evt (fun k => swageref18_Same.l0 k a a i) true
  | 0, i, hi => by
    refine Evt.step (Evt.const rfl) fun k => ?_
    rw [swageref18_Same.l0, if_neg (by omega)]
  | d + 1, i, hi => by
    refine Evt.step (same18_l0 a hl d (i + 1) (by omega)) fun k => ?_
    rw [swageref18_Same.l0, if_pos (by omega), if_pos (by omega), if_pos (by omega), w64 (by omega) (by omega)]
    simp
theorem same18_ev (a : List S38) (hl : a.length ≤ 1000000) : Evt (fun k => swageref18_Same.f k a a) true := by
  refine (same18_l0 a hl a.length 0 (by omega)).congr fun k => ?_
  unfold swageref18_Same.f
  rw [if_pos rfl]
  rfl
theorem ints_l0 (a : List Int) (hl : a.length ≤ 1000000) : ∀ (d i : Nat), i + d = a.length → Evt (fun k => swageref02_Ints.l0 k a a i) true
  | 0, i, hi => by
    refine Evt.step (Evt.const rfl) fun k => ?_
    rw [swageref02_Ints.l0, if_neg (by omega)]
  | d + 1, i, hi => by
    refine Evt.step (ints_l0 a hl d (i + 1) (by omega)) fun k => ?_
    rw [swageref02_Ints.l0, if_pos (by omega), if_pos (by omega), if_pos (by omega), if_pos rfl, w64 (by omega) (by omega)]
    rfl
theorem ints_ev (a : List Int) (hl : a.length ≤ 1000000) : Evt (fun k => swageref02_Ints.f k a a) true := by
  refine (ints_l0 a hl a.length 0 (by omega)).congr fun k => ?_
  unfold swageref02_Ints.f
  rw [if_pos rfl]
  rfl
theorem rows_l0 (a : List (List Int)) (hl : a.length ≤ 1000000) (hr : ∀ r ∈ a, r.length ≤ 1000000) : ∀ (d i : Nat), i + d = a.length → Evt (fun k => swageref06_Rows.l0 k a a i) true
  | 0, i, hi => by
    refine Evt.step (Evt.const rfl) fun k => ?_
    rw [swageref06_Rows.l0, if_neg (by omega)]
  | d + 1, i, hi => by
    have hlt : i < a.length := by omega
    have hx : rd_L4 a (i : Int) = a[i] := by unfold rd_L4; simp [hlt]
    refine Evt.step1 (ints_ev a[i] (hr _ (List.getElem_mem _))) (rows_l0 a hl hr d (i + 1) (by omega)) fun k hk => ?_
    rw [swageref06_Rows.l0, if_pos (by omega), if_pos (by omega), if_pos (by omega), hx, hk, w64 (by omega) (by omega)]
    simp only [Option.bind_some, if_true]
    rfl
theorem rows_ev (a : List (List Int)) (hl : a.length ≤ 1000000) (hr : ∀ r ∈ a, r.length ≤ 1000000) : Evt (fun k => swageref06_Rows.f k a a) true := by
  refine (rows_l0 a hl hr a.length 0 (by omega)).congr fun k => ?_
  unfold swageref06_Rows.f
  rw [if_pos rfl]
  rfl
theorem cyc_row_short {l : List S38} (hn : (tos l).Nodup) : ∀ r ∈ cycOf l (skeys (tos l)), r.length ≤ l.length + 1 := by
  intro r hr
  unfold cycOf at hr
  rw [List.mem_filterMap, fromF_eq hn] at hr
  obtain ⟨t, ht, he⟩ := hr
  obtain ⟨m, h1, h2, h3, rfl⟩ := circGo_back (l.length + 3) 0 r (fun i h1 h2 => by omega) he
  have := circ_short h1 h2 h3
  simp [seqOf_length]; omega
theorem ores_len {l : List S38} {sp : Int} (hl : l.length ≤ 40) : (orderRes l sp).1.length ≤ 1000 := by
  cases hok : okN l l.length with
  | false => rw [ores_twice hok]; simp
  | true =>
    cases hany : l.any (usesSp sp) with
    | true => rw [ores_arg hok hany]; simp
    | false =>
      rw [ores_ok hok hany]
      have hn := (okN_iff l).1 hok
      have hI := inv_of hn hany
      unfold ordOf
      rw [(ordN_count _ hI (Nat.le_refl _)).2]
      have := circs_le (waitsOf l)
      have : (waitsOf l).length ≤ l.length := List.length_filter_le _ _
      omega
theorem order_law (l : List S38) (sp : Int) (hw : WfL l) (hs : Wf sp) : ∃ k, swagelaw18_MovesOrder.f k l sp = some true := by
  by_cases h1 : (l.length : Int) > 40
  · refine ⟨0, ?_⟩
    unfold swagelaw18_MovesOrder.f swagelaw18_small.f
    rw [Option.bind_some, if_pos h1]
  refine Evt.get ?_
  have hO : moves_Order.f l sp = some (orderRes l sp) := by unfold moves_Order.f; rw [if_pos ⟨by omega, hw, hs⟩]
  have hR : moves_Right.f l = some (okN l l.length) := by unfold moves_Right.f; rw [if_pos ⟨by omega, hw⟩]
  have hC : moves_Cycles.f l = some (cycRes l) := by unfold moves_Cycles.f; rw [if_pos ⟨by omega, hw⟩]
  have hcl := cyc_small l
  have hcr : ∀ r ∈ cycRes l, r.length ≤ 1000000 := fun r hr => by
    unfold cycRes at hr
    split at hr
    · rename_i hok
      have := cyc_row_short ((okN_iff l).1 hok) r hr
      omega
    · cases hr
  obtain ⟨K1, e1⟩ := rord_ev l sp (by omega)
  obtain ⟨K2, e2⟩ := same18_ev (orderRes l sp).1 (by have := ores_len (sp := sp) (show l.length ≤ 40 by omega); omega)
  obtain ⟨K3, e3⟩ := rright_ev l (by omega)
  obtain ⟨K4, e4⟩ := rcyc_ev l (by omega)
  obtain ⟨K5, e5⟩ := rows_ev (cycRes l) (by omega) hcr
  obtain ⟨K6, e6⟩ := same18_ev l (by omega)
  refine ⟨K1 + K2 + K3 + K4 + K5 + K6, fun k hk => ?_⟩
  have q1 := e1 k (by omega)
  have q2 := e2 k (by omega)
  have q3 := e3 k (by omega)
  have q4 := e4 k (by omega)
  have q5 := e5 k (by omega)
  have q6 := e6 k (by omega)
  dsimp only at q1 q2 q3 q4 q5 q6
  show swagelaw18_MovesOrder.f k l sp = some true
  unfold swagelaw18_MovesOrder.f swagelaw18_small.f
  rw [Option.bind_some, if_neg h1, Option.bind_some, if_pos (by simp; omega), Option.bind_some, List.nil_append, hO, Option.bind_some, q1, Option.bind_some, if_pos rfl, q2, Option.bind_some, if_pos rfl, if_pos rfl, hR, Option.bind_some, q3, Option.bind_some, if_pos (by simp), hC, Option.bind_some, q4, Option.bind_some, q5, Option.bind_some, if_pos rfl, q6, Option.bind_some]
theorem law_order (A0 : Option Addr) (c0 : Nat) (l0 : List S38) (a1 : Int) (w : World) (h0 : Kd.C k38 w A0 l0.length l0) (hc0 : l0.length ≤ c0) (hw0 : WfL l0) (hw1 : Wf a1) :
    Calls Try.prog 3 #[.slice A0 l0.length c0, .int .i64 a1] w fun e w' => e = .returned (.bool true) ∧ Below w.heap.size w w' := by
  obtain ⟨k, hk⟩ := order_law l0 a1 hw0 hw1
  exact swagelaw18_MovesOrder.calls k A0 c0 l0 a1 true w h0 hc0 hk
#print axioms order_law
#print axioms rcyc_ev
end Go.Proofs.Ytkfopphcgjdcaaa.A

/- What comes in, opened: a datum that is trodden at a type is a value of the kind. -/
namespace Go.Proofs.Ytkfopphcgjdcaaa.A
open Go.Deep Go.RowKit Go.Proofs.YtkfopphcgjdcaaaW.PrintWords Go.Proofs.YtkfopphcgjdcaaaW.PrintLast
set_option linter.unusedVariables false
set_option linter.unusedSimpArgs false

section
variable {H : Type} {enc : TypeId × Value → H} {P : Program} {w : World} {base : Nat} {α : Type} [Inhabited α]

def Opens (enc : TypeId × Value → H) (P : Program) (w : World) (base : Nat) (t : TypeId) (d : Kd α) (p : α → Prop) : Prop :=
  ∀ fuel cs x, DataW.trod enc P w base (fun _ => true) true fuel t cs = some x → ∃ y, d.K w y cs ∧ p y

theorem opens_int {t : TypeId} {k : IntKind} (ht : P.underlying t = some (.int k)) : Opens enc P w base t (Kd.int k) (fun n => (Lit.int k n).wf = true) := by
  intro fuel cs x h
  obtain ⟨n, rfl, _, hw⟩ := DataW.trod_int ht h
  exact ⟨n, rfl, hw⟩

theorem opens_slice {t e : TypeId} {d : Kd α} {p : α → Prop} (ht : P.underlying t = some (.slice e)) (hc : P.cellsOf e = d.sz) (ho : Opens enc P w base e d p) : Opens enc P w base t (Kd.slice e d) (fun xs => ∀ x ∈ xs, p x) := by
  intro fuel cs x h
  rcases open_slice ht h with ⟨rfl, _⟩ | ⟨a, len, cap, m, n, D, Pl, rfl, hb, hl, hm, hmm, _, hx⟩
  · exact ⟨[], ⟨none, 0, rfl, Nat.le_refl _, rfl, by simp, fun h => by simp at h⟩, fun x hx => by simp at hx⟩
  · simp only [if_true] at hmm
    obtain ⟨Y, hY⟩ := choose_lt (α := α) (n := len) (p := fun i y => p y ∧ ∃ c, d.K w y c ∧ ∀ j u, c[j]? = some u → w.cell? (a.add (i * d.sz + j)) = some u) (fun i hi => by
      obtain ⟨cs', h1, h2⟩ := hx i (by omega)
      obtain ⟨y, hy, hp⟩ := ho _ _ _ h2
      obtain ⟨_, hlen, hcell⟩ := World.cells?_some h1
      refine ⟨y, hp, cs', hy, fun j u hj => ?_⟩
      have hj' : j < cs'.length := (List.getElem?_eq_some_iff.1 hj).1
      have := hcell j (by omega)
      rw [hj, hc] at this
      rwa [Addr.add_add] at this)
    have hlen : ((List.range len).map Y).length = len := by simp
    refine ⟨(List.range len).map Y, ⟨some a, cap, by rw [hlen], by rw [hlen]; exact hl, hlen.trans hlen.symm, by rw [hlen]; unfold maxLen at hm; omega, fun _ => ⟨a, rfl, fun j y hj => ?_⟩⟩, fun y hy => ?_⟩
    · have hjl : j < len := by have := (List.getElem?_eq_some_iff.1 hj).1; omega
      rw [List.getElem?_map, List.getElem?_range hjl] at hj
      obtain rfl := Option.some.inj hj
      obtain ⟨_, c, hk, hcell⟩ := hY j hjl
      exact ⟨c, d.K_len hk, hk, hcell⟩
    · obtain ⟨i, hi, rfl⟩ := List.mem_map.1 hy
      exact (hY i (List.mem_range.1 hi)).1
omit [Inhabited α] in
/-- of a parameter: a slice -/
theorem opens_param {t e : TypeId} {d : Kd α} {p : List α → Prop} (ho : Opens enc P w base t (Kd.slice e d) p) {A : Option Addr} {len cap : Nat} {x : DataW H} {ps : List MemPlace} (h : DataW.Trod enc P w base (fun _ => true) true t (.slice A len cap) x ps) :
    ∃ xs : List α, len = xs.length ∧ xs.length ≤ cap ∧ d.C w A xs.length xs ∧ p xs := by
  obtain ⟨fuel, hf⟩ := h
  obtain ⟨xs, ⟨A', c', he, hl, hC⟩, hp⟩ := ho _ _ _ hf
  simp [Value.cells] at he
  obtain ⟨rfl, rfl, rfl⟩ := he
  exact ⟨xs, rfl, hl, hC, hp⟩
end

instance : Inhabited S38 := ⟨z38⟩
instance : Inhabited S42 := ⟨z42⟩
theorem opens_copy {H : Type} {enc : TypeId × Value → H} {w : World} {base : Nat} : Opens enc Try.prog w base 38 k38 (fun x => Wf x.f0 ∧ Wf x.f1) := by
  intro fuel cs x h
  obtain ⟨xs, n, _, _, hl, hlen, hf⟩ := DataW.trod_struct Try.underlying38 h
  have hl' : cs.length = 2 := hl.trans (by kernel_rfl)
  match cs, hl' with
  | [c0, c1], _ =>
    have h0 : DataW.trod enc Try.prog w base (fun _ => true) true n 3 (([c0, c1].drop 0).take (Try.prog.cellsOf 3)) = xs[0]? := hf 0 _ rfl
    have h1 : DataW.trod enc Try.prog w base (fun _ => true) true n 3 (([c0, c1].drop 1).take (Try.prog.cellsOf 3)) = xs[1]? := hf 1 _ rfl
    rw [show Try.prog.cellsOf 3 = 1 by kernel_rfl] at h0 h1
    have hx : xs.length = 2 := by rw [hlen]; rfl
    rw [List.getElem?_eq_getElem (by omega)] at h0 h1
    obtain ⟨m0, e0, _, w0⟩ := DataW.trod_int Try.underlying3 h0
    obtain ⟨m1, e1, _, w1⟩ := DataW.trod_int Try.underlying3 h1
    have e0' : c0 = .int .i64 m0 := by simpa using e0
    have e1' : c1 = .int .i64 m1 := by simpa using e1
    subst e0' e1'
    exact ⟨⟨m0, m1⟩, k38_mk w ⟨m0, m1⟩, w0, w1⟩
theorem opens_pair {H : Type} {enc : TypeId × Value → H} {w : World} {base : Nat} : Opens enc Try.prog w base 42 k42 (fun x => Wf x.f0 ∧ Wf x.f1) := by
  intro fuel cs x h
  obtain ⟨xs, n, _, _, hl, hlen, hf⟩ := DataW.trod_array Try.underlying42 h
  have hl' : cs.length = 2 := hl.trans (by kernel_rfl)
  match cs, hl' with
  | [c0, c1], _ =>
    have h0 := hf 0 (by omega)
    have h1 := hf 1 (by omega)
    rw [show Try.prog.cellsOf 3 = 1 by kernel_rfl] at h0 h1
    rw [List.getElem?_eq_getElem (by omega)] at h0 h1
    obtain ⟨m0, e0, _, w0⟩ := DataW.trod_int Try.underlying3 h0
    obtain ⟨m1, e1, _, w1⟩ := DataW.trod_int Try.underlying3 h1
    have e0' : c0 = .int .i64 m0 := by simpa using e0
    have e1' : c1 = .int .i64 m1 := by simpa using e1
    subst e0' e1'
    exact ⟨⟨m0, m1⟩, k42_mk w ⟨m0, m1⟩, w0, w1⟩
theorem opens_copies {H : Type} {enc : TypeId × Value → H} {w : World} {base : Nat} : Opens enc Try.prog w base 22 (Kd.slice 38 k38) WfL := opens_slice Try.underlying22 (by kernel_rfl) opens_copy
theorem opens_pairs {H : Type} {enc : TypeId × Value → H} {w : World} {base : Nat} : Opens enc Try.prog w base 33 (Kd.slice 42 k42) WfH := opens_slice Try.underlying33 (by kernel_rfl) opens_pair
end Go.Proofs.Ytkfopphcgjdcaaa.A
