/- Parts of the proof, in the order in which they rest on one another. -/
import Derived.Test.YtkfopphcgjdcaaaMOrder1
/- What the machine does at this function, and a plain Lean function that says the same: written by a program for this claim; Lean checks it. -/
namespace Go.Proofs.Ytkfopphcgjdcaaa.A
open Go.RowKit Go.Proofs.YtkfopphcgjdcaaaW.PrintWords Go.Proofs.YtkfopphcgjdcaaaW.PrintLast Go.Proofs.YtkfopphcgjdcaaaW.PrintMore
attribute [local go_sem] max2_int min2_int max_two min_two max_three min_three max_four min_four   -- for this text's walks alone
set_option linter.unusedVariables false
set_option linter.unusedSimpArgs false

/-! ### swageref18_put: function 43 -/
def swageref18_put.l0 : Nat → List (S42) → Int → Int → Int → Option ((List (S42)))
  | 0, _, _, _, _ => none
  | k + 1, x0, x1, x2, x7 => if x7 < (x0.length : Int) then (if 0 ≤ x7 then (if ((rd_T42 x0 x7).f0) < x1 then (swageref18_put.l0 k x0 x1 x2 (wrap64 (x7 + 1))) else (if x7 ≤ (x0.length : Int) then ((some (x0.take (x7 : Int).toNat : List (S42))).bind fun y387 => (if ([] : List (S42)).length + y387.length < 8796093022208 then ((some (([] : List (S42)) ++ y387 : List (S42))).bind fun y391 => (if y391.length < 8796093022208 then ((some (y391 ++ [(⟨x1, x2⟩ : S42)] : List (S42))).bind fun y394 => (if ((rd_T42 x0 x7).f0) = x1 then (if 0 ≤ (wrap64 (x7 + 1)) then (if (wrap64 (x7 + 1)) ≤ (x0.length : Int) then ((some (x0.drop ((wrap64 (x7 + 1)) : Int).toNat : List (S42))).bind fun y398 => (if y394.length + y398.length < 8796093022208 then (some (y394 ++ y398)) else (none))) else (none)) else (none)) else ((some (x0.drop (x7 : Int).toNat : List (S42))).bind fun y405 => (if y394.length + y405.length < 8796093022208 then (some (y394 ++ y405)) else (none))))) else (none))) else (none))) else (none))) else (none)) else (if 0 ≤ x7 then (if x7 ≤ (x0.length : Int) then ((some (x0.take (x7 : Int).toNat : List (S42))).bind fun y412 => (if ([] : List (S42)).length + y412.length < 8796093022208 then ((some (([] : List (S42)) ++ y412 : List (S42))).bind fun y416 => (if y416.length < 8796093022208 then ((some (y416 ++ [(⟨x1, x2⟩ : S42)] : List (S42))).bind fun y419 => ((some (x0.drop (x7 : Int).toNat : List (S42))).bind fun y422 => (if y419.length + y422.length < 8796093022208 then (some (y419 ++ y422)) else (none)))) else (none))) else (none))) else (none)) else (none))
def swageref18_put.f (k : Nat) (l0 : List (S42)) (a1 : Int) (a2 : Int) : Option ((List (S42))) := swageref18_put.l0 k l0 a1 a2 0
theorem swageref18_put.mono_l : ∀ k, (∀ y0 y1 y2 y3, LeO (swageref18_put.l0 k y0 y1 y2 y3) (swageref18_put.l0 (k + 1) y0 y1 y2 y3))
  | 0 => fun _ _ _ _ r h => by simp [swageref18_put.l0] at h
  | k + 1 => by
    have ih0 := swageref18_put.mono_l k
    · intro y0 y1 y2 y3
      unfold swageref18_put.l0
      repeat' first
      | (with_reducible exact ih0 _ _ _ _)
      | (with_reducible exact LeO.refl _)
      | (with_reducible exact LeO.none _)
      | (with_reducible refine LeO.ite ?_ ?_)
      | (with_reducible refine LeO.bind ?_ (fun _ => ?_))
      | exact ih0 _ _ _ _
      | exact LeO.none _
      | refine LeO.ite ?_ ?_
      | refine LeO.bind ?_ (fun _ => ?_)
theorem swageref18_put.mono : ∀ a0 a1 a2 k, LeO (swageref18_put.f k a0 a1 a2) (swageref18_put.f (k + 1) a0 a1 a2) := by
  intro a0 a1 a2 k
  have ih0 := swageref18_put.mono_l k
  unfold swageref18_put.f
  repeat' first
      | (with_reducible exact ih0 _ _ _ _)
      | (with_reducible exact LeO.refl _)
      | (with_reducible exact LeO.none _)
      | (with_reducible refine LeO.ite ?_ ?_)
      | (with_reducible refine LeO.bind ?_ (fun _ => ?_))
      | exact ih0 _ _ _ _
      | exact LeO.none _
      | refine LeO.ite ?_ ?_
      | refine LeO.bind ?_ (fun _ => ?_)
set_option maxHeartbeats 8000000 in
set_option maxRecDepth 100000 in
theorem swageref18_put.calls (k : Nat) (A0 : Option Addr) (c0 : Nat) (l0 : List (S42)) (a1 : Int) (a2 : Int) (r : List (S42)) (w : World) (hr0 : Kd.C k42 w A0 l0.length l0) (hc0 : l0.length ≤ c0) (h : swageref18_put.f k l0 a1 a2 = some r) :
    Calls Try.prog 43 #[.slice A0 l0.length c0, .int .i64 a1, .int .i64 a2] w fun e w' => ∃ v0_ : Value, e = .returned (v0_) ∧ Kd.R k42 42 w' w.heap.size (fun _ => True) v0_ r ∧ Below w.heap.size w w' := by
  have hu42 := Try.underlying42
  have HR0 := Aside0.mk hr0
  have HC0 := Aside0.mk hc0
  clear hr0 hc0
  have HB := Aside0.mk (Below.refl w.heap.size w)
  have H : (swageref18_put.l0 k l0 a1 a2 0) = some r := h
  clear h
  have H' := Aside0.mk H
  clear H
  go_enter Try.func43, Try.ntmps43
  go_wp2
  go_loopg [7] k (fun kq v7 w' => ∃ (x7_1 : Int), v7 = .int .i64 x7_1 ∧ Aside0 (swageref18_put.l0 kq l0 a1 a2 x7_1 = some r) ∧ Aside0 (kq ≤ k) ∧ Aside0 (Below w.heap.size w w'))
  case atStart => exact ⟨(0), (by first | rfl | (simp; done) | (simp [*]; done)), H', ⟨Nat.le_refl _⟩, ⟨by repeat (first | (with_reducible first | exact HB.out | apply below_alloc | apply pw_below_drewN | apply below_drew1) | exact HB.out)⟩⟩
  case round =>
    clear H'
    try clear p2
    obtain ⟨x7_1, rfl, HA, HK1, HB⟩ := hrel
    cases gk with
    | zero => exact absurd HA.out (by simp [swageref18_put.l0])
    | succ k1 =>
      have H := HA.out
      clear HA
      simp only [swageref18_put.l0] at H
      by_cases c4 : x7_1 < (l0.length : Int)
      · rw [if_pos c4] at H
        have c4b0 : decide (x7_1 < (l0.length : Int)) = true := decide_eq_true c4
        clear c4
        by_cases c5 : 0 ≤ x7_1
        · rw [if_pos c5] at H
          have c5b0 : decide (0 ≤ x7_1) = true := decide_eq_true c5
          clear c5
          by_cases c6 : ((rd_T42 l0 x7_1).f0) < a1
          · rw [if_pos c6] at H
            have c6b0 : decide (((rd_T42 l0 x7_1).f0) < a1) = true := decide_eq_true c6
            clear c6
            have H' := Aside0.mk H
            clear H
            have p386 : 0 ≤ (x7_1 : Int) := of_decide_eq_true (by first | (with_reducible assumption) | assumption)
            have q386 : x7_1 < (l0.length : Int) := of_decide_eq_true (by first | (with_reducible assumption) | assumption)
            obtain ⟨ad386, e386, hx386_0, hx386_1⟩ := at_T42 HR0.out x7_1 p386 q386
            cases e386
            replace hx386_0 := (HB.out.cell (World.block_lt_of_cell? w _ hx386_0)).trans hx386_0
            replace hx386_1 := (HB.out.cell (World.block_lt_of_cell? w _ hx386_1)).trans hx386_1
            replace p386 := eq_true p386
            replace q386 := eq_true q386
            go_wp2
            go_roundg k1
            case measure => have := HK1.out; omega
            case rel => exact ⟨(wrap64 (x7_1 + 1)), (by first | rfl | (simp; done) | (simp [*]; done)), H', ⟨by have := HK1.out; omega⟩, ⟨by repeat (first | (with_reducible first | exact HB.out | apply below_alloc | apply pw_below_drewN | apply below_drew1) | exact HB.out)⟩⟩
          · rw [if_neg c6] at H
            have c6b0 : decide (((rd_T42 l0 x7_1).f0) < a1) = false := decide_eq_false c6
            clear c6
            have c7b0 := eq_true (of_decide_eq_true (by first | (with_reducible assumption) | assumption) : 0 ≤ x7_1)
            by_cases c8 : x7_1 ≤ (l0.length : Int)
            · rw [if_pos c8] at H
              have c8b0 := eq_true c8
              have c8b1 : decide (x7_1 ≤ (l0.length : Int)) = true := decide_eq_true c8
              clear c8
              obtain ⟨y387, hy387⟩ : ∃ y_ : List (S42), y_ = (l0.take (x7_1 : Int).toNat) := ⟨_, rfl⟩
              replace H : (if ([] : List (S42)).length + y387.length < 8796093022208 then ((some (([] : List (S42)) ++ y387 : List (S42))).bind fun y391 => (if y391.length < 8796093022208 then ((some (y391 ++ [(⟨a1, a2⟩ : S42)] : List (S42))).bind fun y394 => (if ((rd_T42 l0 x7_1).f0) = a1 then (if 0 ≤ (wrap64 (x7_1 + 1)) then (if (wrap64 (x7_1 + 1)) ≤ (l0.length : Int) then ((some (l0.drop ((wrap64 (x7_1 + 1)) : Int).toNat : List (S42))).bind fun y398 => (if y394.length + y398.length < 8796093022208 then (some (y394 ++ y398)) else (none))) else (none)) else (none)) else ((some (l0.drop (x7_1 : Int).toNat : List (S42))).bind fun y405 => (if y394.length + y405.length < 8796093022208 then (some (y394 ++ y405)) else (none))))) else (none))) else (none)) = some r := by first | (rw [hy387]; with_reducible exact H) | (have H2_ := (Option.bind_some _ _).symm.trans H; rw [hy387]; with_reducible exact H2_) | (have H2_ := (Option.bind_some _ _).symm.trans H; with_reducible exact H2_) | with_reducible exact H | (rw [hy387]; exact H) | exact H
              have Ny387 := Aside0.mk hy387
              clear hy387
              by_cases c9 : ([] : List (S42)).length + y387.length < 8796093022208
              · rw [if_pos c9] at H
                have LMc9 := Aside0.mk c9
                clear c9
                obtain ⟨y391, hy391⟩ : ∃ y_ : List (S42), y_ = (([] : List (S42)) ++ y387) := ⟨_, rfl⟩
                replace H : (if y391.length < 8796093022208 then ((some (y391 ++ [(⟨a1, a2⟩ : S42)] : List (S42))).bind fun y394 => (if ((rd_T42 l0 x7_1).f0) = a1 then (if 0 ≤ (wrap64 (x7_1 + 1)) then (if (wrap64 (x7_1 + 1)) ≤ (l0.length : Int) then ((some (l0.drop ((wrap64 (x7_1 + 1)) : Int).toNat : List (S42))).bind fun y398 => (if y394.length + y398.length < 8796093022208 then (some (y394 ++ y398)) else (none))) else (none)) else (none)) else ((some (l0.drop (x7_1 : Int).toNat : List (S42))).bind fun y405 => (if y394.length + y405.length < 8796093022208 then (some (y394 ++ y405)) else (none))))) else (none)) = some r := by first | (rw [hy391]; with_reducible exact H) | (have H2_ := (Option.bind_some _ _).symm.trans H; rw [hy391]; with_reducible exact H2_) | (have H2_ := (Option.bind_some _ _).symm.trans H; with_reducible exact H2_) | with_reducible exact H | (rw [hy391]; exact H) | exact H
                have Ny391 := Aside0.mk hy391
                clear hy391
                by_cases c10 : y391.length < 8796093022208
                · rw [if_pos c10] at H
                  have LMc10 := Aside0.mk c10
                  clear c10
                  obtain ⟨y394, hy394⟩ : ∃ y_ : List (S42), y_ = (y391 ++ [(⟨a1, a2⟩ : S42)]) := ⟨_, rfl⟩
                  replace H : (if ((rd_T42 l0 x7_1).f0) = a1 then (if 0 ≤ (wrap64 (x7_1 + 1)) then (if (wrap64 (x7_1 + 1)) ≤ (l0.length : Int) then ((some (l0.drop ((wrap64 (x7_1 + 1)) : Int).toNat : List (S42))).bind fun y398 => (if y394.length + y398.length < 8796093022208 then (some (y394 ++ y398)) else (none))) else (none)) else (none)) else ((some (l0.drop (x7_1 : Int).toNat : List (S42))).bind fun y405 => (if y394.length + y405.length < 8796093022208 then (some (y394 ++ y405)) else (none)))) = some r := by first | (rw [hy394]; with_reducible exact H) | (have H2_ := (Option.bind_some _ _).symm.trans H; rw [hy394]; with_reducible exact H2_) | (have H2_ := (Option.bind_some _ _).symm.trans H; with_reducible exact H2_) | with_reducible exact H | (rw [hy394]; exact H) | exact H
                  have Ny394 := Aside0.mk hy394
                  clear hy394
                  by_cases c11 : ((rd_T42 l0 x7_1).f0) = a1
                  · rw [if_pos c11] at H
                    have c11b0 : (((rd_T42 l0 x7_1).f0) == a1) = true := beq_iff_eq.mpr c11
                    have c11b1 : (((rd_T42 l0 x7_1).f0) != a1) = false := bne_eq_false_iff_eq.mpr c11
                    clear c11
                    obtain ⟨ji12, hji12⟩ : ∃ j_ : Int, (wrap64 (x7_1 + 1)) = j_ := ⟨_, rfl⟩
                    replace H : (if 0 ≤ (ji12) then (if (ji12) ≤ (l0.length : Int) then ((some (l0.drop ((ji12) : Int).toNat : List (S42))).bind fun y398 => (if y394.length + y398.length < 8796093022208 then (some (y394 ++ y398)) else (none))) else (none)) else (none)) = some r := by first | (rw [hji12] at H; exact H) | (simp only [hji12] at H ⊢; exact H)
                    have hji12w : (IntKind.i64.wrap (x7_1 + 1)) = ji12 := (i64_w _).trans hji12
                    by_cases c13 : 0 ≤ (ji12)
                    · rw [if_pos c13] at H
                      have c13b0 := eq_true c13
                      have c13b1 : decide (0 ≤ (ji12)) = true := decide_eq_true c13
                      clear c13
                      by_cases c14 : (ji12) ≤ (l0.length : Int)
                      · rw [if_pos c14] at H
                        have c14b0 := eq_true c14
                        have c14b1 : decide ((ji12) ≤ (l0.length : Int)) = true := decide_eq_true c14
                        clear c14
                        obtain ⟨y398, hy398⟩ : ∃ y_ : List (S42), y_ = (l0.drop ((ji12) : Int).toNat) := ⟨_, rfl⟩
                        replace H : (if y394.length + y398.length < 8796093022208 then (some (y394 ++ y398)) else (none)) = some r := by first | (rw [hy398]; with_reducible exact H) | (have H2_ := (Option.bind_some _ _).symm.trans H; rw [hy398]; with_reducible exact H2_) | (have H2_ := (Option.bind_some _ _).symm.trans H; with_reducible exact H2_) | with_reducible exact H | (rw [hy398]; exact H) | exact H
                        have Ny398 := Aside0.mk hy398
                        clear hy398
                        by_cases c15 : y394.length + y398.length < 8796093022208
                        · rw [if_pos c15] at H
                          have LMc15 := Aside0.mk c15
                          clear c15
                          obtain ⟨y402, hy402⟩ : ∃ y_ : List (S42), y_ = (y394 ++ y398) := ⟨_, rfl⟩
                          replace H : (some y402) = some r := by first | (rw [hy402]; with_reducible exact H) | (have H2_ := (Option.bind_some _ _).symm.trans H; rw [hy402]; with_reducible exact H2_) | (have H2_ := (Option.bind_some _ _).symm.trans H; with_reducible exact H2_) | with_reducible exact H | (rw [hy402]; exact H) | exact H
                          have Ny402 := Aside0.mk hy402
                          clear hy402
                          obtain rfl := Option.some.inj H
                          have p386 : 0 ≤ (x7_1 : Int) := of_decide_eq_true (by first | (with_reducible assumption) | assumption)
                          have q386 : x7_1 < (l0.length : Int) := of_decide_eq_true (by first | (with_reducible assumption) | assumption)
                          obtain ⟨ad386, e386, hx386_0, hx386_1⟩ := at_T42 HR0.out x7_1 p386 q386
                          cases e386
                          replace hx386_0 := (HB.out.cell (World.block_lt_of_cell? w _ hx386_0)).trans hx386_0
                          replace hx386_1 := (HB.out.cell (World.block_lt_of_cell? w _ hx386_1)).trans hx386_1
                          replace p386 := eq_true p386
                          replace q386 := eq_true q386
                          have q16 : (x7_1 : Int) ≤ ((l0.length : Int) : Int) := of_decide_eq_true (by first | (with_reducible assumption) | assumption)
                          obtain ⟨i016, hi016, _, hsz16, _⟩ := info_parts info42
                          have hroom16 : l0.length ≤ c0 := HC0.out
                          have hC16 : Kd.C k42 _ (some ad386) l0.length l0 := HR0.out
                          have hcut16 := cut_to (P := Try.prog) 33 42 .i64 Try.underlying33 hi016 (some ad386) l0.length c0 x7_1 (of_decide_eq_true (by first | (with_reducible assumption) | assumption)) q16 hroom16
                          have hr16 := Kd.C_take (m := (x7_1 : Int).toNat) hC16 (by omega)
                          have hy16 : y387.length = (x7_1 : Int).toNat := (by rw [Ny387.out, List.length_take]; omega)
                          rw [← Ny387.out] at hr16
                          rw [← hy16] at hcut16
                          have HR390 := Aside0.mk hr16
                          have HC390 := Aside0.mk (show y387.length ≤ c0 from by omega)
                          clear hr16 hC16 hroom16 hi016 hsz16
                          have KY16 := Aside0.mk hy16
                          clear hy16
                          replace q16 := eq_true q16
                          go_wp2_with (first | ((with_reducible refine gate_builtin (b := .append) (xs := #[.tmp 24, .tmp 27]) rfl ?_); at_builtin; refine Kd.R_append_rows k42 (w0 := w) w.heap.size rfl (.tmp 24) (.tmp 27) 33 42 (.agg #[(.int .i64 0), (.int .i64 0)]) 16 rfl Try.underlying33 info42 rfl (by decide) (by omega) (.slice none 0 0) ([] : List (S42)) y387 _ _ _ (fun _ => True) (fun _ => False) rfl rfl ?aO ?aR (fun _ _ h => h) (fun _ h => h.elim) ?aF ?aB ?aS ?aL ?_; (case aR => repeat (first | exact (Kd.C_below HR390.out HB.out) | (with_reducible refine Kd.C_alloc ?_ _) | (with_reducible refine Kd.C_drewN ?_ _) | (with_reducible refine Kd.C_drew ?_))); (case aB => exact (by repeat (first | (with_reducible first | exact HB.out | apply below_alloc | apply pw_below_drewN | apply below_drew1) | exact HB.out))); (case aF => exact (fun _ _ => trivial)); (case aO => exact ((Kd.R_nil _ _ _ _ (fun _ => True)))); (case aS => exact (below_size (by repeat (first | (with_reducible first | exact HB.out | apply below_alloc | apply pw_below_drewN | apply below_drew1) | exact HB.out)))); (case aL => have := LMc9.out; omega); intro v392 w17 ho hb hg hat; rw [← Ny391.out] at ho; have n0_ := Aside0.mk (hb); have n1_ := Aside0.mk (ho); clear HB; have HB := n0_; have HO393 := n1_; clear n0_ n1_; clear ho hb hg hat) | ((with_reducible refine gate_builtin (b := .append) (xs := #[.tmp 29, .tmp 33]) rfl ?_); at_builtin; refine Kd.R_append k42 (w0 := w) w.heap.size rfl (.tmp 29) (.tmp 33) 33 42 (.agg #[(.int .i64 0), (.int .i64 0)]) 16 rfl Try.underlying33 info42 rfl (by decide) (by omega) v392 y391 (⟨a1, a2⟩ : S42) [.int .i64 a1, .int .i64 a2] (fun _ => True) (fun _ => False) rfl rfl ?aP (fun _ hk => hk.elim) ?aF ?aO ?aB ?aS ?aL ?_; (case aP => exact k42_mkM _ _ _ (⟨a1, a2⟩ : S42)); (case aB => exact (by repeat (first | (with_reducible first | exact HB.out | apply below_alloc | apply pw_below_drewN | apply below_drew1) | exact HB.out))); (case aF => exact (fun _ _ => trivial)); (case aO => exact (by (with_reducible repeat (first | apply Kd.R_alloc | apply Kd.R_drewN | apply Kd.R_drew)); exact HO393.out)); (case aS => exact (below_size (by repeat (first | (with_reducible first | exact HB.out | apply below_alloc | apply pw_below_drewN | apply below_drew1) | exact HB.out)))); (case aL => have := LMc10.out; omega); intro v395 w18 ho hb hg hat; rw [← Ny394.out] at ho; have n0_ := Aside0.mk (hb); have n1_ := Aside0.mk (ho); clear HB; clear HO393; have HB := n0_; have HO396 := n1_; clear n0_ n1_; clear ho hb hg hat; have p397 : 0 ≤ (x7_1 : Int) := of_decide_eq_true (by first | (with_reducible assumption) | assumption); have q397 : x7_1 < (l0.length : Int) := of_decide_eq_true (by first | (with_reducible assumption) | assumption); obtain ⟨ad397, e397, hx397_0, hx397_1⟩ := at_T42 HR0.out x7_1 p397 q397; obtain rfl : ad386 = ad397 := (by injection e397); replace hx397_0 := (HB.out.cell (World.block_lt_of_cell? w _ hx397_0)).trans hx397_0; replace hx397_1 := (HB.out.cell (World.block_lt_of_cell? w _ hx397_1)).trans hx397_1; replace p397 := eq_true p397; replace q397 := eq_true q397; have q19 : ((ji12) : Int) ≤ ((l0.length : Int) : Int) := of_decide_eq_true (by first | (with_reducible assumption) | assumption); obtain ⟨i019, hi019, _, hsz19, _⟩ := info_parts info42; have hroom19 : l0.length ≤ c0 := HC0.out; have hC19 : Kd.C k42 _ (some ad386) l0.length l0 := HR0.out; have q019 : (0 : Int) ≤ ((ji12) : Int) := of_decide_eq_true (by first | (with_reducible assumption) | assumption); have hcut19 := cut_from (P := Try.prog) 33 42 .i64 Try.underlying33 hi019 2 hsz19 (some ad386) l0.length c0 (ji12) q019 q19; have hr19 := Kd.C_drop (m := ((ji12) : Int).toNat) (c := c0) hC19 (by omega) hroom19; obtain ⟨A19, hA19⟩ : ∃ A1, A1 = (if c0 = ((ji12) : Int).toNat then (some ad386) else ((some ad386) : Option Addr).map (·.add (((ji12) : Int).toNat * 2))) := ⟨_, rfl⟩; obtain ⟨c19, hc19⟩ : ∃ c1, c1 = c0 - ((ji12) : Int).toNat := ⟨_, rfl⟩; have hy19 : y398.length = l0.length - ((ji12) : Int).toNat := (by rw [Ny398.out, List.length_drop] <;> omega); rw [show (l0).drop ((ji12) : Int).toNat = y398 from Ny398.out.symm] at hr19; replace hr19 : Kd.C k42 _ A19 y398.length y398 := (by rw [hA19]; exact hr19); rw [← hy19, ← hA19, ← hc19] at hcut19; have HR401 := Aside0.mk hr19; have HC401 := Aside0.mk (show y398.length ≤ c19 from by rw [hy19, hc19]; exact Nat.sub_le_sub_right hroom19 _); clear hr19 hC19 hroom19 hi019 hsz19 hc19; have KY19 := Aside0.mk hy19; have KA19 := Aside0.mk hA19; clear hy19 hA19; replace q19 := eq_true q19) | ((with_reducible refine gate_builtin (b := .append) (xs := #[.tmp 50, .tmp 53]) rfl ?_); at_builtin; refine Kd.R_append_rows k42 (w0 := w) w.heap.size rfl (.tmp 50) (.tmp 53) 33 42 (.agg #[(.int .i64 0), (.int .i64 0)]) 16 rfl Try.underlying33 info42 rfl (by decide) (by omega) v395 y394 y398 _ _ _ (fun _ => True) (fun _ => False) rfl rfl ?aO ?aR (fun _ _ h => h) (fun _ h => h.elim) ?aF ?aB ?aS ?aL ?_; (case aR => repeat (first | exact (Kd.C_below HR401.out HB.out) | (with_reducible refine Kd.C_alloc ?_ _) | (with_reducible refine Kd.C_drewN ?_ _) | (with_reducible refine Kd.C_drew ?_))); (case aB => exact (by repeat (first | (with_reducible first | exact HB.out | apply below_alloc | apply pw_below_drewN | apply below_drew1) | exact HB.out))); (case aF => exact (fun _ _ => trivial)); (case aO => exact (by (with_reducible repeat (first | apply Kd.R_alloc | apply Kd.R_drewN | apply Kd.R_drew)); exact HO396.out)); (case aS => exact (below_size (by repeat (first | (with_reducible first | exact HB.out | apply below_alloc | apply pw_below_drewN | apply below_drew1) | exact HB.out)))); (case aL => have := LMc15.out; omega); intro v403 w20 ho hb hg hat; rw [← Ny402.out] at ho; have n0_ := Aside0.mk (hb); have n1_ := Aside0.mk (ho); clear HB; clear HO396; have HB := n0_; have HO404 := n1_; clear n0_ n1_; clear ho hb hg hat))
                          go_ret
                          exact ⟨_, by first | rfl | (simp [errW_none, errW_some] <;> rfl) | (simp only [← hji12]; first | rfl | (simp [errW_none, errW_some] <;> rfl)) | (simp [*, errW_none, errW_some] <;> rfl), by (with_reducible repeat (first | apply Kd.R_alloc | apply Kd.R_drewN | apply Kd.R_drew)); exact HO404.out, by repeat (first | (with_reducible first | exact HB.out | apply below_alloc | apply pw_below_drewN | apply below_drew1) | exact HB.out)⟩
                        · rw [if_neg c15] at H
                          exact absurd H (by simp)
                      · rw [if_neg c14] at H
                        exact absurd H (by simp)
                    · rw [if_neg c13] at H
                      exact absurd H (by simp)
                  · rw [if_neg c11] at H
                    have c11b0 : (((rd_T42 l0 x7_1).f0) == a1) = false := beq_eq_false_iff_ne.mpr c11
                    have c11b1 : (((rd_T42 l0 x7_1).f0) != a1) = true := bne_iff_ne.mpr c11
                    have c21b0 := eq_true (of_decide_eq_true (by first | (with_reducible assumption) | assumption) : 0 ≤ x7_1)
                    have c22b0 := eq_true (of_decide_eq_true (by first | (with_reducible assumption) | assumption) : x7_1 ≤ (l0.length : Int))
                    obtain ⟨y405, hy405⟩ : ∃ y_ : List (S42), y_ = (l0.drop (x7_1 : Int).toNat) := ⟨_, rfl⟩
                    replace H : (if y394.length + y405.length < 8796093022208 then (some (y394 ++ y405)) else (none)) = some r := by first | (rw [hy405]; with_reducible exact H) | (have H2_ := (Option.bind_some _ _).symm.trans H; rw [hy405]; with_reducible exact H2_) | (have H2_ := (Option.bind_some _ _).symm.trans H; with_reducible exact H2_) | with_reducible exact H | (rw [hy405]; exact H) | exact H
                    have Ny405 := Aside0.mk hy405
                    clear hy405
                    by_cases c23 : y394.length + y405.length < 8796093022208
                    · rw [if_pos c23] at H
                      have LMc23 := Aside0.mk c23
                      clear c23
                      obtain ⟨y409, hy409⟩ : ∃ y_ : List (S42), y_ = (y394 ++ y405) := ⟨_, rfl⟩
                      replace H : (some y409) = some r := by first | (rw [hy409]; with_reducible exact H) | (have H2_ := (Option.bind_some _ _).symm.trans H; rw [hy409]; with_reducible exact H2_) | (have H2_ := (Option.bind_some _ _).symm.trans H; with_reducible exact H2_) | with_reducible exact H | (rw [hy409]; exact H) | exact H
                      have Ny409 := Aside0.mk hy409
                      clear hy409
                      obtain rfl := Option.some.inj H
                      have p386 : 0 ≤ (x7_1 : Int) := of_decide_eq_true (by first | (with_reducible assumption) | assumption)
                      have q386 : x7_1 < (l0.length : Int) := of_decide_eq_true (by first | (with_reducible assumption) | assumption)
                      obtain ⟨ad386, e386, hx386_0, hx386_1⟩ := at_T42 HR0.out x7_1 p386 q386
                      cases e386
                      replace hx386_0 := (HB.out.cell (World.block_lt_of_cell? w _ hx386_0)).trans hx386_0
                      replace hx386_1 := (HB.out.cell (World.block_lt_of_cell? w _ hx386_1)).trans hx386_1
                      replace p386 := eq_true p386
                      replace q386 := eq_true q386
                      have q24 : (x7_1 : Int) ≤ ((l0.length : Int) : Int) := of_decide_eq_true (by first | (with_reducible assumption) | assumption)
                      obtain ⟨i024, hi024, _, hsz24, _⟩ := info_parts info42
                      have hroom24 : l0.length ≤ c0 := HC0.out
                      have hC24 : Kd.C k42 _ (some ad386) l0.length l0 := HR0.out
                      have hcut24 := cut_to (P := Try.prog) 33 42 .i64 Try.underlying33 hi024 (some ad386) l0.length c0 x7_1 (of_decide_eq_true (by first | (with_reducible assumption) | assumption)) q24 hroom24
                      have hr24 := Kd.C_take (m := (x7_1 : Int).toNat) hC24 (by omega)
                      have hy24 : y387.length = (x7_1 : Int).toNat := (by rw [Ny387.out, List.length_take]; omega)
                      rw [← Ny387.out] at hr24
                      rw [← hy24] at hcut24
                      have HR390 := Aside0.mk hr24
                      have HC390 := Aside0.mk (show y387.length ≤ c0 from by omega)
                      clear hr24 hC24 hroom24 hi024 hsz24
                      have KY24 := Aside0.mk hy24
                      clear hy24
                      replace q24 := eq_true q24
                      go_wp2_with (first | ((with_reducible refine gate_builtin (b := .append) (xs := #[.tmp 24, .tmp 27]) rfl ?_); at_builtin; refine Kd.R_append_rows k42 (w0 := w) w.heap.size rfl (.tmp 24) (.tmp 27) 33 42 (.agg #[(.int .i64 0), (.int .i64 0)]) 16 rfl Try.underlying33 info42 rfl (by decide) (by omega) (.slice none 0 0) ([] : List (S42)) y387 _ _ _ (fun _ => True) (fun _ => False) rfl rfl ?aO ?aR (fun _ _ h => h) (fun _ h => h.elim) ?aF ?aB ?aS ?aL ?_; (case aR => repeat (first | exact (Kd.C_below HR390.out HB.out) | (with_reducible refine Kd.C_alloc ?_ _) | (with_reducible refine Kd.C_drewN ?_ _) | (with_reducible refine Kd.C_drew ?_))); (case aB => exact (by repeat (first | (with_reducible first | exact HB.out | apply below_alloc | apply pw_below_drewN | apply below_drew1) | exact HB.out))); (case aF => exact (fun _ _ => trivial)); (case aO => exact ((Kd.R_nil _ _ _ _ (fun _ => True)))); (case aS => exact (below_size (by repeat (first | (with_reducible first | exact HB.out | apply below_alloc | apply pw_below_drewN | apply below_drew1) | exact HB.out)))); (case aL => have := LMc9.out; omega); intro v392 w25 ho hb hg hat; rw [← Ny391.out] at ho; have n0_ := Aside0.mk (hb); have n1_ := Aside0.mk (ho); clear HB; have HB := n0_; have HO393 := n1_; clear n0_ n1_; clear ho hb hg hat) | ((with_reducible refine gate_builtin (b := .append) (xs := #[.tmp 29, .tmp 33]) rfl ?_); at_builtin; refine Kd.R_append k42 (w0 := w) w.heap.size rfl (.tmp 29) (.tmp 33) 33 42 (.agg #[(.int .i64 0), (.int .i64 0)]) 16 rfl Try.underlying33 info42 rfl (by decide) (by omega) v392 y391 (⟨a1, a2⟩ : S42) [.int .i64 a1, .int .i64 a2] (fun _ => True) (fun _ => False) rfl rfl ?aP (fun _ hk => hk.elim) ?aF ?aO ?aB ?aS ?aL ?_; (case aP => exact k42_mkM _ _ _ (⟨a1, a2⟩ : S42)); (case aB => exact (by repeat (first | (with_reducible first | exact HB.out | apply below_alloc | apply pw_below_drewN | apply below_drew1) | exact HB.out))); (case aF => exact (fun _ _ => trivial)); (case aO => exact (by (with_reducible repeat (first | apply Kd.R_alloc | apply Kd.R_drewN | apply Kd.R_drew)); exact HO393.out)); (case aS => exact (below_size (by repeat (first | (with_reducible first | exact HB.out | apply below_alloc | apply pw_below_drewN | apply below_drew1) | exact HB.out)))); (case aL => have := LMc10.out; omega); intro v395 w26 ho hb hg hat; rw [← Ny394.out] at ho; have n0_ := Aside0.mk (hb); have n1_ := Aside0.mk (ho); clear HB; clear HO393; have HB := n0_; have HO396 := n1_; clear n0_ n1_; clear ho hb hg hat; have p397 : 0 ≤ (x7_1 : Int) := of_decide_eq_true (by first | (with_reducible assumption) | assumption); have q397 : x7_1 < (l0.length : Int) := of_decide_eq_true (by first | (with_reducible assumption) | assumption); obtain ⟨ad397, e397, hx397_0, hx397_1⟩ := at_T42 HR0.out x7_1 p397 q397; obtain rfl : ad386 = ad397 := (by injection e397); replace hx397_0 := (HB.out.cell (World.block_lt_of_cell? w _ hx397_0)).trans hx397_0; replace hx397_1 := (HB.out.cell (World.block_lt_of_cell? w _ hx397_1)).trans hx397_1; replace p397 := eq_true p397; replace q397 := eq_true q397; have q27 : (x7_1 : Int) ≤ ((l0.length : Int) : Int) := of_decide_eq_true (by first | (with_reducible assumption) | assumption); obtain ⟨i027, hi027, _, hsz27, _⟩ := info_parts info42; have hroom27 : l0.length ≤ c0 := HC0.out; have hC27 : Kd.C k42 _ (some ad386) l0.length l0 := HR0.out; have q027 : (0 : Int) ≤ (x7_1 : Int) := of_decide_eq_true (by first | (with_reducible assumption) | assumption); have hcut27 := cut_from (P := Try.prog) 33 42 .i64 Try.underlying33 hi027 2 hsz27 (some ad386) l0.length c0 x7_1 q027 q27; have hr27 := Kd.C_drop (m := (x7_1 : Int).toNat) (c := c0) hC27 (by omega) hroom27; obtain ⟨A27, hA27⟩ : ∃ A1, A1 = (if c0 = (x7_1 : Int).toNat then (some ad386) else ((some ad386) : Option Addr).map (·.add ((x7_1 : Int).toNat * 2))) := ⟨_, rfl⟩; obtain ⟨c27, hc27⟩ : ∃ c1, c1 = c0 - (x7_1 : Int).toNat := ⟨_, rfl⟩; have hy27 : y405.length = l0.length - (x7_1 : Int).toNat := (by rw [Ny405.out, List.length_drop] <;> omega); rw [show (l0).drop (x7_1 : Int).toNat = y405 from Ny405.out.symm] at hr27; replace hr27 : Kd.C k42 _ A27 y405.length y405 := (by rw [hA27]; exact hr27); rw [← hy27, ← hA27, ← hc27] at hcut27; have HR408 := Aside0.mk hr27; have HC408 := Aside0.mk (show y405.length ≤ c27 from by rw [hy27, hc27]; exact Nat.sub_le_sub_right hroom27 _); clear hr27 hC27 hroom27 hi027 hsz27 hc27; have KY27 := Aside0.mk hy27; have KA27 := Aside0.mk hA27; clear hy27 hA27; replace q27 := eq_true q27) | ((with_reducible refine gate_builtin (b := .append) (xs := #[.tmp 50, .tmp 53]) rfl ?_); at_builtin; refine Kd.R_append_rows k42 (w0 := w) w.heap.size rfl (.tmp 50) (.tmp 53) 33 42 (.agg #[(.int .i64 0), (.int .i64 0)]) 16 rfl Try.underlying33 info42 rfl (by decide) (by omega) v395 y394 y405 _ _ _ (fun _ => True) (fun _ => False) rfl rfl ?aO ?aR (fun _ _ h => h) (fun _ h => h.elim) ?aF ?aB ?aS ?aL ?_; (case aR => repeat (first | exact (Kd.C_below HR408.out HB.out) | (with_reducible refine Kd.C_alloc ?_ _) | (with_reducible refine Kd.C_drewN ?_ _) | (with_reducible refine Kd.C_drew ?_))); (case aB => exact (by repeat (first | (with_reducible first | exact HB.out | apply below_alloc | apply pw_below_drewN | apply below_drew1) | exact HB.out))); (case aF => exact (fun _ _ => trivial)); (case aO => exact (by (with_reducible repeat (first | apply Kd.R_alloc | apply Kd.R_drewN | apply Kd.R_drew)); exact HO396.out)); (case aS => exact (below_size (by repeat (first | (with_reducible first | exact HB.out | apply below_alloc | apply pw_below_drewN | apply below_drew1) | exact HB.out)))); (case aL => have := LMc23.out; omega); intro v410 w28 ho hb hg hat; rw [← Ny409.out] at ho; have n0_ := Aside0.mk (hb); have n1_ := Aside0.mk (ho); clear HB; clear HO396; have HB := n0_; have HO411 := n1_; clear n0_ n1_; clear ho hb hg hat))
                      go_ret
                      exact ⟨_, by first | rfl | (simp [errW_none, errW_some] <;> rfl) | (simp [*, errW_none, errW_some] <;> rfl), by (with_reducible repeat (first | apply Kd.R_alloc | apply Kd.R_drewN | apply Kd.R_drew)); exact HO411.out, by repeat (first | (with_reducible first | exact HB.out | apply below_alloc | apply pw_below_drewN | apply below_drew1) | exact HB.out)⟩
                    · rw [if_neg c23] at H
                      exact absurd H (by simp)
                · rw [if_neg c10] at H
                  exact absurd H (by simp)
              · rw [if_neg c9] at H
                exact absurd H (by simp)
            · rw [if_neg c8] at H
              exact absurd H (by simp)
        · rw [if_neg c5] at H
          exact absurd H (by simp)
      · rw [if_neg c4] at H
        have c4b0 : decide (x7_1 < (l0.length : Int)) = false := decide_eq_false c4
        clear c4
        by_cases c29 : 0 ≤ x7_1
        · rw [if_pos c29] at H
          have c29b0 := eq_true c29
          have c29b1 : decide (0 ≤ x7_1) = true := decide_eq_true c29
          clear c29
          by_cases c30 : x7_1 ≤ (l0.length : Int)
          · rw [if_pos c30] at H
            have c30b0 := eq_true c30
            have c30b1 : decide (x7_1 ≤ (l0.length : Int)) = true := decide_eq_true c30
            clear c30
            obtain ⟨y412, hy412⟩ : ∃ y_ : List (S42), y_ = (l0.take (x7_1 : Int).toNat) := ⟨_, rfl⟩
            replace H : (if ([] : List (S42)).length + y412.length < 8796093022208 then ((some (([] : List (S42)) ++ y412 : List (S42))).bind fun y416 => (if y416.length < 8796093022208 then ((some (y416 ++ [(⟨a1, a2⟩ : S42)] : List (S42))).bind fun y419 => ((some (l0.drop (x7_1 : Int).toNat : List (S42))).bind fun y422 => (if y419.length + y422.length < 8796093022208 then (some (y419 ++ y422)) else (none)))) else (none))) else (none)) = some r := by first | (rw [hy412]; with_reducible exact H) | (have H2_ := (Option.bind_some _ _).symm.trans H; rw [hy412]; with_reducible exact H2_) | (have H2_ := (Option.bind_some _ _).symm.trans H; with_reducible exact H2_) | with_reducible exact H | (rw [hy412]; exact H) | exact H
            have Ny412 := Aside0.mk hy412
            clear hy412
            by_cases c31 : ([] : List (S42)).length + y412.length < 8796093022208
            · rw [if_pos c31] at H
              have LMc31 := Aside0.mk c31
              clear c31
              obtain ⟨y416, hy416⟩ : ∃ y_ : List (S42), y_ = (([] : List (S42)) ++ y412) := ⟨_, rfl⟩
              replace H : (if y416.length < 8796093022208 then ((some (y416 ++ [(⟨a1, a2⟩ : S42)] : List (S42))).bind fun y419 => ((some (l0.drop (x7_1 : Int).toNat : List (S42))).bind fun y422 => (if y419.length + y422.length < 8796093022208 then (some (y419 ++ y422)) else (none)))) else (none)) = some r := by first | (rw [hy416]; with_reducible exact H) | (have H2_ := (Option.bind_some _ _).symm.trans H; rw [hy416]; with_reducible exact H2_) | (have H2_ := (Option.bind_some _ _).symm.trans H; with_reducible exact H2_) | with_reducible exact H | (rw [hy416]; exact H) | exact H
              have Ny416 := Aside0.mk hy416
              clear hy416
              by_cases c32 : y416.length < 8796093022208
              · rw [if_pos c32] at H
                have LMc32 := Aside0.mk c32
                clear c32
                obtain ⟨y419, hy419⟩ : ∃ y_ : List (S42), y_ = (y416 ++ [(⟨a1, a2⟩ : S42)]) := ⟨_, rfl⟩
                replace H : ((some (l0.drop (x7_1 : Int).toNat : List (S42))).bind fun y422 => (if y419.length + y422.length < 8796093022208 then (some (y419 ++ y422)) else (none))) = some r := by first | (rw [hy419]; with_reducible exact H) | (have H2_ := (Option.bind_some _ _).symm.trans H; rw [hy419]; with_reducible exact H2_) | (have H2_ := (Option.bind_some _ _).symm.trans H; with_reducible exact H2_) | with_reducible exact H | (rw [hy419]; exact H) | exact H
                have Ny419 := Aside0.mk hy419
                clear hy419
                have c33b0 := eq_true (of_decide_eq_true (by first | (with_reducible assumption) | assumption) : 0 ≤ x7_1)
                have c34b0 := eq_true (of_decide_eq_true (by first | (with_reducible assumption) | assumption) : x7_1 ≤ (l0.length : Int))
                obtain ⟨y422, hy422⟩ : ∃ y_ : List (S42), y_ = (l0.drop (x7_1 : Int).toNat) := ⟨_, rfl⟩
                replace H : (if y419.length + y422.length < 8796093022208 then (some (y419 ++ y422)) else (none)) = some r := by first | (rw [hy422]; with_reducible exact H) | (have H2_ := (Option.bind_some _ _).symm.trans H; rw [hy422]; with_reducible exact H2_) | (have H2_ := (Option.bind_some _ _).symm.trans H; with_reducible exact H2_) | with_reducible exact H | (rw [hy422]; exact H) | exact H
                have Ny422 := Aside0.mk hy422
                clear hy422
                by_cases c35 : y419.length + y422.length < 8796093022208
                · rw [if_pos c35] at H
                  have LMc35 := Aside0.mk c35
                  clear c35
                  obtain ⟨y426, hy426⟩ : ∃ y_ : List (S42), y_ = (y419 ++ y422) := ⟨_, rfl⟩
                  replace H : (some y426) = some r := by first | (rw [hy426]; with_reducible exact H) | (have H2_ := (Option.bind_some _ _).symm.trans H; rw [hy426]; with_reducible exact H2_) | (have H2_ := (Option.bind_some _ _).symm.trans H; with_reducible exact H2_) | with_reducible exact H | (rw [hy426]; exact H) | exact H
                  have Ny426 := Aside0.mk hy426
                  clear hy426
                  obtain rfl := Option.some.inj H
                  have q36 : (x7_1 : Int) ≤ ((l0.length : Int) : Int) := of_decide_eq_true (by first | (with_reducible assumption) | assumption)
                  obtain ⟨i036, hi036, _, hsz36, _⟩ := info_parts info42
                  have hroom36 : l0.length ≤ c0 := HC0.out
                  have hC36 : Kd.C k42 _ A0 l0.length l0 := HR0.out
                  have hcut36 := cut_to (P := Try.prog) 33 42 .i64 Try.underlying33 hi036 A0 l0.length c0 x7_1 (of_decide_eq_true (by first | (with_reducible assumption) | assumption)) q36 hroom36
                  have hr36 := Kd.C_take (m := (x7_1 : Int).toNat) hC36 (by omega)
                  have hy36 : y412.length = (x7_1 : Int).toNat := (by rw [Ny412.out, List.length_take]; omega)
                  rw [← Ny412.out] at hr36
                  rw [← hy36] at hcut36
                  have HR415 := Aside0.mk hr36
                  have HC415 := Aside0.mk (show y412.length ≤ c0 from by omega)
                  clear hr36 hC36 hroom36 hi036 hsz36
                  have KY36 := Aside0.mk hy36
                  clear hy36
                  replace q36 := eq_true q36
                  go_wp2_with (first | ((with_reducible refine gate_builtin (b := .append) (xs := #[.tmp 24, .tmp 27]) rfl ?_); at_builtin; refine Kd.R_append_rows k42 (w0 := w) w.heap.size rfl (.tmp 24) (.tmp 27) 33 42 (.agg #[(.int .i64 0), (.int .i64 0)]) 16 rfl Try.underlying33 info42 rfl (by decide) (by omega) (.slice none 0 0) ([] : List (S42)) y412 _ _ _ (fun _ => True) (fun _ => False) rfl rfl ?aO ?aR (fun _ _ h => h) (fun _ h => h.elim) ?aF ?aB ?aS ?aL ?_; (case aR => repeat (first | exact (Kd.C_below HR415.out HB.out) | (with_reducible refine Kd.C_alloc ?_ _) | (with_reducible refine Kd.C_drewN ?_ _) | (with_reducible refine Kd.C_drew ?_))); (case aB => exact (by repeat (first | (with_reducible first | exact HB.out | apply below_alloc | apply pw_below_drewN | apply below_drew1) | exact HB.out))); (case aF => exact (fun _ _ => trivial)); (case aO => exact ((Kd.R_nil _ _ _ _ (fun _ => True)))); (case aS => exact (below_size (by repeat (first | (with_reducible first | exact HB.out | apply below_alloc | apply pw_below_drewN | apply below_drew1) | exact HB.out)))); (case aL => have := LMc31.out; omega); intro v417 w37 ho hb hg hat; rw [← Ny416.out] at ho; have n0_ := Aside0.mk (hb); have n1_ := Aside0.mk (ho); clear HB; have HB := n0_; have HO418 := n1_; clear n0_ n1_; clear ho hb hg hat) | ((with_reducible refine gate_builtin (b := .append) (xs := #[.tmp 29, .tmp 33]) rfl ?_); at_builtin; refine Kd.R_append k42 (w0 := w) w.heap.size rfl (.tmp 29) (.tmp 33) 33 42 (.agg #[(.int .i64 0), (.int .i64 0)]) 16 rfl Try.underlying33 info42 rfl (by decide) (by omega) v417 y416 (⟨a1, a2⟩ : S42) [.int .i64 a1, .int .i64 a2] (fun _ => True) (fun _ => False) rfl rfl ?aP (fun _ hk => hk.elim) ?aF ?aO ?aB ?aS ?aL ?_; (case aP => exact k42_mkM _ _ _ (⟨a1, a2⟩ : S42)); (case aB => exact (by repeat (first | (with_reducible first | exact HB.out | apply below_alloc | apply pw_below_drewN | apply below_drew1) | exact HB.out))); (case aF => exact (fun _ _ => trivial)); (case aO => exact (by (with_reducible repeat (first | apply Kd.R_alloc | apply Kd.R_drewN | apply Kd.R_drew)); exact HO418.out)); (case aS => exact (below_size (by repeat (first | (with_reducible first | exact HB.out | apply below_alloc | apply pw_below_drewN | apply below_drew1) | exact HB.out)))); (case aL => have := LMc32.out; omega); intro v420 w38 ho hb hg hat; rw [← Ny419.out] at ho; have n0_ := Aside0.mk (hb); have n1_ := Aside0.mk (ho); clear HB; clear HO418; have HB := n0_; have HO421 := n1_; clear n0_ n1_; clear ho hb hg hat; have q39 : (x7_1 : Int) ≤ ((l0.length : Int) : Int) := of_decide_eq_true (by first | (with_reducible assumption) | assumption); obtain ⟨i039, hi039, _, hsz39, _⟩ := info_parts info42; have hroom39 : l0.length ≤ c0 := HC0.out; have hC39 : Kd.C k42 _ A0 l0.length l0 := HR0.out; have q039 : (0 : Int) ≤ (x7_1 : Int) := of_decide_eq_true (by first | (with_reducible assumption) | assumption); have hcut39 := cut_from (P := Try.prog) 33 42 .i64 Try.underlying33 hi039 2 hsz39 A0 l0.length c0 x7_1 q039 q39; have hr39 := Kd.C_drop (m := (x7_1 : Int).toNat) (c := c0) hC39 (by omega) hroom39; obtain ⟨A39, hA39⟩ : ∃ A1, A1 = (if c0 = (x7_1 : Int).toNat then A0 else (A0 : Option Addr).map (·.add ((x7_1 : Int).toNat * 2))) := ⟨_, rfl⟩; obtain ⟨c39, hc39⟩ : ∃ c1, c1 = c0 - (x7_1 : Int).toNat := ⟨_, rfl⟩; have hy39 : y422.length = l0.length - (x7_1 : Int).toNat := (by rw [Ny422.out, List.length_drop] <;> omega); rw [show (l0).drop (x7_1 : Int).toNat = y422 from Ny422.out.symm] at hr39; replace hr39 : Kd.C k42 _ A39 y422.length y422 := (by rw [hA39]; exact hr39); rw [← hy39, ← hA39, ← hc39] at hcut39; have HR425 := Aside0.mk hr39; have HC425 := Aside0.mk (show y422.length ≤ c39 from by rw [hy39, hc39]; exact Nat.sub_le_sub_right hroom39 _); clear hr39 hC39 hroom39 hi039 hsz39 hc39; have KY39 := Aside0.mk hy39; have KA39 := Aside0.mk hA39; clear hy39 hA39; replace q39 := eq_true q39) | ((with_reducible refine gate_builtin (b := .append) (xs := #[.tmp 50, .tmp 53]) rfl ?_); at_builtin; refine Kd.R_append_rows k42 (w0 := w) w.heap.size rfl (.tmp 50) (.tmp 53) 33 42 (.agg #[(.int .i64 0), (.int .i64 0)]) 16 rfl Try.underlying33 info42 rfl (by decide) (by omega) v420 y419 y422 _ _ _ (fun _ => True) (fun _ => False) rfl rfl ?aO ?aR (fun _ _ h => h) (fun _ h => h.elim) ?aF ?aB ?aS ?aL ?_; (case aR => repeat (first | exact (Kd.C_below HR425.out HB.out) | (with_reducible refine Kd.C_alloc ?_ _) | (with_reducible refine Kd.C_drewN ?_ _) | (with_reducible refine Kd.C_drew ?_))); (case aB => exact (by repeat (first | (with_reducible first | exact HB.out | apply below_alloc | apply pw_below_drewN | apply below_drew1) | exact HB.out))); (case aF => exact (fun _ _ => trivial)); (case aO => exact (by (with_reducible repeat (first | apply Kd.R_alloc | apply Kd.R_drewN | apply Kd.R_drew)); exact HO421.out)); (case aS => exact (below_size (by repeat (first | (with_reducible first | exact HB.out | apply below_alloc | apply pw_below_drewN | apply below_drew1) | exact HB.out)))); (case aL => have := LMc35.out; omega); intro v427 w40 ho hb hg hat; rw [← Ny426.out] at ho; have n0_ := Aside0.mk (hb); have n1_ := Aside0.mk (ho); clear HB; clear HO421; have HB := n0_; have HO428 := n1_; clear n0_ n1_; clear ho hb hg hat))
                  go_ret
                  exact ⟨_, by first | rfl | (simp [errW_none, errW_some] <;> rfl) | (simp [*, errW_none, errW_some] <;> rfl), by (with_reducible repeat (first | apply Kd.R_alloc | apply Kd.R_drewN | apply Kd.R_drew)); exact HO428.out, by repeat (first | (with_reducible first | exact HB.out | apply below_alloc | apply pw_below_drewN | apply below_drew1) | exact HB.out)⟩
                · rw [if_neg c35] at H
                  exact absurd H (by simp)
              · rw [if_neg c32] at H
                exact absurd H (by simp)
            · rw [if_neg c31] at H
              exact absurd H (by simp)
          · rw [if_neg c30] at H
            exact absurd H (by simp)
        · rw [if_neg c29] at H
          exact absurd H (by simp)

end Go.Proofs.Ytkfopphcgjdcaaa.A

/- What the machine does at this function, and a plain Lean function that says the same: written by a program for this claim; Lean checks it. -/
namespace Go.Proofs.Ytkfopphcgjdcaaa.A
open Go.RowKit Go.Proofs.YtkfopphcgjdcaaaW.PrintWords Go.Proofs.YtkfopphcgjdcaaaW.PrintLast Go.Proofs.YtkfopphcgjdcaaaW.PrintMore
attribute [local go_sem] max2_int min2_int max_two min_two max_three min_three max_four min_four   -- for this text's walks alone
set_option linter.unusedVariables false
set_option linter.unusedSimpArgs false

/-! ### swageref18_value: function 44 -/
def swageref18_value.l0 : Nat → List (S42) → Int → Int → Option (Int)
  | 0, _, _, _ => none
  | k + 1, x0, x1, x5 => if x5 < (x0.length : Int) then (if 0 ≤ x5 then (if ((rd_T42 x0 x5).f0) = x1 then (some ((rd_T42 x0 x5).f1)) else (swageref18_value.l0 k x0 x1 (wrap64 (x5 + 1)))) else (none)) else (some 0)
def swageref18_value.f (k : Nat) (l0 : List (S42)) (a1 : Int) : Option (Int) := swageref18_value.l0 k l0 a1 0
theorem swageref18_value.mono_l : ∀ k, (∀ y0 y1 y2, LeO (swageref18_value.l0 k y0 y1 y2) (swageref18_value.l0 (k + 1) y0 y1 y2))
  | 0 => fun _ _ _ r h => by simp [swageref18_value.l0] at h
  | k + 1 => by
    have ih0 := swageref18_value.mono_l k
    · intro y0 y1 y2
      unfold swageref18_value.l0
      repeat' first
      | (with_reducible exact ih0 _ _ _)
      | (with_reducible exact LeO.refl _)
      | (with_reducible exact LeO.none _)
      | (with_reducible refine LeO.ite ?_ ?_)
      | (with_reducible refine LeO.bind ?_ (fun _ => ?_))
      | exact ih0 _ _ _
      | exact LeO.none _
      | refine LeO.ite ?_ ?_
      | refine LeO.bind ?_ (fun _ => ?_)
theorem swageref18_value.mono : ∀ a0 a1 k, LeO (swageref18_value.f k a0 a1) (swageref18_value.f (k + 1) a0 a1) := by
  intro a0 a1 k
  have ih0 := swageref18_value.mono_l k
  unfold swageref18_value.f
  repeat' first
      | (with_reducible exact ih0 _ _ _)
      | (with_reducible exact LeO.refl _)
      | (with_reducible exact LeO.none _)
      | (with_reducible refine LeO.ite ?_ ?_)
      | (with_reducible refine LeO.bind ?_ (fun _ => ?_))
      | exact ih0 _ _ _
      | exact LeO.none _
      | refine LeO.ite ?_ ?_
      | refine LeO.bind ?_ (fun _ => ?_)
set_option maxHeartbeats 8000000 in
set_option maxRecDepth 100000 in
theorem swageref18_value.calls (k : Nat) (A0 : Option Addr) (c0 : Nat) (l0 : List (S42)) (a1 : Int) (r : Int) (w : World) (hr0 : Kd.C k42 w A0 l0.length l0) (hc0 : l0.length ≤ c0) (h : swageref18_value.f k l0 a1 = some r) :
    Calls Try.prog 44 #[.slice A0 l0.length c0, .int .i64 a1] w fun e w' => e = .returned (.int .i64 r) ∧ Drawn0 w w' := by
  have HR0 := Aside0.mk hr0
  have HC0 := Aside0.mk hc0
  clear hr0 hc0
  have H : (swageref18_value.l0 k l0 a1 0) = some r := h
  clear h
  have H' := Aside0.mk H
  clear H
  go_enter Try.func44, Try.ntmps44
  go_wp2
  go_loopg [5] k (fun kq v5 w' => ∃ (x5_1 : Int), v5 = .int .i64 x5_1 ∧ Aside0 (swageref18_value.l0 kq l0 a1 x5_1 = some r) ∧ Aside0 (kq ≤ k) ∧ Drawn0 w w')
  case atStart => exact ⟨(0), (by first | rfl | (simp; done) | (simp [*]; done)), H', ⟨Nat.le_refl _⟩, by repeat (first | exact Drawn0.refl _ | apply Drawn0.step)⟩
  case round =>
    clear H'
    try clear p2
    obtain ⟨x5_1, rfl, HA, HK1, ⟨m1, rfl⟩⟩ := hrel
    cases gk with
    | zero => exact absurd HA.out (by simp [swageref18_value.l0])
    | succ k1 =>
      have H := HA.out
      clear HA
      simp only [swageref18_value.l0] at H
      by_cases c3 : x5_1 < (l0.length : Int)
      · rw [if_pos c3] at H
        have c3b0 : decide (x5_1 < (l0.length : Int)) = true := decide_eq_true c3
        clear c3
        by_cases c4 : 0 ≤ x5_1
        · rw [if_pos c4] at H
          have c4b0 : decide (0 ≤ x5_1) = true := decide_eq_true c4
          clear c4
          by_cases c5 : ((rd_T42 l0 x5_1).f0) = a1
          · rw [if_pos c5] at H
            have c5b0 : (((rd_T42 l0 x5_1).f0) == a1) = true := beq_iff_eq.mpr c5
            have c5b1 : (((rd_T42 l0 x5_1).f0) != a1) = false := bne_eq_false_iff_eq.mpr c5
            clear c5
            obtain rfl := Option.some.inj H
            have p429 : 0 ≤ (x5_1 : Int) := of_decide_eq_true (by first | (with_reducible assumption) | assumption)
            have q429 : x5_1 < (l0.length : Int) := of_decide_eq_true (by first | (with_reducible assumption) | assumption)
            obtain ⟨ad429, e429, hx429_0, hx429_1⟩ := at_T42 HR0.out x5_1 p429 q429
            cases e429
            replace p429 := eq_true p429
            replace q429 := eq_true q429
            have p430 : 0 ≤ (x5_1 : Int) := of_decide_eq_true (by first | (with_reducible assumption) | assumption)
            have q430 : x5_1 < (l0.length : Int) := of_decide_eq_true (by first | (with_reducible assumption) | assumption)
            obtain ⟨ad430, e430, hx430_0, hx430_1⟩ := at_T42 HR0.out x5_1 p430 q430
            obtain rfl : ad429 = ad430 := (by injection e430)
            replace p430 := eq_true p430
            replace q430 := eq_true q430
            go_wp2
            go_ret
            exact ⟨by first | rfl | (simp; done) | (simp [*]; done), by repeat (first | exact Drawn0.refl _ | apply Drawn0.step)⟩
          · rw [if_neg c5] at H
            have c5b0 : (((rd_T42 l0 x5_1).f0) == a1) = false := beq_eq_false_iff_ne.mpr c5
            have c5b1 : (((rd_T42 l0 x5_1).f0) != a1) = true := bne_iff_ne.mpr c5
            have H' := Aside0.mk H
            clear H
            have p429 : 0 ≤ (x5_1 : Int) := of_decide_eq_true (by first | (with_reducible assumption) | assumption)
            have q429 : x5_1 < (l0.length : Int) := of_decide_eq_true (by first | (with_reducible assumption) | assumption)
            obtain ⟨ad429, e429, hx429_0, hx429_1⟩ := at_T42 HR0.out x5_1 p429 q429
            cases e429
            replace p429 := eq_true p429
            replace q429 := eq_true q429
            go_wp2
            go_roundg k1
            case measure => have := HK1.out; omega
            case rel => exact ⟨(wrap64 (x5_1 + 1)), (by first | rfl | (simp; done) | (simp [*]; done)), H', ⟨by have := HK1.out; omega⟩, by repeat (first | exact Drawn0.refl _ | apply Drawn0.step)⟩
        · rw [if_neg c4] at H
          exact absurd H (by simp)
      · rw [if_neg c3] at H
        have c3b0 : decide (x5_1 < (l0.length : Int)) = false := decide_eq_false c3
        clear c3
        obtain rfl := Option.some.inj H
        go_wp2
        go_ret
        exact ⟨by first | rfl | (simp; done) | (simp [*]; done), by repeat (first | exact Drawn0.refl _ | apply Drawn0.step)⟩

end Go.Proofs.Ytkfopphcgjdcaaa.A

/- What the machine does at this function, and a plain Lean function that says the same: written by a program for this claim; Lean checks it. -/
namespace Go.Proofs.Ytkfopphcgjdcaaa.A
open Go.RowKit Go.Proofs.YtkfopphcgjdcaaaW.PrintWords Go.Proofs.YtkfopphcgjdcaaaW.PrintLast Go.Proofs.YtkfopphcgjdcaaaW.PrintMore
attribute [local go_sem] max2_int min2_int max_two min_two max_three min_three max_four min_four   -- for this text's walks alone
set_option linter.unusedVariables false
set_option linter.unusedSimpArgs false

/-! ### swageref18_sorted: function 42 -/
def swageref18_sorted.l0 : Nat → List (S42) → List (S42) → Int → Option ((List (S42)))
  | 0, _, _, _ => none
  | k + 1, x0, x3, x4 => if x4 < (x0.length : Int) then (if 0 ≤ x4 then ((swageref18_value.f k x0 ((rd_T42 x0 x4).f0)).bind fun t433 => ((swageref18_put.f k x3 ((rd_T42 x0 x4).f0) t433).bind fun t434 => (swageref18_sorted.l0 k x0 t434 (wrap64 (x4 + 1))))) else (none)) else (some x3)
def swageref18_sorted.f (k : Nat) (l0 : List (S42)) : Option ((List (S42))) := swageref18_sorted.l0 k l0 ([] : List (S42)) 0
theorem swageref18_sorted.mono_l : ∀ k, (∀ y0 y1 y2, LeO (swageref18_sorted.l0 k y0 y1 y2) (swageref18_sorted.l0 (k + 1) y0 y1 y2))
  | 0 => fun _ _ _ r h => by simp [swageref18_sorted.l0] at h
  | k + 1 => by
    have ih0 := swageref18_sorted.mono_l k
    · intro y0 y1 y2
      unfold swageref18_sorted.l0
      repeat' first
      | (with_reducible exact ih0 _ _ _)
      | (with_reducible exact swageref18_put.mono _ _ _ _)
      | (with_reducible exact swageref18_value.mono _ _ _)
      | (with_reducible exact LeO.refl _)
      | (with_reducible exact LeO.none _)
      | (with_reducible refine LeO.ite ?_ ?_)
      | (with_reducible refine LeO.bind ?_ (fun _ => ?_))
      | exact ih0 _ _ _
      | exact swageref18_put.mono _ _ _ _
      | exact swageref18_value.mono _ _ _
      | exact LeO.none _
      | refine LeO.ite ?_ ?_
      | refine LeO.bind ?_ (fun _ => ?_)
theorem swageref18_sorted.mono : ∀ a0 k, LeO (swageref18_sorted.f k a0) (swageref18_sorted.f (k + 1) a0) := by
  intro a0 k
  have ih0 := swageref18_sorted.mono_l k
  unfold swageref18_sorted.f
  repeat' first
      | (with_reducible exact ih0 _ _ _)
      | (with_reducible exact swageref18_put.mono _ _ _ _)
      | (with_reducible exact swageref18_value.mono _ _ _)
      | (with_reducible exact LeO.refl _)
      | (with_reducible exact LeO.none _)
      | (with_reducible refine LeO.ite ?_ ?_)
      | (with_reducible refine LeO.bind ?_ (fun _ => ?_))
      | exact ih0 _ _ _
      | exact swageref18_put.mono _ _ _ _
      | exact swageref18_value.mono _ _ _
      | exact LeO.none _
      | refine LeO.ite ?_ ?_
      | refine LeO.bind ?_ (fun _ => ?_)
def swageref18_sorted.T5 : Bool × List (List Nat × List Nat) := (true, [([], []), ([], []), ([], []), ([1, 2], [1, 2]), ([3], [3]), ([4], [4]), ([], []), ([], []), ([], []), ([7, 8], [7, 8]), ([9], [9]), ([10], [10]), ([6, 11], [6, 11]), ([0, 5, 12, 12], [0, 5, 12]), ([13, 13, 0, 1, 2, 3, 4, 5, 6, 7, 8, 9, 10, 11, 12, 13], [0, 13])])
def swageref18_sorted.B5 : List Nat := [0, 0, 0, 6, 14, 30, 0, 0, 0, 384, 896, 1920, 4032, 8191, 16383]
theorem swageref18_sorted.tab5 : rtab .any (opsOf Try.f42 5) = swageref18_sorted.T5 := by kernel_rfl
theorem swageref18_sorted.bits5 : waitsOk swageref18_sorted.T5.2 swageref18_sorted.B5 = true := by kernel_rfl
set_option maxHeartbeats 8000000 in
set_option maxRecDepth 100000 in
theorem swageref18_sorted.calls (k : Nat) (A0 : Option Addr) (c0 : Nat) (l0 : List (S42)) (r : List (S42)) (w : World) (hr0 : Kd.C k42 w A0 l0.length l0) (hc0 : l0.length ≤ c0) (h : swageref18_sorted.f k l0 = some r) :
    Calls Try.prog 42 #[.slice A0 l0.length c0] w fun e w' => ∃ v0_ : Value, e = .returned (v0_) ∧ Kd.R k42 42 w' w.heap.size (fun _ => True) v0_ r ∧ Below w.heap.size w w' := by
  have HR0 := Aside0.mk hr0
  have HC0 := Aside0.mk hc0
  clear hr0 hc0
  have HB := Aside0.mk (Below.refl w.heap.size w)
  have H : (swageref18_sorted.l0 k l0 ([] : List (S42)) 0) = some r := h
  clear h
  have H' := Aside0.mk H
  clear H
  go_enter Try.func42, Try.ntmps42
  go_wp2
  go_loopg [3, 4] k (fun kq v3 v4 w' => ∃ (x3_1 : List (S42)) (x4_1 : Int), v4 = .int .i64 x4_1 ∧ Aside0 (swageref18_sorted.l0 kq l0 x3_1 x4_1 = some r) ∧ Aside0 (kq ≤ k) ∧ Aside0 (Kd.R k42 42 w' w.heap.size (fun _ => True) v3 x3_1) ∧ Aside0 (Below w.heap.size w w'))
  case atStart => exact ⟨(([] : List (S42))), (0), (by first | rfl | (simp; done) | (simp [*]; done)), H', ⟨Nat.le_refl _⟩, ⟨by first | exact Kd.R_nil _ _ _ _ _ | exact Kd.N_nil _ _ _ _ _ | exact Kd.V_nil _ _ _ _ _ | exact Kd.Q_nil _ _ _ _ _ | exact Kd.S_nil _ _ _ _ _⟩, ⟨by repeat (first | (with_reducible first | exact HB.out | apply below_alloc | apply pw_below_drewN | apply below_drew1) | exact HB.out)⟩⟩
  case round =>
    clear H'
    obtain ⟨x3_1, x4_1, rfl, HA, HK1, HO_3, HB⟩ := hrel
    cases gk with
    | zero => exact absurd HA.out (by simp [swageref18_sorted.l0])
    | succ k1 =>
      have H := HA.out
      clear HA
      simp only [swageref18_sorted.l0] at H
      by_cases c2 : x4_1 < (l0.length : Int)
      · rw [if_pos c2] at H
        have c2b0 : decide (x4_1 < (l0.length : Int)) = true := decide_eq_true c2
        clear c2
        by_cases c3 : 0 ≤ x4_1
        · rw [if_pos c3] at H
          have c3b0 : decide (0 ≤ x4_1) = true := decide_eq_true c3
          clear c3
          replace H := Option.bind_eq_some_iff.mp H
          obtain ⟨t433, A40, H⟩ := H
          replace H : ((swageref18_put.f k1 x3_1 ((rd_T42 l0 x4_1).f0) t433).bind fun t434 => (swageref18_sorted.l0 k1 l0 t434 (wrap64 (x4_1 + 1)))) = some r := H
          have A4 := Aside0.mk A40
          clear A40
          replace H := Option.bind_eq_some_iff.mp H
          obtain ⟨t434, A50, H⟩ := H
          replace H : (swageref18_sorted.l0 k1 l0 t434 (wrap64 (x4_1 + 1))) = some r := H
          have A5 := Aside0.mk A50
          clear A50
          have H' := Aside0.mk H
          clear H
          try go_wp2
          have n0_ := Aside0.mk (Kd.R_drew HO_3.out)
          have n1_ := Aside0.mk (below_drew1 HB.out)
          clear HO_3
          clear HB
          have HO_3 := n0_
          have HB := n1_
          clear n0_ n1_
          have p431 : 0 ≤ (x4_1 : Int) := of_decide_eq_true (by first | (with_reducible assumption) | assumption)
          have q431 : x4_1 < (l0.length : Int) := of_decide_eq_true (by first | (with_reducible assumption) | assumption)
          obtain ⟨ad431, e431, hx431_0, hx431_1⟩ := at_T42 HR0.out x4_1 p431 q431
          have hw431_1 := hx431_1
          have hw431_0 := hx431_0
          cases e431
          replace hx431_0 := (HB.out.cell (World.block_lt_of_cell? w _ hx431_0)).trans hx431_0
          replace hx431_1 := (HB.out.cell (World.block_lt_of_cell? w _ hx431_1)).trans hx431_1
          replace p431 := eq_true p431
          replace q431 := eq_true q431
          have p432 : 0 ≤ (x4_1 : Int) := of_decide_eq_true (by first | (with_reducible assumption) | assumption)
          have q432 : x4_1 < (l0.length : Int) := of_decide_eq_true (by first | (with_reducible assumption) | assumption)
          obtain ⟨ad432, e432, hx432_0, hx432_1⟩ := at_T42 HR0.out x4_1 p432 q432
          have hw432_1 := hx432_1
          have hw432_0 := hx432_0
          obtain rfl : ad431 = ad432 := (by injection e432)
          replace hx432_0 := (HB.out.cell (World.block_lt_of_cell? w _ hx432_0)).trans hx432_0
          replace hx432_1 := (HB.out.cell (World.block_lt_of_cell? w _ hx432_1)).trans hx432_1
          replace p432 := eq_true p432
          replace q432 := eq_true q432
          refine start_ (n := 15) (S := fun w' => w'.cell? (ad431.add ((x4_1).toNat * 2)) = some (.int .i64 ((rd_T42 l0 x4_1).f0)) ∧ w'.cell? ⟨(ad431.add ((x4_1).toNat * 2)).block, (ad431.add ((x4_1).toNat * 2)).off + 1, none⟩ = some (.int .i64 ((rd_T42 l0 x4_1).f1)) ∧ w'.cell? (ad431.add ((x4_1).toNat * 2)) = some (.int .i64 ((rd_T42 l0 x4_1).f0)) ∧ w'.cell? ⟨(ad431.add ((x4_1).toNat * 2)).block, (ad431.add ((x4_1).toNat * 2)).off + 1, none⟩ = some (.int .i64 ((rd_T42 l0 x4_1).f1))) (ds := []) #[false, false, false, false, false, false, false, false, false, false, false, false, false, false, false] (by kernel_rfl) rfl rfl ⟨((HB.out.cell (World.block_lt_of_cell? w _ hw431_0)).trans hw431_0), ((HB.out.cell (World.block_lt_of_cell? w _ hw431_1)).trans hw431_1), ((HB.out.cell (World.block_lt_of_cell? w _ hw432_0)).trans hw432_0), ((HB.out.cell (World.block_lt_of_cell? w _ hw432_1)).trans hw432_1)⟩ (fun hHeld => ?_); refine with_tabW swageref18_sorted.tab5 swageref18_sorted.bits5 (fun HT_ HW_ => ?_)
          generalize wr.drew = w6 at HO_3 HB hx431_0 hx431_1 hx432_0 hx432_1 hHeld ⊢
          refine pure_ (i := 0) (N := some 11) (v := ?_) (a' := ?_) #[true, false, false, false, false, false, false, false, false, false, false, false, false, false, false] rfl rfl (any_of HT_.out (by kernel_rfl)) (fun _ _ _ h => h) (Or.inl ⟨by rfl, ?_⟩) ?_ ?_
          rotate_left
          · intro w'
            go_simp
            with_reducible rfl
          rotate_left
          · simp only [Act.put, List.setIfInBounds_toArray, List.set_cons_zero, List.set_cons_succ, i64_w, i32_w]
            rfl
          refine pure_ (i := 1) (N := some 12) (v := ?_) (a' := ?_) #[true, true, false, false, false, false, false, false, false, false, false, false, false, false, false] rfl rfl (any_of HT_.out (by kernel_rfl)) (fun _ _ _ h => h) (Or.inl ⟨by rfl, ?_⟩) ?_ ?_
          rotate_left
          · intro w'
            go_simp
            with_reducible rfl
          rotate_left
          · simp only [Act.put, List.setIfInBounds_toArray, List.set_cons_zero, List.set_cons_succ, i64_w, i32_w]
            rfl
          refine pure_ (i := 2) (N := some 13) (v := ?_) (a' := ?_) #[true, true, true, false, false, false, false, false, false, false, false, false, false, false, false] rfl rfl (any_of HT_.out (by kernel_rfl)) (fun _ _ _ h => h) (Or.inl ⟨by rfl, ?_⟩) ?_ ?_
          rotate_left
          · intro w'
            go_simp
            with_reducible rfl
          rotate_left
          · simp only [Act.put, List.setIfInBounds_toArray, List.set_cons_zero, List.set_cons_succ, i64_w, i32_w]
            rfl
          refine pure_ (i := 3) (N := some 14) (v := ?_) (a' := ?_) #[true, true, true, true, false, false, false, false, false, false, false, false, false, false, false] rfl rfl (any_of HT_.out (by kernel_rfl)) (fun _ _ _ h => h) (Or.inl ⟨by rfl, ?_⟩) ?_ ?_
          rotate_left
          · intro w'
            go_simp
            with_reducible rfl
          rotate_left
          · simp only [Act.put, List.setIfInBounds_toArray, List.set_cons_zero, List.set_cons_succ, i64_w, i32_w]
            rfl
          refine pure_ (i := 4) (N := some 15) (v := ?_) (a' := ?_) #[true, true, true, true, true, false, false, false, false, false, false, false, false, false, false] rfl rfl (any_of HT_.out (by kernel_rfl)) (fun _ _ _ h => h) (Or.inl ⟨by rfl, ?_⟩) ?_ ?_
          rotate_left
          · intro w'
            go_simp
            with_reducible rfl
          rotate_left
          · simp only [Act.put, List.setIfInBounds_toArray, List.set_cons_zero, List.set_cons_succ, i64_w, i32_w]
            rfl
          refine pure_ (i := 6) (N := some 17) (v := ?_) (a' := ?_) #[true, true, true, true, true, false, true, false, false, false, false, false, false, false, false] rfl rfl (any_of HT_.out (by kernel_rfl)) (fun _ _ _ h => h) (Or.inl ⟨by rfl, ?_⟩) ?_ ?_
          rotate_left
          · intro w'
            go_simp
            with_reducible rfl
          rotate_left
          · simp only [Act.put, List.setIfInBounds_toArray, List.set_cons_zero, List.set_cons_succ, i64_w, i32_w]
            rfl
          refine pure_ (i := 7) (N := some 18) (v := ?_) (a' := ?_) #[true, true, true, true, true, false, true, true, false, false, false, false, false, false, false] rfl rfl (any_of HT_.out (by kernel_rfl)) (fun _ _ _ h => h) (Or.inl ⟨by rfl, ?_⟩) ?_ ?_
          rotate_left
          · intro w'
            go_simp
            with_reducible rfl
          rotate_left
          · simp only [Act.put, List.setIfInBounds_toArray, List.set_cons_zero, List.set_cons_succ, i64_w, i32_w]
            rfl
          refine pure_ (i := 8) (N := some 19) (v := ?_) (a' := ?_) #[true, true, true, true, true, false, true, true, true, false, false, false, false, false, false] rfl rfl (any_of HT_.out (by kernel_rfl)) (fun _ _ _ h => h) (Or.inl ⟨by rfl, ?_⟩) ?_ ?_
          rotate_left
          · intro w'
            go_simp
            with_reducible rfl
          rotate_left
          · simp only [Act.put, List.setIfInBounds_toArray, List.set_cons_zero, List.set_cons_succ, i64_w, i32_w]
            rfl
          refine pure_ (i := 9) (N := some 20) (v := ?_) (a' := ?_) #[true, true, true, true, true, false, true, true, true, true, false, false, false, false, false] rfl rfl (any_of HT_.out (by kernel_rfl)) (fun _ _ _ h => h) (Or.inl ⟨by rfl, ?_⟩) ?_ ?_
          rotate_left
          · intro w'
            go_simp
            with_reducible rfl
          rotate_left
          · simp only [Act.put, List.setIfInBounds_toArray, List.set_cons_zero, List.set_cons_succ, i64_w, i32_w]
            rfl
          refine pure_ (i := 10) (N := some 21) (v := ?_) (a' := ?_) #[true, true, true, true, true, false, true, true, true, true, true, false, false, false, false] rfl rfl (any_of HT_.out (by kernel_rfl)) (fun _ _ _ h => h) (Or.inl ⟨by rfl, ?_⟩) ?_ ?_
          rotate_left
          · intro w'
            go_simp
            with_reducible rfl
          rotate_left
          · simp only [Act.put, List.setIfInBounds_toArray, List.set_cons_zero, List.set_cons_succ, i64_w, i32_w]
            rfl
          refine take_ (i := 5) (N := some 16) (v := ?_) (a' := ?_) #[true, true, true, true, true, true, true, true, true, true, true, false, false, false, false] rfl rfl (take_ofW HT_.out HW_.out (by kernel_rfl)) (fun _ _ _ h => h) (Or.inl ⟨by rfl, ?_⟩) hHeld ?_ ?_
          rotate_left
          · rintro w' ⟨s0, s1, s2, s3⟩
            go_simp
            with_reducible rfl
          rotate_left
          · simp only [Act.put, List.setIfInBounds_toArray, List.set_cons_zero, List.set_cons_succ, i64_w, i32_w]
            rfl
          refine take_ (i := 11) (N := some 22) (v := ?_) (a' := ?_) #[true, true, true, true, true, true, true, true, true, true, true, true, false, false, false] rfl rfl (take_ofW HT_.out HW_.out (by kernel_rfl)) (fun _ _ _ h => h) (Or.inl ⟨by rfl, ?_⟩) hHeld ?_ ?_
          rotate_left
          · rintro w' ⟨s0, s1, s2, s3⟩
            go_simp
            with_reducible rfl
          rotate_left
          · simp only [Act.put, List.setIfInBounds_toArray, List.set_cons_zero, List.set_cons_succ, i64_w, i32_w]
            rfl
          refine one_ (i := 12) (N := some 23) #[true, true, true, true, true, true, true, true, true, true, true, true, true, false, false] rfl rfl (one_of HT_.out (by kernel_rfl)) (by decide) (fun K hK => ?_)
          refine goes_ Try.func44 (by kernel_rfl) rfl #[.slice (some ad431) l0.length c0, .int .i64 ((rd_T42 l0 x4_1).f0)] (by rfl) rfl rfl (by (try simp only [List.map_toArray, List.map_cons, List.map_nil]); first | done | rfl | (simp only [List.length_drop, List.length_take]; rfl)) ?_
          with_reducible refine (swageref18_value.calls k1 _ _ l0 ((rd_T42 l0 x4_1).f0) t433 _ ?side1 ?side2 A4.out).mono ?_
          (case side1 => repeat (first | exact (Kd.C_below HR0.out HB.out) | (with_reducible refine Kd.C_alloc ?_ _) | (with_reducible refine Kd.C_drewN ?_ _) | (with_reducible refine Kd.C_drew ?_)))
          (case side2 => exact HC0.out)
          rintro e w' ⟨rfl, ⟨nd, rfl⟩⟩
          refine ⟨_, rfl, ?_⟩
          obtain ⟨Ao7, co7, eo7⟩ := Kd.R_slice HO_3.out
          (first | subst eo7 | (injection eo7 with f1_ f2_ f3_; have f4_ := f1_.symm; have f5_ := f3_.symm; clear f1_ f2_ f3_; subst f4_; subst f5_))
          refine hK.out _ _ ⟨((HB.out.cell (World.block_lt_of_cell? w _ hw431_0)).trans hw431_0), ((HB.out.cell (World.block_lt_of_cell? w _ hw431_1)).trans hw431_1), ((HB.out.cell (World.block_lt_of_cell? w _ hw432_0)).trans hw432_0), ((HB.out.cell (World.block_lt_of_cell? w _ hw432_1)).trans hw432_1)⟩ (fun hHeld => ?_)
          clear hK K
          refine norm_ (a' := ?_) ?_ ?_
          rotate_left
          · show Act.put _ (some 23) _ = _
            simp only [Act.put, List.setIfInBounds_toArray, List.set_cons_zero, List.set_cons_succ, i64_w, i32_w]
            rfl
          refine one_ (i := 13) (N := some 24) #[true, true, true, true, true, true, true, true, true, true, true, true, true, true, false] rfl rfl (one_of HT_.out (by kernel_rfl)) (by decide) (fun K hK => ?_)
          refine goes_ Try.func43 (by kernel_rfl) rfl #[.slice Ao7 x3_1.length co7, .int .i64 ((rd_T42 l0 x4_1).f0), .int .i64 t433] (by rfl) rfl rfl (by (try simp only [List.map_toArray, List.map_cons, List.map_nil]); first | done | rfl | (simp only [List.length_drop, List.length_take]; rfl)) ?_
          with_reducible refine (swageref18_put.calls k1 _ _ x3_1 ((rd_T42 l0 x4_1).f0) t433 t434 _ ?side1 ?side2 A5.out).mono ?_
          (case side1 => repeat (first | exact (Kd.R_reads' HO_3.out).2.2 | (with_reducible refine Kd.C_alloc ?_ _) | (with_reducible refine Kd.C_drewN ?_ _) | (with_reducible refine Kd.C_drew ?_)))
          (case side2 => exact (Kd.R_reads' HO_3.out).2.1)
          rintro e w8 ⟨v435, rfl, ho0, hb⟩
          refine ⟨_, rfl, ?_⟩
          have n0_ := Aside0.mk (Kd.R_elder' (by (with_reducible repeat (first | apply Kd.R_alloc | apply Kd.R_drewN | apply Kd.R_drew)); exact HO_3.out) (Kd.R_base ho0) hb)
          have n1_ := Aside0.mk (Kd.R_lower (Kd.R_new' ho0 (Kd.R_lt (by (with_reducible repeat (first | apply Kd.R_alloc | apply Kd.R_drewN | apply Kd.R_drew)); exact HO_3.out))) (below_size (by repeat (first | (with_reducible first | exact HB.out | apply below_alloc | apply pw_below_drewN | apply below_drew1) | exact HB.out))))
          have n2_ := Aside0.mk (below_step (by repeat (first | (with_reducible first | exact HB.out | apply below_alloc | apply pw_below_drewN | apply below_drew1) | exact HB.out)) hb)
          clear HO_3
          clear HB
          have HO_3 := n0_
          have HO436 := n1_
          have HB := n2_
          clear n0_ n1_ n2_
          (try clear hb)
          (try clear hb2)
          (try clear hk)
          (try clear hi)
          (try clear ho0)
          refine hK.out _ _ ⟨((HB.out.cell (World.block_lt_of_cell? w _ hw431_0)).trans hw431_0), ((HB.out.cell (World.block_lt_of_cell? w _ hw431_1)).trans hw431_1), ((HB.out.cell (World.block_lt_of_cell? w _ hw432_0)).trans hw432_0), ((HB.out.cell (World.block_lt_of_cell? w _ hw432_1)).trans hw432_1)⟩ (fun hHeld => ?_)
          clear hK K
          refine norm_ (a' := ?_) ?_ ?_
          rotate_left
          · show Act.put _ (some 24) _ = _
            simp only [Act.put, List.setIfInBounds_toArray, List.set_cons_zero, List.set_cons_succ, i64_w, i32_w]
            rfl
          refine pure_ (i := 14) (N := some 3) (v := ?_) (a' := ?_) #[true, true, true, true, true, true, true, true, true, true, true, true, true, true, true] rfl rfl (any_of HT_.out (by kernel_rfl)) (fun _ _ _ h => h) (Or.inl ⟨by rfl, ?_⟩) ?_ ?_
          rotate_left
          · intro w'
            go_simp
            with_reducible rfl
          rotate_left
          · simp only [Act.put, List.setIfInBounds_toArray, List.set_cons_zero, List.set_cons_succ, i64_w, i32_w]
            rfl
          refine done_ (done_of HT_.out (by kernel_rfl)) ?_
          try go_wp2
          go_roundg k1
          case measure => have := HK1.out; omega
          case rel => exact ⟨(t434), (wrap64 (x4_1 + 1)), (by first | rfl | (simp; done) | (simp [*]; done)), H', ⟨by have := HK1.out; omega⟩, ⟨by (with_reducible repeat (first | apply Kd.R_alloc | apply Kd.R_drewN | apply Kd.R_drew)); exact Kd.R_mono HO436.out (fun _ hk => trivial)⟩, ⟨by repeat (first | (with_reducible first | exact HB.out | apply below_alloc | apply pw_below_drewN | apply below_drew1) | exact HB.out)⟩⟩
        · rw [if_neg c3] at H
          exact absurd H (by simp)
      · rw [if_neg c2] at H
        have c2b0 : decide (x4_1 < (l0.length : Int)) = false := decide_eq_false c2
        clear c2
        obtain rfl := Option.some.inj H
        go_wp2
        go_ret
        exact ⟨_, by first | rfl | (simp [errW_none, errW_some] <;> rfl) | (simp [*, errW_none, errW_some] <;> rfl), by (with_reducible repeat (first | apply Kd.R_alloc | apply Kd.R_drewN | apply Kd.R_drew)); exact HO_3.out, by repeat (first | (with_reducible first | exact HB.out | apply below_alloc | apply pw_below_drewN | apply below_drew1) | exact HB.out)⟩

end Go.Proofs.Ytkfopphcgjdcaaa.A

/- What the machine does at this function, and a plain Lean function that says the same: written by a program for this claim; Lean checks it. -/
namespace Go.Proofs.Ytkfopphcgjdcaaa.A
open Go.RowKit Go.Proofs.YtkfopphcgjdcaaaW.PrintWords Go.Proofs.YtkfopphcgjdcaaaW.PrintLast Go.Proofs.YtkfopphcgjdcaaaW.PrintMore
attribute [local go_sem] max2_int min2_int max_two min_two max_three min_three max_four min_four   -- for this text's walks alone
set_option linter.unusedVariables false
set_option linter.unusedSimpArgs false

/-! ### swageref18_AtOnce: function 19 -/
def swageref18_AtOnce.l0 : Nat → List (S38) → List (S42) → List (S42) → Int → Option ((List (S42)))
  | 0, _, _, _, _ => none
  | k + 1, x0, x1, x6, x7 => if x7 < (x0.length : Int) then (if 0 ≤ x7 then ((swageref18_value.f k x1 ((rd_T38 x0 x7).f1)).bind fun t443 => ((swageref18_put.f k x6 ((rd_T38 x0 x7).f0) t443).bind fun t444 => (swageref18_AtOnce.l0 k x0 x1 t444 (wrap64 (x7 + 1))))) else (none)) else (some x6)
def swageref18_AtOnce.f (k : Nat) (l0 : List (S38)) (l1 : List (S42)) : Option ((List (S42))) := (swageref18_Right.f k l0).bind fun t437 => (if t437 = true then ((swageref18_sorted.f k l1).bind fun t438 => (swageref18_AtOnce.l0 k l0 l1 t438 0)) else (some ([] : List (S42))))
theorem swageref18_AtOnce.mono_l : ∀ k, (∀ y0 y1 y2 y3, LeO (swageref18_AtOnce.l0 k y0 y1 y2 y3) (swageref18_AtOnce.l0 (k + 1) y0 y1 y2 y3))
  | 0 => fun _ _ _ _ r h => by simp [swageref18_AtOnce.l0] at h
  | k + 1 => by
    have ih0 := swageref18_AtOnce.mono_l k
    · intro y0 y1 y2 y3
      unfold swageref18_AtOnce.l0
      repeat' first
      | (with_reducible exact ih0 _ _ _ _)
      | (with_reducible exact swageref18_Right.mono _ _)
      | (with_reducible exact swageref18_put.mono _ _ _ _)
      | (with_reducible exact swageref18_sorted.mono _ _)
      | (with_reducible exact swageref18_value.mono _ _ _)
      | (with_reducible exact LeO.refl _)
      | (with_reducible exact LeO.none _)
      | (with_reducible refine LeO.ite ?_ ?_)
      | (with_reducible refine LeO.bind ?_ (fun _ => ?_))
      | exact ih0 _ _ _ _
      | exact swageref18_Right.mono _ _
      | exact swageref18_put.mono _ _ _ _
      | exact swageref18_sorted.mono _ _
      | exact swageref18_value.mono _ _ _
      | exact LeO.none _
      | refine LeO.ite ?_ ?_
      | refine LeO.bind ?_ (fun _ => ?_)
theorem swageref18_AtOnce.mono : ∀ a0 a1 k, LeO (swageref18_AtOnce.f k a0 a1) (swageref18_AtOnce.f (k + 1) a0 a1) := by
  intro a0 a1 k
  have ih0 := swageref18_AtOnce.mono_l k
  unfold swageref18_AtOnce.f
  repeat' first
      | (with_reducible exact ih0 _ _ _ _)
      | (with_reducible exact swageref18_Right.mono _ _)
      | (with_reducible exact swageref18_put.mono _ _ _ _)
      | (with_reducible exact swageref18_sorted.mono _ _)
      | (with_reducible exact swageref18_value.mono _ _ _)
      | (with_reducible exact LeO.refl _)
      | (with_reducible exact LeO.none _)
      | (with_reducible refine LeO.ite ?_ ?_)
      | (with_reducible refine LeO.bind ?_ (fun _ => ?_))
      | exact ih0 _ _ _ _
      | exact swageref18_Right.mono _ _
      | exact swageref18_put.mono _ _ _ _
      | exact swageref18_sorted.mono _ _
      | exact swageref18_value.mono _ _ _
      | exact LeO.none _
      | refine LeO.ite ?_ ?_
      | refine LeO.bind ?_ (fun _ => ?_)
def swageref18_AtOnce.T8 : Bool × List (List Nat × List Nat) := (true, [([], []), ([], []), ([], []), ([1, 2], [1, 2]), ([3], [3]), ([4], [4]), ([], []), ([], []), ([], []), ([7, 8], [7, 8]), ([9], [9]), ([10], [10]), ([6, 11], [6, 11]), ([0, 5, 12, 12], [0, 5, 12]), ([13, 13, 0, 1, 2, 3, 4, 5, 6, 7, 8, 9, 10, 11, 12, 13], [0, 13])])
def swageref18_AtOnce.B8 : List Nat := [0, 0, 0, 6, 14, 30, 0, 0, 0, 384, 896, 1920, 4032, 8191, 16383]
theorem swageref18_AtOnce.tab8 : rtab .any (opsOf Try.f19 8) = swageref18_AtOnce.T8 := by kernel_rfl
theorem swageref18_AtOnce.bits8 : waitsOk swageref18_AtOnce.T8.2 swageref18_AtOnce.B8 = true := by kernel_rfl
set_option maxHeartbeats 8000000 in
set_option maxRecDepth 100000 in
theorem swageref18_AtOnce.calls (k : Nat) (A0 : Option Addr) (c0 : Nat) (l0 : List (S38)) (A1 : Option Addr) (c1 : Nat) (l1 : List (S42)) (r : List (S42)) (w : World) (hr0 : Kd.C k38 w A0 l0.length l0) (hc0 : l0.length ≤ c0) (hr1 : Kd.C k42 w A1 l1.length l1) (hc1 : l1.length ≤ c1) (h : swageref18_AtOnce.f k l0 l1 = some r) :
    Calls Try.prog 19 #[.slice A0 l0.length c0, .slice A1 l1.length c1] w fun e w' => ∃ v0_ : Value, e = .returned (v0_) ∧ Kd.R k42 42 w' w.heap.size (fun _ => True) v0_ r ∧ Below w.heap.size w w' := by
  have HR0 := Aside0.mk hr0
  have HC0 := Aside0.mk hc0
  clear hr0 hc0
  have HR1 := Aside0.mk hr1
  have HC1 := Aside0.mk hc1
  clear hr1 hc1
  have HB := Aside0.mk (Below.refl w.heap.size w)
  have H : ((swageref18_Right.f k l0).bind fun t437 => (if t437 = true then ((swageref18_sorted.f k l1).bind fun t438 => (swageref18_AtOnce.l0 k l0 l1 t438 0)) else (some ([] : List (S42))))) = some r := h
  clear h
  replace H := Option.bind_eq_some_iff.mp H
  obtain ⟨t437, A30, H⟩ := H
  replace H : (if t437 = true then ((swageref18_sorted.f k l1).bind fun t438 => (swageref18_AtOnce.l0 k l0 l1 t438 0)) else (some ([] : List (S42)))) = some r := H
  have A3 := Aside0.mk A30
  clear A30
  by_cases c4 : t437 = true
  · subst c4
    have H1 : ((swageref18_sorted.f k l1).bind fun t438 => (swageref18_AtOnce.l0 k l0 l1 t438 0)) = some r := by rw [if_pos rfl] at H; exact H
    clear H
    have H := H1
    clear H1
    replace H := Option.bind_eq_some_iff.mp H
    obtain ⟨t438, A50, H⟩ := H
    replace H : (swageref18_AtOnce.l0 k l0 l1 t438 0) = some r := H
    have A5 := Aside0.mk A50
    clear A50
    have H' := Aside0.mk H
    clear H
    go_enter Try.func19, Try.ntmps19
    go_wp2_with (first | ((with_reducible refine gate_callee (f := 13) rfl ?_); refine goesL_ (some 9) rfl rfl Try.func13 (by kernel_rfl) rfl #[.slice A0 l0.length c0] rfl (by (try simp only [List.map_toArray, List.map_cons, List.map_nil]); first | done | rfl | (simp only [List.length_drop, List.length_take]; rfl)) ?_; (with_reducible refine (swageref18_Right.calls k _ _ l0 true _ ?side1 ?side2 A3.out).mono ?_); (case side1 => repeat (first | exact HR0.out | (with_reducible refine Kd.C_alloc ?_ _) | (with_reducible refine Kd.C_drewN ?_ _) | (with_reducible refine Kd.C_drew ?_))); (case side2 => exact HC0.out); rintro e w' ⟨rfl, ⟨nd, rfl⟩⟩; refine ⟨_, rfl, ?_⟩) | ((with_reducible refine gate_callee (f := 42) rfl ?_); refine goesL_ (some 13) rfl rfl Try.func42 (by kernel_rfl) rfl #[.slice A1 l1.length c1] rfl (by (try simp only [List.map_toArray, List.map_cons, List.map_nil]); first | done | rfl | (simp only [List.length_drop, List.length_take]; rfl)) ?_; (with_reducible refine (swageref18_sorted.calls k _ _ l1 t438 _ ?side1 ?side2 A5.out).mono ?_); (case side1 => repeat (first | exact HR1.out | (with_reducible refine Kd.C_alloc ?_ _) | (with_reducible refine Kd.C_drewN ?_ _) | (with_reducible refine Kd.C_drew ?_))); (case side2 => exact HC1.out); rintro e w6 ⟨v439, rfl, ho0, hb⟩; refine ⟨_, rfl, ?_⟩; have n0_ := Aside0.mk (Kd.R_lower ho0 (below_size (by repeat (first | (with_reducible first | exact HB.out | apply below_alloc | apply pw_below_drewN | apply below_drew1) | exact HB.out)))); have n1_ := Aside0.mk (below_step (by repeat (first | (with_reducible first | exact HB.out | apply below_alloc | apply pw_below_drewN | apply below_drew1) | exact HB.out)) hb); clear HB; have HO440 := n0_; have HB := n1_; clear n0_ n1_; (try clear hb); (try clear hb2); (try clear hk); (try clear hi); (try clear ho0)))
    go_loopg [6, 7] k (fun kq v6 v7 w' => ∃ (x6_1 : List (S42)) (x7_1 : Int), v7 = .int .i64 x7_1 ∧ Aside0 (swageref18_AtOnce.l0 kq l0 l1 x6_1 x7_1 = some r) ∧ Aside0 (kq ≤ k) ∧ Aside0 (Kd.R k42 42 w' w.heap.size (fun _ => True) v6 x6_1) ∧ Aside0 (Below w.heap.size w w'))
    case atStart => exact ⟨(t438), (0), (by first | rfl | (simp; done) | (simp [*]; done)), H', ⟨Nat.le_refl _⟩, ⟨by (with_reducible repeat (first | apply Kd.R_alloc | apply Kd.R_drewN | apply Kd.R_drew)); exact HO440.out⟩, ⟨by repeat (first | (with_reducible first | exact HB.out | apply below_alloc | apply pw_below_drewN | apply below_drew1) | exact HB.out)⟩⟩
    case round =>
      clear H'
      try clear c1
      try clear p2
      try clear c4
      obtain ⟨x6_1, x7_1, rfl, HA, HK1, HO_6, HB⟩ := hrel
      cases gk with
      | zero => exact absurd HA.out (by simp [swageref18_AtOnce.l0])
      | succ k1 =>
        have H := HA.out
        clear HA
        simp only [swageref18_AtOnce.l0] at H
        by_cases c7 : x7_1 < (l0.length : Int)
        · rw [if_pos c7] at H
          have c7b0 : decide (x7_1 < (l0.length : Int)) = true := decide_eq_true c7
          clear c7
          by_cases c8 : 0 ≤ x7_1
          · rw [if_pos c8] at H
            have c8b0 : decide (0 ≤ x7_1) = true := decide_eq_true c8
            clear c8
            replace H := Option.bind_eq_some_iff.mp H
            obtain ⟨t443, A90, H⟩ := H
            replace H : ((swageref18_put.f k1 x6_1 ((rd_T38 l0 x7_1).f0) t443).bind fun t444 => (swageref18_AtOnce.l0 k1 l0 l1 t444 (wrap64 (x7_1 + 1)))) = some r := H
            have A9 := Aside0.mk A90
            clear A90
            replace H := Option.bind_eq_some_iff.mp H
            obtain ⟨t444, A100, H⟩ := H
            replace H : (swageref18_AtOnce.l0 k1 l0 l1 t444 (wrap64 (x7_1 + 1))) = some r := H
            have A10 := Aside0.mk A100
            clear A100
            have H' := Aside0.mk H
            clear H
            try go_wp2
            have n0_ := Aside0.mk (Kd.R_drew HO_6.out)
            have n1_ := Aside0.mk (below_drew1 HB.out)
            clear HO_6
            clear HB
            have HO_6 := n0_
            have HB := n1_
            clear n0_ n1_
            have p441 : 0 ≤ (x7_1 : Int) := of_decide_eq_true (by first | (with_reducible assumption) | assumption)
            have q441 : x7_1 < (l0.length : Int) := of_decide_eq_true (by first | (with_reducible assumption) | assumption)
            obtain ⟨ad441, e441, hx441_0, hx441_1⟩ := at_T38 HR0.out x7_1 p441 q441
            have hw441_1 := hx441_1
            have hw441_0 := hx441_0
            cases e441
            replace hx441_0 := (HB.out.cell (World.block_lt_of_cell? w _ hx441_0)).trans hx441_0
            replace hx441_1 := (HB.out.cell (World.block_lt_of_cell? w _ hx441_1)).trans hx441_1
            replace p441 := eq_true p441
            replace q441 := eq_true q441
            have p442 : 0 ≤ (x7_1 : Int) := of_decide_eq_true (by first | (with_reducible assumption) | assumption)
            have q442 : x7_1 < (l0.length : Int) := of_decide_eq_true (by first | (with_reducible assumption) | assumption)
            obtain ⟨ad442, e442, hx442_0, hx442_1⟩ := at_T38 HR0.out x7_1 p442 q442
            have hw442_1 := hx442_1
            have hw442_0 := hx442_0
            obtain rfl : ad441 = ad442 := (by injection e442)
            replace hx442_0 := (HB.out.cell (World.block_lt_of_cell? w _ hx442_0)).trans hx442_0
            replace hx442_1 := (HB.out.cell (World.block_lt_of_cell? w _ hx442_1)).trans hx442_1
            replace p442 := eq_true p442
            replace q442 := eq_true q442
            refine start_ (n := 15) (S := fun w' => w'.cell? (ad441.add ((x7_1).toNat * 2)) = some (.int .i64 ((rd_T38 l0 x7_1).f0)) ∧ w'.cell? ⟨(ad441.add ((x7_1).toNat * 2)).block, (ad441.add ((x7_1).toNat * 2)).off + 1, none⟩ = some (.int .i64 ((rd_T38 l0 x7_1).f1)) ∧ w'.cell? (ad441.add ((x7_1).toNat * 2)) = some (.int .i64 ((rd_T38 l0 x7_1).f0)) ∧ w'.cell? ⟨(ad441.add ((x7_1).toNat * 2)).block, (ad441.add ((x7_1).toNat * 2)).off + 1, none⟩ = some (.int .i64 ((rd_T38 l0 x7_1).f1))) (ds := []) #[false, false, false, false, false, false, false, false, false, false, false, false, false, false, false] (by kernel_rfl) rfl rfl ⟨((HB.out.cell (World.block_lt_of_cell? w _ hw441_0)).trans hw441_0), ((HB.out.cell (World.block_lt_of_cell? w _ hw441_1)).trans hw441_1), ((HB.out.cell (World.block_lt_of_cell? w _ hw442_0)).trans hw442_0), ((HB.out.cell (World.block_lt_of_cell? w _ hw442_1)).trans hw442_1)⟩ (fun hHeld => ?_); refine with_tabW swageref18_AtOnce.tab8 swageref18_AtOnce.bits8 (fun HT_ HW_ => ?_)
            generalize wr.drew = w11 at HO_6 HB hx441_0 hx441_1 hx442_0 hx442_1 hHeld ⊢
            refine pure_ (i := 0) (N := some 20) (v := ?_) (a' := ?_) #[true, false, false, false, false, false, false, false, false, false, false, false, false, false, false] rfl rfl (any_of HT_.out (by kernel_rfl)) (fun _ _ _ h => h) (Or.inl ⟨by rfl, ?_⟩) ?_ ?_
            rotate_left
            · intro w'
              go_simp
              with_reducible rfl
            rotate_left
            · simp only [Act.put, List.setIfInBounds_toArray, List.set_cons_zero, List.set_cons_succ, i64_w, i32_w]
              rfl
            refine pure_ (i := 1) (N := some 21) (v := ?_) (a' := ?_) #[true, true, false, false, false, false, false, false, false, false, false, false, false, false, false] rfl rfl (any_of HT_.out (by kernel_rfl)) (fun _ _ _ h => h) (Or.inl ⟨by rfl, ?_⟩) ?_ ?_
            rotate_left
            · intro w'
              go_simp
              with_reducible rfl
            rotate_left
            · simp only [Act.put, List.setIfInBounds_toArray, List.set_cons_zero, List.set_cons_succ, i64_w, i32_w]
              rfl
            refine pure_ (i := 2) (N := some 22) (v := ?_) (a' := ?_) #[true, true, true, false, false, false, false, false, false, false, false, false, false, false, false] rfl rfl (any_of HT_.out (by kernel_rfl)) (fun _ _ _ h => h) (Or.inl ⟨by rfl, ?_⟩) ?_ ?_
            rotate_left
            · intro w'
              go_simp
              with_reducible rfl
            rotate_left
            · simp only [Act.put, List.setIfInBounds_toArray, List.set_cons_zero, List.set_cons_succ, i64_w, i32_w]
              rfl
            refine pure_ (i := 3) (N := some 23) (v := ?_) (a' := ?_) #[true, true, true, true, false, false, false, false, false, false, false, false, false, false, false] rfl rfl (any_of HT_.out (by kernel_rfl)) (fun _ _ _ h => h) (Or.inl ⟨by rfl, ?_⟩) ?_ ?_
            rotate_left
            · intro w'
              go_simp
              with_reducible rfl
            rotate_left
            · simp only [Act.put, List.setIfInBounds_toArray, List.set_cons_zero, List.set_cons_succ, i64_w, i32_w]
              rfl
            refine pure_ (i := 4) (N := some 24) (v := ?_) (a' := ?_) #[true, true, true, true, true, false, false, false, false, false, false, false, false, false, false] rfl rfl (any_of HT_.out (by kernel_rfl)) (fun _ _ _ h => h) (Or.inl ⟨by rfl, ?_⟩) ?_ ?_
            rotate_left
            · intro w'
              go_simp
              with_reducible rfl
            rotate_left
            · simp only [Act.put, List.setIfInBounds_toArray, List.set_cons_zero, List.set_cons_succ, i64_w, i32_w]
              rfl
            refine pure_ (i := 6) (N := some 26) (v := ?_) (a' := ?_) #[true, true, true, true, true, false, true, false, false, false, false, false, false, false, false] rfl rfl (any_of HT_.out (by kernel_rfl)) (fun _ _ _ h => h) (Or.inl ⟨by rfl, ?_⟩) ?_ ?_
            rotate_left
            · intro w'
              go_simp
              with_reducible rfl
            rotate_left
            · simp only [Act.put, List.setIfInBounds_toArray, List.set_cons_zero, List.set_cons_succ, i64_w, i32_w]
              rfl
            refine pure_ (i := 7) (N := some 27) (v := ?_) (a' := ?_) #[true, true, true, true, true, false, true, true, false, false, false, false, false, false, false] rfl rfl (any_of HT_.out (by kernel_rfl)) (fun _ _ _ h => h) (Or.inl ⟨by rfl, ?_⟩) ?_ ?_
            rotate_left
            · intro w'
              go_simp
              with_reducible rfl
            rotate_left
            · simp only [Act.put, List.setIfInBounds_toArray, List.set_cons_zero, List.set_cons_succ, i64_w, i32_w]
              rfl
            refine pure_ (i := 8) (N := some 28) (v := ?_) (a' := ?_) #[true, true, true, true, true, false, true, true, true, false, false, false, false, false, false] rfl rfl (any_of HT_.out (by kernel_rfl)) (fun _ _ _ h => h) (Or.inl ⟨by rfl, ?_⟩) ?_ ?_
            rotate_left
            · intro w'
              go_simp
              with_reducible rfl
            rotate_left
            · simp only [Act.put, List.setIfInBounds_toArray, List.set_cons_zero, List.set_cons_succ, i64_w, i32_w]
              rfl
            refine pure_ (i := 9) (N := some 29) (v := ?_) (a' := ?_) #[true, true, true, true, true, false, true, true, true, true, false, false, false, false, false] rfl rfl (any_of HT_.out (by kernel_rfl)) (fun _ _ _ h => h) (Or.inl ⟨by rfl, ?_⟩) ?_ ?_
            rotate_left
            · intro w'
              go_simp
              with_reducible rfl
            rotate_left
            · simp only [Act.put, List.setIfInBounds_toArray, List.set_cons_zero, List.set_cons_succ, i64_w, i32_w]
              rfl
            refine pure_ (i := 10) (N := some 30) (v := ?_) (a' := ?_) #[true, true, true, true, true, false, true, true, true, true, true, false, false, false, false] rfl rfl (any_of HT_.out (by kernel_rfl)) (fun _ _ _ h => h) (Or.inl ⟨by rfl, ?_⟩) ?_ ?_
            rotate_left
            · intro w'
              go_simp
              with_reducible rfl
            rotate_left
            · simp only [Act.put, List.setIfInBounds_toArray, List.set_cons_zero, List.set_cons_succ, i64_w, i32_w]
              rfl
            refine take_ (i := 5) (N := some 25) (v := ?_) (a' := ?_) #[true, true, true, true, true, true, true, true, true, true, true, false, false, false, false] rfl rfl (take_ofW HT_.out HW_.out (by kernel_rfl)) (fun _ _ _ h => h) (Or.inl ⟨by rfl, ?_⟩) hHeld ?_ ?_
            rotate_left
            · rintro w' ⟨s0, s1, s2, s3⟩
              go_simp
              with_reducible rfl
            rotate_left
            · simp only [Act.put, List.setIfInBounds_toArray, List.set_cons_zero, List.set_cons_succ, i64_w, i32_w]
              rfl
            refine take_ (i := 11) (N := some 31) (v := ?_) (a' := ?_) #[true, true, true, true, true, true, true, true, true, true, true, true, false, false, false] rfl rfl (take_ofW HT_.out HW_.out (by kernel_rfl)) (fun _ _ _ h => h) (Or.inl ⟨by rfl, ?_⟩) hHeld ?_ ?_
            rotate_left
            · rintro w' ⟨s0, s1, s2, s3⟩
              go_simp
              with_reducible rfl
            rotate_left
            · simp only [Act.put, List.setIfInBounds_toArray, List.set_cons_zero, List.set_cons_succ, i64_w, i32_w]
              rfl
            refine one_ (i := 12) (N := some 32) #[true, true, true, true, true, true, true, true, true, true, true, true, true, false, false] rfl rfl (one_of HT_.out (by kernel_rfl)) (by decide) (fun K hK => ?_)
            refine goes_ Try.func44 (by kernel_rfl) rfl #[.slice A1 l1.length c1, .int .i64 ((rd_T38 l0 x7_1).f1)] (by rfl) rfl rfl (by (try simp only [List.map_toArray, List.map_cons, List.map_nil]); first | done | rfl | (simp only [List.length_drop, List.length_take]; rfl)) ?_
            with_reducible refine (swageref18_value.calls k1 _ _ l1 ((rd_T38 l0 x7_1).f1) t443 _ ?side1 ?side2 A9.out).mono ?_
            (case side1 => repeat (first | exact (Kd.C_below HR1.out HB.out) | (with_reducible refine Kd.C_alloc ?_ _) | (with_reducible refine Kd.C_drewN ?_ _) | (with_reducible refine Kd.C_drew ?_)))
            (case side2 => exact HC1.out)
            rintro e w' ⟨rfl, ⟨nd, rfl⟩⟩
            refine ⟨_, rfl, ?_⟩
            obtain ⟨Ao12, co12, eo12⟩ := Kd.R_slice HO_6.out
            (first | subst eo12 | (injection eo12 with f1_ f2_ f3_; have f4_ := f1_.symm; have f5_ := f3_.symm; clear f1_ f2_ f3_; subst f4_; subst f5_))
            refine hK.out _ _ ⟨((HB.out.cell (World.block_lt_of_cell? w _ hw441_0)).trans hw441_0), ((HB.out.cell (World.block_lt_of_cell? w _ hw441_1)).trans hw441_1), ((HB.out.cell (World.block_lt_of_cell? w _ hw442_0)).trans hw442_0), ((HB.out.cell (World.block_lt_of_cell? w _ hw442_1)).trans hw442_1)⟩ (fun hHeld => ?_)
            clear hK K
            refine norm_ (a' := ?_) ?_ ?_
            rotate_left
            · show Act.put _ (some 32) _ = _
              simp only [Act.put, List.setIfInBounds_toArray, List.set_cons_zero, List.set_cons_succ, i64_w, i32_w]
              rfl
            refine one_ (i := 13) (N := some 33) #[true, true, true, true, true, true, true, true, true, true, true, true, true, true, false] rfl rfl (one_of HT_.out (by kernel_rfl)) (by decide) (fun K hK => ?_)
            refine goes_ Try.func43 (by kernel_rfl) rfl #[.slice Ao12 x6_1.length co12, .int .i64 ((rd_T38 l0 x7_1).f0), .int .i64 t443] (by rfl) rfl rfl (by (try simp only [List.map_toArray, List.map_cons, List.map_nil]); first | done | rfl | (simp only [List.length_drop, List.length_take]; rfl)) ?_
            with_reducible refine (swageref18_put.calls k1 _ _ x6_1 ((rd_T38 l0 x7_1).f0) t443 t444 _ ?side1 ?side2 A10.out).mono ?_
            (case side1 => repeat (first | exact (Kd.R_reads' HO_6.out).2.2 | (with_reducible refine Kd.C_alloc ?_ _) | (with_reducible refine Kd.C_drewN ?_ _) | (with_reducible refine Kd.C_drew ?_)))
            (case side2 => exact (Kd.R_reads' HO_6.out).2.1)
            rintro e w13 ⟨v445, rfl, ho0, hb⟩
            refine ⟨_, rfl, ?_⟩
            have n0_ := Aside0.mk (Kd.R_elder' (by (with_reducible repeat (first | apply Kd.R_alloc | apply Kd.R_drewN | apply Kd.R_drew)); exact HO_6.out) (Kd.R_base ho0) hb)
            have n1_ := Aside0.mk (Kd.R_lower (Kd.R_new' ho0 (Kd.R_lt (by (with_reducible repeat (first | apply Kd.R_alloc | apply Kd.R_drewN | apply Kd.R_drew)); exact HO_6.out))) (below_size (by repeat (first | (with_reducible first | exact HB.out | apply below_alloc | apply pw_below_drewN | apply below_drew1) | exact HB.out))))
            have n2_ := Aside0.mk (below_step (by repeat (first | (with_reducible first | exact HB.out | apply below_alloc | apply pw_below_drewN | apply below_drew1) | exact HB.out)) hb)
            clear HO_6
            clear HB
            have HO_6 := n0_
            have HO446 := n1_
            have HB := n2_
            clear n0_ n1_ n2_
            (try clear hb)
            (try clear hb2)
            (try clear hk)
            (try clear hi)
            (try clear ho0)
            refine hK.out _ _ ⟨((HB.out.cell (World.block_lt_of_cell? w _ hw441_0)).trans hw441_0), ((HB.out.cell (World.block_lt_of_cell? w _ hw441_1)).trans hw441_1), ((HB.out.cell (World.block_lt_of_cell? w _ hw442_0)).trans hw442_0), ((HB.out.cell (World.block_lt_of_cell? w _ hw442_1)).trans hw442_1)⟩ (fun hHeld => ?_)
            clear hK K
            refine norm_ (a' := ?_) ?_ ?_
            rotate_left
            · show Act.put _ (some 33) _ = _
              simp only [Act.put, List.setIfInBounds_toArray, List.set_cons_zero, List.set_cons_succ, i64_w, i32_w]
              rfl
            refine pure_ (i := 14) (N := some 6) (v := ?_) (a' := ?_) #[true, true, true, true, true, true, true, true, true, true, true, true, true, true, true] rfl rfl (any_of HT_.out (by kernel_rfl)) (fun _ _ _ h => h) (Or.inl ⟨by rfl, ?_⟩) ?_ ?_
            rotate_left
            · intro w'
              go_simp
              with_reducible rfl
            rotate_left
            · simp only [Act.put, List.setIfInBounds_toArray, List.set_cons_zero, List.set_cons_succ, i64_w, i32_w]
              rfl
            refine done_ (done_of HT_.out (by kernel_rfl)) ?_
            try go_wp2
            go_roundg k1
            case measure => have := HK1.out; omega
            case rel => exact ⟨(t444), (wrap64 (x7_1 + 1)), (by first | rfl | (simp; done) | (simp [*]; done)), H', ⟨by have := HK1.out; omega⟩, ⟨by (with_reducible repeat (first | apply Kd.R_alloc | apply Kd.R_drewN | apply Kd.R_drew)); exact Kd.R_mono HO446.out (fun _ hk => trivial)⟩, ⟨by repeat (first | (with_reducible first | exact HB.out | apply below_alloc | apply pw_below_drewN | apply below_drew1) | exact HB.out)⟩⟩
          · rw [if_neg c8] at H
            exact absurd H (by simp)
        · rw [if_neg c7] at H
          have c7b0 : decide (x7_1 < (l0.length : Int)) = false := decide_eq_false c7
          clear c7
          obtain rfl := Option.some.inj H
          go_wp2
          go_ret
          exact ⟨_, by first | rfl | (simp [errW_none, errW_some] <;> rfl) | (simp [*, errW_none, errW_some] <;> rfl), by (with_reducible repeat (first | apply Kd.R_alloc | apply Kd.R_drewN | apply Kd.R_drew)); exact HO_6.out, by repeat (first | (with_reducible first | exact HB.out | apply below_alloc | apply pw_below_drewN | apply below_drew1) | exact HB.out)⟩
  · replace c4 := Bool.eq_false_iff.mpr c4
    subst c4
    have H1 : (some ([] : List (S42))) = some r := by rw [if_neg (show ¬ (false = true) by decide)] at H; exact H
    clear H
    have H := H1
    clear H1
    obtain rfl := Option.some.inj H
    go_enter Try.func19, Try.ntmps19
    go_wp2_with (first | ((with_reducible refine gate_callee (f := 13) rfl ?_); refine goesL_ (some 9) rfl rfl Try.func13 (by kernel_rfl) rfl #[.slice A0 l0.length c0] rfl (by (try simp only [List.map_toArray, List.map_cons, List.map_nil]); first | done | rfl | (simp only [List.length_drop, List.length_take]; rfl)) ?_; (with_reducible refine (swageref18_Right.calls k _ _ l0 false _ ?side1 ?side2 A3.out).mono ?_); (case side1 => repeat (first | exact HR0.out | (with_reducible refine Kd.C_alloc ?_ _) | (with_reducible refine Kd.C_drewN ?_ _) | (with_reducible refine Kd.C_drew ?_))); (case side2 => exact HC0.out); rintro e w' ⟨rfl, ⟨nd, rfl⟩⟩; refine ⟨_, rfl, ?_⟩))
    go_ret
    exact ⟨_, by first | rfl | (simp [errW_none, errW_some] <;> rfl) | (simp [*, errW_none, errW_some] <;> rfl), by first | exact Kd.R_nil _ _ _ _ _ | exact Kd.N_nil _ _ _ _ _ | exact Kd.V_nil _ _ _ _ _ | exact Kd.Q_nil _ _ _ _ _ | exact Kd.S_nil _ _ _ _ _, by repeat (first | (with_reducible first | exact HB.out | apply below_alloc | apply pw_below_drewN | apply below_drew1) | exact HB.out)⟩

end Go.Proofs.Ytkfopphcgjdcaaa.A

/- What the machine does at this function, and a plain Lean function that says the same: written by a program for this claim; Lean checks it. -/
namespace Go.Proofs.Ytkfopphcgjdcaaa.A
open Go.RowKit Go.Proofs.YtkfopphcgjdcaaaW.PrintWords Go.Proofs.YtkfopphcgjdcaaaW.PrintLast Go.Proofs.YtkfopphcgjdcaaaW.PrintMore
attribute [local go_sem] max2_int min2_int max_two min_two max_three min_three max_four min_four   -- for this text's walks alone
set_option linter.unusedVariables false
set_option linter.unusedSimpArgs false

/-! ### swageref18_OneByOne: function 21 -/
def swageref18_OneByOne.l0 : Nat → List (S38) → List (S42) → Int → Option ((List (S42)))
  | 0, _, _, _ => none
  | k + 1, x0, x5, x6 => if x6 < (x0.length : Int) then (if 0 ≤ x6 then ((swageref18_value.f k x5 ((rd_T38 x0 x6).f1)).bind fun t452 => ((swageref18_put.f k x5 ((rd_T38 x0 x6).f0) t452).bind fun t453 => (swageref18_OneByOne.l0 k x0 t453 (wrap64 (x6 + 1))))) else (none)) else (some x5)
def swageref18_OneByOne.f (k : Nat) (l0 : List (S38)) (l1 : List (S42)) : Option ((List (S42))) := (swageref18_sorted.f k l1).bind fun t447 => (swageref18_OneByOne.l0 k l0 t447 0)
theorem swageref18_OneByOne.mono_l : ∀ k, (∀ y0 y1 y2, LeO (swageref18_OneByOne.l0 k y0 y1 y2) (swageref18_OneByOne.l0 (k + 1) y0 y1 y2))
  | 0 => fun _ _ _ r h => by simp [swageref18_OneByOne.l0] at h
  | k + 1 => by
    have ih0 := swageref18_OneByOne.mono_l k
    · intro y0 y1 y2
      unfold swageref18_OneByOne.l0
      repeat' first
      | (with_reducible exact ih0 _ _ _)
      | (with_reducible exact swageref18_put.mono _ _ _ _)
      | (with_reducible exact swageref18_sorted.mono _ _)
      | (with_reducible exact swageref18_value.mono _ _ _)
      | (with_reducible exact LeO.refl _)
      | (with_reducible exact LeO.none _)
      | (with_reducible refine LeO.ite ?_ ?_)
      | (with_reducible refine LeO.bind ?_ (fun _ => ?_))
      | exact ih0 _ _ _
      | exact swageref18_put.mono _ _ _ _
      | exact swageref18_sorted.mono _ _
      | exact swageref18_value.mono _ _ _
      | exact LeO.none _
      | refine LeO.ite ?_ ?_
      | refine LeO.bind ?_ (fun _ => ?_)
theorem swageref18_OneByOne.mono : ∀ a0 a1 k, LeO (swageref18_OneByOne.f k a0 a1) (swageref18_OneByOne.f (k + 1) a0 a1) := by
  intro a0 a1 k
  have ih0 := swageref18_OneByOne.mono_l k
  unfold swageref18_OneByOne.f
  repeat' first
      | (with_reducible exact ih0 _ _ _)
      | (with_reducible exact swageref18_put.mono _ _ _ _)
      | (with_reducible exact swageref18_sorted.mono _ _)
      | (with_reducible exact swageref18_value.mono _ _ _)
      | (with_reducible exact LeO.refl _)
      | (with_reducible exact LeO.none _)
      | (with_reducible refine LeO.ite ?_ ?_)
      | (with_reducible refine LeO.bind ?_ (fun _ => ?_))
      | exact ih0 _ _ _
      | exact swageref18_put.mono _ _ _ _
      | exact swageref18_sorted.mono _ _
      | exact swageref18_value.mono _ _ _
      | exact LeO.none _
      | refine LeO.ite ?_ ?_
      | refine LeO.bind ?_ (fun _ => ?_)
def swageref18_OneByOne.T5 : Bool × List (List Nat × List Nat) := (true, [([], []), ([], []), ([], []), ([1, 2], [1, 2]), ([3], [3]), ([4], [4]), ([], []), ([], []), ([], []), ([7, 8], [7, 8]), ([9], [9]), ([10], [10]), ([6, 11], [6, 11]), ([0, 5, 12, 12], [0, 5, 12]), ([13, 13, 0, 1, 2, 3, 4, 5, 6, 7, 8, 9, 10, 11, 12, 13], [0, 6, 13])])
def swageref18_OneByOne.B5 : List Nat := [0, 0, 0, 6, 14, 30, 0, 0, 0, 384, 896, 1920, 4032, 8191, 16383]
theorem swageref18_OneByOne.tab5 : rtab .any (opsOf Try.f21 5) = swageref18_OneByOne.T5 := by kernel_rfl
theorem swageref18_OneByOne.bits5 : waitsOk swageref18_OneByOne.T5.2 swageref18_OneByOne.B5 = true := by kernel_rfl
set_option maxHeartbeats 8000000 in
set_option maxRecDepth 100000 in
theorem swageref18_OneByOne.calls (k : Nat) (A0 : Option Addr) (c0 : Nat) (l0 : List (S38)) (A1 : Option Addr) (c1 : Nat) (l1 : List (S42)) (r : List (S42)) (w : World) (hr0 : Kd.C k38 w A0 l0.length l0) (hc0 : l0.length ≤ c0) (hr1 : Kd.C k42 w A1 l1.length l1) (hc1 : l1.length ≤ c1) (h : swageref18_OneByOne.f k l0 l1 = some r) :
    Calls Try.prog 21 #[.slice A0 l0.length c0, .slice A1 l1.length c1] w fun e w' => ∃ v0_ : Value, e = .returned (v0_) ∧ Kd.R k42 42 w' w.heap.size (fun _ => True) v0_ r ∧ Below w.heap.size w w' := by
  have HR0 := Aside0.mk hr0
  have HC0 := Aside0.mk hc0
  clear hr0 hc0
  have HR1 := Aside0.mk hr1
  have HC1 := Aside0.mk hc1
  clear hr1 hc1
  have HB := Aside0.mk (Below.refl w.heap.size w)
  have H : ((swageref18_sorted.f k l1).bind fun t447 => (swageref18_OneByOne.l0 k l0 t447 0)) = some r := h
  clear h
  replace H := Option.bind_eq_some_iff.mp H
  obtain ⟨t447, A30, H⟩ := H
  replace H : (swageref18_OneByOne.l0 k l0 t447 0) = some r := H
  have A3 := Aside0.mk A30
  clear A30
  have H' := Aside0.mk H
  clear H
  go_enter Try.func21, Try.ntmps21
  go_wp2_with (first | ((with_reducible refine gate_callee (f := 42) rfl ?_); refine goesL_ (some 8) rfl rfl Try.func42 (by kernel_rfl) rfl #[.slice A1 l1.length c1] rfl (by (try simp only [List.map_toArray, List.map_cons, List.map_nil]); first | done | rfl | (simp only [List.length_drop, List.length_take]; rfl)) ?_; (with_reducible refine (swageref18_sorted.calls k _ _ l1 t447 _ ?side1 ?side2 A3.out).mono ?_); (case side1 => repeat (first | exact HR1.out | (with_reducible refine Kd.C_alloc ?_ _) | (with_reducible refine Kd.C_drewN ?_ _) | (with_reducible refine Kd.C_drew ?_))); (case side2 => exact HC1.out); rintro e w4 ⟨v448, rfl, ho0, hb⟩; refine ⟨_, rfl, ?_⟩; have n0_ := Aside0.mk (Kd.R_lower ho0 (below_size (by repeat (first | (with_reducible first | exact HB.out | apply below_alloc | apply pw_below_drewN | apply below_drew1) | exact HB.out)))); have n1_ := Aside0.mk (below_step (by repeat (first | (with_reducible first | exact HB.out | apply below_alloc | apply pw_below_drewN | apply below_drew1) | exact HB.out)) hb); clear HB; have HO449 := n0_; have HB := n1_; clear n0_ n1_; (try clear hb); (try clear hb2); (try clear hk); (try clear hi); (try clear ho0)))
  go_loopg [5, 6] k (fun kq v5 v6 w' => ∃ (x5_1 : List (S42)) (x6_1 : Int), v6 = .int .i64 x6_1 ∧ Aside0 (swageref18_OneByOne.l0 kq l0 x5_1 x6_1 = some r) ∧ Aside0 (kq ≤ k) ∧ Aside0 (Kd.R k42 42 w' w.heap.size (fun _ => True) v5 x5_1) ∧ Aside0 (Below w.heap.size w w'))
  case atStart => exact ⟨(t447), (0), (by first | rfl | (simp; done) | (simp [*]; done)), H', ⟨Nat.le_refl _⟩, ⟨by (with_reducible repeat (first | apply Kd.R_alloc | apply Kd.R_drewN | apply Kd.R_drew)); exact HO449.out⟩, ⟨by repeat (first | (with_reducible first | exact HB.out | apply below_alloc | apply pw_below_drewN | apply below_drew1) | exact HB.out)⟩⟩
  case round =>
    clear H'
    try clear c1
    try clear c2
    try clear p2
    try clear c4
    obtain ⟨x5_1, x6_1, rfl, HA, HK1, HO_5, HB⟩ := hrel
    cases gk with
    | zero => exact absurd HA.out (by simp [swageref18_OneByOne.l0])
    | succ k1 =>
      have H := HA.out
      clear HA
      simp only [swageref18_OneByOne.l0] at H
      by_cases c5 : x6_1 < (l0.length : Int)
      · rw [if_pos c5] at H
        have c5b0 : decide (x6_1 < (l0.length : Int)) = true := decide_eq_true c5
        clear c5
        by_cases c6 : 0 ≤ x6_1
        · rw [if_pos c6] at H
          have c6b0 : decide (0 ≤ x6_1) = true := decide_eq_true c6
          clear c6
          replace H := Option.bind_eq_some_iff.mp H
          obtain ⟨t452, A70, H⟩ := H
          replace H : ((swageref18_put.f k1 x5_1 ((rd_T38 l0 x6_1).f0) t452).bind fun t453 => (swageref18_OneByOne.l0 k1 l0 t453 (wrap64 (x6_1 + 1)))) = some r := H
          have A7 := Aside0.mk A70
          clear A70
          replace H := Option.bind_eq_some_iff.mp H
          obtain ⟨t453, A80, H⟩ := H
          replace H : (swageref18_OneByOne.l0 k1 l0 t453 (wrap64 (x6_1 + 1))) = some r := H
          have A8 := Aside0.mk A80
          clear A80
          have H' := Aside0.mk H
          clear H
          try go_wp2
          have n0_ := Aside0.mk (Kd.R_drew HO_5.out)
          have n1_ := Aside0.mk (below_drew1 HB.out)
          clear HO_5
          clear HB
          have HO_5 := n0_
          have HB := n1_
          clear n0_ n1_
          have p450 : 0 ≤ (x6_1 : Int) := of_decide_eq_true (by first | (with_reducible assumption) | assumption)
          have q450 : x6_1 < (l0.length : Int) := of_decide_eq_true (by first | (with_reducible assumption) | assumption)
          obtain ⟨ad450, e450, hx450_0, hx450_1⟩ := at_T38 HR0.out x6_1 p450 q450
          have hw450_1 := hx450_1
          have hw450_0 := hx450_0
          cases e450
          replace hx450_0 := (HB.out.cell (World.block_lt_of_cell? w _ hx450_0)).trans hx450_0
          replace hx450_1 := (HB.out.cell (World.block_lt_of_cell? w _ hx450_1)).trans hx450_1
          replace p450 := eq_true p450
          replace q450 := eq_true q450
          have p451 : 0 ≤ (x6_1 : Int) := of_decide_eq_true (by first | (with_reducible assumption) | assumption)
          have q451 : x6_1 < (l0.length : Int) := of_decide_eq_true (by first | (with_reducible assumption) | assumption)
          obtain ⟨ad451, e451, hx451_0, hx451_1⟩ := at_T38 HR0.out x6_1 p451 q451
          have hw451_1 := hx451_1
          have hw451_0 := hx451_0
          obtain rfl : ad450 = ad451 := (by injection e451)
          replace hx451_0 := (HB.out.cell (World.block_lt_of_cell? w _ hx451_0)).trans hx451_0
          replace hx451_1 := (HB.out.cell (World.block_lt_of_cell? w _ hx451_1)).trans hx451_1
          replace p451 := eq_true p451
          replace q451 := eq_true q451
          obtain ⟨Ao10, co10, eo10⟩ := Kd.R_slice HO_5.out
          (first | subst eo10 | (injection eo10 with f1_ f2_ f3_; have f4_ := f1_.symm; have f5_ := f3_.symm; clear f1_ f2_ f3_; subst f4_; subst f5_))
          refine start_ (n := 15) (S := fun w' => w'.cell? (ad450.add ((x6_1).toNat * 2)) = some (.int .i64 ((rd_T38 l0 x6_1).f0)) ∧ w'.cell? ⟨(ad450.add ((x6_1).toNat * 2)).block, (ad450.add ((x6_1).toNat * 2)).off + 1, none⟩ = some (.int .i64 ((rd_T38 l0 x6_1).f1)) ∧ w'.cell? (ad450.add ((x6_1).toNat * 2)) = some (.int .i64 ((rd_T38 l0 x6_1).f0)) ∧ w'.cell? ⟨(ad450.add ((x6_1).toNat * 2)).block, (ad450.add ((x6_1).toNat * 2)).off + 1, none⟩ = some (.int .i64 ((rd_T38 l0 x6_1).f1))) (ds := []) #[false, false, false, false, false, false, false, false, false, false, false, false, false, false, false] (by kernel_rfl) rfl rfl ⟨((HB.out.cell (World.block_lt_of_cell? w _ hw450_0)).trans hw450_0), ((HB.out.cell (World.block_lt_of_cell? w _ hw450_1)).trans hw450_1), ((HB.out.cell (World.block_lt_of_cell? w _ hw451_0)).trans hw451_0), ((HB.out.cell (World.block_lt_of_cell? w _ hw451_1)).trans hw451_1)⟩ (fun hHeld => ?_); refine with_tabW swageref18_OneByOne.tab5 swageref18_OneByOne.bits5 (fun HT_ HW_ => ?_)
          generalize wr.drew = w9 at HO_5 HB hx450_0 hx450_1 hx451_0 hx451_1 hHeld ⊢
          refine pure_ (i := 0) (N := some 15) (v := ?_) (a' := ?_) #[true, false, false, false, false, false, false, false, false, false, false, false, false, false, false] rfl rfl (any_of HT_.out (by kernel_rfl)) (fun _ _ _ h => h) (Or.inl ⟨by rfl, ?_⟩) ?_ ?_
          rotate_left
          · intro w'
            go_simp
            with_reducible rfl
          rotate_left
          · simp only [Act.put, List.setIfInBounds_toArray, List.set_cons_zero, List.set_cons_succ, i64_w, i32_w]
            rfl
          refine pure_ (i := 1) (N := some 16) (v := ?_) (a' := ?_) #[true, true, false, false, false, false, false, false, false, false, false, false, false, false, false] rfl rfl (any_of HT_.out (by kernel_rfl)) (fun _ _ _ h => h) (Or.inl ⟨by rfl, ?_⟩) ?_ ?_
          rotate_left
          · intro w'
            go_simp
            with_reducible rfl
          rotate_left
          · simp only [Act.put, List.setIfInBounds_toArray, List.set_cons_zero, List.set_cons_succ, i64_w, i32_w]
            rfl
          refine pure_ (i := 2) (N := some 17) (v := ?_) (a' := ?_) #[true, true, true, false, false, false, false, false, false, false, false, false, false, false, false] rfl rfl (any_of HT_.out (by kernel_rfl)) (fun _ _ _ h => h) (Or.inl ⟨by rfl, ?_⟩) ?_ ?_
          rotate_left
          · intro w'
            go_simp
            with_reducible rfl
          rotate_left
          · simp only [Act.put, List.setIfInBounds_toArray, List.set_cons_zero, List.set_cons_succ, i64_w, i32_w]
            rfl
          refine pure_ (i := 3) (N := some 18) (v := ?_) (a' := ?_) #[true, true, true, true, false, false, false, false, false, false, false, false, false, false, false] rfl rfl (any_of HT_.out (by kernel_rfl)) (fun _ _ _ h => h) (Or.inl ⟨by rfl, ?_⟩) ?_ ?_
          rotate_left
          · intro w'
            go_simp
            with_reducible rfl
          rotate_left
          · simp only [Act.put, List.setIfInBounds_toArray, List.set_cons_zero, List.set_cons_succ, i64_w, i32_w]
            rfl
          refine pure_ (i := 4) (N := some 19) (v := ?_) (a' := ?_) #[true, true, true, true, true, false, false, false, false, false, false, false, false, false, false] rfl rfl (any_of HT_.out (by kernel_rfl)) (fun _ _ _ h => h) (Or.inl ⟨by rfl, ?_⟩) ?_ ?_
          rotate_left
          · intro w'
            go_simp
            with_reducible rfl
          rotate_left
          · simp only [Act.put, List.setIfInBounds_toArray, List.set_cons_zero, List.set_cons_succ, i64_w, i32_w]
            rfl
          refine pure_ (i := 6) (N := some 21) (v := ?_) (a' := ?_) #[true, true, true, true, true, false, true, false, false, false, false, false, false, false, false] rfl rfl (any_of HT_.out (by kernel_rfl)) (fun _ _ _ h => h) (Or.inl ⟨by rfl, ?_⟩) ?_ ?_
          rotate_left
          · intro w'
            go_simp
            with_reducible rfl
          rotate_left
          · simp only [Act.put, List.setIfInBounds_toArray, List.set_cons_zero, List.set_cons_succ, i64_w, i32_w]
            rfl
          refine pure_ (i := 7) (N := some 22) (v := ?_) (a' := ?_) #[true, true, true, true, true, false, true, true, false, false, false, false, false, false, false] rfl rfl (any_of HT_.out (by kernel_rfl)) (fun _ _ _ h => h) (Or.inl ⟨by rfl, ?_⟩) ?_ ?_
          rotate_left
          · intro w'
            go_simp
            with_reducible rfl
          rotate_left
          · simp only [Act.put, List.setIfInBounds_toArray, List.set_cons_zero, List.set_cons_succ, i64_w, i32_w]
            rfl
          refine pure_ (i := 8) (N := some 23) (v := ?_) (a' := ?_) #[true, true, true, true, true, false, true, true, true, false, false, false, false, false, false] rfl rfl (any_of HT_.out (by kernel_rfl)) (fun _ _ _ h => h) (Or.inl ⟨by rfl, ?_⟩) ?_ ?_
          rotate_left
          · intro w'
            go_simp
            with_reducible rfl
          rotate_left
          · simp only [Act.put, List.setIfInBounds_toArray, List.set_cons_zero, List.set_cons_succ, i64_w, i32_w]
            rfl
          refine pure_ (i := 9) (N := some 24) (v := ?_) (a' := ?_) #[true, true, true, true, true, false, true, true, true, true, false, false, false, false, false] rfl rfl (any_of HT_.out (by kernel_rfl)) (fun _ _ _ h => h) (Or.inl ⟨by rfl, ?_⟩) ?_ ?_
          rotate_left
          · intro w'
            go_simp
            with_reducible rfl
          rotate_left
          · simp only [Act.put, List.setIfInBounds_toArray, List.set_cons_zero, List.set_cons_succ, i64_w, i32_w]
            rfl
          refine pure_ (i := 10) (N := some 25) (v := ?_) (a' := ?_) #[true, true, true, true, true, false, true, true, true, true, true, false, false, false, false] rfl rfl (any_of HT_.out (by kernel_rfl)) (fun _ _ _ h => h) (Or.inl ⟨by rfl, ?_⟩) ?_ ?_
          rotate_left
          · intro w'
            go_simp
            with_reducible rfl
          rotate_left
          · simp only [Act.put, List.setIfInBounds_toArray, List.set_cons_zero, List.set_cons_succ, i64_w, i32_w]
            rfl
          refine take_ (i := 5) (N := some 20) (v := ?_) (a' := ?_) #[true, true, true, true, true, true, true, true, true, true, true, false, false, false, false] rfl rfl (take_ofW HT_.out HW_.out (by kernel_rfl)) (fun _ _ _ h => h) (Or.inl ⟨by rfl, ?_⟩) hHeld ?_ ?_
          rotate_left
          · rintro w' ⟨s0, s1, s2, s3⟩
            go_simp
            with_reducible rfl
          rotate_left
          · simp only [Act.put, List.setIfInBounds_toArray, List.set_cons_zero, List.set_cons_succ, i64_w, i32_w]
            rfl
          refine take_ (i := 11) (N := some 26) (v := ?_) (a' := ?_) #[true, true, true, true, true, true, true, true, true, true, true, true, false, false, false] rfl rfl (take_ofW HT_.out HW_.out (by kernel_rfl)) (fun _ _ _ h => h) (Or.inl ⟨by rfl, ?_⟩) hHeld ?_ ?_
          rotate_left
          · rintro w' ⟨s0, s1, s2, s3⟩
            go_simp
            with_reducible rfl
          rotate_left
          · simp only [Act.put, List.setIfInBounds_toArray, List.set_cons_zero, List.set_cons_succ, i64_w, i32_w]
            rfl
          refine one_ (i := 12) (N := some 27) #[true, true, true, true, true, true, true, true, true, true, true, true, true, false, false] rfl rfl (one_of HT_.out (by kernel_rfl)) (by decide) (fun K hK => ?_)
          refine goes_ Try.func44 (by kernel_rfl) rfl #[.slice Ao10 x5_1.length co10, .int .i64 ((rd_T38 l0 x6_1).f1)] (by rfl) rfl rfl (by (try simp only [List.map_toArray, List.map_cons, List.map_nil]); first | done | rfl | (simp only [List.length_drop, List.length_take]; rfl)) ?_
          with_reducible refine (swageref18_value.calls k1 _ _ x5_1 ((rd_T38 l0 x6_1).f1) t452 _ ?side1 ?side2 A7.out).mono ?_
          (case side1 => repeat (first | exact (Kd.R_reads' HO_5.out).2.2 | (with_reducible refine Kd.C_alloc ?_ _) | (with_reducible refine Kd.C_drewN ?_ _) | (with_reducible refine Kd.C_drew ?_)))
          (case side2 => exact (Kd.R_reads' HO_5.out).2.1)
          rintro e w' ⟨rfl, ⟨nd, rfl⟩⟩
          refine ⟨_, rfl, ?_⟩
          refine hK.out _ _ ⟨((HB.out.cell (World.block_lt_of_cell? w _ hw450_0)).trans hw450_0), ((HB.out.cell (World.block_lt_of_cell? w _ hw450_1)).trans hw450_1), ((HB.out.cell (World.block_lt_of_cell? w _ hw451_0)).trans hw451_0), ((HB.out.cell (World.block_lt_of_cell? w _ hw451_1)).trans hw451_1)⟩ (fun hHeld => ?_)
          clear hK K
          refine norm_ (a' := ?_) ?_ ?_
          rotate_left
          · show Act.put _ (some 27) _ = _
            simp only [Act.put, List.setIfInBounds_toArray, List.set_cons_zero, List.set_cons_succ, i64_w, i32_w]
            rfl
          refine one_ (i := 13) (N := some 28) #[true, true, true, true, true, true, true, true, true, true, true, true, true, true, false] rfl rfl (one_of HT_.out (by kernel_rfl)) (by decide) (fun K hK => ?_)
          refine goes_ Try.func43 (by kernel_rfl) rfl #[.slice Ao10 x5_1.length co10, .int .i64 ((rd_T38 l0 x6_1).f0), .int .i64 t452] (by rfl) rfl rfl (by (try simp only [List.map_toArray, List.map_cons, List.map_nil]); first | done | rfl | (simp only [List.length_drop, List.length_take]; rfl)) ?_
          with_reducible refine (swageref18_put.calls k1 _ _ x5_1 ((rd_T38 l0 x6_1).f0) t452 t453 _ ?side1 ?side2 A8.out).mono ?_
          (case side1 => repeat (first | exact (Kd.R_reads' HO_5.out).2.2 | (with_reducible refine Kd.C_alloc ?_ _) | (with_reducible refine Kd.C_drewN ?_ _) | (with_reducible refine Kd.C_drew ?_)))
          (case side2 => exact (Kd.R_reads' HO_5.out).2.1)
          rintro e w11 ⟨v454, rfl, ho0, hb⟩
          refine ⟨_, rfl, ?_⟩
          have n0_ := Aside0.mk (Kd.R_elder' (by (with_reducible repeat (first | apply Kd.R_alloc | apply Kd.R_drewN | apply Kd.R_drew)); exact HO_5.out) (Kd.R_base ho0) hb)
          have n1_ := Aside0.mk (Kd.R_lower (Kd.R_new' ho0 (Kd.R_lt (by (with_reducible repeat (first | apply Kd.R_alloc | apply Kd.R_drewN | apply Kd.R_drew)); exact HO_5.out))) (below_size (by repeat (first | (with_reducible first | exact HB.out | apply below_alloc | apply pw_below_drewN | apply below_drew1) | exact HB.out))))
          have n2_ := Aside0.mk (below_step (by repeat (first | (with_reducible first | exact HB.out | apply below_alloc | apply pw_below_drewN | apply below_drew1) | exact HB.out)) hb)
          clear HO_5
          clear HB
          have HO_5 := n0_
          have HO455 := n1_
          have HB := n2_
          clear n0_ n1_ n2_
          (try clear hb)
          (try clear hb2)
          (try clear hk)
          (try clear hi)
          (try clear ho0)
          refine hK.out _ _ ⟨((HB.out.cell (World.block_lt_of_cell? w _ hw450_0)).trans hw450_0), ((HB.out.cell (World.block_lt_of_cell? w _ hw450_1)).trans hw450_1), ((HB.out.cell (World.block_lt_of_cell? w _ hw451_0)).trans hw451_0), ((HB.out.cell (World.block_lt_of_cell? w _ hw451_1)).trans hw451_1)⟩ (fun hHeld => ?_)
          clear hK K
          refine norm_ (a' := ?_) ?_ ?_
          rotate_left
          · show Act.put _ (some 28) _ = _
            simp only [Act.put, List.setIfInBounds_toArray, List.set_cons_zero, List.set_cons_succ, i64_w, i32_w]
            rfl
          refine pure_ (i := 14) (N := some 5) (v := ?_) (a' := ?_) #[true, true, true, true, true, true, true, true, true, true, true, true, true, true, true] rfl rfl (any_of HT_.out (by kernel_rfl)) (fun _ _ _ h => h) (Or.inl ⟨by rfl, ?_⟩) ?_ ?_
          rotate_left
          · intro w'
            go_simp
            with_reducible rfl
          rotate_left
          · simp only [Act.put, List.setIfInBounds_toArray, List.set_cons_zero, List.set_cons_succ, i64_w, i32_w]
            rfl
          refine done_ (done_of HT_.out (by kernel_rfl)) ?_
          try go_wp2
          go_roundg k1
          case measure => have := HK1.out; omega
          case rel => exact ⟨(t453), (wrap64 (x6_1 + 1)), (by first | rfl | (simp; done) | (simp [*]; done)), H', ⟨by have := HK1.out; omega⟩, ⟨by (with_reducible repeat (first | apply Kd.R_alloc | apply Kd.R_drewN | apply Kd.R_drew)); exact Kd.R_mono HO455.out (fun _ hk => trivial)⟩, ⟨by repeat (first | (with_reducible first | exact HB.out | apply below_alloc | apply pw_below_drewN | apply below_drew1) | exact HB.out)⟩⟩
        · rw [if_neg c6] at H
          exact absurd H (by simp)
      · rw [if_neg c5] at H
        have c5b0 : decide (x6_1 < (l0.length : Int)) = false := decide_eq_false c5
        clear c5
        obtain rfl := Option.some.inj H
        go_wp2
        go_ret
        exact ⟨_, by first | rfl | (simp [errW_none, errW_some] <;> rfl) | (simp [*, errW_none, errW_some] <;> rfl), by (with_reducible repeat (first | apply Kd.R_alloc | apply Kd.R_drewN | apply Kd.R_drew)); exact HO_5.out, by repeat (first | (with_reducible first | exact HB.out | apply below_alloc | apply pw_below_drewN | apply below_drew1) | exact HB.out)⟩

end Go.Proofs.Ytkfopphcgjdcaaa.A

/- What the machine does at this function, and a plain Lean function that says the same: written by a program for this claim; Lean checks it. -/
namespace Go.Proofs.Ytkfopphcgjdcaaa.A
open Go.RowKit Go.Proofs.YtkfopphcgjdcaaaW.PrintWords Go.Proofs.YtkfopphcgjdcaaaW.PrintLast Go.Proofs.YtkfopphcgjdcaaaW.PrintMore
attribute [local go_sem] max2_int min2_int max_two min_two max_three min_three max_four min_four   -- for this text's walks alone
set_option linter.unusedVariables false
set_option linter.unusedSimpArgs false

/-! ### swagelaw18_some: function 24 -/
def swagelaw18_some.f  : Option ((List (S38))) := some (([(⟨1, 2⟩ : S38), (⟨2, 1⟩ : S38), (⟨3, 1⟩ : S38)] : List (S38)))
set_option maxHeartbeats 8000000 in
set_option maxRecDepth 100000 in
theorem swagelaw18_some.calls  (r : List (S38)) (w : World) (h : swagelaw18_some.f  = some r) :
    Calls Try.prog 24 #[] w fun e w' => ∃ v0_ : Value, e = .returned (v0_) ∧ Kd.R k38 38 w' w.heap.size (fun _ => True) v0_ r ∧ Below w.heap.size w w' := by
  have hu38 := Try.underlying38
  have HB := Aside0.mk (Below.refl w.heap.size w)
  have H : (some (([(⟨1, 2⟩ : S38), (⟨2, 1⟩ : S38), (⟨3, 1⟩ : S38)] : List (S38)))) = some r := h
  clear h
  obtain ⟨y234, hy234⟩ : ∃ y_ : List (S38), y_ = (([(⟨1, 2⟩ : S38), (⟨2, 1⟩ : S38), (⟨3, 1⟩ : S38)] : List (S38))) := ⟨_, rfl⟩
  replace H : (some y234) = some r := by first | (rw [hy234]; with_reducible exact H) | (have H2_ := (Option.bind_some _ _).symm.trans H; rw [hy234]; with_reducible exact H2_) | (have H2_ := (Option.bind_some _ _).symm.trans H; with_reducible exact H2_) | with_reducible exact H | (rw [hy234]; exact H) | exact H
  have Ny234 := Aside0.mk hy234
  clear hy234
  obtain rfl := Option.some.inj H
  go_enter Try.func24, Try.ntmps24
  go_wp2_with (first | ((with_reducible refine gate_dst (N := 4) rfl ?_); refine Kd.R_lit k38 _ 38 ?hg (N := 4) ?hd (xs := ([(⟨1, 2⟩ : S38), (⟨2, 1⟩ : S38), (⟨3, 1⟩ : S38)] : List (S38))) (inner := [.int .i64 1, .int .i64 2, .int .i64 2, .int .i64 1, .int .i64 3, .int .i64 1]) (ok := fun _ => True) (okp := fun _ => True) ?hr ?hp (fun _ hk => hk) trivial (Below.refl _ _) (Nat.le_refl _) (by simp) ?_; (case hd => rfl); (case hg => rfl); (case hr => first | (go_simp; done) | (go_simp; rfl)); (case hp => exact (Reps.c2 (show Kd.M k38 _ _ _ (⟨1, 2⟩ : S38) [.int .i64 1, .int .i64 2] from (k38_mkM _ _ _ (⟨1, 2⟩ : S38) )) (Reps.c2 (show Kd.M k38 _ _ _ (⟨2, 1⟩ : S38) [.int .i64 2, .int .i64 1] from (k38_mkM _ _ _ (⟨2, 1⟩ : S38) )) (Reps.c2 (show Kd.M k38 _ _ _ (⟨3, 1⟩ : S38) [.int .i64 3, .int .i64 1] from (k38_mkM _ _ _ (⟨3, 1⟩ : S38) )) (Reps.none _ _))))); intro v235 w1 ho2 hb hg_ hnew_; clear hg_ hnew_; (first | rw [← Ny234.out] at ho2 | (simp only [Int.reduceToNat] at ho2; rw [← Ny234.out] at ho2)); have n0_ := Aside0.mk (Kd.R_lower ho2 (below_size (by repeat (first | (with_reducible first | exact HB.out | apply below_alloc | apply pw_below_drewN | apply below_drew1) | exact HB.out)))); have n1_ := Aside0.mk (below_step (by repeat (first | (with_reducible first | exact HB.out | apply below_alloc | apply pw_below_drewN | apply below_drew1) | exact HB.out)) hb); clear HB; have HO236 := n0_; have HB := n1_; clear n0_ n1_; clear hb ho2))
  go_ret
  exact ⟨_, by first | rfl | (simp [errW_none, errW_some] <;> rfl) | (simp [*, errW_none, errW_some] <;> rfl), by (with_reducible repeat (first | apply Kd.R_alloc | apply Kd.R_drewN | apply Kd.R_drew)); exact HO236.out, by repeat (first | (with_reducible first | exact HB.out | apply below_alloc | apply pw_below_drewN | apply below_drew1) | exact HB.out)⟩

end Go.Proofs.Ytkfopphcgjdcaaa.A

/- What the machine does at this function, and a plain Lean function that says the same: written by a program for this claim; Lean checks it. -/
namespace Go.Proofs.Ytkfopphcgjdcaaa.A
open Go.RowKit Go.Proofs.YtkfopphcgjdcaaaW.PrintWords Go.Proofs.YtkfopphcgjdcaaaW.PrintLast Go.Proofs.YtkfopphcgjdcaaaW.PrintMore
attribute [local go_sem] max2_int min2_int max_two min_two max_three min_three max_four min_four   -- for this text's walks alone
set_option linter.unusedVariables false
set_option linter.unusedSimpArgs false

theorem eqA38 (d : Nat) (w : World) (x0 y0 : Int) (x1 y1 : Int) :
    (Op.equalIn (d + 2) 38 (.agg #[.int .i64 x0, .int .i64 x1]) (.agg #[.int .i64 y0, .int .i64 y1])).run Try.prog w = .ok (x0 == y0 && (x1 == y1)) w := by
  refine eqA_of Try.underlying38 (by kernel_rfl) ?_
  refine eqf_cons (by rfl) (by go_simp; rfl) (by go_simp; rfl) (by go_simp) ?_
  exact eqf_last (by rfl) (by go_simp; rfl) (by go_simp; rfl) (by go_simp)
end Go.Proofs.Ytkfopphcgjdcaaa.A

/- What the machine does at this function, and a plain Lean function that says the same: written by a program for this claim; Lean checks it. -/
namespace Go.Proofs.Ytkfopphcgjdcaaa.A
open Go.RowKit Go.Proofs.YtkfopphcgjdcaaaW.PrintWords Go.Proofs.YtkfopphcgjdcaaaW.PrintLast Go.Proofs.YtkfopphcgjdcaaaW.PrintMore
attribute [local go_sem] max2_int min2_int max_two min_two max_three min_three max_four min_four   -- for this text's walks alone
set_option linter.unusedVariables false
set_option linter.unusedSimpArgs false

attribute [local go_sem high] eqA38
/-! ### swageref18_Same: function 11 -/
def swageref18_Same.l0 : Nat → List (S38) → List (S38) → Int → Option (Bool)
  | 0, _, _, _ => none
  | k + 1, x0, x1, x5 => if x5 < (x0.length : Int) then (if 0 ≤ x5 then (if x5 < (x1.length : Int) then (if (!(((rd_T38 x0 x5).f0) == ((rd_T38 x1 x5).f0)) || (!(((rd_T38 x0 x5).f1) == ((rd_T38 x1 x5).f1)))) = true then (some false) else (swageref18_Same.l0 k x0 x1 (wrap64 (x5 + 1)))) else (none)) else (none)) else (some true)
def swageref18_Same.f (k : Nat) (l0 : List (S38)) (l1 : List (S38)) : Option (Bool) := if (l0.length : Int) = (l1.length : Int) then (swageref18_Same.l0 k l0 l1 0) else (some false)
theorem swageref18_Same.mono_l : ∀ k, (∀ y0 y1 y2, LeO (swageref18_Same.l0 k y0 y1 y2) (swageref18_Same.l0 (k + 1) y0 y1 y2))
  | 0 => fun _ _ _ r h => by simp [swageref18_Same.l0] at h
  | k + 1 => by
    have ih0 := swageref18_Same.mono_l k
    · intro y0 y1 y2
      unfold swageref18_Same.l0
      repeat' first
      | (with_reducible exact ih0 _ _ _)
      | (with_reducible exact LeO.refl _)
      | (with_reducible exact LeO.none _)
      | (with_reducible refine LeO.ite ?_ ?_)
      | (with_reducible refine LeO.bind ?_ (fun _ => ?_))
      | exact ih0 _ _ _
      | exact LeO.none _
      | refine LeO.ite ?_ ?_
      | refine LeO.bind ?_ (fun _ => ?_)
theorem swageref18_Same.mono : ∀ a0 a1 k, LeO (swageref18_Same.f k a0 a1) (swageref18_Same.f (k + 1) a0 a1) := by
  intro a0 a1 k
  have ih0 := swageref18_Same.mono_l k
  unfold swageref18_Same.f
  repeat' first
      | (with_reducible exact ih0 _ _ _)
      | (with_reducible exact LeO.refl _)
      | (with_reducible exact LeO.none _)
      | (with_reducible refine LeO.ite ?_ ?_)
      | (with_reducible refine LeO.bind ?_ (fun _ => ?_))
      | exact ih0 _ _ _
      | exact LeO.none _
      | refine LeO.ite ?_ ?_
      | refine LeO.bind ?_ (fun _ => ?_)
set_option maxHeartbeats 8000000 in
set_option maxRecDepth 100000 in
theorem swageref18_Same.calls (k : Nat) (A0 : Option Addr) (c0 : Nat) (l0 : List (S38)) (A1 : Option Addr) (c1 : Nat) (l1 : List (S38)) (r : Bool) (w : World) (hr0 : Kd.C k38 w A0 l0.length l0) (hc0 : l0.length ≤ c0) (hr1 : Kd.C k38 w A1 l1.length l1) (hc1 : l1.length ≤ c1) (h : swageref18_Same.f k l0 l1 = some r) :
    Calls Try.prog 11 #[.slice A0 l0.length c0, .slice A1 l1.length c1] w fun e w' => e = .returned (.bool r) ∧ Drawn0 w w' := by
  have hu38 := Try.underlying38
  have HR0 := Aside0.mk hr0
  have HC0 := Aside0.mk hc0
  clear hr0 hc0
  have HR1 := Aside0.mk hr1
  have HC1 := Aside0.mk hc1
  clear hr1 hc1
  have H : (if (l0.length : Int) = (l1.length : Int) then (swageref18_Same.l0 k l0 l1 0) else (some false)) = some r := h
  clear h
  by_cases c3 : (l0.length : Int) = (l1.length : Int)
  · rw [if_pos c3] at H
    have c3b0 : ((l0.length : Int) == (l1.length : Int)) = true := beq_iff_eq.mpr c3
    have c3b1 : ((l0.length : Int) != (l1.length : Int)) = false := bne_eq_false_iff_eq.mpr c3
    have c3b2 : (l0.length == l1.length) = true := by first | simpa using c3 | (simp at c3 ⊢; omega)
    clear c3
    have H' := Aside0.mk H
    clear H
    go_enter Try.func11, Try.ntmps11
    go_wp2
    repeat (go_quiet (fail); try go_wp2)
    go_loopg [5] k (fun kq v5 w' => ∃ (x5_1 : Int), v5 = .int .i64 x5_1 ∧ Aside0 (swageref18_Same.l0 kq l0 l1 x5_1 = some r) ∧ Aside0 (kq ≤ k) ∧ Drawn0 w w')
    case atStart => exact ⟨(0), (by first | rfl | (simp; done) | (simp [*]; done)), H', ⟨Nat.le_refl _⟩, by repeat (first | exact Drawn0.refl _ | apply Drawn0.step)⟩
    case round =>
      clear H'
      try clear c1
      try clear p2
      try clear c3
      try clear c3b0
      try clear c3b1
      try clear c3b2
      obtain ⟨x5_1, rfl, HA, HK1, ⟨m1, rfl⟩⟩ := hrel
      cases gk with
      | zero => exact absurd HA.out (by simp [swageref18_Same.l0])
      | succ k1 =>
        have H := HA.out
        clear HA
        simp only [swageref18_Same.l0] at H
        by_cases c4 : x5_1 < (l0.length : Int)
        · rw [if_pos c4] at H
          have c4b0 : decide (x5_1 < (l0.length : Int)) = true := decide_eq_true c4
          clear c4
          by_cases c5 : 0 ≤ x5_1
          · rw [if_pos c5] at H
            have c5b0 : decide (0 ≤ x5_1) = true := decide_eq_true c5
            clear c5
            by_cases c6 : x5_1 < (l1.length : Int)
            · rw [if_pos c6] at H
              have c6b0 : decide (x5_1 < (l1.length : Int)) = true := decide_eq_true c6
              clear c6
              by_cases c7 : (!(((rd_T38 l0 x5_1).f0) == ((rd_T38 l1 x5_1).f0)) || (!(((rd_T38 l0 x5_1).f1) == ((rd_T38 l1 x5_1).f1)))) = true
              · rw [if_pos c7] at H
                have c7b0 : (!(((rd_T38 l0 x5_1).f0) == ((rd_T38 l1 x5_1).f0)) || (!(((rd_T38 l0 x5_1).f1) == ((rd_T38 l1 x5_1).f1)))) = true := c7
                clear c7
                obtain rfl := Option.some.inj H
                have p101 : 0 ≤ (x5_1 : Int) := of_decide_eq_true (by first | (with_reducible assumption) | assumption)
                have q101 : x5_1 < (l0.length : Int) := of_decide_eq_true (by first | (with_reducible assumption) | assumption)
                obtain ⟨ad101, e101, hx101_0, hx101_1⟩ := at_T38 HR0.out x5_1 p101 q101
                cases e101
                replace p101 := eq_true p101
                replace q101 := eq_true q101
                have p102 : 0 ≤ (x5_1 : Int) := of_decide_eq_true (by first | (with_reducible assumption) | assumption)
                have q102 : x5_1 < (l1.length : Int) := of_decide_eq_true (by first | (with_reducible assumption) | assumption)
                obtain ⟨ad102, e102, hx102_0, hx102_1⟩ := at_T38 HR1.out x5_1 p102 q102
                cases e102
                replace p102 := eq_true p102
                replace q102 := eq_true q102
                go_wp2
                repeat (go_quiet (fail); try go_wp2)
                go_ret
                exact ⟨by first | rfl | (simp; done) | (simp [*]; done), by repeat (first | exact Drawn0.refl _ | apply Drawn0.step)⟩
              · rw [if_neg c7] at H
                have c7b0 : (!(((rd_T38 l0 x5_1).f0) == ((rd_T38 l1 x5_1).f0)) || (!(((rd_T38 l0 x5_1).f1) == ((rd_T38 l1 x5_1).f1)))) = false := by simpa using c7
                clear c7
                have H' := Aside0.mk H
                clear H
                have p101 : 0 ≤ (x5_1 : Int) := of_decide_eq_true (by first | (with_reducible assumption) | assumption)
                have q101 : x5_1 < (l0.length : Int) := of_decide_eq_true (by first | (with_reducible assumption) | assumption)
                obtain ⟨ad101, e101, hx101_0, hx101_1⟩ := at_T38 HR0.out x5_1 p101 q101
                cases e101
                replace p101 := eq_true p101
                replace q101 := eq_true q101
                have p102 : 0 ≤ (x5_1 : Int) := of_decide_eq_true (by first | (with_reducible assumption) | assumption)
                have q102 : x5_1 < (l1.length : Int) := of_decide_eq_true (by first | (with_reducible assumption) | assumption)
                obtain ⟨ad102, e102, hx102_0, hx102_1⟩ := at_T38 HR1.out x5_1 p102 q102
                cases e102
                replace p102 := eq_true p102
                replace q102 := eq_true q102
                go_wp2
                repeat (go_quiet (fail); try go_wp2)
                go_roundg k1
                case measure => have := HK1.out; omega
                case rel => exact ⟨(wrap64 (x5_1 + 1)), (by first | rfl | (simp; done) | (simp [*]; done)), H', ⟨by have := HK1.out; omega⟩, by repeat (first | exact Drawn0.refl _ | apply Drawn0.step)⟩
            · rw [if_neg c6] at H
              exact absurd H (by simp)
          · rw [if_neg c5] at H
            exact absurd H (by simp)
        · rw [if_neg c4] at H
          have c4b0 : decide (x5_1 < (l0.length : Int)) = false := decide_eq_false c4
          clear c4
          obtain rfl := Option.some.inj H
          go_wp2
          repeat (go_quiet (fail); try go_wp2)
          go_ret
          exact ⟨by first | rfl | (simp; done) | (simp [*]; done), by repeat (first | exact Drawn0.refl _ | apply Drawn0.step)⟩
  · rw [if_neg c3] at H
    have c3b0 : ((l0.length : Int) == (l1.length : Int)) = false := beq_eq_false_iff_ne.mpr c3
    have c3b1 : ((l0.length : Int) != (l1.length : Int)) = true := bne_iff_ne.mpr c3
    have c3b2 : (l0.length == l1.length) = false := by first | simpa using c3 | (simp at c3 ⊢; omega)
    obtain rfl := Option.some.inj H
    go_enter Try.func11, Try.ntmps11
    go_wp2
    repeat (go_quiet (fail); try go_wp2)
    go_ret
    exact ⟨by first | rfl | (simp; done) | (simp [*]; done), by repeat (first | exact Drawn0.refl _ | apply Drawn0.step)⟩

end Go.Proofs.Ytkfopphcgjdcaaa.A

/- What the machine does at this function, and a plain Lean function that says the same: written by a program for this claim; Lean checks it. -/
namespace Go.Proofs.Ytkfopphcgjdcaaa.A
open Go.RowKit Go.Proofs.YtkfopphcgjdcaaaW.PrintWords Go.Proofs.YtkfopphcgjdcaaaW.PrintLast Go.Proofs.YtkfopphcgjdcaaaW.PrintMore
attribute [local go_sem] max2_int min2_int max_two min_two max_three min_three max_four min_four   -- for this text's walks alone
set_option linter.unusedVariables false
set_option linter.unusedSimpArgs false

/-! ### swageref02_Ints: function 34 -/
def swageref02_Ints.l0 : Nat → List Int → List Int → Int → Option (Bool)
  | 0, _, _, _ => none
  | k + 1, x0, x1, x5 => if x5 < (x0.length : Int) then (if 0 ≤ x5 then (if x5 < (x1.length : Int) then (if (rd x0 x5) = (rd x1 x5) then (swageref02_Ints.l0 k x0 x1 (wrap64 (x5 + 1))) else (some false)) else (none)) else (none)) else (some true)
def swageref02_Ints.f (k : Nat) (l0 : List Int) (l1 : List Int) : Option (Bool) := if (l0.length : Int) = (l1.length : Int) then (swageref02_Ints.l0 k l0 l1 0) else (some false)
theorem swageref02_Ints.mono_l : ∀ k, (∀ y0 y1 y2, LeO (swageref02_Ints.l0 k y0 y1 y2) (swageref02_Ints.l0 (k + 1) y0 y1 y2))
  | 0 => fun _ _ _ r h => by simp [swageref02_Ints.l0] at h
  | k + 1 => by
    have ih0 := swageref02_Ints.mono_l k
    · intro y0 y1 y2
      unfold swageref02_Ints.l0
      repeat' first
      | (with_reducible exact ih0 _ _ _)
      | (with_reducible exact LeO.refl _)
      | (with_reducible exact LeO.none _)
      | (with_reducible refine LeO.ite ?_ ?_)
      | (with_reducible refine LeO.bind ?_ (fun _ => ?_))
      | exact ih0 _ _ _
      | exact LeO.none _
      | refine LeO.ite ?_ ?_
      | refine LeO.bind ?_ (fun _ => ?_)
theorem swageref02_Ints.mono : ∀ a0 a1 k, LeO (swageref02_Ints.f k a0 a1) (swageref02_Ints.f (k + 1) a0 a1) := by
  intro a0 a1 k
  have ih0 := swageref02_Ints.mono_l k
  unfold swageref02_Ints.f
  repeat' first
      | (with_reducible exact ih0 _ _ _)
      | (with_reducible exact LeO.refl _)
      | (with_reducible exact LeO.none _)
      | (with_reducible refine LeO.ite ?_ ?_)
      | (with_reducible refine LeO.bind ?_ (fun _ => ?_))
      | exact ih0 _ _ _
      | exact LeO.none _
      | refine LeO.ite ?_ ?_
      | refine LeO.bind ?_ (fun _ => ?_)
set_option maxHeartbeats 8000000 in
set_option maxRecDepth 100000 in
theorem swageref02_Ints.calls (k : Nat) (A0 : Option Addr) (c0 : Nat) (l0 : List Int) (A1 : Option Addr) (c1 : Nat) (l1 : List Int) (r : Bool) (w : World) (hr0 : Kd.C (Kd.int .i64) w A0 l0.length l0) (hc0 : l0.length ≤ c0) (hr1 : Kd.C (Kd.int .i64) w A1 l1.length l1) (hc1 : l1.length ≤ c1) (h : swageref02_Ints.f k l0 l1 = some r) :
    Calls Try.prog 34 #[.slice A0 l0.length c0, .slice A1 l1.length c1] w fun e w' => e = .returned (.bool r) ∧ Drawn0 w w' := by
  have HR0 := Aside0.mk hr0
  have HC0 := Aside0.mk hc0
  clear hr0 hc0
  have HR1 := Aside0.mk hr1
  have HC1 := Aside0.mk hc1
  clear hr1 hc1
  have H : (if (l0.length : Int) = (l1.length : Int) then (swageref02_Ints.l0 k l0 l1 0) else (some false)) = some r := h
  clear h
  by_cases c3 : (l0.length : Int) = (l1.length : Int)
  · rw [if_pos c3] at H
    have c3b0 : ((l0.length : Int) == (l1.length : Int)) = true := beq_iff_eq.mpr c3
    have c3b1 : ((l0.length : Int) != (l1.length : Int)) = false := bne_eq_false_iff_eq.mpr c3
    have c3b2 : (l0.length == l1.length) = true := by first | simpa using c3 | (simp at c3 ⊢; omega)
    clear c3
    have H' := Aside0.mk H
    clear H
    go_enter Try.func34, Try.ntmps34
    go_wp2
    repeat (go_quiet (fail); try go_wp2)
    go_loopg [5] k (fun kq v5 w' => ∃ (x5_1 : Int), v5 = .int .i64 x5_1 ∧ Aside0 (swageref02_Ints.l0 kq l0 l1 x5_1 = some r) ∧ Aside0 (kq ≤ k) ∧ Drawn0 w w')
    case atStart => exact ⟨(0), (by first | rfl | (simp; done) | (simp [*]; done)), H', ⟨Nat.le_refl _⟩, by repeat (first | exact Drawn0.refl _ | apply Drawn0.step)⟩
    case round =>
      clear H'
      try clear c1
      try clear p2
      try clear c3
      try clear c3b0
      try clear c3b1
      try clear c3b2
      obtain ⟨x5_1, rfl, HA, HK1, ⟨m1, rfl⟩⟩ := hrel
      cases gk with
      | zero => exact absurd HA.out (by simp [swageref02_Ints.l0])
      | succ k1 =>
        have H := HA.out
        clear HA
        simp only [swageref02_Ints.l0] at H
        by_cases c4 : x5_1 < (l0.length : Int)
        · rw [if_pos c4] at H
          have c4b0 : decide (x5_1 < (l0.length : Int)) = true := decide_eq_true c4
          clear c4
          by_cases c5 : 0 ≤ x5_1
          · rw [if_pos c5] at H
            have c5b0 : decide (0 ≤ x5_1) = true := decide_eq_true c5
            clear c5
            by_cases c6 : x5_1 < (l1.length : Int)
            · rw [if_pos c6] at H
              have c6b0 : decide (x5_1 < (l1.length : Int)) = true := decide_eq_true c6
              clear c6
              by_cases c7 : (rd l0 x5_1) = (rd l1 x5_1)
              · rw [if_pos c7] at H
                have c7b0 : ((rd l0 x5_1) == (rd l1 x5_1)) = true := beq_iff_eq.mpr c7
                have c7b1 : ((rd l0 x5_1) != (rd l1 x5_1)) = false := bne_eq_false_iff_eq.mpr c7
                clear c7
                have H' := Aside0.mk H
                clear H
                have p103 : 0 ≤ (x5_1 : Int) := of_decide_eq_true (by first | (with_reducible assumption) | assumption)
                have q103 : x5_1 < (l0.length : Int) := of_decide_eq_true (by first | (with_reducible assumption) | assumption)
                obtain ⟨ad103, e103, hx103_0⟩ := Kd.at_int HR0.out x5_1 p103 q103
                cases e103
                replace p103 := eq_true p103
                replace q103 := eq_true q103
                have p104 : 0 ≤ (x5_1 : Int) := of_decide_eq_true (by first | (with_reducible assumption) | assumption)
                have q104 : x5_1 < (l1.length : Int) := of_decide_eq_true (by first | (with_reducible assumption) | assumption)
                obtain ⟨ad104, e104, hx104_0⟩ := Kd.at_int HR1.out x5_1 p104 q104
                cases e104
                replace p104 := eq_true p104
                replace q104 := eq_true q104
                go_wp2
                repeat (go_quiet (fail); try go_wp2)
                go_roundg k1
                case measure => have := HK1.out; omega
                case rel => exact ⟨(wrap64 (x5_1 + 1)), (by first | rfl | (simp; done) | (simp [*]; done)), H', ⟨by have := HK1.out; omega⟩, by repeat (first | exact Drawn0.refl _ | apply Drawn0.step)⟩
              · rw [if_neg c7] at H
                have c7b0 : ((rd l0 x5_1) == (rd l1 x5_1)) = false := beq_eq_false_iff_ne.mpr c7
                have c7b1 : ((rd l0 x5_1) != (rd l1 x5_1)) = true := bne_iff_ne.mpr c7
                obtain rfl := Option.some.inj H
                have p103 : 0 ≤ (x5_1 : Int) := of_decide_eq_true (by first | (with_reducible assumption) | assumption)
                have q103 : x5_1 < (l0.length : Int) := of_decide_eq_true (by first | (with_reducible assumption) | assumption)
                obtain ⟨ad103, e103, hx103_0⟩ := Kd.at_int HR0.out x5_1 p103 q103
                cases e103
                replace p103 := eq_true p103
                replace q103 := eq_true q103
                have p104 : 0 ≤ (x5_1 : Int) := of_decide_eq_true (by first | (with_reducible assumption) | assumption)
                have q104 : x5_1 < (l1.length : Int) := of_decide_eq_true (by first | (with_reducible assumption) | assumption)
                obtain ⟨ad104, e104, hx104_0⟩ := Kd.at_int HR1.out x5_1 p104 q104
                cases e104
                replace p104 := eq_true p104
                replace q104 := eq_true q104
                go_wp2
                repeat (go_quiet (fail); try go_wp2)
                go_ret
                exact ⟨by first | rfl | (simp; done) | (simp [*]; done), by repeat (first | exact Drawn0.refl _ | apply Drawn0.step)⟩
            · rw [if_neg c6] at H
              exact absurd H (by simp)
          · rw [if_neg c5] at H
            exact absurd H (by simp)
        · rw [if_neg c4] at H
          have c4b0 : decide (x5_1 < (l0.length : Int)) = false := decide_eq_false c4
          clear c4
          obtain rfl := Option.some.inj H
          go_wp2
          repeat (go_quiet (fail); try go_wp2)
          go_ret
          exact ⟨by first | rfl | (simp; done) | (simp [*]; done), by repeat (first | exact Drawn0.refl _ | apply Drawn0.step)⟩
  · rw [if_neg c3] at H
    have c3b0 : ((l0.length : Int) == (l1.length : Int)) = false := beq_eq_false_iff_ne.mpr c3
    have c3b1 : ((l0.length : Int) != (l1.length : Int)) = true := bne_iff_ne.mpr c3
    have c3b2 : (l0.length == l1.length) = false := by first | simpa using c3 | (simp at c3 ⊢; omega)
    obtain rfl := Option.some.inj H
    go_enter Try.func34, Try.ntmps34
    go_wp2
    repeat (go_quiet (fail); try go_wp2)
    go_ret
    exact ⟨by first | rfl | (simp; done) | (simp [*]; done), by repeat (first | exact Drawn0.refl _ | apply Drawn0.step)⟩

end Go.Proofs.Ytkfopphcgjdcaaa.A

/- What the machine does at this function, and a plain Lean function that says the same: written by a program for this claim; Lean checks it. -/
namespace Go.Proofs.Ytkfopphcgjdcaaa.A
open Go.RowKit Go.Proofs.YtkfopphcgjdcaaaW.PrintWords Go.Proofs.YtkfopphcgjdcaaaW.PrintLast Go.Proofs.YtkfopphcgjdcaaaW.PrintMore
attribute [local go_sem] max2_int min2_int max_two min_two max_three min_three max_four min_four   -- for this text's walks alone
set_option linter.unusedVariables false
set_option linter.unusedSimpArgs false

/-! ### swageref06_Rows: function 14 -/
def swageref06_Rows.l0 : Nat → List (List Int) → List (List Int) → Int → Option (Bool)
  | 0, _, _, _ => none
  | k + 1, x0, x1, x5 => if x5 < (x0.length : Int) then (if 0 ≤ x5 then (if x5 < (x1.length : Int) then ((swageref02_Ints.f k (rd_L4 x0 x5) (rd_L4 x1 x5)).bind fun t107 => (if t107 = true then (swageref06_Rows.l0 k x0 x1 (wrap64 (x5 + 1))) else (some false))) else (none)) else (none)) else (some true)
def swageref06_Rows.f (k : Nat) (l0 : List (List Int)) (l1 : List (List Int)) : Option (Bool) := if (l0.length : Int) = (l1.length : Int) then (swageref06_Rows.l0 k l0 l1 0) else (some false)
theorem swageref06_Rows.mono_l : ∀ k, (∀ y0 y1 y2, LeO (swageref06_Rows.l0 k y0 y1 y2) (swageref06_Rows.l0 (k + 1) y0 y1 y2))
  | 0 => fun _ _ _ r h => by simp [swageref06_Rows.l0] at h
  | k + 1 => by
    have ih0 := swageref06_Rows.mono_l k
    · intro y0 y1 y2
      unfold swageref06_Rows.l0
      repeat' first
      | (with_reducible exact ih0 _ _ _)
      | (with_reducible exact swageref02_Ints.mono _ _ _)
      | (with_reducible exact LeO.refl _)
      | (with_reducible exact LeO.none _)
      | (with_reducible refine LeO.ite ?_ ?_)
      | (with_reducible refine LeO.bind ?_ (fun _ => ?_))
      | exact ih0 _ _ _
      | exact swageref02_Ints.mono _ _ _
      | exact LeO.none _
      | refine LeO.ite ?_ ?_
      | refine LeO.bind ?_ (fun _ => ?_)
theorem swageref06_Rows.mono : ∀ a0 a1 k, LeO (swageref06_Rows.f k a0 a1) (swageref06_Rows.f (k + 1) a0 a1) := by
  intro a0 a1 k
  have ih0 := swageref06_Rows.mono_l k
  unfold swageref06_Rows.f
  repeat' first
      | (with_reducible exact ih0 _ _ _)
      | (with_reducible exact swageref02_Ints.mono _ _ _)
      | (with_reducible exact LeO.refl _)
      | (with_reducible exact LeO.none _)
      | (with_reducible refine LeO.ite ?_ ?_)
      | (with_reducible refine LeO.bind ?_ (fun _ => ?_))
      | exact ih0 _ _ _
      | exact swageref02_Ints.mono _ _ _
      | exact LeO.none _
      | refine LeO.ite ?_ ?_
      | refine LeO.bind ?_ (fun _ => ?_)
set_option maxHeartbeats 8000000 in
set_option maxRecDepth 100000 in
theorem swageref06_Rows.calls (k : Nat) (A0 : Option Addr) (c0 : Nat) (l0 : List (List Int)) (A1 : Option Addr) (c1 : Nat) (l1 : List (List Int)) (r : Bool) (w : World) (hr0 : Kd.C (Kd.slice 3 (Kd.int .i64)) w A0 l0.length l0) (hc0 : l0.length ≤ c0) (hr1 : Kd.C (Kd.slice 3 (Kd.int .i64)) w A1 l1.length l1) (hc1 : l1.length ≤ c1) (h : swageref06_Rows.f k l0 l1 = some r) :
    Calls Try.prog 14 #[.slice A0 l0.length c0, .slice A1 l1.length c1] w fun e w' => e = .returned (.bool r) ∧ Drawn0 w w' := by
  have HR0 := Aside0.mk hr0
  have HC0 := Aside0.mk hc0
  clear hr0 hc0
  have HR1 := Aside0.mk hr1
  have HC1 := Aside0.mk hc1
  clear hr1 hc1
  have H : (if (l0.length : Int) = (l1.length : Int) then (swageref06_Rows.l0 k l0 l1 0) else (some false)) = some r := h
  clear h
  by_cases c3 : (l0.length : Int) = (l1.length : Int)
  · rw [if_pos c3] at H
    have c3b0 : ((l0.length : Int) == (l1.length : Int)) = true := beq_iff_eq.mpr c3
    have c3b1 : ((l0.length : Int) != (l1.length : Int)) = false := bne_eq_false_iff_eq.mpr c3
    have c3b2 : (l0.length == l1.length) = true := by first | simpa using c3 | (simp at c3 ⊢; omega)
    clear c3
    have H' := Aside0.mk H
    clear H
    go_enter Try.func14, Try.ntmps14
    go_wp2
    repeat (go_quiet (fail); try go_wp2)
    go_loopg [5] k (fun kq v5 w' => ∃ (x5_1 : Int), v5 = .int .i64 x5_1 ∧ Aside0 (swageref06_Rows.l0 kq l0 l1 x5_1 = some r) ∧ Aside0 (kq ≤ k) ∧ Drawn0 w w')
    case atStart => exact ⟨(0), (by first | rfl | (simp; done) | (simp [*]; done)), H', ⟨Nat.le_refl _⟩, by repeat (first | exact Drawn0.refl _ | apply Drawn0.step)⟩
    case round =>
      clear H'
      try clear c1
      try clear p2
      try clear c3
      try clear c3b0
      try clear c3b1
      try clear c3b2
      obtain ⟨x5_1, rfl, HA, HK1, ⟨m1, rfl⟩⟩ := hrel
      cases gk with
      | zero => exact absurd HA.out (by simp [swageref06_Rows.l0])
      | succ k1 =>
        have H := HA.out
        clear HA
        simp only [swageref06_Rows.l0] at H
        by_cases c4 : x5_1 < (l0.length : Int)
        · rw [if_pos c4] at H
          have c4b0 : decide (x5_1 < (l0.length : Int)) = true := decide_eq_true c4
          clear c4
          by_cases c5 : 0 ≤ x5_1
          · rw [if_pos c5] at H
            have c5b0 : decide (0 ≤ x5_1) = true := decide_eq_true c5
            clear c5
            by_cases c6 : x5_1 < (l1.length : Int)
            · rw [if_pos c6] at H
              have c6b0 : decide (x5_1 < (l1.length : Int)) = true := decide_eq_true c6
              clear c6
              replace H := Option.bind_eq_some_iff.mp H
              obtain ⟨t107, A70, H⟩ := H
              replace H : (if t107 = true then (swageref06_Rows.l0 k1 l0 l1 (wrap64 (x5_1 + 1))) else (some false)) = some r := H
              have A7 := Aside0.mk A70
              clear A70
              by_cases c8 : t107 = true
              · subst c8
                have H1 : (swageref06_Rows.l0 k1 l0 l1 (wrap64 (x5_1 + 1))) = some r := by rw [if_pos rfl] at H; exact H
                clear H
                have H := H1
                clear H1
                have H' := Aside0.mk H
                clear H
                have p105 : 0 ≤ (x5_1 : Int) := of_decide_eq_true (by first | (with_reducible assumption) | assumption)
                have q105 : x5_1 < (l0.length : Int) := of_decide_eq_true (by first | (with_reducible assumption) | assumption)
                obtain ⟨ad105, A105_0, c105_0, e105, hx105_0, hl105_0, hi105_0⟩ := at_L4 HR0.out x5_1 p105 q105
                cases e105
                have HR105_0 := Aside0.mk hi105_0
                have HC105_0 := Aside0.mk hl105_0
                clear hi105_0 hl105_0
                replace p105 := eq_true p105
                replace q105 := eq_true q105
                have p106 : 0 ≤ (x5_1 : Int) := of_decide_eq_true (by first | (with_reducible assumption) | assumption)
                have q106 : x5_1 < (l1.length : Int) := of_decide_eq_true (by first | (with_reducible assumption) | assumption)
                obtain ⟨ad106, A106_0, c106_0, e106, hx106_0, hl106_0, hi106_0⟩ := at_L4 HR1.out x5_1 p106 q106
                cases e106
                have HR106_0 := Aside0.mk hi106_0
                have HC106_0 := Aside0.mk hl106_0
                clear hi106_0 hl106_0
                replace p106 := eq_true p106
                replace q106 := eq_true q106
                go_wp2_with (first | (go_at_call 34; (with_reducible refine (swageref02_Ints.calls k1 _ _ (rd_L4 l0 x5_1) _ _ (rd_L4 l1 x5_1) true _ ?side1 ?side2 ?side3 ?side4 A7.out).mono ?_); (case side1 => repeat (first | exact HR105_0.out | (with_reducible refine Kd.C_alloc ?_ _) | (with_reducible refine Kd.C_drewN ?_ _) | (with_reducible refine Kd.C_drew ?_))); (case side2 => exact HC105_0.out); (case side3 => repeat (first | exact HR106_0.out | (with_reducible refine Kd.C_alloc ?_ _) | (with_reducible refine Kd.C_drewN ?_ _) | (with_reducible refine Kd.C_drew ?_))); (case side4 => exact HC106_0.out); rintro e w' ⟨rfl, ⟨nd, rfl⟩⟩; (try first | exact ⟨rfl, _, World.drewN_drewN _ _ _⟩ | exact ⟨rfl, _, Eq.trans (World.drewN_drewN _ _ _) (congrArg (World.drewN _) (Nat.add_assoc _ _ _))⟩)))
                repeat (go_quiet (first | (go_at_call 34; (with_reducible refine (swageref02_Ints.calls k1 _ _ (rd_L4 l0 x5_1) _ _ (rd_L4 l1 x5_1) true _ ?side1 ?side2 ?side3 ?side4 A7.out).mono ?_); (case side1 => repeat (first | exact HR105_0.out | (with_reducible refine Kd.C_alloc ?_ _) | (with_reducible refine Kd.C_drewN ?_ _) | (with_reducible refine Kd.C_drew ?_))); (case side2 => exact HC105_0.out); (case side3 => repeat (first | exact HR106_0.out | (with_reducible refine Kd.C_alloc ?_ _) | (with_reducible refine Kd.C_drewN ?_ _) | (with_reducible refine Kd.C_drew ?_))); (case side4 => exact HC106_0.out); rintro e w' ⟨rfl, ⟨nd, rfl⟩⟩; (try first | exact ⟨rfl, _, World.drewN_drewN _ _ _⟩ | exact ⟨rfl, _, Eq.trans (World.drewN_drewN _ _ _) (congrArg (World.drewN _) (Nat.add_assoc _ _ _))⟩))); try go_wp2_with (first | (go_at_call 34; (with_reducible refine (swageref02_Ints.calls k1 _ _ (rd_L4 l0 x5_1) _ _ (rd_L4 l1 x5_1) true _ ?side1 ?side2 ?side3 ?side4 A7.out).mono ?_); (case side1 => repeat (first | exact HR105_0.out | (with_reducible refine Kd.C_alloc ?_ _) | (with_reducible refine Kd.C_drewN ?_ _) | (with_reducible refine Kd.C_drew ?_))); (case side2 => exact HC105_0.out); (case side3 => repeat (first | exact HR106_0.out | (with_reducible refine Kd.C_alloc ?_ _) | (with_reducible refine Kd.C_drewN ?_ _) | (with_reducible refine Kd.C_drew ?_))); (case side4 => exact HC106_0.out); rintro e w' ⟨rfl, ⟨nd, rfl⟩⟩; (try first | exact ⟨rfl, _, World.drewN_drewN _ _ _⟩ | exact ⟨rfl, _, Eq.trans (World.drewN_drewN _ _ _) (congrArg (World.drewN _) (Nat.add_assoc _ _ _))⟩))))
                go_roundg k1
                case measure => have := HK1.out; omega
                case rel => exact ⟨(wrap64 (x5_1 + 1)), (by first | rfl | (simp; done) | (simp [*]; done)), H', ⟨by have := HK1.out; omega⟩, by repeat (first | exact Drawn0.refl _ | apply Drawn0.step)⟩
              · replace c8 := Bool.eq_false_iff.mpr c8
                subst c8
                have H1 : (some false) = some r := by rw [if_neg (show ¬ (false = true) by decide)] at H; exact H
                clear H
                have H := H1
                clear H1
                obtain rfl := Option.some.inj H
                have p105 : 0 ≤ (x5_1 : Int) := of_decide_eq_true (by first | (with_reducible assumption) | assumption)
                have q105 : x5_1 < (l0.length : Int) := of_decide_eq_true (by first | (with_reducible assumption) | assumption)
                obtain ⟨ad105, A105_0, c105_0, e105, hx105_0, hl105_0, hi105_0⟩ := at_L4 HR0.out x5_1 p105 q105
                cases e105
                have HR105_0 := Aside0.mk hi105_0
                have HC105_0 := Aside0.mk hl105_0
                clear hi105_0 hl105_0
                replace p105 := eq_true p105
                replace q105 := eq_true q105
                have p106 : 0 ≤ (x5_1 : Int) := of_decide_eq_true (by first | (with_reducible assumption) | assumption)
                have q106 : x5_1 < (l1.length : Int) := of_decide_eq_true (by first | (with_reducible assumption) | assumption)
                obtain ⟨ad106, A106_0, c106_0, e106, hx106_0, hl106_0, hi106_0⟩ := at_L4 HR1.out x5_1 p106 q106
                cases e106
                have HR106_0 := Aside0.mk hi106_0
                have HC106_0 := Aside0.mk hl106_0
                clear hi106_0 hl106_0
                replace p106 := eq_true p106
                replace q106 := eq_true q106
                go_wp2_with (first | (go_at_call 34; (with_reducible refine (swageref02_Ints.calls k1 _ _ (rd_L4 l0 x5_1) _ _ (rd_L4 l1 x5_1) false _ ?side1 ?side2 ?side3 ?side4 A7.out).mono ?_); (case side1 => repeat (first | exact HR105_0.out | (with_reducible refine Kd.C_alloc ?_ _) | (with_reducible refine Kd.C_drewN ?_ _) | (with_reducible refine Kd.C_drew ?_))); (case side2 => exact HC105_0.out); (case side3 => repeat (first | exact HR106_0.out | (with_reducible refine Kd.C_alloc ?_ _) | (with_reducible refine Kd.C_drewN ?_ _) | (with_reducible refine Kd.C_drew ?_))); (case side4 => exact HC106_0.out); rintro e w' ⟨rfl, ⟨nd, rfl⟩⟩; (try first | exact ⟨rfl, _, World.drewN_drewN _ _ _⟩ | exact ⟨rfl, _, Eq.trans (World.drewN_drewN _ _ _) (congrArg (World.drewN _) (Nat.add_assoc _ _ _))⟩)))
                repeat (go_quiet (first | (go_at_call 34; (with_reducible refine (swageref02_Ints.calls k1 _ _ (rd_L4 l0 x5_1) _ _ (rd_L4 l1 x5_1) false _ ?side1 ?side2 ?side3 ?side4 A7.out).mono ?_); (case side1 => repeat (first | exact HR105_0.out | (with_reducible refine Kd.C_alloc ?_ _) | (with_reducible refine Kd.C_drewN ?_ _) | (with_reducible refine Kd.C_drew ?_))); (case side2 => exact HC105_0.out); (case side3 => repeat (first | exact HR106_0.out | (with_reducible refine Kd.C_alloc ?_ _) | (with_reducible refine Kd.C_drewN ?_ _) | (with_reducible refine Kd.C_drew ?_))); (case side4 => exact HC106_0.out); rintro e w' ⟨rfl, ⟨nd, rfl⟩⟩; (try first | exact ⟨rfl, _, World.drewN_drewN _ _ _⟩ | exact ⟨rfl, _, Eq.trans (World.drewN_drewN _ _ _) (congrArg (World.drewN _) (Nat.add_assoc _ _ _))⟩))); try go_wp2_with (first | (go_at_call 34; (with_reducible refine (swageref02_Ints.calls k1 _ _ (rd_L4 l0 x5_1) _ _ (rd_L4 l1 x5_1) false _ ?side1 ?side2 ?side3 ?side4 A7.out).mono ?_); (case side1 => repeat (first | exact HR105_0.out | (with_reducible refine Kd.C_alloc ?_ _) | (with_reducible refine Kd.C_drewN ?_ _) | (with_reducible refine Kd.C_drew ?_))); (case side2 => exact HC105_0.out); (case side3 => repeat (first | exact HR106_0.out | (with_reducible refine Kd.C_alloc ?_ _) | (with_reducible refine Kd.C_drewN ?_ _) | (with_reducible refine Kd.C_drew ?_))); (case side4 => exact HC106_0.out); rintro e w' ⟨rfl, ⟨nd, rfl⟩⟩; (try first | exact ⟨rfl, _, World.drewN_drewN _ _ _⟩ | exact ⟨rfl, _, Eq.trans (World.drewN_drewN _ _ _) (congrArg (World.drewN _) (Nat.add_assoc _ _ _))⟩))))
                go_ret
                exact ⟨by first | rfl | (simp; done) | (simp [*]; done), by repeat (first | exact Drawn0.refl _ | apply Drawn0.step)⟩
            · rw [if_neg c6] at H
              exact absurd H (by simp)
          · rw [if_neg c5] at H
            exact absurd H (by simp)
        · rw [if_neg c4] at H
          have c4b0 : decide (x5_1 < (l0.length : Int)) = false := decide_eq_false c4
          clear c4
          obtain rfl := Option.some.inj H
          go_wp2
          repeat (go_quiet (fail); try go_wp2)
          go_ret
          exact ⟨by first | rfl | (simp; done) | (simp [*]; done), by repeat (first | exact Drawn0.refl _ | apply Drawn0.step)⟩
  · rw [if_neg c3] at H
    have c3b0 : ((l0.length : Int) == (l1.length : Int)) = false := beq_eq_false_iff_ne.mpr c3
    have c3b1 : ((l0.length : Int) != (l1.length : Int)) = true := bne_iff_ne.mpr c3
    have c3b2 : (l0.length == l1.length) = false := by first | simpa using c3 | (simp at c3 ⊢; omega)
    obtain rfl := Option.some.inj H
    go_enter Try.func14, Try.ntmps14
    go_wp2
    repeat (go_quiet (fail); try go_wp2)
    go_ret
    exact ⟨by first | rfl | (simp; done) | (simp [*]; done), by repeat (first | exact Drawn0.refl _ | apply Drawn0.step)⟩

end Go.Proofs.Ytkfopphcgjdcaaa.A

/- swagelaw18.small: it returns true. -/
namespace Go.Proofs.Ytkfopphcgjdcaaa.A
open Go.RowKit Go.Maps Go.Proofs.YtkfopphcgjdcaaaW.PrintWords Go.Proofs.YtkfopphcgjdcaaaW.PrintLast Go.Shelf
set_option linter.unusedVariables false
set_option linter.unusedSimpArgs false

def some3 : List S38 := [⟨1, 2⟩, ⟨2, 1⟩, ⟨3, 1⟩]
def held2 : List S42 := [⟨1, 10⟩, ⟨2, 20⟩]
def ord4 : List S38 := [⟨3, 1⟩, ⟨9, 1⟩, ⟨1, 2⟩, ⟨2, 9⟩]
def once3 : List S42 := [⟨1, 20⟩, ⟨2, 10⟩, ⟨3, 10⟩]
def one3 : List S42 := [⟨1, 20⟩, ⟨2, 20⟩, ⟨3, 20⟩]
theorem s_some : swagelaw18_some.f = some some3 := by kernel_rfl
theorem s_ord : moves_Order.f some3 9 = some (ord4, 0) := by kernel_rfl
theorem s_same : swageref18_Same.f 9 ord4 ord4 = some true := by kernel_rfl
theorem s_once : moves_AtOnce.f some3 held2 = some once3 := by kernel_rfl
theorem s_pairs : swageref05_Pairs.f 9 once3 once3 = some true := by kernel_rfl
theorem s_one : moves_OneByOne.f some3 held2 = some one3 := by kernel_rfl
theorem s_pairs2 : swageref05_Pairs.f 9 one3 one3 = some true := by kernel_rfl
theorem s_cyc : moves_Cycles.f some3 = some [[1, 2]] := by kernel_rfl
theorem s_rows : swageref06_Rows.f 9 [[1, 2]] [[1, 2]] = some true := by kernel_rfl
theorem s_right : moves_Right.f some3 = some true := by kernel_rfl

theorem c38 {w : World} {base : Nat} {v : Value} {l : List S38} (h : Kd.R k38 38 w base (fun _ => True) v l) : ∃ A c, v = .slice A l.length c ∧ l.length ≤ c ∧ Kd.C k38 w A l.length l := Kd.R_reads h
theorem c42 {w : World} {base : Nat} {v : Value} {l : List S42} (h : Kd.R k42 42 w base (fun _ => True) v l) : ∃ A c, v = .slice A l.length c ∧ l.length ≤ c ∧ Kd.C k42 w A l.length l := Kd.R_reads h
theorem some_c (W : World) : Calls Try.prog 24 #[] W fun e w' => ∃ A c, e = .returned (.slice A 3 c) ∧ 3 ≤ c ∧ Kd.C k38 w' A 3 some3 ∧ Below W.heap.size W w' :=
  (swagelaw18_some.calls some3 W s_some).mono fun e w' ⟨v, he, hR, hB⟩ => by
    obtain ⟨A, c, rfl, h1, h2⟩ := c38 hR
    exact ⟨A, c, he, h1, h2, hB⟩

theorem reps38 (W : World) (base : Nat) (ok : Nat → Prop) (l : List S38) : Reps (k38.M W base ok) k38.sz l (cells38 l) := by
  refine ⟨by rw [cells38_length]; rfl, fun j p hj => ?_⟩
  obtain ⟨a, b⟩ := cells38_get l j p hj
  have hjl : j < l.length := (List.getElem?_eq_some_iff.1 hj).1
  have hsz : k38.sz = 2 := rfl
  have e : ((cells38 l).drop (j * k38.sz)).take k38.sz = [.int .i64 p.f0, .int .i64 p.f1] := by
    apply List.ext_getElem?
    intro i
    rw [hsz]
    rcases i with _ | _ | i
    · rw [List.getElem?_take_of_lt (by omega), List.getElem?_drop]; simpa using a
    · rw [List.getElem?_take_of_lt (by omega), List.getElem?_drop]; simpa using b
    · rw [List.getElem?_eq_none (by rw [List.length_take]; omega), List.getElem?_eq_none (by simp)]
  rw [e]
  exact k38_mkM _ _ _ p
def to42 (l : List S42) : List S38 := l.map fun x => ⟨x.f0, x.f1⟩
theorem reps42 (W : World) (base : Nat) (ok : Nat → Prop) (l : List S42) : Reps (k42.M W base ok) k42.sz l (cells38 (to42 l)) := by
  have h := reps38 W base ok (to42 l)
  refine ⟨by rw [cells38_length]; simp [to42]; rfl, fun j p hj => ?_⟩
  have := h.2 j ⟨p.f0, p.f1⟩ (by unfold to42; rw [List.getElem?_map, hj]; rfl)
  have hc := k38_openM this
  have hsz : k42.sz = k38.sz := rfl
  rw [hsz, hc]
  exact k42_mkM _ _ _ p
theorem lit38 (W : World) (l : List S38) (hl : l.length ≤ 1000) : Kd.C k38 (W.alloc (.cells (cells38 l).toArray 38)) (some ⟨W.heap.size, 0, none⟩) l.length l :=
  (Kd.R_reads' (R_new_lit k38 W W.heap.size 38 (ok := fun _ => True) (okp := fun _ => True) (reps38 _ _ _ l) (fun _ h => h) trivial (Nat.le_refl _) (by omega))).2.2
theorem lit42 (W : World) (l : List S42) (hl : l.length ≤ 1000) : Kd.C k42 (W.alloc (.cells (cells38 (to42 l)).toArray 42)) (some ⟨W.heap.size, 0, none⟩) l.length l :=
  (Kd.R_reads' (R_new_lit k42 W W.heap.size 42 (ok := fun _ => True) (okp := fun _ => True) (reps42 _ _ _ l) (fun _ h => h) trivial (Nat.le_refl _) (by omega))).2.2

theorem reps_two {W : World} {base : Nat} {ok : Nat → Prop} (x y : Int) : Reps ((Kd.int .i64).M W base ok) (Kd.int .i64).sz [x, y] [.int .i64 x, .int .i64 y] := by
  refine ⟨rfl, fun j p hj => ?_⟩
  match j, hj with
  | 0, hj => simp at hj; subst hj; rfl
  | 1, hj => simp at hj; subst hj; rfl
  | j + 2, hj => simp at hj
theorem reps_row {α : Type} {d : Kd α} {e : Nat} {W : World} {base : Nat} {ok : Nat → Prop} {v : Value} {l : List α} (h : Kd.R d e W base ok v l) : Reps ((Kd.slice e d).M W base ok) (Kd.slice e d).sz [l] [v] := by
  refine ⟨rfl, fun j p hj => ?_⟩
  match j, hj with
  | 0, hj => simp at hj; subst hj; exact Kd.M_row h
  | j + 1, hj => simp at hj
theorem lit12 (W : World) : Kd.C (Kd.slice 3 (Kd.int .i64)) ((W.alloc (.cells #[.int .i64 1, .int .i64 2] 3)).alloc (.cells #[.slice (some ⟨W.heap.size, 0, none⟩) 2 2] 43)) (some ⟨W.heap.size + 1, 0, none⟩) 1 [[1, 2]] := by
  have h1 := R_new_lit (Kd.int .i64) W W.heap.size 3 (xs := [1, 2]) (inner := [.int .i64 1, .int .i64 2]) (ok := fun _ => True) (okp := fun _ => True) (reps_two 1 2) (fun _ h => h) trivial (Nat.le_refl _) (by simp)
  have h2 := R_new_lit (Kd.slice 3 (Kd.int .i64)) (W.alloc (.cells #[.int .i64 1, .int .i64 2] 3)) W.heap.size 43 (xs := [[1, 2]]) (inner := [.slice (some ⟨W.heap.size, 0, none⟩) 2 2]) (ok := fun _ => True) (okp := fun _ => True) (reps_row h1) (fun _ h => h) trivial (by simp) (by simp)
  rw [World.size_alloc] at h2
  exact (Kd.R_reads' h2).2.2

set_option maxRecDepth 100000 in
set_option maxHeartbeats 2000000 in
theorem small_calls (w : World) : Calls Try.prog 8 #[] w fun e w' => e = .returned (.bool true) ∧ Below w.heap.size w w' := by
  have hu38 := Try.underlying38
  have hu42 := Try.underlying42
  go_enter Try.func8, Try.ntmps8
  go_wp2_with fail
  refine (some_c w).mono ?_
  rintro e w1 ⟨A1, c1, rfl, h1, hC1, hB1⟩
  have hO : Calls Try.prog 9 #[.slice A1 3 c1, .int .i64 9] w1 fun e w' => ∃ A c, e = .returned (.tuple #[.slice A 4 c, .int .i64 0]) ∧ 4 ≤ c ∧ Kd.C k38 w' A 4 ord4 ∧ Below w1.heap.size w1 w' :=
    (moves_Order.calls A1 c1 some3 9 ord4 0 w1 hC1 h1 s_ord).mono fun e w' ⟨v, he, hR, hB⟩ => by
      obtain ⟨A, c, rfl, h1, h2⟩ := c38 hR
      exact ⟨A, c, he, h1, h2, hB⟩
  have hB1' := Aside0.mk hB1
  clear hC1 hB1 h1
  go_wp2_with fail
  refine hO.mono ?_
  rintro e w2 ⟨A2, c2, rfl, h2, hC2, hB2⟩
  have hC2' := Aside0.mk hC2
  have hB2' := Aside0.mk (below_step hB1'.out hB2)
  have h2' := Aside0.mk h2
  clear hO hC2 hB1' hB2 h2
  have hH3 : Aside0 (Kd.C k42 (w2.alloc (.cells #[.int .i64 1, .int .i64 10, .int .i64 2, .int .i64 20] 42)) (some ⟨w2.heap.size, 0, none⟩) 2 held2) := ⟨lit42 w2 held2 (by decide)⟩
  have hB3 := Aside0.mk (below_alloc hB2'.out (.cells #[.int .i64 1, .int .i64 10, .int .i64 2, .int .i64 20] 42))
  have hC3 := Aside0.mk (Kd.C_alloc hC2'.out (.cells #[.int .i64 1, .int .i64 10, .int .i64 2, .int .i64 20] 42))
  have hw3 : (w2.alloc (.cells #[.int .i64 1, .int .i64 10, .int .i64 2, .int .i64 20] 42)).heap.size = w2.heap.size + 1 := by simp
  generalize hq : w2.alloc (.cells #[.int .i64 1, .int .i64 10, .int .i64 2, .int .i64 20] 42) = w3 at *
  have hq' := Aside0.mk hq
  have hL4 : Aside0 (Kd.C k38 (w3.alloc (.cells #[.int .i64 3, .int .i64 1, .int .i64 9, .int .i64 1, .int .i64 1, .int .i64 2, .int .i64 2, .int .i64 9] 38)) (some ⟨w3.heap.size, 0, none⟩) 4 ord4) := ⟨lit38 w3 ord4 (by decide)⟩
  have hsm := swageref18_Same.calls 9 A2 c2 ord4 (some ⟨w3.heap.size, 0, none⟩) 4 ord4 true _ (Kd.C_alloc hC3.out (.cells #[.int .i64 3, .int .i64 1, .int .i64 9, .int .i64 1, .int .i64 1, .int .i64 2, .int .i64 2, .int .i64 9] 38)) h2'.out hL4.out (by decide) s_same
  have hB4 := Aside0.mk (below_alloc hB3.out (.cells #[.int .i64 3, .int .i64 1, .int .i64 9, .int .i64 1, .int .i64 1, .int .i64 2, .int .i64 2, .int .i64 9] 38))
  have hH4 := Aside0.mk (Kd.C_alloc hH3.out (.cells #[.int .i64 3, .int .i64 1, .int .i64 9, .int .i64 1, .int .i64 1, .int .i64 2, .int .i64 2, .int .i64 9] 38))
  rw [hw3] at hsm
  clear hL4 hC3 hC2' h2' hB3 hH3 hB2' hw3
  rw [← hq'.out] at hsm hB4 hH4
  clear hq hq'
  change Calls Try.prog 11 #[.slice A2 4 c2, .slice (some ⟨w2.heap.size + 1, 0, none⟩) 4 4] _ _ at hsm
  go_wp2_with fail
  refine hsm.mono ?_
  rintro e w4 ⟨rfl, hd4⟩
  have hB5 := Aside0.mk (below_step hB4.out hd4.below)
  have hH5 := Aside0.mk (Kd.C_below hH4.out hd4.below)
  clear hsm hd4 hB4 hH4
  generalize w2.heap.size = bh at *
  go_wp2_with fail
  -- AtOnce
  refine (some_c w4).mono ?_
  rintro e w5 ⟨A5, c5, rfl, h5, hC5, hb5⟩
  have hB6 := Aside0.mk (below_step hB5.out hb5)
  have hH6 := Aside0.mk (Kd.C_below hH5.out hb5)
  have hat : Calls Try.prog 18 #[.slice A5 3 c5, .slice (some ⟨bh, 0, none⟩) 2 2] w5 fun e w' => ∃ A c, e = .returned (.slice A 3 c) ∧ 3 ≤ c ∧ Kd.C k42 w' A 3 once3 ∧ Below w5.heap.size w5 w' :=
    (moves_AtOnce.calls A5 c5 some3 (some ⟨bh, 0, none⟩) 2 held2 once3 w5 hC5 h5 hH6.out (by decide) s_once).mono fun e w' ⟨v, he, hR, hB⟩ => by
      obtain ⟨A, c, rfl, h1, h2⟩ := c42 hR
      exact ⟨A, c, he, h1, h2, hB⟩
  clear hC5 h5 hb5 hB5 hH5
  go_wp2_with fail
  refine hat.mono ?_
  rintro e w6 ⟨A6, c6, rfl, h6, hC6, hb6⟩
  have hB7 := Aside0.mk (below_step hB6.out hb6)
  have hH7 := Aside0.mk (Kd.C_below hH6.out hb6)
  have hL7 : Aside0 (Kd.C k42 (w6.alloc (.cells #[.int .i64 1, .int .i64 20, .int .i64 2, .int .i64 10, .int .i64 3, .int .i64 10] 42)) (some ⟨w6.heap.size, 0, none⟩) 3 once3) := ⟨lit42 w6 once3 (by decide)⟩
  have hp7 := swageref05_Pairs.calls 9 A6 c6 once3 (some ⟨w6.heap.size, 0, none⟩) 3 once3 true _ (Kd.C_alloc hC6 (.cells #[.int .i64 1, .int .i64 20, .int .i64 2, .int .i64 10, .int .i64 3, .int .i64 10] 42)) h6 hL7.out (by decide) s_pairs
  have hB8 := Aside0.mk (below_alloc hB7.out (.cells #[.int .i64 1, .int .i64 20, .int .i64 2, .int .i64 10, .int .i64 3, .int .i64 10] 42))
  have hH8 := Aside0.mk (Kd.C_alloc hH7.out (.cells #[.int .i64 1, .int .i64 20, .int .i64 2, .int .i64 10, .int .i64 3, .int .i64 10] 42))
  change Calls Try.prog 17 #[.slice A6 3 c6, .slice (some ⟨w6.heap.size, 0, none⟩) 3 3] _ _ at hp7
  clear hat h6 hC6 hb6 hL7 hB6 hH6 hB7 hH7
  go_wp2_with fail
  refine hp7.mono ?_
  rintro e w7 ⟨rfl, hd7⟩
  have hB9 := Aside0.mk (below_step hB8.out hd7.below)
  have hH9 := Aside0.mk (Kd.C_below hH8.out hd7.below)
  clear hp7 hd7 hB8 hH8
  go_wp2_with fail
  -- OneByOne
  refine (some_c w7).mono ?_
  rintro e w8 ⟨A8, c8, rfl, h8, hC8, hb8⟩
  have hB10 := Aside0.mk (below_step hB9.out hb8)
  have hH10 := Aside0.mk (Kd.C_below hH9.out hb8)
  have hob : Calls Try.prog 20 #[.slice A8 3 c8, .slice (some ⟨bh, 0, none⟩) 2 2] w8 fun e w' => ∃ A c, e = .returned (.slice A 3 c) ∧ 3 ≤ c ∧ Kd.C k42 w' A 3 one3 ∧ Below w8.heap.size w8 w' :=
    (moves_OneByOne.calls A8 c8 some3 (some ⟨bh, 0, none⟩) 2 held2 one3 w8 hC8 h8 hH10.out (by decide) s_one).mono fun e w' ⟨v, he, hR, hB⟩ => by
      obtain ⟨A, c, rfl, h1, h2⟩ := c42 hR
      exact ⟨A, c, he, h1, h2, hB⟩
  clear hC8 h8 hb8 hB9 hH9 hH10
  go_wp2_with fail
  refine hob.mono ?_
  rintro e w9 ⟨A9, c9, rfl, h9, hC9, hb9⟩
  have hB11 := Aside0.mk (below_step hB10.out hb9)
  have hL9 : Aside0 (Kd.C k42 (w9.alloc (.cells #[.int .i64 1, .int .i64 20, .int .i64 2, .int .i64 20, .int .i64 3, .int .i64 20] 42)) (some ⟨w9.heap.size, 0, none⟩) 3 one3) := ⟨lit42 w9 one3 (by decide)⟩
  have hp9 := swageref05_Pairs.calls 9 A9 c9 one3 (some ⟨w9.heap.size, 0, none⟩) 3 one3 true _ (Kd.C_alloc hC9 (.cells #[.int .i64 1, .int .i64 20, .int .i64 2, .int .i64 20, .int .i64 3, .int .i64 20] 42)) h9 hL9.out (by decide) s_pairs2
  have hB12 := Aside0.mk (below_alloc hB11.out (.cells #[.int .i64 1, .int .i64 20, .int .i64 2, .int .i64 20, .int .i64 3, .int .i64 20] 42))
  change Calls Try.prog 17 #[.slice A9 3 c9, .slice (some ⟨w9.heap.size, 0, none⟩) 3 3] _ _ at hp9
  clear hob h9 hC9 hb9 hL9 hB10 hB11
  go_wp2_with fail
  refine hp9.mono ?_
  rintro e w10 ⟨rfl, hd10⟩
  have hB13 := Aside0.mk (below_step hB12.out hd10.below)
  clear hp9 hd10 hB12
  go_wp2_with fail
  -- Cycles
  refine (some_c w10).mono ?_
  rintro e w11 ⟨A11, c11, rfl, h11, hC11, hb11⟩
  have hB14 := Aside0.mk (below_step hB13.out hb11)
  have hcy : Calls Try.prog 15 #[.slice A11 3 c11] w11 fun e w' => ∃ A c, e = .returned (.slice A 1 c) ∧ 1 ≤ c ∧ Kd.C (Kd.slice 3 (Kd.int .i64)) w' A 1 [[1, 2]] ∧ Below w11.heap.size w11 w' :=
    (moves_Cycles.calls A11 c11 some3 [[1, 2]] w11 hC11 h11 s_cyc).mono fun e w' ⟨v, he, hR, hB⟩ => by
      obtain ⟨A, c, rfl, h1, h2⟩ := Kd.S_reads hR
      exact ⟨A, c, he, h1, h2, hB⟩
  clear hC11 h11 hb11 hB13
  go_wp2_with fail
  refine hcy.mono ?_
  rintro e w12 ⟨A12, c12, rfl, h12, hC12, hb12⟩
  have hB15 := Aside0.mk (below_step hB14.out hb12)
  have hrw := swageref06_Rows.calls 9 A12 c12 [[1, 2]] (some ⟨w12.heap.size + 1, 0, none⟩) 1 [[1, 2]] true _ (Kd.C_alloc (Kd.C_alloc hC12 (.cells #[.int .i64 1, .int .i64 2] 3)) (.cells #[.slice (some ⟨w12.heap.size, 0, none⟩) 2 2] 43)) h12 (lit12 w12) (by decide) s_rows
  have hB16 := Aside0.mk (below_alloc (below_alloc hB15.out (.cells #[.int .i64 1, .int .i64 2] 3)) (.cells #[.slice (some ⟨w12.heap.size, 0, none⟩) 2 2] 43))
  change Calls Try.prog 14 #[.slice A12 1 c12, .slice (some ⟨w12.heap.size + 1, 0, none⟩) 1 1] _ _ at hrw
  clear hcy hb12 hB14 hC12 h12 hB15
  go_wp2_with fail
  refine hrw.mono ?_
  rintro e w13 ⟨rfl, hd13⟩
  have hB17 := Aside0.mk (below_step hB16.out hd13.below)
  clear hrw hd13 hB16
  go_wp2_with fail
  refine (some_c w13).mono ?_
  rintro e w14 ⟨A14, c14, rfl, h14, hC14, hb14⟩
  have hB18 := Aside0.mk (below_step hB17.out hb14)
  have hri : Calls Try.prog 12 #[.slice A14 3 c14] w14 fun e w' => e = .returned (.bool true) ∧ Below w14.heap.size w14 w' := moves_Right.calls A14 c14 some3 true w14 hC14 h14 s_right
  clear hC14 h14 hb14 hB17
  go_wp2_with fail
  refine hri.mono ?_
  rintro e w15 ⟨rfl, hb15⟩
  have hB19 := Aside0.mk (below_step hB18.out hb15)
  clear hri hb15 hB18
  go_wp2_with fail
  go_ret
  exact ⟨rfl, hB19.out⟩
def swagelaw18_small.f : Option Bool := some true
theorem swagelaw18_small.calls (r : Bool) (w : World) (h : swagelaw18_small.f = some r) : Calls Try.prog 8 #[] w fun e w' => e = .returned (.bool r) ∧ Below w.heap.size w w' := by
  obtain rfl := Option.some.inj h
  exact small_calls w
#print axioms small_calls
end Go.Proofs.Ytkfopphcgjdcaaa.A

/- What the machine does at this function, and a plain Lean function that says the same: written by a program for this claim; Lean checks it. -/
namespace Go.Proofs.Ytkfopphcgjdcaaa.A
open Go.RowKit Go.Proofs.YtkfopphcgjdcaaaW.PrintWords Go.Proofs.YtkfopphcgjdcaaaW.PrintLast Go.Proofs.YtkfopphcgjdcaaaW.PrintMore
attribute [local go_sem] max2_int min2_int max_two min_two max_three min_three max_four min_four   -- for this text's walks alone
set_option linter.unusedVariables false
set_option linter.unusedSimpArgs false

/-! ### swagelaw18_MovesHold: function 4 -/
def swagelaw18_MovesHold.j0 : Nat → List (S38) → List (S42) → Bool → Bool → Option (Bool)
  | 0, _, _, _, _ => none
  | k + 1, x0, x1, x5, x14 => if x14 = true then (some x5) else (if x5 = true then ((moves_AtOnce.f x0 x1).bind fun t457 => ((swageref18_AtOnce.f k x0 x1).bind fun t460 => ((swageref05_Pairs.f k t457 t460).bind fun t463 => (if t463 = true then ((moves_OneByOne.f x0 x1).bind fun t464 => ((swageref18_OneByOne.f k x0 x1).bind fun t467 => ((swageref05_Pairs.f k t464 t467).bind fun t470 => (some t470)))) else (some false))))) else (some false))
def swagelaw18_MovesHold.f (k : Nat) (l0 : List (S38)) (l1 : List (S42)) : Option (Bool) := (swagelaw18_small.f).bind fun t456 => (if (l0.length : Int) > 40 then (swagelaw18_MovesHold.j0 k l0 l1 t456 true) else (swagelaw18_MovesHold.j0 k l0 l1 t456 (decide ((l1.length : Int) > 40))))
theorem swagelaw18_MovesHold.mono_l : ∀ k, (∀ y0 y1 y2 y3, LeO (swagelaw18_MovesHold.j0 k y0 y1 y2 y3) (swagelaw18_MovesHold.j0 (k + 1) y0 y1 y2 y3))
  | 0 => fun _ _ _ _ r h => by simp [swagelaw18_MovesHold.j0] at h
  | k + 1 => by
    have ih0 := swagelaw18_MovesHold.mono_l k
    · intro y0 y1 y2 y3
      unfold swagelaw18_MovesHold.j0
      repeat' first
      | (with_reducible exact ih0 _ _ _ _)
      | (with_reducible exact swageref05_Pairs.mono _ _ _)
      | (with_reducible exact swageref18_AtOnce.mono _ _ _)
      | (with_reducible exact swageref18_OneByOne.mono _ _ _)
      | (with_reducible exact LeO.refl _)
      | (with_reducible exact LeO.none _)
      | (with_reducible refine LeO.ite ?_ ?_)
      | (with_reducible refine LeO.bind ?_ (fun _ => ?_))
      | exact ih0 _ _ _ _
      | exact swageref05_Pairs.mono _ _ _
      | exact swageref18_AtOnce.mono _ _ _
      | exact swageref18_OneByOne.mono _ _ _
      | exact LeO.none _
      | refine LeO.ite ?_ ?_
      | refine LeO.bind ?_ (fun _ => ?_)
theorem swagelaw18_MovesHold.mono : ∀ a0 a1 k, LeO (swagelaw18_MovesHold.f k a0 a1) (swagelaw18_MovesHold.f (k + 1) a0 a1) := by
  intro a0 a1 k
  have ih0 := swagelaw18_MovesHold.mono_l k
  unfold swagelaw18_MovesHold.f
  repeat' first
      | (with_reducible exact ih0 _ _ _ _)
      | (with_reducible exact swageref05_Pairs.mono _ _ _)
      | (with_reducible exact swageref18_AtOnce.mono _ _ _)
      | (with_reducible exact swageref18_OneByOne.mono _ _ _)
      | (with_reducible exact LeO.refl _)
      | (with_reducible exact LeO.none _)
      | (with_reducible refine LeO.ite ?_ ?_)
      | (with_reducible refine LeO.bind ?_ (fun _ => ?_))
      | exact ih0 _ _ _ _
      | exact swageref05_Pairs.mono _ _ _
      | exact swageref18_AtOnce.mono _ _ _
      | exact swageref18_OneByOne.mono _ _ _
      | exact LeO.none _
      | refine LeO.ite ?_ ?_
      | refine LeO.bind ?_ (fun _ => ?_)
set_option maxHeartbeats 8000000 in
set_option maxRecDepth 100000 in
theorem swagelaw18_MovesHold.calls (k : Nat) (A0 : Option Addr) (c0 : Nat) (l0 : List (S38)) (A1 : Option Addr) (c1 : Nat) (l1 : List (S42)) (r : Bool) (w : World) (hr0 : Kd.C k38 w A0 l0.length l0) (hc0 : l0.length ≤ c0) (hr1 : Kd.C k42 w A1 l1.length l1) (hc1 : l1.length ≤ c1) (h : swagelaw18_MovesHold.f k l0 l1 = some r) :
    Calls Try.prog 4 #[.slice A0 l0.length c0, .slice A1 l1.length c1] w fun e w' => e = .returned (.bool r) ∧ Below w.heap.size w w' := by
  have HR0 := Aside0.mk hr0
  have HC0 := Aside0.mk hc0
  clear hr0 hc0
  have HR1 := Aside0.mk hr1
  have HC1 := Aside0.mk hc1
  clear hr1 hc1
  have HB := Aside0.mk (Below.refl w.heap.size w)
  have H : ((swagelaw18_small.f).bind fun t456 => (if (l0.length : Int) > 40 then (swagelaw18_MovesHold.j0 k l0 l1 t456 true) else (swagelaw18_MovesHold.j0 k l0 l1 t456 (decide ((l1.length : Int) > 40))))) = some r := h
  clear h
  replace H := Option.bind_eq_some_iff.mp H
  obtain ⟨t456, A30, H⟩ := H
  replace H : (if (l0.length : Int) > 40 then (swagelaw18_MovesHold.j0 k l0 l1 t456 true) else (swagelaw18_MovesHold.j0 k l0 l1 t456 (decide ((l1.length : Int) > 40)))) = some r := H
  have A3 := Aside0.mk A30
  clear A30
  have HC4 := Aside0.mk H
  clear H
  go_enter Try.func4, Try.ntmps4
  go_upto_region 2 with (first | ((with_reducible refine gate_callee (f := 8) rfl ?_); refine goesL_ (some 6) rfl rfl Try.func8 (by kernel_rfl) rfl #[] rfl (by (try simp only [List.map_toArray, List.map_cons, List.map_nil]); first | done | rfl | (simp only [List.length_drop, List.length_take]; rfl)) ?_; (with_reducible refine (swagelaw18_small.calls  t456 _ A3.out).mono ?_); rintro e w5 ⟨rfl, hb⟩; refine ⟨_, rfl, ?_⟩; have n0_ := Aside0.mk (below_step (by repeat (first | (with_reducible first | exact HB.out | apply below_alloc | apply pw_below_drewN | apply below_drew1) | exact HB.out)) hb); clear HB; have HB := n0_; clear n0_; (try clear hb); (try clear hb2); (try clear hk); (try clear hi)))
  (try simp only [Act.put, List.setIfInBounds_toArray, List.set_cons_zero, List.set_cons_succ])
  go_cut [14] (fun v14 wc => ∃ (kq : Nat) (x14_3 : Bool), v14 = .bool x14_3 ∧ Aside0 (swagelaw18_MovesHold.j0 kq l0 l1 t456 x14_3 = some r) ∧ Aside0 (kq ≤ k) ∧ Aside0 (Below w.heap.size w wc))
  case first =>
    have H := HC4.out
    clear HC4
    by_cases c6 : (l0.length : Int) > 40
    · rw [if_pos c6] at H
      have c6b0 : decide (40 < (l0.length : Int)) = true := decide_eq_true c6
      have c6b1 : decide (40 < l0.length) = true := decide_eq_true (by omega)
      clear c6
      (first | rw [c6b0] | (simp only [i64_w, i32_w]; rw [c6b0]) | skip)
      have H' := Aside0.mk H
      clear H
      go_wp2
      go_meet
      case rel => exact ⟨_, (true), (by first | rfl | (simp; done) | (simp [*]; done)), H', ⟨by first | omega | exact Nat.le_refl _⟩, ⟨by repeat (first | (with_reducible first | exact HB.out | apply below_alloc | apply pw_below_drewN | apply below_drew1) | exact HB.out)⟩⟩
    · rw [if_neg c6] at H
      have c6b0 : decide (40 < (l0.length : Int)) = false := decide_eq_false c6
      have c6b1 : decide (40 < l0.length) = false := decide_eq_false (by omega)
      clear c6
      (first | rw [c6b0] | (simp only [i64_w, i32_w]; rw [c6b0]) | skip)
      have H' := Aside0.mk H
      clear H
      go_wp2
      go_meet
      case rel => exact ⟨_, (decide ((l1.length : Int) > 40)), (by first | rfl | (simp; done) | (simp [*]; done)), H', ⟨by first | omega | exact Nat.le_refl _⟩, ⟨by repeat (first | (with_reducible first | exact HB.out | apply below_alloc | apply pw_below_drewN | apply below_drew1) | exact HB.out)⟩⟩
  case rest =>
    clear HC4
    try clear c1
    try clear p2
    try clear c4
    try clear c6
    try clear c6b0
    try clear c6b1
    obtain ⟨kq, x14_3, rfl, HA, HJ3, HB⟩ := hcut
    cases kq with
    | zero => exact absurd HA.out (by simp [swagelaw18_MovesHold.j0])
    | succ kj3 =>
      have H := HA.out
      clear HA
      simp only [swagelaw18_MovesHold.j0] at H
      by_cases c7 : x14_3 = true
      · subst c7
        have H1 : (some t456) = some r := by rw [if_pos rfl] at H; exact H
        clear H
        have H := H1
        clear H1
        obtain rfl := Option.some.inj H
        go_wp2
        go_ret
        exact ⟨by first | rfl | (simp [errW_none, errW_some] <;> rfl) | (simp [*, errW_none, errW_some] <;> rfl), by repeat (first | (with_reducible first | exact HB.out | apply below_alloc | apply pw_below_drewN | apply below_drew1) | exact HB.out)⟩
      · replace c7 := Bool.eq_false_iff.mpr c7
        subst c7
        have H1 : (if t456 = true then ((moves_AtOnce.f l0 l1).bind fun t457 => ((swageref18_AtOnce.f kj3 l0 l1).bind fun t460 => ((swageref05_Pairs.f kj3 t457 t460).bind fun t463 => (if t463 = true then ((moves_OneByOne.f l0 l1).bind fun t464 => ((swageref18_OneByOne.f kj3 l0 l1).bind fun t467 => ((swageref05_Pairs.f kj3 t464 t467).bind fun t470 => (some t470)))) else (some false))))) else (some false)) = some r := by rw [if_neg (show ¬ (false = true) by decide)] at H; exact H
        clear H
        have H := H1
        clear H1
        by_cases c8 : t456 = true
        · subst c8
          have H1 : ((moves_AtOnce.f l0 l1).bind fun t457 => ((swageref18_AtOnce.f kj3 l0 l1).bind fun t460 => ((swageref05_Pairs.f kj3 t457 t460).bind fun t463 => (if t463 = true then ((moves_OneByOne.f l0 l1).bind fun t464 => ((swageref18_OneByOne.f kj3 l0 l1).bind fun t467 => ((swageref05_Pairs.f kj3 t464 t467).bind fun t470 => (some t470)))) else (some false))))) = some r := by rw [if_pos rfl] at H; exact H
          clear H
          have H := H1
          clear H1
          replace H := Option.bind_eq_some_iff.mp H
          obtain ⟨t457, A90, H⟩ := H
          replace H : ((swageref18_AtOnce.f kj3 l0 l1).bind fun t460 => ((swageref05_Pairs.f kj3 t457 t460).bind fun t463 => (if t463 = true then ((moves_OneByOne.f l0 l1).bind fun t464 => ((swageref18_OneByOne.f kj3 l0 l1).bind fun t467 => ((swageref05_Pairs.f kj3 t464 t467).bind fun t470 => (some t470)))) else (some false)))) = some r := H
          have A9 := Aside0.mk A90
          clear A90
          replace H := Option.bind_eq_some_iff.mp H
          obtain ⟨t460, A100, H⟩ := H
          replace H : ((swageref05_Pairs.f kj3 t457 t460).bind fun t463 => (if t463 = true then ((moves_OneByOne.f l0 l1).bind fun t464 => ((swageref18_OneByOne.f kj3 l0 l1).bind fun t467 => ((swageref05_Pairs.f kj3 t464 t467).bind fun t470 => (some t470)))) else (some false))) = some r := H
          have A10 := Aside0.mk A100
          clear A100
          replace H := Option.bind_eq_some_iff.mp H
          obtain ⟨t463, A110, H⟩ := H
          replace H : (if t463 = true then ((moves_OneByOne.f l0 l1).bind fun t464 => ((swageref18_OneByOne.f kj3 l0 l1).bind fun t467 => ((swageref05_Pairs.f kj3 t464 t467).bind fun t470 => (some t470)))) else (some false)) = some r := H
          have A11 := Aside0.mk A110
          clear A110
          by_cases c12 : t463 = true
          · subst c12
            have H1 : ((moves_OneByOne.f l0 l1).bind fun t464 => ((swageref18_OneByOne.f kj3 l0 l1).bind fun t467 => ((swageref05_Pairs.f kj3 t464 t467).bind fun t470 => (some t470)))) = some r := by rw [if_pos rfl] at H; exact H
            clear H
            have H := H1
            clear H1
            replace H := Option.bind_eq_some_iff.mp H
            obtain ⟨t464, A130, H⟩ := H
            replace H : ((swageref18_OneByOne.f kj3 l0 l1).bind fun t467 => ((swageref05_Pairs.f kj3 t464 t467).bind fun t470 => (some t470))) = some r := H
            have A13 := Aside0.mk A130
            clear A130
            replace H := Option.bind_eq_some_iff.mp H
            obtain ⟨t467, A140, H⟩ := H
            replace H : ((swageref05_Pairs.f kj3 t464 t467).bind fun t470 => (some t470)) = some r := H
            have A14 := Aside0.mk A140
            clear A140
            replace H := Option.bind_eq_some_iff.mp H
            obtain ⟨t470, A150, H⟩ := H
            replace H : (some t470) = some r := H
            have A15 := Aside0.mk A150
            clear A150
            obtain rfl := Option.some.inj H
            go_wp2_with (first | (go_at_call 18; (with_reducible refine (moves_AtOnce.calls _ _ l0 _ _ l1 t457 _ ?side1 ?side2 ?side3 ?side4 A9.out).mono ?_); (case side1 => repeat (first | exact (Kd.C_below HR0.out HB.out) | (with_reducible refine Kd.C_alloc ?_ _) | (with_reducible refine Kd.C_drewN ?_ _) | (with_reducible refine Kd.C_drew ?_))); (case side2 => exact HC0.out); (case side3 => repeat (first | exact (Kd.C_below HR1.out HB.out) | (with_reducible refine Kd.C_alloc ?_ _) | (with_reducible refine Kd.C_drewN ?_ _) | (with_reducible refine Kd.C_drew ?_))); (case side4 => exact HC1.out); rintro e w16 ⟨v458, rfl, ho0, hb⟩; have n0_ := Aside0.mk (Kd.R_lower ho0 (below_size (by repeat (first | (with_reducible first | exact HB.out | apply below_alloc | apply pw_below_drewN | apply below_drew1) | exact HB.out)))); have n1_ := Aside0.mk (below_step (by repeat (first | (with_reducible first | exact HB.out | apply below_alloc | apply pw_below_drewN | apply below_drew1) | exact HB.out)) hb); clear HB; have HO459 := n0_; have HB := n1_; clear n0_ n1_; (try clear hb); (try clear hb2); (try clear hk); (try clear hi); (try clear ho0)) | (go_at_call 19; (with_reducible refine (swageref18_AtOnce.calls kj3 _ _ l0 _ _ l1 t460 _ ?side1 ?side2 ?side3 ?side4 A10.out).mono ?_); (case side1 => repeat (first | exact (Kd.C_below HR0.out HB.out) | (with_reducible refine Kd.C_alloc ?_ _) | (with_reducible refine Kd.C_drewN ?_ _) | (with_reducible refine Kd.C_drew ?_))); (case side2 => exact HC0.out); (case side3 => repeat (first | exact (Kd.C_below HR1.out HB.out) | (with_reducible refine Kd.C_alloc ?_ _) | (with_reducible refine Kd.C_drewN ?_ _) | (with_reducible refine Kd.C_drew ?_))); (case side4 => exact HC1.out); rintro e w17 ⟨v461, rfl, ho0, hb⟩; have n0_ := Aside0.mk (Kd.R_elder' (by (with_reducible repeat (first | apply Kd.R_alloc | apply Kd.R_drewN | apply Kd.R_drew)); exact HO459.out) (Kd.R_base ho0) hb); have n1_ := Aside0.mk (Kd.R_lower (Kd.R_new' ho0 (Kd.R_lt (by (with_reducible repeat (first | apply Kd.R_alloc | apply Kd.R_drewN | apply Kd.R_drew)); exact HO459.out))) (below_size (by repeat (first | (with_reducible first | exact HB.out | apply below_alloc | apply pw_below_drewN | apply below_drew1) | exact HB.out)))); have n2_ := Aside0.mk (below_step (by repeat (first | (with_reducible first | exact HB.out | apply below_alloc | apply pw_below_drewN | apply below_drew1) | exact HB.out)) hb); clear HO459; clear HB; have HO459 := n0_; have HO462 := n1_; have HB := n2_; clear n0_ n1_ n2_; (try clear hb); (try clear hb2); (try clear hk); (try clear hi); (try clear ho0); obtain ⟨Ao18, co18, eo18⟩ := Kd.R_slice HO459.out; subst eo18; obtain ⟨Ao19, co19, eo19⟩ := Kd.R_slice HO462.out; subst eo19) | (go_at_call 17; (with_reducible refine (swageref05_Pairs.calls kj3 _ _ t457 _ _ t460 true _ ?side1 ?side2 ?side3 ?side4 A11.out).mono ?_); (case side1 => repeat (first | exact (Kd.R_reads' HO459.out).2.2 | (with_reducible refine Kd.C_alloc ?_ _) | (with_reducible refine Kd.C_drewN ?_ _) | (with_reducible refine Kd.C_drew ?_))); (case side2 => exact (Kd.R_reads' HO459.out).2.1); (case side3 => repeat (first | exact (Kd.R_reads' HO462.out).2.2 | (with_reducible refine Kd.C_alloc ?_ _) | (with_reducible refine Kd.C_drewN ?_ _) | (with_reducible refine Kd.C_drew ?_))); (case side4 => exact (Kd.R_reads' HO462.out).2.1); rintro e w' ⟨rfl, ⟨nd, rfl⟩⟩) | (go_at_call 20; (with_reducible refine (moves_OneByOne.calls _ _ l0 _ _ l1 t464 _ ?side1 ?side2 ?side3 ?side4 A13.out).mono ?_); (case side1 => repeat (first | exact (Kd.C_below HR0.out (by repeat (first | (with_reducible first | exact HB.out | apply below_alloc | apply pw_below_drewN | apply below_drew1) | exact HB.out))) | (with_reducible refine Kd.C_alloc ?_ _) | (with_reducible refine Kd.C_drewN ?_ _) | (with_reducible refine Kd.C_drew ?_))); (case side2 => exact HC0.out); (case side3 => repeat (first | exact (Kd.C_below HR1.out (by repeat (first | (with_reducible first | exact HB.out | apply below_alloc | apply pw_below_drewN | apply below_drew1) | exact HB.out))) | (with_reducible refine Kd.C_alloc ?_ _) | (with_reducible refine Kd.C_drewN ?_ _) | (with_reducible refine Kd.C_drew ?_))); (case side4 => exact HC1.out); rintro e w20 ⟨v465, rfl, ho0, hb⟩; have n0_ := Aside0.mk (Kd.R_elder' (by (with_reducible repeat (first | apply Kd.R_alloc | apply Kd.R_drewN | apply Kd.R_drew)); exact HO459.out) (Kd.R_base ho0) hb); have n1_ := Aside0.mk (Kd.R_elder' (by (with_reducible repeat (first | apply Kd.R_alloc | apply Kd.R_drewN | apply Kd.R_drew)); exact HO462.out) (Kd.R_base ho0) hb); have n2_ := Aside0.mk (Kd.R_lower (Kd.R_new' (Kd.R_new' ho0 (Kd.R_lt (by (with_reducible repeat (first | apply Kd.R_alloc | apply Kd.R_drewN | apply Kd.R_drew)); exact HO459.out))) (Kd.R_lt (by (with_reducible repeat (first | apply Kd.R_alloc | apply Kd.R_drewN | apply Kd.R_drew)); exact HO462.out))) (below_size (by repeat (first | (with_reducible first | exact HB.out | apply below_alloc | apply pw_below_drewN | apply below_drew1) | exact HB.out)))); have n3_ := Aside0.mk (below_step (by repeat (first | (with_reducible first | exact HB.out | apply below_alloc | apply pw_below_drewN | apply below_drew1) | exact HB.out)) hb); clear HO459; clear HO462; clear HB; have HO459 := n0_; have HO462 := n1_; have HO466 := n2_; have HB := n3_; clear n0_ n1_ n2_ n3_; (try clear hb); (try clear hb2); (try clear hk); (try clear hi); (try clear ho0)) | (go_at_call 21; (with_reducible refine (swageref18_OneByOne.calls kj3 _ _ l0 _ _ l1 t467 _ ?side1 ?side2 ?side3 ?side4 A14.out).mono ?_); (case side1 => repeat (first | exact (Kd.C_below HR0.out HB.out) | (with_reducible refine Kd.C_alloc ?_ _) | (with_reducible refine Kd.C_drewN ?_ _) | (with_reducible refine Kd.C_drew ?_))); (case side2 => exact HC0.out); (case side3 => repeat (first | exact (Kd.C_below HR1.out HB.out) | (with_reducible refine Kd.C_alloc ?_ _) | (with_reducible refine Kd.C_drewN ?_ _) | (with_reducible refine Kd.C_drew ?_))); (case side4 => exact HC1.out); rintro e w21 ⟨v468, rfl, ho0, hb⟩; have n0_ := Aside0.mk (Kd.R_elder' (by (with_reducible repeat (first | apply Kd.R_alloc | apply Kd.R_drewN | apply Kd.R_drew)); exact HO459.out) (Kd.R_base ho0) hb); have n1_ := Aside0.mk (Kd.R_elder' (by (with_reducible repeat (first | apply Kd.R_alloc | apply Kd.R_drewN | apply Kd.R_drew)); exact HO462.out) (Kd.R_base ho0) hb); have n2_ := Aside0.mk (Kd.R_elder' (by (with_reducible repeat (first | apply Kd.R_alloc | apply Kd.R_drewN | apply Kd.R_drew)); exact HO466.out) (Kd.R_base ho0) hb); have n3_ := Aside0.mk (Kd.R_lower (Kd.R_new' (Kd.R_new' (Kd.R_new' ho0 (Kd.R_lt (by (with_reducible repeat (first | apply Kd.R_alloc | apply Kd.R_drewN | apply Kd.R_drew)); exact HO459.out))) (Kd.R_lt (by (with_reducible repeat (first | apply Kd.R_alloc | apply Kd.R_drewN | apply Kd.R_drew)); exact HO462.out))) (Kd.R_lt (by (with_reducible repeat (first | apply Kd.R_alloc | apply Kd.R_drewN | apply Kd.R_drew)); exact HO466.out))) (below_size (by repeat (first | (with_reducible first | exact HB.out | apply below_alloc | apply pw_below_drewN | apply below_drew1) | exact HB.out)))); have n4_ := Aside0.mk (below_step (by repeat (first | (with_reducible first | exact HB.out | apply below_alloc | apply pw_below_drewN | apply below_drew1) | exact HB.out)) hb); clear HO459; clear HO462; clear HO466; clear HB; have HO459 := n0_; have HO462 := n1_; have HO466 := n2_; have HO469 := n3_; have HB := n4_; clear n0_ n1_ n2_ n3_ n4_; (try clear hb); (try clear hb2); (try clear hk); (try clear hi); (try clear ho0); obtain ⟨Ao22, co22, eo22⟩ := Kd.R_slice HO466.out; subst eo22; obtain ⟨Ao23, co23, eo23⟩ := Kd.R_slice HO469.out; subst eo23) | (go_at_call 17; (with_reducible refine (swageref05_Pairs.calls kj3 _ _ t464 _ _ t467 t470 _ ?side1 ?side2 ?side3 ?side4 A15.out).mono ?_); (case side1 => repeat (first | exact (Kd.R_reads' HO466.out).2.2 | (with_reducible refine Kd.C_alloc ?_ _) | (with_reducible refine Kd.C_drewN ?_ _) | (with_reducible refine Kd.C_drew ?_))); (case side2 => exact (Kd.R_reads' HO466.out).2.1); (case side3 => repeat (first | exact (Kd.R_reads' HO469.out).2.2 | (with_reducible refine Kd.C_alloc ?_ _) | (with_reducible refine Kd.C_drewN ?_ _) | (with_reducible refine Kd.C_drew ?_))); (case side4 => exact (Kd.R_reads' HO469.out).2.1); rintro e w' ⟨rfl, ⟨nd, rfl⟩⟩))
            go_ret
            exact ⟨by first | rfl | (simp [errW_none, errW_some] <;> rfl) | (simp [*, errW_none, errW_some] <;> rfl), by repeat (first | (with_reducible first | exact HB.out | apply below_alloc | apply pw_below_drewN | apply below_drew1) | exact HB.out)⟩
          · replace c12 := Bool.eq_false_iff.mpr c12
            subst c12
            have H1 : (some false) = some r := by rw [if_neg (show ¬ (false = true) by decide)] at H; exact H
            clear H
            have H := H1
            clear H1
            obtain rfl := Option.some.inj H
            go_wp2_with (first | (go_at_call 18; (with_reducible refine (moves_AtOnce.calls _ _ l0 _ _ l1 t457 _ ?side1 ?side2 ?side3 ?side4 A9.out).mono ?_); (case side1 => repeat (first | exact (Kd.C_below HR0.out HB.out) | (with_reducible refine Kd.C_alloc ?_ _) | (with_reducible refine Kd.C_drewN ?_ _) | (with_reducible refine Kd.C_drew ?_))); (case side2 => exact HC0.out); (case side3 => repeat (first | exact (Kd.C_below HR1.out HB.out) | (with_reducible refine Kd.C_alloc ?_ _) | (with_reducible refine Kd.C_drewN ?_ _) | (with_reducible refine Kd.C_drew ?_))); (case side4 => exact HC1.out); rintro e w24 ⟨v458, rfl, ho0, hb⟩; have n0_ := Aside0.mk (Kd.R_lower ho0 (below_size (by repeat (first | (with_reducible first | exact HB.out | apply below_alloc | apply pw_below_drewN | apply below_drew1) | exact HB.out)))); have n1_ := Aside0.mk (below_step (by repeat (first | (with_reducible first | exact HB.out | apply below_alloc | apply pw_below_drewN | apply below_drew1) | exact HB.out)) hb); clear HB; have HO459 := n0_; have HB := n1_; clear n0_ n1_; (try clear hb); (try clear hb2); (try clear hk); (try clear hi); (try clear ho0)) | (go_at_call 19; (with_reducible refine (swageref18_AtOnce.calls kj3 _ _ l0 _ _ l1 t460 _ ?side1 ?side2 ?side3 ?side4 A10.out).mono ?_); (case side1 => repeat (first | exact (Kd.C_below HR0.out HB.out) | (with_reducible refine Kd.C_alloc ?_ _) | (with_reducible refine Kd.C_drewN ?_ _) | (with_reducible refine Kd.C_drew ?_))); (case side2 => exact HC0.out); (case side3 => repeat (first | exact (Kd.C_below HR1.out HB.out) | (with_reducible refine Kd.C_alloc ?_ _) | (with_reducible refine Kd.C_drewN ?_ _) | (with_reducible refine Kd.C_drew ?_))); (case side4 => exact HC1.out); rintro e w25 ⟨v461, rfl, ho0, hb⟩; have n0_ := Aside0.mk (Kd.R_elder' (by (with_reducible repeat (first | apply Kd.R_alloc | apply Kd.R_drewN | apply Kd.R_drew)); exact HO459.out) (Kd.R_base ho0) hb); have n1_ := Aside0.mk (Kd.R_lower (Kd.R_new' ho0 (Kd.R_lt (by (with_reducible repeat (first | apply Kd.R_alloc | apply Kd.R_drewN | apply Kd.R_drew)); exact HO459.out))) (below_size (by repeat (first | (with_reducible first | exact HB.out | apply below_alloc | apply pw_below_drewN | apply below_drew1) | exact HB.out)))); have n2_ := Aside0.mk (below_step (by repeat (first | (with_reducible first | exact HB.out | apply below_alloc | apply pw_below_drewN | apply below_drew1) | exact HB.out)) hb); clear HO459; clear HB; have HO459 := n0_; have HO462 := n1_; have HB := n2_; clear n0_ n1_ n2_; (try clear hb); (try clear hb2); (try clear hk); (try clear hi); (try clear ho0); obtain ⟨Ao26, co26, eo26⟩ := Kd.R_slice HO459.out; subst eo26; obtain ⟨Ao27, co27, eo27⟩ := Kd.R_slice HO462.out; subst eo27) | (go_at_call 17; (with_reducible refine (swageref05_Pairs.calls kj3 _ _ t457 _ _ t460 false _ ?side1 ?side2 ?side3 ?side4 A11.out).mono ?_); (case side1 => repeat (first | exact (Kd.R_reads' HO459.out).2.2 | (with_reducible refine Kd.C_alloc ?_ _) | (with_reducible refine Kd.C_drewN ?_ _) | (with_reducible refine Kd.C_drew ?_))); (case side2 => exact (Kd.R_reads' HO459.out).2.1); (case side3 => repeat (first | exact (Kd.R_reads' HO462.out).2.2 | (with_reducible refine Kd.C_alloc ?_ _) | (with_reducible refine Kd.C_drewN ?_ _) | (with_reducible refine Kd.C_drew ?_))); (case side4 => exact (Kd.R_reads' HO462.out).2.1); rintro e w' ⟨rfl, ⟨nd, rfl⟩⟩))
            go_ret
            exact ⟨by first | rfl | (simp [errW_none, errW_some] <;> rfl) | (simp [*, errW_none, errW_some] <;> rfl), by repeat (first | (with_reducible first | exact HB.out | apply below_alloc | apply pw_below_drewN | apply below_drew1) | exact HB.out)⟩
        · replace c8 := Bool.eq_false_iff.mpr c8
          subst c8
          have H1 : (some false) = some r := by rw [if_neg (show ¬ (false = true) by decide)] at H; exact H
          clear H
          have H := H1
          clear H1
          obtain rfl := Option.some.inj H
          go_wp2
          go_ret
          exact ⟨by first | rfl | (simp [errW_none, errW_some] <;> rfl) | (simp [*, errW_none, errW_some] <;> rfl), by repeat (first | (with_reducible first | exact HB.out | apply below_alloc | apply pw_below_drewN | apply below_drew1) | exact HB.out)⟩

end Go.Proofs.Ytkfopphcgjdcaaa.A

/- What the document's own functions answer: value, put, sorted, AtOnce, OneByOne, Right. The law MovesHold. -/
namespace Go.Proofs.Ytkfopphcgjdcaaa.A
open Go.RowKit Go.Maps Go.Proofs.YtkfopphcgjdcaaaW.PrintWords Go.Proofs.YtkfopphcgjdcaaaW.PrintLast Go.Shelf
set_option linter.unusedVariables false
set_option linter.unusedSimpArgs false

theorem value_l0 (h : List S42) (p : Int) (hl : h.length ≤ 1000000) : ∀ (d i : Nat), i + d = h.length → Evt (fun k => swageref18_value.l0 k h p i) ((((h.drop i).find? fun x => decide (x.f0 = p)).map (·.f1)).getD 0)
  | 0, i, hi => by
    refine Evt.step (Evt.const rfl) fun k => ?_
    rw [swageref18_value.l0, if_neg (by omega), List.drop_eq_nil_of_le (by omega)]
    rfl
  | d + 1, i, hi => by
    have hlt : i < h.length := by omega
    have hd : h.drop i = h[i] :: h.drop (i + 1) := List.drop_eq_getElem_cons hlt
    rw [hd, List.find?_cons]
    by_cases hc : h[i].f0 = p
    · refine Evt.step (Evt.const rfl) fun k => ?_
      rw [swageref18_value.l0, if_pos (by omega), if_pos (by omega), rd42_lt hlt, if_pos hc]
      simp [hc]
    · have ih := value_l0 h p hl d (i + 1) (by omega)
      simp only [hc, decide_false]
      refine Evt.step ih fun k => ?_
      rw [swageref18_value.l0, if_pos (by omega), if_pos (by omega), rd42_lt hlt, if_neg hc, w64 (by omega) (by omega)]
      rfl
theorem value_ev (h : List S42) (p : Int) (hl : h.length ≤ 1000000) : Evt (fun k => swageref18_value.f k h p) ((holdF h p).getD 0) := by
  rw [holdF_find]
  exact value_l0 h p hl h.length 0 (by omega)

def insR (p v : Int) : List S42 → List S42
  | [] => [⟨p, v⟩]
  | x :: l => if x.f0 < p then x :: insR p v l else if x.f0 = p then ⟨p, v⟩ :: l else ⟨p, v⟩ :: x :: l
theorem insR_length (p v : Int) : ∀ l, (insR p v l).length ≤ l.length + 1
  | [] => by simp [insR]
  | x :: l => by
    unfold insR
    have := insR_length p v l
    split
    · simp; omega
    · split <;> simp
def RiseR (l : List S42) : Prop := l.Pairwise fun a b => a.f0 < b.f0
theorem insR_mem (p v : Int) (y : S42) : ∀ l, RiseR l → (y ∈ insR p v l ↔ y = ⟨p, v⟩ ∨ (y ∈ l ∧ y.f0 ≠ p))
  | [], _ => by simp [insR]
  | x :: l, h => by
    have h' := List.pairwise_cons.1 h
    unfold insR
    split
    · rename_i hlt
      rw [List.mem_cons, insR_mem p v y l h'.2, List.mem_cons]
      constructor
      · rintro (rfl | rfl | ⟨h1, h2⟩)
        · exact .inr ⟨.inl rfl, by omega⟩
        · exact .inl rfl
        · exact .inr ⟨.inr h1, h2⟩
      · rintro (rfl | ⟨rfl | h1, h2⟩)
        · exact .inr (.inl rfl)
        · exact .inl rfl
        · exact .inr (.inr ⟨h1, h2⟩)
    · split
      · rename_i hge heq
        rw [List.mem_cons, List.mem_cons]
        constructor
        · rintro (rfl | h1)
          · exact .inl rfl
          · exact .inr ⟨.inr h1, by have := h'.1 y h1; omega⟩
        · rintro (rfl | ⟨rfl | h1, h2⟩)
          · exact .inl rfl
          · exact absurd heq h2
          · exact .inr h1
      · rename_i hge hne
        rw [List.mem_cons, List.mem_cons]
        constructor
        · rintro (rfl | rfl | h1)
          · exact .inl rfl
          · exact .inr ⟨.inl rfl, hne⟩
          · exact .inr ⟨.inr h1, by have := h'.1 y h1; omega⟩
        · rintro (rfl | ⟨rfl | h1, h2⟩)
          · exact .inl rfl
          · exact .inr (.inl rfl)
          · exact .inr (.inr h1)
theorem insR_rise (p v : Int) : ∀ l, RiseR l → RiseR (insR p v l)
  | [], _ => List.Pairwise.cons (by simp) List.Pairwise.nil
  | x :: l, h => by
    have h' := List.pairwise_cons.1 h
    unfold insR
    split
    · rename_i hlt
      refine List.Pairwise.cons (fun b hb => ?_) (insR_rise p v l h'.2)
      rcases (insR_mem p v b l h'.2).1 hb with rfl | ⟨h1, _⟩
      · exact hlt
      · exact h'.1 b h1
    · split
      · rename_i hge heq
        exact List.Pairwise.cons (fun b hb => by have := h'.1 b hb; show p < b.f0; omega) h'.2
      · rename_i hge hne
        refine List.Pairwise.cons (fun b hb => ?_) h
        show p < b.f0
        rcases List.mem_cons.1 hb with rfl | hb
        · omega
        · have := h'.1 b hb; omega
theorem RowsOf.ins {f : Int → Option Int} {out : List S42} (h : RowsOf f out) (p v : Int) : RowsOf (upd f p v) (insR p v out) := by
  refine ⟨insR_rise p v out h.rise, fun x => ?_⟩
  rw [insR_mem p v x out h.rise, h.mem]
  unfold upd
  by_cases e : x.f0 = p
  · rw [if_pos e]
    constructor
    · rintro (rfl | ⟨_, h2⟩)
      · rfl
      · exact absurd e h2
    · intro hv
      left
      injection hv with hv
      obtain ⟨a, b⟩ := x
      simp only at e hv
      subst e; subst hv; rfl
  · rw [if_neg e]
    constructor
    · rintro (rfl | ⟨h1, _⟩)
      · exact absurd rfl e
      · exact h1
    · exact fun h1 => .inr ⟨h1, e⟩
theorem RowsOf.hold {f : Int → Option Int} {out : List S42} (h : RowsOf f out) (k : Int) : holdF out k = f k := by
  rw [holdF_find]
  cases hf : out.find? (fun x => decide (x.f0 = k)) with
  | some x =>
    have hm := (h.mem x).1 (List.mem_of_find?_eq_some hf)
    have hp : x.f0 = k := by simpa using List.find?_some hf
    subst hp; rw [hm]; rfl
  | none =>
    cases hv : f k with
    | none => rfl
    | some v =>
      have := List.find?_eq_none.1 hf ⟨k, v⟩ ((h.mem ⟨k, v⟩).2 hv)
      simp at this
theorem put_l0 (out : List S42) (p v : Int) (hl : out.length ≤ 1000000) : ∀ (d i : Nat), i + d = out.length → Evt (fun k => swageref18_put.l0 k out p v i) (out.take i ++ insR p v (out.drop i))
  | 0, i, hi => by
    refine Evt.step (Evt.const rfl) fun k => ?_
    rw [swageref18_put.l0, if_neg (by omega), if_pos (by omega), if_pos (by omega), Int.toNat_natCast]
    simp only [Option.bind_some]
    rw [if_pos (by simp; omega), if_pos (by simp; omega), if_pos (by simp; omega), List.drop_eq_nil_of_le (by omega)]
    simp [insR]
  | d + 1, i, hi => by
    have hlt : i < out.length := by omega
    have hd : out.drop i = out[i] :: out.drop (i + 1) := List.drop_eq_getElem_cons hlt
    by_cases hc : out[i].f0 < p
    · have ih := put_l0 out p v hl d (i + 1) (by omega)
      rw [List.take_succ_eq_append_getElem hlt, List.append_assoc] at ih
      rw [hd]
      unfold insR
      rw [if_pos hc]
      refine Evt.step ih fun k => ?_
      rw [swageref18_put.l0, if_pos (by omega), if_pos (by omega), rd42_lt hlt, if_pos hc, w64 (by omega) (by omega)]
      rfl
    · refine Evt.step (Evt.const rfl) fun k => ?_
      rw [swageref18_put.l0, if_pos (by omega), if_pos (by omega), rd42_lt hlt, if_neg hc, if_pos (by omega), Int.toNat_natCast, w64 (by omega) (by omega)]
      simp only [Option.bind_some]
      rw [if_pos (by simp; omega), if_pos (by simp; omega)]
      by_cases he : out[i].f0 = p
      · rw [if_pos he, if_pos (by omega), if_pos (by omega), if_pos (by simp; omega), show ((i : Int) + 1).toNat = i + 1 by omega]
        conv => rhs; rw [hd]; unfold insR
        rw [if_neg hc, if_pos he]
        simp
      · rw [if_neg he, if_pos (by simp; omega)]
        conv => rhs; rw [hd]; unfold insR
        rw [if_neg hc, if_neg he, ← hd]
        simp
theorem put_ev (out : List S42) (p v : Int) (hl : out.length ≤ 1000000) : Evt (fun k => swageref18_put.f k out p v) (insR p v out) := by
  have := put_l0 out p v hl out.length 0 (by omega)
  rw [List.take_zero, List.drop_zero, List.nil_append] at this
  exact this

def partF (h : List S42) (i : Nat) : Int → Option Int := fun k => if k ∈ (h.take i).map (fun x => x.f0) then some ((holdF h k).getD 0) else none
theorem partF_succ (h : List S42) (i : Nat) (hi : i < h.length) : partF h (i + 1) = upd (partF h i) h[i].f0 ((holdF h h[i].f0).getD 0) := by
  funext k
  unfold partF upd
  rw [List.take_succ_eq_append_getElem hi, List.map_append]
  simp only [List.mem_append, List.map_cons, List.map_nil, List.mem_singleton]
  by_cases e : k = h[i].f0
  · subst e; simp
  · simp [e]
theorem partF_all (h : List S42) : partF h h.length = holdF h := by
  funext k
  unfold partF
  rw [List.take_length]
  cases hf : holdF h k with
  | some v => rw [if_pos ((holdF_some h k).1 (by rw [hf]; rfl))]; rfl
  | none => rw [if_neg (fun e => by have := (holdF_some h k).2 e; rw [hf] at this; cases this)]
theorem sorted_l0 (h : List S42) (hl : h.length ≤ 400000) : ∀ (d i : Nat) (out : List S42), i + d = h.length → RowsOf (partF h i) out → out.length ≤ i →
    ∃ R, RowsOf (holdF h) R ∧ R.length ≤ h.length ∧ Evt (fun k => swageref18_sorted.l0 k h out i) R
  | 0, i, out, hi, hr, ho => by
    obtain rfl : i = h.length := by omega
    rw [partF_all] at hr
    refine ⟨out, hr, ho, Evt.step (Evt.const rfl) fun k => ?_⟩
    rw [swageref18_sorted.l0, if_neg (by omega)]
  | d + 1, i, out, hi, hr, ho => by
    have hlt : i < h.length := by omega
    have hin := insR_length h[i].f0 ((holdF h h[i].f0).getD 0) out
    obtain ⟨R, h1, h2, h3⟩ := sorted_l0 h hl d (i + 1) (insR h[i].f0 ((holdF h h[i].f0).getD 0) out) (by omega) (by rw [partF_succ h i hlt]; exact hr.ins _ _) (by omega)
    refine ⟨R, h1, h2, Evt.step (g := fun k => (swageref18_value.f k h h[i].f0).bind fun t => (swageref18_put.f k out h[i].f0 t).bind fun t2 => swageref18_sorted.l0 k h t2 ((i + 1 : Nat) : Int)) ((value_ev h h[i].f0 (by omega)).bind ((put_ev out h[i].f0 _ (by omega)).bind h3)) fun k => ?_⟩
    rw [swageref18_sorted.l0, if_pos (by omega), if_pos (by omega), rd42_lt hlt, w64 (by omega) (by omega)]
    rfl
theorem sorted_ev (h : List S42) (hl : h.length ≤ 400000) : ∃ R, RowsOf (holdF h) R ∧ R.length ≤ h.length ∧ Evt (fun k => swageref18_sorted.f k h) R :=
  sorted_l0 h hl h.length 0 [] (by omega) ⟨List.Pairwise.nil, fun x => by simp [partF]⟩ (Nat.le_refl _)

theorem rone_l0 (l : List S38) (h : List S42) (hl : l.length ≤ 400000) (hh : h.length ≤ 400000) : ∀ (d i : Nat) (out : List S42), i + d = l.length → RowsOf (oneF (holdF h) (l.take i)) out → out.length ≤ h.length + i →
    Evt (fun k => swageref18_OneByOne.l0 k l out i) (oneRows l h)
  | 0, i, out, hi, hr, ho => by
    rw [List.take_of_length_le (by omega)] at hr
    have : out = oneRows l h := rowsOf_eq hr (skeys_rising _) (one_keys l h)
    subst this
    refine Evt.step (Evt.const rfl) fun k => ?_
    rw [swageref18_OneByOne.l0, if_neg (by omega)]
  | d + 1, i, out, hi, hr, ho => by
    have hlt : i < l.length := by omega
    have hv := value_ev out l[i].f1 (by omega)
    rw [hr.hold] at hv
    have hin := insR_length l[i].f0 (((oneF (holdF h) (l.take i)) l[i].f1).getD 0) out
    have ih := rone_l0 l h hl hh d (i + 1) (insR l[i].f0 (((oneF (holdF h) (l.take i)) l[i].f1).getD 0) out) (by omega) (by
      rw [List.take_succ_eq_append_getElem hlt, oneF_snoc]; exact hr.ins _ _) (by omega)
    refine Evt.step (g := fun k => (swageref18_value.f k out l[i].f1).bind fun t => (swageref18_put.f k out l[i].f0 t).bind fun t2 => swageref18_OneByOne.l0 k l t2 ((i + 1 : Nat) : Int)) (hv.bind ((put_ev out l[i].f0 _ (by omega)).bind ih)) fun k => ?_
    rw [swageref18_OneByOne.l0, if_pos (by omega), if_pos (by omega), rd38_lt hlt, w64 (by omega) (by omega)]
    rfl
theorem rone_ev (l : List S38) (h : List S42) (hl : l.length ≤ 400000) (hh : h.length ≤ 400000) : Evt (fun k => swageref18_OneByOne.f k l h) (oneRows l h) := by
  obtain ⟨R, h1, h2, h3⟩ := sorted_ev h hh
  exact h3.bind (rone_l0 l h hl hh l.length 0 R (by omega) h1 (by omega))
theorem ronce_l0 (l : List S38) (h : List S42) (hl : l.length ≤ 400000) (hh : h.length ≤ 400000) : ∀ (d i : Nat) (out : List S42), i + d = l.length → RowsOf (onceF (holdF h) (l.take i)) out → out.length ≤ h.length + i →
    Evt (fun k => swageref18_AtOnce.l0 k l h out i) (onceRows l h)
  | 0, i, out, hi, hr, ho => by
    rw [List.take_of_length_le (by omega)] at hr
    have : out = onceRows l h := rowsOf_eq hr (skeys_rising _) (once_keys l h)
    subst this
    refine Evt.step (Evt.const rfl) fun k => ?_
    rw [swageref18_AtOnce.l0, if_neg (by omega)]
  | d + 1, i, out, hi, hr, ho => by
    have hlt : i < l.length := by omega
    have hv := value_ev h l[i].f1 (by omega)
    have hin := insR_length l[i].f0 (((holdF h) l[i].f1).getD 0) out
    have ih := ronce_l0 l h hl hh d (i + 1) (insR l[i].f0 (((holdF h) l[i].f1).getD 0) out) (by omega) (by
      rw [List.take_succ_eq_append_getElem hlt, onceF_snoc]; exact hr.ins _ _) (by omega)
    refine Evt.step (g := fun k => (swageref18_value.f k h l[i].f1).bind fun t => (swageref18_put.f k out l[i].f0 t).bind fun t2 => swageref18_AtOnce.l0 k l h t2 ((i + 1 : Nat) : Int)) (hv.bind ((put_ev out l[i].f0 _ (by omega)).bind ih)) fun k => ?_
    rw [swageref18_AtOnce.l0, if_pos (by omega), if_pos (by omega), rd38_lt hlt, w64 (by omega) (by omega)]
    rfl

/-! Right -/
theorem nodup_take {l : List S38} {i : Nat} (hi : i < l.length) : (tos (l.take (i + 1))).Nodup ↔ (tos (l.take i)).Nodup ∧ ∀ j (hj : j < i), l[j].f0 ≠ l[i].f0 := by
  rw [List.take_succ_eq_append_getElem hi]
  unfold tos
  rw [List.map_append, List.nodup_append]
  simp only [List.map_cons, List.map_nil, List.mem_singleton, List.mem_map]
  constructor
  · rintro ⟨h1, _, h3⟩
    refine ⟨h1, fun j hj e => ?_⟩
    refine h3 l[j].f0 ⟨l[j], ?_, rfl⟩ l[i].f0 rfl e
    rw [List.mem_take_iff_getElem]
    exact ⟨j, by omega, rfl⟩
  · rintro ⟨h1, h2⟩
    refine ⟨h1, by simp, ?_⟩
    rintro a ⟨x, hx, rfl⟩ b rfl e
    rw [List.mem_take_iff_getElem] at hx
    obtain ⟨j, hj, rfl⟩ := hx
    exact h2 j (by omega) e
theorem nodup_mono {l : List S38} (h : (tos l).Nodup) (i : Nat) : (tos (l.take i)).Nodup := List.Nodup.sublist (List.Sublist.map _ (List.take_sublist _ _)) h
theorem rright_l1 (l : List S38) (hl : l.length ≤ 1000000) (i : Nat) (hi : i < l.length) (b : Bool) (hb : b = decide (tos l).Nodup) (hk : (∀ j (hj : j < i), l[j].f0 ≠ l[i].f0) → Evt (fun k => swageref18_Right.l0 k l ((i + 1 : Nat) : Int)) b) :
    ∀ (d j : Nat), j + d = i → (∀ j' (h : j' < j) (h2 : j' < i), l[j'].f0 ≠ l[i].f0) → Evt (fun k => swageref18_Right.l1 k l i j) b
  | 0, j, hj, hn => by
    obtain rfl : j = i := by omega
    refine Evt.step (hk (fun j' h => hn j' h h)) fun k => ?_
    rw [swageref18_Right.l1, if_neg (by omega), w64 (by omega) (by omega)]
    rfl
  | d + 1, j, hj, hn => by
    have hlt : j < i := by omega
    by_cases hc : l[j].f0 = l[i].f0
    · have : b = false := by
        rw [hb, decide_eq_false_iff_not]
        intro h
        exact ((nodup_take hi).1 (nodup_mono h (i + 1))).2 j hlt hc
      subst this
      refine Evt.step (Evt.const rfl) fun k => ?_
      rw [swageref18_Right.l1, if_pos (by omega), if_pos (by omega), if_pos (by omega), if_pos (by omega), if_pos (by omega), rd38_lt (show j < l.length by omega), rd38_lt hi, if_pos hc]
    · have ih := rright_l1 l hl i hi b hb hk d (j + 1) (by omega) (fun j' h h2 => by
        by_cases e : j' = j
        · subst e; exact hc
        · exact hn j' (by omega) h2)
      refine Evt.step ih fun k => ?_
      rw [swageref18_Right.l1, if_pos (by omega), if_pos (by omega), if_pos (by omega), if_pos (by omega), if_pos (by omega), rd38_lt (show j < l.length by omega), rd38_lt hi, if_neg hc, w64 (by omega) (by omega)]
      rfl
theorem rright_l0 (l : List S38) (hl : l.length ≤ 1000000) (b : Bool) (hb : b = decide (tos l).Nodup) : ∀ (d i : Nat), i + d = l.length → (tos (l.take i)).Nodup → Evt (fun k => swageref18_Right.l0 k l i) b
  | 0, i, hi, hn => by
    rw [List.take_of_length_le (by omega)] at hn
    have : b = true := by rw [hb]; exact decide_eq_true hn
    subst this
    refine Evt.step (Evt.const rfl) fun k => ?_
    rw [swageref18_Right.l0, if_neg (by omega)]
  | d + 1, i, hi, hn => by
    have hlt : i < l.length := by omega
    have := rright_l1 l hl i hlt b hb (fun h => rright_l0 l hl b hb d (i + 1) (by omega) ((nodup_take hlt).2 ⟨hn, h⟩)) i 0 (by omega) (fun j h _ => by omega)
    refine Evt.step this fun k => ?_
    rw [swageref18_Right.l0, if_pos (by omega)]
    rfl
theorem rright_ev (l : List S38) (hl : l.length ≤ 1000000) : Evt (fun k => swageref18_Right.f k l) (okN l l.length) := by
  refine rright_l0 l hl _ ?_ l.length 0 (by omega) (by simp [tos])
  rw [Bool.eq_iff_iff, okN_iff, decide_eq_true_iff]
theorem ronce_ev (l : List S38) (h : List S42) (hl : l.length ≤ 400000) (hh : h.length ≤ 400000) : Evt (fun k => swageref18_AtOnce.f k l h) (if okN l l.length = true then onceRows l h else []) := by
  refine (rright_ev l (by omega)).bind ?_
  cases hok : okN l l.length with
  | false => exact Evt.const rfl
  | true =>
    obtain ⟨R, h1, h2, h3⟩ := sorted_ev h hh
    have : Evt (fun k => (swageref18_sorted.f k h).bind fun t => swageref18_AtOnce.l0 k l h t 0) (onceRows l h) := h3.bind (ronce_l0 l h hl hh l.length 0 R (by omega) h1 (by omega))
    rw [if_pos rfl]
    refine this.congr fun k => ?_
    rw [if_pos rfl]
theorem hold_law (l : List S38) (h : List S42) (hw : WfL l) (hw2 : WfH h) : ∃ k, swagelaw18_MovesHold.f k l h = some true := by
  refine Evt.get ?_
  show Evt (fun k => (swagelaw18_small.f).bind fun t456 => (if (l.length : Int) > 40 then (swagelaw18_MovesHold.j0 k l h t456 true) else (swagelaw18_MovesHold.j0 k l h t456 (decide ((h.length : Int) > 40))))) true
  have ht : Evt (fun k => swagelaw18_MovesHold.j0 k l h true true) true := by
    refine Evt.step (Evt.const rfl) fun k => ?_
    rw [swagelaw18_MovesHold.j0, if_pos rfl]
  by_cases h1 : (l.length : Int) > 40
  · refine ht.congr fun k => ?_
    show (if (l.length : Int) > 40 then _ else _) = _
    rw [if_pos h1]
  by_cases h2 : (h.length : Int) > 40
  · refine ht.congr fun k => ?_
    show (if (l.length : Int) > 40 then _ else _) = _
    rw [if_neg h1, decide_eq_true h2]
  suffices hs : Evt (fun k => swagelaw18_MovesHold.j0 k l h true false) true by
    refine hs.congr fun k => ?_
    show (if (l.length : Int) > 40 then _ else _) = _
    rw [if_neg h1, decide_eq_false h2]
  have e1 : moves_AtOnce.f l h = some (if okN l l.length = true then onceRows l h else []) := by unfold moves_AtOnce.f; rw [if_pos ⟨by omega, by omega, hw, hw2⟩]
  have e2 : moves_OneByOne.f l h = some (oneRows l h) := by unfold moves_OneByOne.f; rw [if_pos ⟨by omega, by omega, hw, hw2⟩]
  have hk := held_len l h
  have n1 : (if okN l l.length = true then onceRows l h else []).length ≤ 1000 := by
    split
    · unfold onceRows rowF; rw [List.length_map]; omega
    · simp
  have n2 : (oneRows l h).length ≤ 1000 := by unfold oneRows rowF; rw [List.length_map]; omega
  refine Evt.step (g := fun k => (moves_AtOnce.f l h).bind fun t457 => ((swageref18_AtOnce.f k l h).bind fun t460 => ((swageref05_Pairs.f k t457 t460).bind fun t463 => (if t463 = true then ((moves_OneByOne.f l h).bind fun t464 => ((swageref18_OneByOne.f k l h).bind fun t467 => ((swageref05_Pairs.f k t464 t467).bind fun t470 => (some t470)))) else (some false))))) ?_ fun k => ?_
  · rw [e1, e2]
    refine (ronce_ev l h (by omega) (by omega)).bind ?_
    refine (pairs_ev _ (by omega)).bind ?_
    refine (rone_ev l h (by omega) (by omega)).bind ?_
    exact (pairs_ev _ (by omega)).bind (Evt.const rfl)
  · rw [swagelaw18_MovesHold.j0, if_neg (by simp), if_pos rfl]
theorem law_hold (A0 : Option Addr) (c0 : Nat) (l0 : List S38) (A1 : Option Addr) (c1 : Nat) (l1 : List S42) (w : World) (h0 : Kd.C k38 w A0 l0.length l0) (hc0 : l0.length ≤ c0) (hw0 : WfL l0) (h1 : Kd.C k42 w A1 l1.length l1) (hc1 : l1.length ≤ c1) (hw1 : WfH l1) :
    Calls Try.prog 4 #[.slice A0 l0.length c0, .slice A1 l1.length c1] w fun e w' => e = .returned (.bool true) ∧ Below w.heap.size w w' := by
  obtain ⟨k, hk⟩ := hold_law l0 l1 hw0 hw1
  exact swagelaw18_MovesHold.calls k A0 c0 l0 A1 c1 l1 true w h0 hc0 h1 hc1 hk
#print axioms hold_law
end Go.Proofs.Ytkfopphcgjdcaaa.A

/- What the machine does at this function, and a plain Lean function that says the same: written by a program for this claim; Lean checks it. -/
namespace Go.Proofs.Ytkfopphcgjdcaaa.A
open Go.RowKit Go.Proofs.YtkfopphcgjdcaaaW.PrintWords Go.Proofs.YtkfopphcgjdcaaaW.PrintLast Go.Proofs.YtkfopphcgjdcaaaW.PrintMore
attribute [local go_sem] max2_int min2_int max_two min_two max_three min_three max_four min_four   -- for this text's walks alone
set_option linter.unusedVariables false
set_option linter.unusedSimpArgs false

/-! ### swageref18_free: function 32 -/
mutual
def swageref18_free.l0 : Nat → List (S38) → Int → Option (Int)
  | 0, _, _ => none
  | k + 1, x0, x3 => if x3 < (x0.length : Int) then (swageref18_free.l1 k x0 x3 false 0) else (some (-1))
def swageref18_free.l1 : Nat → List (S38) → Int → Bool → Int → Option (Int)
  | 0, _, _, _, _ => none
  | k + 1, x0, x3, x4, x5 => if x5 < (x0.length : Int) then (if x4 = true then (swageref18_free.l1 k x0 x3 true (wrap64 (x5 + 1))) else (if x5 = x3 then (swageref18_free.l1 k x0 x3 false (wrap64 (x5 + 1))) else (if 0 ≤ x5 then (if 0 ≤ x3 then (if x3 < (x0.length : Int) then (swageref18_free.l1 k x0 x3 (((rd_T38 x0 x5).f1) == ((rd_T38 x0 x3).f0)) (wrap64 (x5 + 1))) else (none)) else (none)) else (none)))) else (if x4 = true then (swageref18_free.l0 k x0 (wrap64 (x3 + 1))) else (some x3))
end
def swageref18_free.f (k : Nat) (l0 : List (S38)) : Option (Int) := swageref18_free.l0 k l0 0
theorem swageref18_free.mono_l : ∀ k, (∀ y0 y1, LeO (swageref18_free.l0 k y0 y1) (swageref18_free.l0 (k + 1) y0 y1)) ∧ (∀ y0 y1 y2 y3, LeO (swageref18_free.l1 k y0 y1 y2 y3) (swageref18_free.l1 (k + 1) y0 y1 y2 y3))
  | 0 => ⟨fun _ _ r h => by simp [swageref18_free.l0] at h, fun _ _ _ _ r h => by simp [swageref18_free.l1] at h⟩
  | k + 1 => by
    obtain ⟨ih0, ih1⟩ := swageref18_free.mono_l k
    refine ⟨?_, ?_⟩
    · intro y0 y1
      unfold swageref18_free.l0
      repeat' first
      | (with_reducible exact ih0 _ _)
      | (with_reducible exact ih1 _ _ _ _)
      | (with_reducible exact LeO.refl _)
      | (with_reducible exact LeO.none _)
      | (with_reducible refine LeO.ite ?_ ?_)
      | (with_reducible refine LeO.bind ?_ (fun _ => ?_))
      | exact ih0 _ _
      | exact ih1 _ _ _ _
      | exact LeO.none _
      | refine LeO.ite ?_ ?_
      | refine LeO.bind ?_ (fun _ => ?_)
    · intro y0 y1 y2 y3
      unfold swageref18_free.l1
      repeat' first
      | (with_reducible exact ih0 _ _)
      | (with_reducible exact ih1 _ _ _ _)
      | (with_reducible exact LeO.refl _)
      | (with_reducible exact LeO.none _)
      | (with_reducible refine LeO.ite ?_ ?_)
      | (with_reducible refine LeO.bind ?_ (fun _ => ?_))
      | exact ih0 _ _
      | exact ih1 _ _ _ _
      | exact LeO.none _
      | refine LeO.ite ?_ ?_
      | refine LeO.bind ?_ (fun _ => ?_)
theorem swageref18_free.mono : ∀ a0 k, LeO (swageref18_free.f k a0) (swageref18_free.f (k + 1) a0) := by
  intro a0 k
  obtain ⟨ih0, ih1⟩ := swageref18_free.mono_l k
  unfold swageref18_free.f
  repeat' first
      | (with_reducible exact ih0 _ _)
      | (with_reducible exact ih1 _ _ _ _)
      | (with_reducible exact LeO.refl _)
      | (with_reducible exact LeO.none _)
      | (with_reducible refine LeO.ite ?_ ?_)
      | (with_reducible refine LeO.bind ?_ (fun _ => ?_))
      | exact ih0 _ _
      | exact ih1 _ _ _ _
      | exact LeO.none _
      | refine LeO.ite ?_ ?_
      | refine LeO.bind ?_ (fun _ => ?_)
set_option maxHeartbeats 8000000 in
set_option maxRecDepth 100000 in
theorem swageref18_free.calls (k : Nat) (A0 : Option Addr) (c0 : Nat) (l0 : List (S38)) (r : Int) (w : World) (hr0 : Kd.C k38 w A0 l0.length l0) (hc0 : l0.length ≤ c0) (h : swageref18_free.f k l0 = some r) :
    Calls Try.prog 32 #[.slice A0 l0.length c0] w fun e w' => e = .returned (.int .i64 r) ∧ Drawn0 w w' := by
  have HR0 := Aside0.mk hr0
  have HC0 := Aside0.mk hc0
  clear hr0 hc0
  have H : (swageref18_free.l0 k l0 0) = some r := h
  clear h
  have H' := Aside0.mk H
  clear H
  go_enter Try.func32, Try.ntmps32
  go_wp2
  repeat (go_quiet (fail); try go_wp2)
  go_loopg [3] k (fun kq v3 w' => ∃ (x3_1 : Int), v3 = .int .i64 x3_1 ∧ Aside0 (swageref18_free.l0 kq l0 x3_1 = some r) ∧ Aside0 (kq ≤ k) ∧ Drawn0 w w')
  case atStart => exact ⟨(0), (by first | rfl | (simp; done) | (simp [*]; done)), H', ⟨Nat.le_refl _⟩, by repeat (first | exact Drawn0.refl _ | apply Drawn0.step)⟩
  case round =>
    clear H'
    obtain ⟨x3_1, rfl, HA, HK1, ⟨m1, rfl⟩⟩ := hrel
    cases gk with
    | zero => exact absurd HA.out (by simp [swageref18_free.l0])
    | succ k1 =>
      have H := HA.out
      clear HA
      simp only [swageref18_free.l0] at H
      by_cases c2 : x3_1 < (l0.length : Int)
      · rw [if_pos c2] at H
        have c2b0 : decide (x3_1 < (l0.length : Int)) = true := decide_eq_true c2
        clear c2
        have H' := Aside0.mk H
        clear H
        go_wp2
        repeat (go_quiet (fail); try go_wp2)
        go_loopg [4, 5] k1 (fun kq v4 v5 w' => ∃ (x4_2 : Bool) (x5_2 : Int), v4 = .bool x4_2 ∧ v5 = .int .i64 x5_2 ∧ Aside0 (swageref18_free.l1 kq l0 x3_1 x4_2 x5_2 = some r) ∧ Aside0 (kq ≤ k1) ∧ Drawn0 w w')
        case atStart => exact ⟨(false), (0), (by first | rfl | (simp; done) | (simp [*]; done)), (by first | rfl | (simp; done) | (simp [*]; done)), H', ⟨Nat.le_refl _⟩, by repeat (first | exact Drawn0.refl _ | apply Drawn0.step)⟩
        case round =>
          clear H'
          try clear c2
          try clear c2b0
          try clear p2
          obtain ⟨x4_2, x5_2, rfl, rfl, HA, HK2, ⟨m2, rfl⟩⟩ := hrel
          cases gk with
          | zero => exact absurd HA.out (by simp [swageref18_free.l1])
          | succ k2 =>
            have H := HA.out
            clear HA
            simp only [swageref18_free.l1] at H
            by_cases c3 : x5_2 < (l0.length : Int)
            · rw [if_pos c3] at H
              have c3b0 : decide (x5_2 < (l0.length : Int)) = true := decide_eq_true c3
              clear c3
              by_cases c4 : x4_2 = true
              · subst c4
                have H1 : (swageref18_free.l1 k2 l0 x3_1 true (wrap64 (x5_2 + 1))) = some r := by rw [if_pos rfl] at H; exact H
                clear H
                have H := H1
                clear H1
                have H' := Aside0.mk H
                clear H
                go_wp2
                repeat (go_quiet (fail); try go_wp2)
                go_roundg k2
                case measure => have := HK1.out; have := HK2.out; omega
                case rel => exact ⟨(true), (wrap64 (x5_2 + 1)), (by first | rfl | (simp; done) | (simp [*]; done)), (by first | rfl | (simp; done) | (simp [*]; done)), H', ⟨by have := HK1.out; have := HK2.out; omega⟩, by repeat (first | exact Drawn0.refl _ | apply Drawn0.step)⟩
              · replace c4 := Bool.eq_false_iff.mpr c4
                subst c4
                have H1 : (if x5_2 = x3_1 then (swageref18_free.l1 k2 l0 x3_1 false (wrap64 (x5_2 + 1))) else (if 0 ≤ x5_2 then (if 0 ≤ x3_1 then (if x3_1 < (l0.length : Int) then (swageref18_free.l1 k2 l0 x3_1 (((rd_T38 l0 x5_2).f1) == ((rd_T38 l0 x3_1).f0)) (wrap64 (x5_2 + 1))) else (none)) else (none)) else (none))) = some r := by rw [if_neg (show ¬ (false = true) by decide)] at H; exact H
                clear H
                have H := H1
                clear H1
                by_cases c5 : x5_2 = x3_1
                · rw [if_pos c5] at H
                  have c5b0 : (x5_2 == x3_1) = true := beq_iff_eq.mpr c5
                  have c5b1 : (x5_2 != x3_1) = false := bne_eq_false_iff_eq.mpr c5
                  clear c5
                  have H' := Aside0.mk H
                  clear H
                  go_wp2
                  repeat (go_quiet (fail); try go_wp2)
                  go_roundg k2
                  case measure => have := HK1.out; have := HK2.out; omega
                  case rel => exact ⟨(false), (wrap64 (x5_2 + 1)), (by first | rfl | (simp; done) | (simp [*]; done)), (by first | rfl | (simp; done) | (simp [*]; done)), H', ⟨by have := HK1.out; have := HK2.out; omega⟩, by repeat (first | exact Drawn0.refl _ | apply Drawn0.step)⟩
                · rw [if_neg c5] at H
                  have c5b0 : (x5_2 == x3_1) = false := beq_eq_false_iff_ne.mpr c5
                  have c5b1 : (x5_2 != x3_1) = true := bne_iff_ne.mpr c5
                  by_cases c6 : 0 ≤ x5_2
                  · rw [if_pos c6] at H
                    have c6b0 : decide (0 ≤ x5_2) = true := decide_eq_true c6
                    clear c6
                    by_cases c7 : 0 ≤ x3_1
                    · rw [if_pos c7] at H
                      have c7b0 : decide (0 ≤ x3_1) = true := decide_eq_true c7
                      clear c7
                      by_cases c8 : x3_1 < (l0.length : Int)
                      · rw [if_pos c8] at H
                        have c8b0 : decide (x3_1 < (l0.length : Int)) = true := decide_eq_true c8
                        clear c8
                        have H' := Aside0.mk H
                        clear H
                        have p239 : 0 ≤ (x5_2 : Int) := of_decide_eq_true (by first | (with_reducible assumption) | assumption)
                        have q239 : x5_2 < (l0.length : Int) := of_decide_eq_true (by first | (with_reducible assumption) | assumption)
                        obtain ⟨ad239, e239, hx239_0, hx239_1⟩ := at_T38 HR0.out x5_2 p239 q239
                        cases e239
                        replace p239 := eq_true p239
                        replace q239 := eq_true q239
                        have p240 : 0 ≤ (x3_1 : Int) := of_decide_eq_true (by first | (with_reducible assumption) | assumption)
                        have q240 : x3_1 < (l0.length : Int) := of_decide_eq_true (by first | (with_reducible assumption) | assumption)
                        obtain ⟨ad240, e240, hx240_0, hx240_1⟩ := at_T38 HR0.out x3_1 p240 q240
                        obtain rfl : ad239 = ad240 := (by injection e240)
                        replace p240 := eq_true p240
                        replace q240 := eq_true q240
                        go_wp2
                        repeat (go_quiet (fail); try go_wp2)
                        go_roundg k2
                        case measure => have := HK1.out; have := HK2.out; omega
                        case rel => exact ⟨((((rd_T38 l0 x5_2).f1) == ((rd_T38 l0 x3_1).f0))), (wrap64 (x5_2 + 1)), (by first | rfl | (simp; done) | (simp [*]; done)), (by first | rfl | (simp; done) | (simp [*]; done)), H', ⟨by have := HK1.out; have := HK2.out; omega⟩, by repeat (first | exact Drawn0.refl _ | apply Drawn0.step)⟩
                      · rw [if_neg c8] at H
                        exact absurd H (by simp)
                    · rw [if_neg c7] at H
                      exact absurd H (by simp)
                  · rw [if_neg c6] at H
                    exact absurd H (by simp)
            · rw [if_neg c3] at H
              have c3b0 : decide (x5_2 < (l0.length : Int)) = false := decide_eq_false c3
              clear c3
              by_cases c9 : x4_2 = true
              · subst c9
                have H1 : (swageref18_free.l0 k2 l0 (wrap64 (x3_1 + 1))) = some r := by rw [if_pos rfl] at H; exact H
                clear H
                have H := H1
                clear H1
                have H' := Aside0.mk H
                clear H
                go_wp2
                repeat (go_quiet (fail); try go_wp2)
                go_roundg k2
                case measure => have := HK1.out; have := HK2.out; omega
                case rel => exact ⟨(wrap64 (x3_1 + 1)), (by first | rfl | (simp; done) | (simp [*]; done)), H', ⟨by have := HK1.out; have := HK2.out; omega⟩, by repeat (first | exact Drawn0.refl _ | apply Drawn0.step)⟩
              · replace c9 := Bool.eq_false_iff.mpr c9
                subst c9
                have H1 : (some x3_1) = some r := by rw [if_neg (show ¬ (false = true) by decide)] at H; exact H
                clear H
                have H := H1
                clear H1
                obtain rfl := Option.some.inj H
                go_wp2
                repeat (go_quiet (fail); try go_wp2)
                go_ret
                exact ⟨by first | rfl | (simp; done) | (simp [*]; done), by repeat (first | exact Drawn0.refl _ | apply Drawn0.step)⟩
      · rw [if_neg c2] at H
        have c2b0 : decide (x3_1 < (l0.length : Int)) = false := decide_eq_false c2
        clear c2
        obtain rfl := Option.some.inj H
        go_wp2
        repeat (go_quiet (fail); try go_wp2)
        go_ret
        exact ⟨by first | rfl | (simp; done) | (simp [*]; done), by repeat (first | exact Drawn0.refl _ | apply Drawn0.step)⟩

end Go.Proofs.Ytkfopphcgjdcaaa.A
