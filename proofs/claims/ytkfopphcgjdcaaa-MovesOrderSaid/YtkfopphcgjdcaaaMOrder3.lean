/- Parts of the proof, in the order in which they rest on one another. -/
import Derived.Test.YtkfopphcgjdcaaaMOrder2
/- What the machine does at this function, and a plain Lean function that says the same: written by a program for this claim; Lean checks it. -/
namespace Go.Proofs.Ytkfopphcgjdcaaa.A
open Go.RowKit Go.Proofs.YtkfopphcgjdcaaaW.PrintWords Go.Proofs.YtkfopphcgjdcaaaW.PrintLast Go.Proofs.YtkfopphcgjdcaaaW.PrintMore
attribute [local go_sem] max2_int min2_int max_two min_two max_three min_three max_four min_four   -- for this text's walks alone
set_option linter.unusedVariables false
set_option linter.unusedSimpArgs false

/-! ### swageref18_Order: function 10 -/
mutual
def swageref18_Order.l0 : Nat → List (S38) → Int → List (S38) → Int → Option ((List (S38)) × Int)
  | 0, _, _, _, _ => none
  | k + 1, x0, x1, x7, x8 => if x8 < (x0.length : Int) then (if 0 ≤ x8 then (if ((rd_T38 x0 x8).f0) = x1 then (swageref18_Order.j1 k x0 x1 x7 x8 true) else (swageref18_Order.j1 k x0 x1 x7 x8 (((rd_T38 x0 x8).f1) == x1))) else (none)) else (swageref18_Order.l1 k x1 x7 ([] : List (S38)))
def swageref18_Order.j1 : Nat → List (S38) → Int → List (S38) → Int → Bool → Option ((List (S38)) × Int)
  | 0, _, _, _, _, _ => none
  | k + 1, x0, x1, x7, x8, x38 => if x38 = true then (some (([] : List (S38)), 1)) else (if 0 ≤ x8 then (if x8 < (x0.length : Int) then (if ((rd_T38 x0 x8).f0) = ((rd_T38 x0 x8).f1) then (swageref18_Order.l0 k x0 x1 x7 (wrap64 (x8 + 1))) else (if x7.length < 8796093022208 then (swageref18_Order.l0 k x0 x1 (x7 ++ [(⟨(rd_T38 x0 x8).f0, (rd_T38 x0 x8).f1⟩ : S38)]) (wrap64 (x8 + 1))) else (none))) else (none)) else (none))
def swageref18_Order.l1 : Nat → Int → List (S38) → List (S38) → Option ((List (S38)) × Int)
  | 0, _, _, _ => none
  | k + 1, x1, x7, x9 => if (x7.length : Int) > 0 then ((swageref18_free.f k x7).bind fun t250 => (if t250 < 0 then (if 0 < (x7.length : Int) then (if x9.length < 8796093022208 then (swageref18_Order.l2 k x1 x7 (x9 ++ [(⟨x1, (rd_T38 x7 0).f0⟩ : S38)]) ((rd_T38 x7 0).f0) 0) else (none)) else (none)) else (if 0 ≤ t250 then (if t250 < (x7.length : Int) then (if x9.length < 8796093022208 then ((some (([] : List (S38)) : List (S38))).bind fun y261 => (if t250 ≤ (x7.length : Int) then ((some (x7.take (t250 : Int).toNat : List (S38))).bind fun y264 => (if y261.length + y264.length < 8796093022208 then ((some (y261 ++ y264 : List (S38))).bind fun y268 => (if 0 ≤ (wrap64 (t250 + 1)) then (if (wrap64 (t250 + 1)) ≤ (x7.length : Int) then ((some (x7.drop ((wrap64 (t250 + 1)) : Int).toNat : List (S38))).bind fun y271 => (if y268.length + y271.length < 8796093022208 then (swageref18_Order.l1 k x1 (y268 ++ y271) (x9 ++ [(⟨(rd_T38 x7 t250).f0, (rd_T38 x7 t250).f1⟩ : S38)])) else (none))) else (none)) else (none))) else (none))) else (none))) else (none)) else (none)) else (none)))) else (some (x9, 0))
def swageref18_Order.l2 : Nat → Int → List (S38) → List (S38) → Int → Int → Option ((List (S38)) × Int)
  | 0, _, _, _, _, _ => none
  | k + 1, x1, x7, x9, x11, x12 => if x12 < (x7.length : Int) then (if 0 ≤ x12 then (if ((rd_T38 x7 x12).f1) = x11 then (swageref18_Order.l2 k x1 (x7.set (x12 : Int).toNat (⟨(rd_T38 x7 x12).f0, x1⟩ : S38)) x9 x11 (wrap64 (x12 + 1))) else (swageref18_Order.l2 k x1 x7 x9 x11 (wrap64 (x12 + 1)))) else (none)) else (swageref18_Order.l1 k x1 x7 x9)
end
def swageref18_Order.f (k : Nat) (l0 : List (S38)) (a1 : Int) : Option ((List (S38)) × Int) := (swageref18_Right.f k l0).bind fun t241 => (if t241 = true then (swageref18_Order.l0 k l0 a1 ([] : List (S38)) 0) else (some (([] : List (S38)), 4)))
theorem swageref18_Order.mono_l : ∀ k, (∀ y0 y1 y2 y3, LeO (swageref18_Order.l0 k y0 y1 y2 y3) (swageref18_Order.l0 (k + 1) y0 y1 y2 y3)) ∧ (∀ y0 y1 y2 y3 y4, LeO (swageref18_Order.j1 k y0 y1 y2 y3 y4) (swageref18_Order.j1 (k + 1) y0 y1 y2 y3 y4)) ∧ (∀ y0 y1 y2, LeO (swageref18_Order.l1 k y0 y1 y2) (swageref18_Order.l1 (k + 1) y0 y1 y2)) ∧ (∀ y0 y1 y2 y3 y4, LeO (swageref18_Order.l2 k y0 y1 y2 y3 y4) (swageref18_Order.l2 (k + 1) y0 y1 y2 y3 y4))
  | 0 => ⟨fun _ _ _ _ r h => by simp [swageref18_Order.l0] at h, fun _ _ _ _ _ r h => by simp [swageref18_Order.j1] at h, fun _ _ _ r h => by simp [swageref18_Order.l1] at h, fun _ _ _ _ _ r h => by simp [swageref18_Order.l2] at h⟩
  | k + 1 => by
    obtain ⟨ih0, ih1, ih2, ih3⟩ := swageref18_Order.mono_l k
    refine ⟨?_, ?_, ?_, ?_⟩
    · intro y0 y1 y2 y3
      unfold swageref18_Order.l0
      repeat' first
      | (with_reducible exact ih0 _ _ _ _)
      | (with_reducible exact ih1 _ _ _ _ _)
      | (with_reducible exact ih2 _ _ _)
      | (with_reducible exact ih3 _ _ _ _ _)
      | (with_reducible exact swageref18_Right.mono _ _)
      | (with_reducible exact swageref18_free.mono _ _)
      | (with_reducible exact LeO.refl _)
      | (with_reducible exact LeO.none _)
      | (with_reducible refine LeO.ite ?_ ?_)
      | (with_reducible refine LeO.bind ?_ (fun _ => ?_))
      | exact ih0 _ _ _ _
      | exact ih1 _ _ _ _ _
      | exact ih2 _ _ _
      | exact ih3 _ _ _ _ _
      | exact swageref18_Right.mono _ _
      | exact swageref18_free.mono _ _
      | exact LeO.none _
      | refine LeO.ite ?_ ?_
      | refine LeO.bind ?_ (fun _ => ?_)
    · intro y0 y1 y2 y3 y4
      unfold swageref18_Order.j1
      repeat' first
      | (with_reducible exact ih0 _ _ _ _)
      | (with_reducible exact ih1 _ _ _ _ _)
      | (with_reducible exact ih2 _ _ _)
      | (with_reducible exact ih3 _ _ _ _ _)
      | (with_reducible exact swageref18_Right.mono _ _)
      | (with_reducible exact swageref18_free.mono _ _)
      | (with_reducible exact LeO.refl _)
      | (with_reducible exact LeO.none _)
      | (with_reducible refine LeO.ite ?_ ?_)
      | (with_reducible refine LeO.bind ?_ (fun _ => ?_))
      | exact ih0 _ _ _ _
      | exact ih1 _ _ _ _ _
      | exact ih2 _ _ _
      | exact ih3 _ _ _ _ _
      | exact swageref18_Right.mono _ _
      | exact swageref18_free.mono _ _
      | exact LeO.none _
      | refine LeO.ite ?_ ?_
      | refine LeO.bind ?_ (fun _ => ?_)
    · intro y0 y1 y2
      unfold swageref18_Order.l1
      repeat' first
      | (with_reducible exact ih0 _ _ _ _)
      | (with_reducible exact ih1 _ _ _ _ _)
      | (with_reducible exact ih2 _ _ _)
      | (with_reducible exact ih3 _ _ _ _ _)
      | (with_reducible exact swageref18_Right.mono _ _)
      | (with_reducible exact swageref18_free.mono _ _)
      | (with_reducible exact LeO.refl _)
      | (with_reducible exact LeO.none _)
      | (with_reducible refine LeO.ite ?_ ?_)
      | (with_reducible refine LeO.bind ?_ (fun _ => ?_))
      | exact ih0 _ _ _ _
      | exact ih1 _ _ _ _ _
      | exact ih2 _ _ _
      | exact ih3 _ _ _ _ _
      | exact swageref18_Right.mono _ _
      | exact swageref18_free.mono _ _
      | exact LeO.none _
      | refine LeO.ite ?_ ?_
      | refine LeO.bind ?_ (fun _ => ?_)
    · intro y0 y1 y2 y3 y4
      unfold swageref18_Order.l2
      repeat' first
      | (with_reducible exact ih0 _ _ _ _)
      | (with_reducible exact ih1 _ _ _ _ _)
      | (with_reducible exact ih2 _ _ _)
      | (with_reducible exact ih3 _ _ _ _ _)
      | (with_reducible exact swageref18_Right.mono _ _)
      | (with_reducible exact swageref18_free.mono _ _)
      | (with_reducible exact LeO.refl _)
      | (with_reducible exact LeO.none _)
      | (with_reducible refine LeO.ite ?_ ?_)
      | (with_reducible refine LeO.bind ?_ (fun _ => ?_))
      | exact ih0 _ _ _ _
      | exact ih1 _ _ _ _ _
      | exact ih2 _ _ _
      | exact ih3 _ _ _ _ _
      | exact swageref18_Right.mono _ _
      | exact swageref18_free.mono _ _
      | exact LeO.none _
      | refine LeO.ite ?_ ?_
      | refine LeO.bind ?_ (fun _ => ?_)
theorem swageref18_Order.mono : ∀ a0 a1 k, LeO (swageref18_Order.f k a0 a1) (swageref18_Order.f (k + 1) a0 a1) := by
  intro a0 a1 k
  obtain ⟨ih0, ih1, ih2, ih3⟩ := swageref18_Order.mono_l k
  unfold swageref18_Order.f
  repeat' first
      | (with_reducible exact ih0 _ _ _ _)
      | (with_reducible exact ih1 _ _ _ _ _)
      | (with_reducible exact ih2 _ _ _)
      | (with_reducible exact ih3 _ _ _ _ _)
      | (with_reducible exact swageref18_Right.mono _ _)
      | (with_reducible exact swageref18_free.mono _ _)
      | (with_reducible exact LeO.refl _)
      | (with_reducible exact LeO.none _)
      | (with_reducible refine LeO.ite ?_ ?_)
      | (with_reducible refine LeO.bind ?_ (fun _ => ?_))
      | exact ih0 _ _ _ _
      | exact ih1 _ _ _ _ _
      | exact ih2 _ _ _
      | exact ih3 _ _ _ _ _
      | exact swageref18_Right.mono _ _
      | exact swageref18_free.mono _ _
      | exact LeO.none _
      | refine LeO.ite ?_ ?_
      | refine LeO.bind ?_ (fun _ => ?_)
def swageref18_Order.T10 : Bool × List (List Nat × List Nat) := (true, [([], []), ([], []), ([0, 1], [0, 1]), ([2], [2]), ([3], [3]), ([], []), ([], []), ([5, 6], [5, 6]), ([7], [7]), ([8], [8]), ([4, 9], [4, 9])])
def swageref18_Order.B10 : List Nat := [0, 0, 3, 7, 15, 0, 0, 96, 224, 480, 1023]
theorem swageref18_Order.tab10 : rtab .any (opsOf Try.f10 10) = swageref18_Order.T10 := by kernel_rfl
theorem swageref18_Order.bits10 : waitsOk swageref18_Order.T10.2 swageref18_Order.B10 = true := by kernel_rfl
def swageref18_Order.T24 : Bool × List (List Nat × List Nat) := (true, [([], []), ([], []), ([], []), ([1, 2], [1, 2]), ([0, 3], [0, 3]), ([], []), ([], []), ([6], [6]), ([5, 7], [5, 7]), ([4, 8, 4], [4, 8]), ([9, 9, 0, 1, 2, 3, 4, 5, 6, 7, 8, 9], [1, 5, 9])])
def swageref18_Order.B24 : List Nat := [0, 0, 0, 6, 15, 0, 0, 64, 224, 511, 1023]
theorem swageref18_Order.tab24 : rtab .any (opsOf Try.f10 24) = swageref18_Order.T24 := by kernel_rfl
theorem swageref18_Order.bits24 : waitsOk swageref18_Order.T24.2 swageref18_Order.B24 = true := by kernel_rfl
set_option maxHeartbeats 8000000 in
set_option maxRecDepth 100000 in
theorem swageref18_Order.calls (k : Nat) (A0 : Option Addr) (c0 : Nat) (l0 : List (S38)) (a1 : Int) (r1 : List (S38)) (r2 : Int) (w : World) (hr0 : Kd.C k38 w A0 l0.length l0) (hc0 : l0.length ≤ c0) (h : swageref18_Order.f k l0 a1 = some (r1, r2)) :
    Calls Try.prog 10 #[.slice A0 l0.length c0, .int .i64 a1] w fun e w' => ∃ v0_ : Value, e = .returned (.tuple #[v0_, .int .i64 r2]) ∧ Kd.R k38 38 w' w.heap.size (fun _ => True) v0_ r1 ∧ Below w.heap.size w w' := by
  have hu38 := Try.underlying38
  have HR0 := Aside0.mk hr0
  have HC0 := Aside0.mk hc0
  clear hr0 hc0
  have HB := Aside0.mk (Below.refl w.heap.size w)
  have H : ((swageref18_Right.f k l0).bind fun t241 => (if t241 = true then (swageref18_Order.l0 k l0 a1 ([] : List (S38)) 0) else (some (([] : List (S38)), 4)))) = some (r1, r2) := h
  clear h
  replace H := Option.bind_eq_some_iff.mp H
  obtain ⟨t241, A30, H⟩ := H
  replace H : (if t241 = true then (swageref18_Order.l0 k l0 a1 ([] : List (S38)) 0) else (some (([] : List (S38)), 4))) = some (r1, r2) := H
  have A3 := Aside0.mk A30
  clear A30
  by_cases c4 : t241 = true
  · subst c4
    have H1 : (swageref18_Order.l0 k l0 a1 ([] : List (S38)) 0) = some (r1, r2) := by rw [if_pos rfl] at H; exact H
    clear H
    have H := H1
    clear H1
    have H' := Aside0.mk H
    clear H
    go_enter Try.func10, Try.ntmps10
    go_wp2_with (first | ((with_reducible refine gate_callee (f := 13) rfl ?_); refine goesL_ (some 14) rfl rfl Try.func13 (by kernel_rfl) rfl #[.slice A0 l0.length c0] rfl (by (try simp only [List.map_toArray, List.map_cons, List.map_nil]); first | done | rfl | (simp only [List.length_drop, List.length_take]; rfl)) ?_; (with_reducible refine (swageref18_Right.calls k _ _ l0 true _ ?side1 ?side2 A3.out).mono ?_); (case side1 => repeat (first | exact HR0.out | (with_reducible refine Kd.C_alloc ?_ _) | (with_reducible refine Kd.C_drewN ?_ _) | (with_reducible refine Kd.C_drew ?_))); (case side2 => exact HC0.out); rintro e w' ⟨rfl, ⟨nd, rfl⟩⟩; refine ⟨_, rfl, ?_⟩))
    go_loopg [7, 8] k (fun kq v7 v8 w' => ∃ (x7_1 : List (S38)) (x8_1 : Int), v8 = .int .i64 x8_1 ∧ Aside0 (swageref18_Order.l0 kq l0 a1 x7_1 x8_1 = some (r1, r2)) ∧ Aside0 (kq ≤ k) ∧ Aside0 (Kd.R k38 38 w' w.heap.size (fun _ => True) v7 x7_1) ∧ Aside0 (Below w.heap.size w w'))
    case atStart => exact ⟨(([] : List (S38))), (0), (by first | rfl | (simp; done) | (simp [*]; done)), H', ⟨Nat.le_refl _⟩, ⟨by first | exact Kd.R_nil _ _ _ _ _ | exact Kd.N_nil _ _ _ _ _ | exact Kd.V_nil _ _ _ _ _ | exact Kd.Q_nil _ _ _ _ _ | exact Kd.S_nil _ _ _ _ _⟩, ⟨by repeat (first | (with_reducible first | exact HB.out | apply below_alloc | apply pw_below_drewN | apply below_drew1) | exact HB.out)⟩⟩
    case round =>
      clear H'
      try clear c1
      try clear p2
      try clear c4
      obtain ⟨x7_1, x8_1, rfl, HA, HK1, HO_7, HB⟩ := hrel
      cases gk with
      | zero => exact absurd HA.out (by simp [swageref18_Order.l0])
      | succ k1 =>
        have H := HA.out
        clear HA
        simp only [swageref18_Order.l0] at H
        by_cases c5 : x8_1 < (l0.length : Int)
        · rw [if_pos c5] at H
          have c5b0 : decide (x8_1 < (l0.length : Int)) = true := decide_eq_true c5
          clear c5
          have HC6 := Aside0.mk H
          clear H
          go_upto_region 8 with (fail)
          go_cut [38] (fun v38 wc => ∃ (kq : Nat) (x38_5 : Bool), v38 = .bool x38_5 ∧ Aside0 (swageref18_Order.j1 kq l0 a1 x7_1 x8_1 x38_5 = some (r1, r2)) ∧ Aside0 (kq ≤ k1) ∧ Aside0 (Kd.R k38 38 wc w.heap.size (fun _ => True) u7 x7_1) ∧ Aside0 (Below w.heap.size w wc))
          case first =>
            have H := HC6.out
            clear HC6
            by_cases c7 : 0 ≤ x8_1
            · rw [if_pos c7] at H
              have c7b0 : decide (0 ≤ x8_1) = true := decide_eq_true c7
              clear c7
              (first | rw [c7b0] | (simp only [i64_w, i32_w]; rw [c7b0]) | skip)
              by_cases c8 : ((rd_T38 l0 x8_1).f0) = a1
              · rw [if_pos c8] at H
                have c8b0 : (((rd_T38 l0 x8_1).f0) == a1) = true := beq_iff_eq.mpr c8
                have c8b1 : (((rd_T38 l0 x8_1).f0) != a1) = false := bne_eq_false_iff_eq.mpr c8
                clear c8
                have H' := Aside0.mk H
                clear H
                have p242 : 0 ≤ (x8_1 : Int) := of_decide_eq_true (by first | (with_reducible assumption) | assumption)
                have q242 : x8_1 < (l0.length : Int) := of_decide_eq_true (by first | (with_reducible assumption) | assumption)
                obtain ⟨ad242, e242, hx242_0, hx242_1⟩ := at_T38 HR0.out x8_1 p242 q242
                cases e242
                replace hx242_0 := (HB.out.cell (World.block_lt_of_cell? w _ hx242_0)).trans hx242_0
                replace hx242_1 := (HB.out.cell (World.block_lt_of_cell? w _ hx242_1)).trans hx242_1
                replace p242 := eq_true p242
                replace q242 := eq_true q242
                go_wp2
                go_meet
                case rel => exact ⟨_, (true), (by first | rfl | (simp; done) | (simp [*]; done)), H', ⟨by have := HK1.out; first | omega | exact Nat.le_refl _⟩, ⟨by (with_reducible repeat (first | apply Kd.R_alloc | apply Kd.R_drewN | apply Kd.R_drew)); exact HO_7.out⟩, ⟨by repeat (first | (with_reducible first | exact HB.out | apply below_alloc | apply pw_below_drewN | apply below_drew1) | exact HB.out)⟩⟩
              · rw [if_neg c8] at H
                have c8b0 : (((rd_T38 l0 x8_1).f0) == a1) = false := beq_eq_false_iff_ne.mpr c8
                have c8b1 : (((rd_T38 l0 x8_1).f0) != a1) = true := bne_iff_ne.mpr c8
                have H' := Aside0.mk H
                clear H
                have p242 : 0 ≤ (x8_1 : Int) := of_decide_eq_true (by first | (with_reducible assumption) | assumption)
                have q242 : x8_1 < (l0.length : Int) := of_decide_eq_true (by first | (with_reducible assumption) | assumption)
                obtain ⟨ad242, e242, hx242_0, hx242_1⟩ := at_T38 HR0.out x8_1 p242 q242
                cases e242
                replace hx242_0 := (HB.out.cell (World.block_lt_of_cell? w _ hx242_0)).trans hx242_0
                replace hx242_1 := (HB.out.cell (World.block_lt_of_cell? w _ hx242_1)).trans hx242_1
                replace p242 := eq_true p242
                replace q242 := eq_true q242
                have p243 : 0 ≤ (x8_1 : Int) := of_decide_eq_true (by first | (with_reducible assumption) | assumption)
                have q243 : x8_1 < (l0.length : Int) := of_decide_eq_true (by first | (with_reducible assumption) | assumption)
                obtain ⟨ad243, e243, hx243_0, hx243_1⟩ := at_T38 HR0.out x8_1 p243 q243
                obtain rfl : ad242 = ad243 := (by injection e243)
                replace hx243_0 := (HB.out.cell (World.block_lt_of_cell? w _ hx243_0)).trans hx243_0
                replace hx243_1 := (HB.out.cell (World.block_lt_of_cell? w _ hx243_1)).trans hx243_1
                replace p243 := eq_true p243
                replace q243 := eq_true q243
                go_wp2
                go_meet
                case rel => exact ⟨_, ((((rd_T38 l0 x8_1).f1) == a1)), (by first | rfl | (simp; done) | (simp [*]; done)), H', ⟨by have := HK1.out; first | omega | exact Nat.le_refl _⟩, ⟨by (with_reducible repeat (first | apply Kd.R_alloc | apply Kd.R_drewN | apply Kd.R_drew)); exact HO_7.out⟩, ⟨by repeat (first | (with_reducible first | exact HB.out | apply below_alloc | apply pw_below_drewN | apply below_drew1) | exact HB.out)⟩⟩
            · rw [if_neg c7] at H
              exact absurd H (by simp)
          case rest =>
            clear HC6
            try clear c1
            try clear p2
            try clear q2
            try clear hx2
            try clear c4
            try clear c5
            try clear c5b0
            try clear c7
            try clear c7b0
            try clear c8
            try clear c8b0
            try clear c8b1
            try clear hx242_0
            try clear hx242_1
            try clear hx243_0
            try clear hx243_1
            try clear p2
            try clear p242
            try clear p243
            try clear q242
            try clear q243
            obtain ⟨kq, x38_5, rfl, HA, HJ5, HO_7, HB⟩ := hcut
            cases kq with
            | zero => exact absurd HA.out (by simp [swageref18_Order.j1])
            | succ kj5 =>
              have H := HA.out
              clear HA
              simp only [swageref18_Order.j1] at H
              by_cases c9 : x38_5 = true
              · subst c9
                have H1 : (some (([] : List (S38)), 1)) = some (r1, r2) := by rw [if_pos rfl] at H; exact H
                clear H
                have H := H1
                clear H1
                simp only [Option.some.injEq, Prod.mk.injEq] at H
                obtain ⟨rfl, rfl⟩ := H
                go_wp2
                go_ret2
                exact ⟨_, by first | rfl | (simp [errW_none, errW_some] <;> rfl) | (simp [*, errW_none, errW_some] <;> rfl), by first | exact Kd.R_nil _ _ _ _ _ | exact Kd.N_nil _ _ _ _ _ | exact Kd.V_nil _ _ _ _ _ | exact Kd.Q_nil _ _ _ _ _ | exact Kd.S_nil _ _ _ _ _, by repeat (first | (with_reducible first | exact HB.out | apply below_alloc | apply pw_below_drewN | apply below_drew1) | exact HB.out)⟩
              · replace c9 := Bool.eq_false_iff.mpr c9
                subst c9
                have H1 : (if 0 ≤ x8_1 then (if x8_1 < (l0.length : Int) then (if ((rd_T38 l0 x8_1).f0) = ((rd_T38 l0 x8_1).f1) then (swageref18_Order.l0 kj5 l0 a1 x7_1 (wrap64 (x8_1 + 1))) else (if x7_1.length < 8796093022208 then (swageref18_Order.l0 kj5 l0 a1 (x7_1 ++ [(⟨(rd_T38 l0 x8_1).f0, (rd_T38 l0 x8_1).f1⟩ : S38)]) (wrap64 (x8_1 + 1))) else (none))) else (none)) else (none)) = some (r1, r2) := by rw [if_neg (show ¬ (false = true) by decide)] at H; exact H
                clear H
                have H := H1
                clear H1
                by_cases c10 : 0 ≤ x8_1
                · rw [if_pos c10] at H
                  have c10b0 : decide (0 ≤ x8_1) = true := decide_eq_true c10
                  clear c10
                  by_cases c11 : x8_1 < (l0.length : Int)
                  · rw [if_pos c11] at H
                    have c11b0 : decide (x8_1 < (l0.length : Int)) = true := decide_eq_true c11
                    clear c11
                    by_cases c12 : ((rd_T38 l0 x8_1).f0) = ((rd_T38 l0 x8_1).f1)
                    · rw [if_pos c12] at H
                      have c12b0 : (((rd_T38 l0 x8_1).f0) == ((rd_T38 l0 x8_1).f1)) = true := beq_iff_eq.mpr c12
                      have c12b1 : (((rd_T38 l0 x8_1).f0) != ((rd_T38 l0 x8_1).f1)) = false := bne_eq_false_iff_eq.mpr c12
                      clear c12
                      have H' := Aside0.mk H
                      clear H
                      try go_wp2
                      have n0_ := Aside0.mk (Kd.R_drew HO_7.out)
                      have n1_ := Aside0.mk (below_drew1 HB.out)
                      clear HO_7
                      clear HB
                      have HO_7 := n0_
                      have HB := n1_
                      clear n0_ n1_
                      have p244 : 0 ≤ (x8_1 : Int) := of_decide_eq_true (by first | (with_reducible assumption) | assumption)
                      have q244 : x8_1 < (l0.length : Int) := of_decide_eq_true (by first | (with_reducible assumption) | assumption)
                      obtain ⟨ad244, e244, hx244_0, hx244_1⟩ := at_T38 HR0.out x8_1 p244 q244
                      have hw244_1 := hx244_1
                      have hw244_0 := hx244_0
                      cases e244
                      replace hx244_0 := (HB.out.cell (World.block_lt_of_cell? w _ hx244_0)).trans hx244_0
                      replace hx244_1 := (HB.out.cell (World.block_lt_of_cell? w _ hx244_1)).trans hx244_1
                      replace p244 := eq_true p244
                      replace q244 := eq_true q244
                      have p245 : 0 ≤ (x8_1 : Int) := of_decide_eq_true (by first | (with_reducible assumption) | assumption)
                      have q245 : x8_1 < (l0.length : Int) := of_decide_eq_true (by first | (with_reducible assumption) | assumption)
                      obtain ⟨ad245, e245, hx245_0, hx245_1⟩ := at_T38 HR0.out x8_1 p245 q245
                      have hw245_1 := hx245_1
                      have hw245_0 := hx245_0
                      obtain rfl : ad244 = ad245 := (by injection e245)
                      replace hx245_0 := (HB.out.cell (World.block_lt_of_cell? w _ hx245_0)).trans hx245_0
                      replace hx245_1 := (HB.out.cell (World.block_lt_of_cell? w _ hx245_1)).trans hx245_1
                      replace p245 := eq_true p245
                      replace q245 := eq_true q245
                      refine start_ (n := 11) (S := fun w' => w'.cell? (ad244.add ((x8_1).toNat * 2)) = some (.int .i64 ((rd_T38 l0 x8_1).f0)) ∧ w'.cell? ⟨(ad244.add ((x8_1).toNat * 2)).block, (ad244.add ((x8_1).toNat * 2)).off + 1, none⟩ = some (.int .i64 ((rd_T38 l0 x8_1).f1)) ∧ w'.cell? (ad244.add ((x8_1).toNat * 2)) = some (.int .i64 ((rd_T38 l0 x8_1).f0)) ∧ w'.cell? ⟨(ad244.add ((x8_1).toNat * 2)).block, (ad244.add ((x8_1).toNat * 2)).off + 1, none⟩ = some (.int .i64 ((rd_T38 l0 x8_1).f1))) (ds := []) #[false, false, false, false, false, false, false, false, false, false, false] (by kernel_rfl) rfl rfl ⟨((HB.out.cell (World.block_lt_of_cell? w _ hw244_0)).trans hw244_0), ((HB.out.cell (World.block_lt_of_cell? w _ hw244_1)).trans hw244_1), ((HB.out.cell (World.block_lt_of_cell? w _ hw245_0)).trans hw245_0), ((HB.out.cell (World.block_lt_of_cell? w _ hw245_1)).trans hw245_1)⟩ (fun hHeld => ?_); refine with_tabW swageref18_Order.tab10 swageref18_Order.bits10 (fun HT_ HW_ => ?_)
                      generalize wc.drew = w13 at HO_7 HB hx244_0 hx244_1 hx245_0 hx245_1 hHeld ⊢
                      refine pure_ (i := 0) (N := some 39) (v := ?_) (a' := ?_) #[true, false, false, false, false, false, false, false, false, false, false] rfl rfl (any_of HT_.out (by kernel_rfl)) (fun _ _ _ h => h) (Or.inl ⟨by rfl, ?_⟩) ?_ ?_
                      rotate_left
                      · intro w'
                        go_simp
                        with_reducible rfl
                      rotate_left
                      · simp only [Act.put, List.setIfInBounds_toArray, List.set_cons_zero, List.set_cons_succ, i64_w, i32_w]
                        rfl
                      refine pure_ (i := 1) (N := some 40) (v := ?_) (a' := ?_) #[true, true, false, false, false, false, false, false, false, false, false] rfl rfl (any_of HT_.out (by kernel_rfl)) (fun _ _ _ h => h) (Or.inl ⟨by rfl, ?_⟩) ?_ ?_
                      rotate_left
                      · intro w'
                        go_simp
                        with_reducible rfl
                      rotate_left
                      · simp only [Act.put, List.setIfInBounds_toArray, List.set_cons_zero, List.set_cons_succ, i64_w, i32_w]
                        rfl
                      refine pure_ (i := 2) (N := some 41) (v := ?_) (a' := ?_) #[true, true, true, false, false, false, false, false, false, false, false] rfl rfl (any_of HT_.out (by kernel_rfl)) (fun _ _ _ h => h) (Or.inl ⟨by rfl, ?_⟩) ?_ ?_
                      rotate_left
                      · intro w'
                        go_simp
                        with_reducible rfl
                      rotate_left
                      · simp only [Act.put, List.setIfInBounds_toArray, List.set_cons_zero, List.set_cons_succ, i64_w, i32_w]
                        rfl
                      refine pure_ (i := 3) (N := some 42) (v := ?_) (a' := ?_) #[true, true, true, true, false, false, false, false, false, false, false] rfl rfl (any_of HT_.out (by kernel_rfl)) (fun _ _ _ h => h) (Or.inl ⟨by rfl, ?_⟩) ?_ ?_
                      rotate_left
                      · intro w'
                        go_simp
                        with_reducible rfl
                      rotate_left
                      · simp only [Act.put, List.setIfInBounds_toArray, List.set_cons_zero, List.set_cons_succ, i64_w, i32_w]
                        rfl
                      refine pure_ (i := 5) (N := some 44) (v := ?_) (a' := ?_) #[true, true, true, true, false, true, false, false, false, false, false] rfl rfl (any_of HT_.out (by kernel_rfl)) (fun _ _ _ h => h) (Or.inl ⟨by rfl, ?_⟩) ?_ ?_
                      rotate_left
                      · intro w'
                        go_simp
                        with_reducible rfl
                      rotate_left
                      · simp only [Act.put, List.setIfInBounds_toArray, List.set_cons_zero, List.set_cons_succ, i64_w, i32_w]
                        rfl
                      refine pure_ (i := 6) (N := some 45) (v := ?_) (a' := ?_) #[true, true, true, true, false, true, true, false, false, false, false] rfl rfl (any_of HT_.out (by kernel_rfl)) (fun _ _ _ h => h) (Or.inl ⟨by rfl, ?_⟩) ?_ ?_
                      rotate_left
                      · intro w'
                        go_simp
                        with_reducible rfl
                      rotate_left
                      · simp only [Act.put, List.setIfInBounds_toArray, List.set_cons_zero, List.set_cons_succ, i64_w, i32_w]
                        rfl
                      refine pure_ (i := 7) (N := some 46) (v := ?_) (a' := ?_) #[true, true, true, true, false, true, true, true, false, false, false] rfl rfl (any_of HT_.out (by kernel_rfl)) (fun _ _ _ h => h) (Or.inl ⟨by rfl, ?_⟩) ?_ ?_
                      rotate_left
                      · intro w'
                        go_simp
                        with_reducible rfl
                      rotate_left
                      · simp only [Act.put, List.setIfInBounds_toArray, List.set_cons_zero, List.set_cons_succ, i64_w, i32_w]
                        rfl
                      refine pure_ (i := 8) (N := some 47) (v := ?_) (a' := ?_) #[true, true, true, true, false, true, true, true, true, false, false] rfl rfl (any_of HT_.out (by kernel_rfl)) (fun _ _ _ h => h) (Or.inl ⟨by rfl, ?_⟩) ?_ ?_
                      rotate_left
                      · intro w'
                        go_simp
                        with_reducible rfl
                      rotate_left
                      · simp only [Act.put, List.setIfInBounds_toArray, List.set_cons_zero, List.set_cons_succ, i64_w, i32_w]
                        rfl
                      refine take_ (i := 4) (N := some 43) (v := ?_) (a' := ?_) #[true, true, true, true, true, true, true, true, true, false, false] rfl rfl (take_ofW HT_.out HW_.out (by kernel_rfl)) (fun _ _ _ h => h) (Or.inl ⟨by rfl, ?_⟩) hHeld ?_ ?_
                      rotate_left
                      · rintro w' ⟨s0, s1, s2, s3⟩
                        go_simp
                        with_reducible rfl
                      rotate_left
                      · simp only [Act.put, List.setIfInBounds_toArray, List.set_cons_zero, List.set_cons_succ, i64_w, i32_w]
                        rfl
                      refine take_ (i := 9) (N := some 48) (v := ?_) (a' := ?_) #[true, true, true, true, true, true, true, true, true, true, false] rfl rfl (take_ofW HT_.out HW_.out (by kernel_rfl)) (fun _ _ _ h => h) (Or.inl ⟨by rfl, ?_⟩) hHeld ?_ ?_
                      rotate_left
                      · rintro w' ⟨s0, s1, s2, s3⟩
                        go_simp
                        with_reducible rfl
                      rotate_left
                      · simp only [Act.put, List.setIfInBounds_toArray, List.set_cons_zero, List.set_cons_succ, i64_w, i32_w]
                        rfl
                      refine pure_ (i := 10) (N := some 49) (v := ?_) (a' := ?_) #[true, true, true, true, true, true, true, true, true, true, true] rfl rfl (any_of HT_.out (by kernel_rfl)) (fun _ _ _ h => h) (Or.inl ⟨by rfl, ?_⟩) ?_ ?_
                      rotate_left
                      · intro w'
                        go_simp
                        with_reducible rfl
                      rotate_left
                      · simp only [Act.put, List.setIfInBounds_toArray, List.set_cons_zero, List.set_cons_succ, i64_w, i32_w]
                        rfl
                      refine done_ (done_of HT_.out (by kernel_rfl)) ?_
                      try go_wp2
                      go_roundg kj5
                      case measure => have := HK1.out; have := HJ5.out; omega
                      case rel => exact ⟨(x7_1), (wrap64 (x8_1 + 1)), (by first | rfl | (simp; done) | (simp [*]; done)), H', ⟨by have := HK1.out; have := HJ5.out; omega⟩, ⟨by (with_reducible repeat (first | apply Kd.R_alloc | apply Kd.R_drewN | apply Kd.R_drew)); exact HO_7.out⟩, ⟨by repeat (first | (with_reducible first | exact HB.out | apply below_alloc | apply pw_below_drewN | apply below_drew1) | exact HB.out)⟩⟩
                    · rw [if_neg c12] at H
                      have c12b0 : (((rd_T38 l0 x8_1).f0) == ((rd_T38 l0 x8_1).f1)) = false := beq_eq_false_iff_ne.mpr c12
                      have c12b1 : (((rd_T38 l0 x8_1).f0) != ((rd_T38 l0 x8_1).f1)) = true := bne_iff_ne.mpr c12
                      by_cases c14 : x7_1.length < 8796093022208
                      · rw [if_pos c14] at H
                        have LMc14 := Aside0.mk c14
                        clear c14
                        obtain ⟨y247, hy247⟩ : ∃ y_ : List (S38), y_ = (x7_1 ++ [(⟨(rd_T38 l0 x8_1).f0, (rd_T38 l0 x8_1).f1⟩ : S38)]) := ⟨_, rfl⟩
                        replace H : (swageref18_Order.l0 kj5 l0 a1 y247 (wrap64 (x8_1 + 1))) = some (r1, r2) := by first | (rw [hy247]; with_reducible exact H) | (have H2_ := (Option.bind_some _ _).symm.trans H; rw [hy247]; with_reducible exact H2_) | (have H2_ := (Option.bind_some _ _).symm.trans H; with_reducible exact H2_) | with_reducible exact H | (rw [hy247]; exact H) | exact H
                        have Ny247 := Aside0.mk hy247
                        clear hy247
                        have H' := Aside0.mk H
                        clear H
                        try go_wp2
                        have n0_ := Aside0.mk (Kd.R_drew HO_7.out)
                        have n1_ := Aside0.mk (below_drew1 HB.out)
                        clear HO_7
                        clear HB
                        have HO_7 := n0_
                        have HB := n1_
                        clear n0_ n1_
                        have p244 : 0 ≤ (x8_1 : Int) := of_decide_eq_true (by first | (with_reducible assumption) | assumption)
                        have q244 : x8_1 < (l0.length : Int) := of_decide_eq_true (by first | (with_reducible assumption) | assumption)
                        obtain ⟨ad244, e244, hx244_0, hx244_1⟩ := at_T38 HR0.out x8_1 p244 q244
                        have hw244_1 := hx244_1
                        have hw244_0 := hx244_0
                        cases e244
                        replace hx244_0 := (HB.out.cell (World.block_lt_of_cell? w _ hx244_0)).trans hx244_0
                        replace hx244_1 := (HB.out.cell (World.block_lt_of_cell? w _ hx244_1)).trans hx244_1
                        replace p244 := eq_true p244
                        replace q244 := eq_true q244
                        have p245 : 0 ≤ (x8_1 : Int) := of_decide_eq_true (by first | (with_reducible assumption) | assumption)
                        have q245 : x8_1 < (l0.length : Int) := of_decide_eq_true (by first | (with_reducible assumption) | assumption)
                        obtain ⟨ad245, e245, hx245_0, hx245_1⟩ := at_T38 HR0.out x8_1 p245 q245
                        have hw245_1 := hx245_1
                        have hw245_0 := hx245_0
                        obtain rfl : ad244 = ad245 := (by injection e245)
                        replace hx245_0 := (HB.out.cell (World.block_lt_of_cell? w _ hx245_0)).trans hx245_0
                        replace hx245_1 := (HB.out.cell (World.block_lt_of_cell? w _ hx245_1)).trans hx245_1
                        replace p245 := eq_true p245
                        replace q245 := eq_true q245
                        refine start_ (n := 11) (S := fun w' => w'.cell? (ad244.add ((x8_1).toNat * 2)) = some (.int .i64 ((rd_T38 l0 x8_1).f0)) ∧ w'.cell? ⟨(ad244.add ((x8_1).toNat * 2)).block, (ad244.add ((x8_1).toNat * 2)).off + 1, none⟩ = some (.int .i64 ((rd_T38 l0 x8_1).f1)) ∧ w'.cell? (ad244.add ((x8_1).toNat * 2)) = some (.int .i64 ((rd_T38 l0 x8_1).f0)) ∧ w'.cell? ⟨(ad244.add ((x8_1).toNat * 2)).block, (ad244.add ((x8_1).toNat * 2)).off + 1, none⟩ = some (.int .i64 ((rd_T38 l0 x8_1).f1))) (ds := []) #[false, false, false, false, false, false, false, false, false, false, false] (by kernel_rfl) rfl rfl ⟨((HB.out.cell (World.block_lt_of_cell? w _ hw244_0)).trans hw244_0), ((HB.out.cell (World.block_lt_of_cell? w _ hw244_1)).trans hw244_1), ((HB.out.cell (World.block_lt_of_cell? w _ hw245_0)).trans hw245_0), ((HB.out.cell (World.block_lt_of_cell? w _ hw245_1)).trans hw245_1)⟩ (fun hHeld => ?_); refine with_tabW swageref18_Order.tab10 swageref18_Order.bits10 (fun HT_ HW_ => ?_)
                        generalize wc.drew = w15 at HO_7 HB hx244_0 hx244_1 hx245_0 hx245_1 hHeld ⊢
                        refine pure_ (i := 0) (N := some 39) (v := ?_) (a' := ?_) #[true, false, false, false, false, false, false, false, false, false, false] rfl rfl (any_of HT_.out (by kernel_rfl)) (fun _ _ _ h => h) (Or.inl ⟨by rfl, ?_⟩) ?_ ?_
                        rotate_left
                        · intro w'
                          go_simp
                          with_reducible rfl
                        rotate_left
                        · simp only [Act.put, List.setIfInBounds_toArray, List.set_cons_zero, List.set_cons_succ, i64_w, i32_w]
                          rfl
                        refine pure_ (i := 1) (N := some 40) (v := ?_) (a' := ?_) #[true, true, false, false, false, false, false, false, false, false, false] rfl rfl (any_of HT_.out (by kernel_rfl)) (fun _ _ _ h => h) (Or.inl ⟨by rfl, ?_⟩) ?_ ?_
                        rotate_left
                        · intro w'
                          go_simp
                          with_reducible rfl
                        rotate_left
                        · simp only [Act.put, List.setIfInBounds_toArray, List.set_cons_zero, List.set_cons_succ, i64_w, i32_w]
                          rfl
                        refine pure_ (i := 2) (N := some 41) (v := ?_) (a' := ?_) #[true, true, true, false, false, false, false, false, false, false, false] rfl rfl (any_of HT_.out (by kernel_rfl)) (fun _ _ _ h => h) (Or.inl ⟨by rfl, ?_⟩) ?_ ?_
                        rotate_left
                        · intro w'
                          go_simp
                          with_reducible rfl
                        rotate_left
                        · simp only [Act.put, List.setIfInBounds_toArray, List.set_cons_zero, List.set_cons_succ, i64_w, i32_w]
                          rfl
                        refine pure_ (i := 3) (N := some 42) (v := ?_) (a' := ?_) #[true, true, true, true, false, false, false, false, false, false, false] rfl rfl (any_of HT_.out (by kernel_rfl)) (fun _ _ _ h => h) (Or.inl ⟨by rfl, ?_⟩) ?_ ?_
                        rotate_left
                        · intro w'
                          go_simp
                          with_reducible rfl
                        rotate_left
                        · simp only [Act.put, List.setIfInBounds_toArray, List.set_cons_zero, List.set_cons_succ, i64_w, i32_w]
                          rfl
                        refine pure_ (i := 5) (N := some 44) (v := ?_) (a' := ?_) #[true, true, true, true, false, true, false, false, false, false, false] rfl rfl (any_of HT_.out (by kernel_rfl)) (fun _ _ _ h => h) (Or.inl ⟨by rfl, ?_⟩) ?_ ?_
                        rotate_left
                        · intro w'
                          go_simp
                          with_reducible rfl
                        rotate_left
                        · simp only [Act.put, List.setIfInBounds_toArray, List.set_cons_zero, List.set_cons_succ, i64_w, i32_w]
                          rfl
                        refine pure_ (i := 6) (N := some 45) (v := ?_) (a' := ?_) #[true, true, true, true, false, true, true, false, false, false, false] rfl rfl (any_of HT_.out (by kernel_rfl)) (fun _ _ _ h => h) (Or.inl ⟨by rfl, ?_⟩) ?_ ?_
                        rotate_left
                        · intro w'
                          go_simp
                          with_reducible rfl
                        rotate_left
                        · simp only [Act.put, List.setIfInBounds_toArray, List.set_cons_zero, List.set_cons_succ, i64_w, i32_w]
                          rfl
                        refine pure_ (i := 7) (N := some 46) (v := ?_) (a' := ?_) #[true, true, true, true, false, true, true, true, false, false, false] rfl rfl (any_of HT_.out (by kernel_rfl)) (fun _ _ _ h => h) (Or.inl ⟨by rfl, ?_⟩) ?_ ?_
                        rotate_left
                        · intro w'
                          go_simp
                          with_reducible rfl
                        rotate_left
                        · simp only [Act.put, List.setIfInBounds_toArray, List.set_cons_zero, List.set_cons_succ, i64_w, i32_w]
                          rfl
                        refine pure_ (i := 8) (N := some 47) (v := ?_) (a' := ?_) #[true, true, true, true, false, true, true, true, true, false, false] rfl rfl (any_of HT_.out (by kernel_rfl)) (fun _ _ _ h => h) (Or.inl ⟨by rfl, ?_⟩) ?_ ?_
                        rotate_left
                        · intro w'
                          go_simp
                          with_reducible rfl
                        rotate_left
                        · simp only [Act.put, List.setIfInBounds_toArray, List.set_cons_zero, List.set_cons_succ, i64_w, i32_w]
                          rfl
                        refine take_ (i := 4) (N := some 43) (v := ?_) (a' := ?_) #[true, true, true, true, true, true, true, true, true, false, false] rfl rfl (take_ofW HT_.out HW_.out (by kernel_rfl)) (fun _ _ _ h => h) (Or.inl ⟨by rfl, ?_⟩) hHeld ?_ ?_
                        rotate_left
                        · rintro w' ⟨s0, s1, s2, s3⟩
                          go_simp
                          with_reducible rfl
                        rotate_left
                        · simp only [Act.put, List.setIfInBounds_toArray, List.set_cons_zero, List.set_cons_succ, i64_w, i32_w]
                          rfl
                        refine take_ (i := 9) (N := some 48) (v := ?_) (a' := ?_) #[true, true, true, true, true, true, true, true, true, true, false] rfl rfl (take_ofW HT_.out HW_.out (by kernel_rfl)) (fun _ _ _ h => h) (Or.inl ⟨by rfl, ?_⟩) hHeld ?_ ?_
                        rotate_left
                        · rintro w' ⟨s0, s1, s2, s3⟩
                          go_simp
                          with_reducible rfl
                        rotate_left
                        · simp only [Act.put, List.setIfInBounds_toArray, List.set_cons_zero, List.set_cons_succ, i64_w, i32_w]
                          rfl
                        refine pure_ (i := 10) (N := some 49) (v := ?_) (a' := ?_) #[true, true, true, true, true, true, true, true, true, true, true] rfl rfl (any_of HT_.out (by kernel_rfl)) (fun _ _ _ h => h) (Or.inl ⟨by rfl, ?_⟩) ?_ ?_
                        rotate_left
                        · intro w'
                          go_simp
                          with_reducible rfl
                        rotate_left
                        · simp only [Act.put, List.setIfInBounds_toArray, List.set_cons_zero, List.set_cons_succ, i64_w, i32_w]
                          rfl
                        refine done_ (done_of HT_.out (by kernel_rfl)) ?_
                        have p246 : 0 ≤ (x8_1 : Int) := of_decide_eq_true (by first | (with_reducible assumption) | assumption)
                        have q246 : x8_1 < (l0.length : Int) := of_decide_eq_true (by first | (with_reducible assumption) | assumption)
                        obtain ⟨ad246, e246, hx246_0, hx246_1⟩ := at_T38 HR0.out x8_1 p246 q246
                        obtain rfl : ad244 = ad246 := (by injection e246)
                        replace hx246_0 := (HB.out.cell (World.block_lt_of_cell? w _ hx246_0)).trans hx246_0
                        replace hx246_1 := (HB.out.cell (World.block_lt_of_cell? w _ hx246_1)).trans hx246_1
                        replace p246 := eq_true p246
                        replace q246 := eq_true q246
                        try go_wp2_with (first | ((with_reducible refine gate_builtin (b := .append) (xs := #[.tmp 50, .tmp 55]) rfl ?_); at_builtin; refine Kd.R_append k38 (w0 := w) w.heap.size rfl (.tmp 50) (.tmp 55) 22 38 (.agg #[(.int .i64 0), (.int .i64 0)]) 16 rfl Try.underlying22 info38 rfl (by decide) (by omega) u7 x7_1 (⟨(rd_T38 l0 x8_1).f0, (rd_T38 l0 x8_1).f1⟩ : S38) [.int .i64 ((rd_T38 l0 x8_1).f0), .int .i64 ((rd_T38 l0 x8_1).f1)] (fun _ => True) (fun _ => False) rfl rfl ?aP (fun _ hk => hk.elim) ?aF ?aO ?aB ?aS ?aL ?_; (case aP => exact k38_mkM _ _ _ (⟨(rd_T38 l0 x8_1).f0, (rd_T38 l0 x8_1).f1⟩ : S38)); (case aB => exact (by repeat (first | (with_reducible first | exact HB.out | apply below_alloc | apply pw_below_drewN | apply below_drew1) | exact HB.out))); (case aF => exact (fun _ _ => trivial)); (case aO => exact (by (with_reducible repeat (first | apply Kd.R_alloc | apply Kd.R_drewN | apply Kd.R_drew)); exact HO_7.out)); (case aS => exact (below_size (by repeat (first | (with_reducible first | exact HB.out | apply below_alloc | apply pw_below_drewN | apply below_drew1) | exact HB.out)))); (case aL => have := LMc14.out; omega); intro v248 w16 ho hb hg hat; rw [← Ny247.out] at ho; have n0_ := Aside0.mk (hb); have n1_ := Aside0.mk (ho); clear HB; clear HO_7; have HB := n0_; have HO249 := n1_; clear n0_ n1_; clear ho hb hg hat))
                        go_roundg kj5
                        case measure => have := HK1.out; have := HJ5.out; omega
                        case rel => exact ⟨(y247), (wrap64 (x8_1 + 1)), (by first | rfl | (simp; done) | (simp [*]; done)), H', ⟨by have := HK1.out; have := HJ5.out; omega⟩, ⟨by (with_reducible repeat (first | apply Kd.R_alloc | apply Kd.R_drewN | apply Kd.R_drew)); exact HO249.out⟩, ⟨by repeat (first | (with_reducible first | exact HB.out | apply below_alloc | apply pw_below_drewN | apply below_drew1) | exact HB.out)⟩⟩
                      · rw [if_neg c14] at H
                        exact absurd H (by simp)
                  · rw [if_neg c11] at H
                    exact absurd H (by simp)
                · rw [if_neg c10] at H
                  exact absurd H (by simp)
        · rw [if_neg c5] at H
          have c5b0 : decide (x8_1 < (l0.length : Int)) = false := decide_eq_false c5
          clear c5
          have H' := Aside0.mk H
          clear H
          go_wp2
          go_loopg [7, 9] k1 (fun kq v7 v9 w' => ∃ (x7_2 : List (S38)) (x9_2 : List (S38)), Aside0 (swageref18_Order.l1 kq a1 x7_2 x9_2 = some (r1, r2)) ∧ Aside0 (kq ≤ k1) ∧ Aside0 (Kd.R k38 38 w' w.heap.size (fun k_ => some k_ ≠ (v9 : Value).ownBlock) v7 x7_2) ∧ Aside0 (Kd.R k38 38 w' w.heap.size (fun k_ => some k_ ≠ (v7 : Value).ownBlock) v9 x9_2) ∧ Aside0 (Below w.heap.size w w'))
          case atStart => exact ⟨(x7_1), (([] : List (S38))), H', ⟨Nat.le_refl _⟩, ⟨by (with_reducible repeat (first | apply Kd.R_alloc | apply Kd.R_drewN | apply Kd.R_drew)); exact Kd.R_mono HO_7.out (fun _ hk => (by simp [Value.ownBlock]))⟩, ⟨by first | exact Kd.R_nil _ _ _ _ _ | exact Kd.N_nil _ _ _ _ _ | exact Kd.V_nil _ _ _ _ _ | exact Kd.Q_nil _ _ _ _ _ | exact Kd.S_nil _ _ _ _ _⟩, ⟨by repeat (first | (with_reducible first | exact HB.out | apply below_alloc | apply pw_below_drewN | apply below_drew1) | exact HB.out)⟩⟩
          case round =>
            clear H'
            try clear c1
            try clear p2
            try clear q2
            try clear hx2
            try clear c4
            try clear c5
            try clear c5b0
            try clear p6
            try clear c7
            try clear c7b0
            try clear c8
            try clear c8b0
            try clear c8b1
            try clear c9
            try clear c10
            try clear c10b0
            try clear c11
            try clear c11b0
            try clear c12
            try clear c12b0
            try clear c12b1
            try clear c13
            try clear c14
            try clear hx242_0
            try clear hx242_1
            try clear hx243_0
            try clear hx243_1
            try clear hx244_0
            try clear hx244_1
            try clear hx245_0
            try clear hx245_1
            try clear hx246_0
            try clear hx246_1
            try clear p2
            try clear p242
            try clear p243
            try clear p244
            try clear p245
            try clear p246
            try clear q2
            try clear q242
            try clear q243
            try clear q244
            try clear q245
            try clear q246
            obtain ⟨x7_2, x9_2, HA, HK2, HO_7, HO_9, HB⟩ := hrel
            cases gk with
            | zero => exact absurd HA.out (by simp [swageref18_Order.l1])
            | succ k2 =>
              have H := HA.out
              clear HA
              simp only [swageref18_Order.l1] at H
              by_cases c17 : (x7_2.length : Int) > 0
              · rw [if_pos c17] at H
                have c17b0 : decide (0 < (x7_2.length : Int)) = true := decide_eq_true c17
                have c17b1 : decide (0 < x7_2.length) = true := decide_eq_true (by omega)
                clear c17
                replace H := Option.bind_eq_some_iff.mp H
                obtain ⟨t250, A180, H⟩ := H
                replace H : (if t250 < 0 then (if 0 < (x7_2.length : Int) then (if x9_2.length < 8796093022208 then (swageref18_Order.l2 k2 a1 x7_2 (x9_2 ++ [(⟨a1, (rd_T38 x7_2 0).f0⟩ : S38)]) ((rd_T38 x7_2 0).f0) 0) else (none)) else (none)) else (if 0 ≤ t250 then (if t250 < (x7_2.length : Int) then (if x9_2.length < 8796093022208 then ((some (([] : List (S38)) : List (S38))).bind fun y261 => (if t250 ≤ (x7_2.length : Int) then ((some (x7_2.take (t250 : Int).toNat : List (S38))).bind fun y264 => (if y261.length + y264.length < 8796093022208 then ((some (y261 ++ y264 : List (S38))).bind fun y268 => (if 0 ≤ (wrap64 (t250 + 1)) then (if (wrap64 (t250 + 1)) ≤ (x7_2.length : Int) then ((some (x7_2.drop ((wrap64 (t250 + 1)) : Int).toNat : List (S38))).bind fun y271 => (if y268.length + y271.length < 8796093022208 then (swageref18_Order.l1 k2 a1 (y268 ++ y271) (x9_2 ++ [(⟨(rd_T38 x7_2 t250).f0, (rd_T38 x7_2 t250).f1⟩ : S38)])) else (none))) else (none)) else (none))) else (none))) else (none))) else (none)) else (none)) else (none))) = some (r1, r2) := H
                have A18 := Aside0.mk A180
                clear A180
                by_cases c19 : t250 < 0
                · rw [if_pos c19] at H
                  have c19b0 : decide (t250 < 0) = true := decide_eq_true c19
                  clear c19
                  by_cases c20 : 0 < (x7_2.length : Int)
                  · rw [if_pos c20] at H
                    have c20b0 : decide (0 < (x7_2.length : Int)) = true := decide_eq_true c20
                    have c20b1 : decide (0 < x7_2.length) = true := decide_eq_true (by omega)
                    clear c20
                    by_cases c21 : x9_2.length < 8796093022208
                    · rw [if_pos c21] at H
                      have LMc21 := Aside0.mk c21
                      clear c21
                      obtain ⟨y252, hy252⟩ : ∃ y_ : List (S38), y_ = (x9_2 ++ [(⟨a1, (rd_T38 x7_2 0).f0⟩ : S38)]) := ⟨_, rfl⟩
                      replace H : (swageref18_Order.l2 k2 a1 x7_2 y252 ((rd_T38 x7_2 0).f0) 0) = some (r1, r2) := by first | (rw [hy252]; with_reducible exact H) | (have H2_ := (Option.bind_some _ _).symm.trans H; rw [hy252]; with_reducible exact H2_) | (have H2_ := (Option.bind_some _ _).symm.trans H; with_reducible exact H2_) | with_reducible exact H | (rw [hy252]; exact H) | exact H
                      have Ny252 := Aside0.mk hy252
                      clear hy252
                      have H' := Aside0.mk H
                      clear H
                      obtain ⟨Ao22, co22, eo22⟩ := Kd.R_slice HO_7.out
                      subst eo22
                      go_wp2_with (first | ((with_reducible refine gate_callee (f := 32) rfl ?_); refine goesL_ (some 61) rfl rfl Try.func32 (by kernel_rfl) rfl #[.slice Ao22 x7_2.length co22] rfl (by (try simp only [List.map_toArray, List.map_cons, List.map_nil]); first | done | rfl | (simp only [List.length_drop, List.length_take]; rfl)) ?_; (with_reducible refine (swageref18_free.calls k2 _ _ x7_2 t250 _ ?side1 ?side2 A18.out).mono ?_); (case side1 => repeat (first | exact (Kd.R_reads' HO_7.out).2.2 | (with_reducible refine Kd.C_alloc ?_ _) | (with_reducible refine Kd.C_drewN ?_ _) | (with_reducible refine Kd.C_drew ?_))); (case side2 => exact (Kd.R_reads' HO_7.out).2.1); rintro e w' ⟨rfl, ⟨nd, rfl⟩⟩; refine ⟨_, rfl, ?_⟩; have p251 : 0 ≤ (0 : Int) := (by omega); have q251 : 0 < (x7_2.length : Int) := of_decide_eq_true (by first | (with_reducible assumption) | assumption); obtain ⟨ad251, e251, hx251_0, hx251_1⟩ := at_T38 (Kd.R_reads' HO_7.out).2.2 0 p251 q251; cases e251; have qi251 : (0 < x7_2.length) = True := eq_true (by omega); (try rw [show ((0 : Int)).toNat = 0 from rfl] at hx251_0); (try rw [show 0 * 2 = 0 from rfl] at hx251_0); (try rw [Addr.add_zero'] at hx251_0); (try rw [show ((0 : Int)).toNat = 0 from rfl] at hx251_1); (try rw [show 0 * 2 = 0 from rfl] at hx251_1); (try rw [Addr.add_zero'] at hx251_1); replace p251 := eq_true p251; replace q251 := eq_true q251) | ((with_reducible refine gate_builtin (b := .append) (xs := #[.tmp 68, .tmp 72]) rfl ?_); at_builtin; refine Kd.R_append k38 (w0 := w) w.heap.size rfl (.tmp 68) (.tmp 72) 22 38 (.agg #[(.int .i64 0), (.int .i64 0)]) 16 rfl Try.underlying22 info38 rfl (by decide) (by omega) u9 x9_2 (⟨a1, (rd_T38 x7_2 0).f0⟩ : S38) [.int .i64 a1, .int .i64 ((rd_T38 x7_2 0).f0)] (fun k_ => some k_ ≠ (.slice (some ad251) x7_2.length co22 : Value).ownBlock) (fun _ => False) rfl rfl ?aP (fun _ hk => hk.elim) ?aF ?aO ?aB ?aS ?aL ?_; (case aP => exact k38_mkM _ _ _ (⟨a1, (rd_T38 x7_2 0).f0⟩ : S38)); (case aB => exact (by repeat (first | (with_reducible first | exact HB.out | apply below_alloc | apply pw_below_drewN | apply below_drew1) | exact HB.out))); (case aF => exact (fun k_ hk => Kd.fresh' (Kd.R_lt (by (with_reducible repeat (first | apply Kd.R_alloc | apply Kd.R_drewN | apply Kd.R_drew)); exact HO_7.out)) k_ hk)); (case aO => exact (by (with_reducible repeat (first | apply Kd.R_alloc | apply Kd.R_drewN | apply Kd.R_drew)); exact HO_9.out)); (case aS => exact (below_size (by repeat (first | (with_reducible first | exact HB.out | apply below_alloc | apply pw_below_drewN | apply below_drew1) | exact HB.out)))); (case aL => have := LMc21.out; omega); intro v253 w23 ho hb hg hat; rw [← Ny252.out] at ho; have n0_ := Aside0.mk (Kd.R_after (ok := (fun _ => True)) (by (with_reducible repeat (first | apply Kd.R_alloc | apply Kd.R_drewN | apply Kd.R_drew)); exact Kd.R_mono HO_7.out (fun _ hk => ⟨trivial, hk⟩)) hg hat); have n1_ := Aside0.mk (hb); have n2_ := Aside0.mk (ho); clear HO_7; clear HB; clear HO_9; have HO_7 := n0_; have HB := n1_; have HO254 := n2_; clear n0_ n1_ n2_; clear ho hb hg hat))
                      go_loopg [12] k2 (fun kq v12 w' => ∃ (x7_3 : List (S38)) (x12_3 : Int), v12 = .int .i64 x12_3 ∧ Aside0 (swageref18_Order.l2 kq a1 x7_3 y252 ((rd_T38 x7_2 0).f0) x12_3 = some (r1, r2)) ∧ Aside0 (kq ≤ k2) ∧ Aside0 (Kd.R k38 38 w' w.heap.size (fun k_ => some k_ ≠ (v253 : Value).ownBlock) (.slice (some ad251) x7_2.length co22) x7_3) ∧ Aside0 (Kd.R k38 38 w' w.heap.size (fun k_ => some k_ ≠ ((.slice (some ad251) x7_2.length co22) : Value).ownBlock) v253 y252) ∧ Aside0 (Below w.heap.size w w'))
                      case atStart => exact ⟨(x7_2), (0), (by first | rfl | (simp; done) | (simp [*]; done)), H', ⟨Nat.le_refl _⟩, ⟨by (with_reducible repeat (first | apply Kd.R_alloc | apply Kd.R_drewN | apply Kd.R_drew)); exact Kd.R_mono HO_7.out (fun _ hk => hk.2)⟩, ⟨by (with_reducible repeat (first | apply Kd.R_alloc | apply Kd.R_drewN | apply Kd.R_drew)); exact HO254.out⟩, ⟨by repeat (first | (with_reducible first | exact HB.out | apply below_alloc | apply pw_below_drewN | apply below_drew1) | exact HB.out)⟩⟩
                      case round =>
                        clear H'
                        try clear c1
                        try clear c2
                        try clear p2
                        try clear q2
                        try clear hx2
                        try clear qi2
                        try clear c3
                        try clear c4
                        try clear c5
                        try clear c5b0
                        try clear p6
                        try clear c7
                        try clear c7b0
                        try clear c8
                        try clear c8b0
                        try clear c8b1
                        try clear c9
                        try clear c10
                        try clear c10b0
                        try clear c11
                        try clear c11b0
                        try clear c12
                        try clear c12b0
                        try clear c12b1
                        try clear c13
                        try clear c14
                        try clear c17
                        try clear c17b0
                        try clear c17b1
                        try clear c19
                        try clear c19b0
                        try clear c20
                        try clear c20b0
                        try clear c20b1
                        try clear c21
                        try clear hx242_0
                        try clear hx242_1
                        try clear hx243_0
                        try clear hx243_1
                        try clear hx244_0
                        try clear hx244_1
                        try clear hx245_0
                        try clear hx245_1
                        try clear hx246_0
                        try clear hx246_1
                        try clear hx251_0
                        try clear hx251_1
                        try clear p2
                        try clear p242
                        try clear p243
                        try clear p244
                        try clear p245
                        try clear p246
                        try clear p251
                        try clear p6
                        try clear q2
                        try clear q242
                        try clear q243
                        try clear q244
                        try clear q245
                        try clear q246
                        try clear q251
                        obtain ⟨x7_3, x12_3, rfl, HA, HK3, HO_7, HO_9, HB⟩ := hrel
                        have hl7_3 := (Kd.R_reads' HO_7.out).1
                        rw [hl7_3] at HO_7
                        (try simp only [hl7_3])
                        (try simp only [hl7_3] at HO_9)
                        cases gk with
                        | zero => exact absurd HA.out (by simp [swageref18_Order.l2])
                        | succ k3 =>
                          have H := HA.out
                          clear HA
                          simp only [swageref18_Order.l2] at H
                          by_cases c24 : x12_3 < (x7_3.length : Int)
                          · rw [if_pos c24] at H
                            have c24b0 : decide (x12_3 < (x7_3.length : Int)) = true := decide_eq_true c24
                            clear c24
                            by_cases c25 : 0 ≤ x12_3
                            · rw [if_pos c25] at H
                              have c25b0 : decide (0 ≤ x12_3) = true := decide_eq_true c25
                              clear c25
                              by_cases c26 : ((rd_T38 x7_3 x12_3).f1) = ((rd_T38 x7_2 0).f0)
                              · rw [if_pos c26] at H
                                have c26b0 : (((rd_T38 x7_3 x12_3).f1) == ((rd_T38 x7_2 0).f0)) = true := beq_iff_eq.mpr c26
                                have c26b1 : (((rd_T38 x7_3 x12_3).f1) != ((rd_T38 x7_2 0).f0)) = false := bne_eq_false_iff_eq.mpr c26
                                clear c26
                                obtain ⟨y256, hy256⟩ : ∃ y_ : List (S38), y_ = (x7_3.set (x12_3 : Int).toNat (⟨(rd_T38 x7_3 x12_3).f0, a1⟩ : S38)) := ⟨_, rfl⟩
                                replace H : (swageref18_Order.l2 k3 a1 y256 y252 ((rd_T38 x7_2 0).f0) (wrap64 (x12_3 + 1))) = some (r1, r2) := by first | (rw [hy256]; with_reducible exact H) | (have H2_ := (Option.bind_some _ _).symm.trans H; rw [hy256]; with_reducible exact H2_) | (have H2_ := (Option.bind_some _ _).symm.trans H; with_reducible exact H2_) | with_reducible exact H | (rw [hy256]; exact H) | exact H
                                have Ny256 := Aside0.mk hy256
                                clear hy256
                                have H' := Aside0.mk H
                                clear H
                                have p255 : 0 ≤ (x12_3 : Int) := of_decide_eq_true (by first | (with_reducible assumption) | assumption)
                                have q255 : x12_3 < (x7_3.length : Int) := of_decide_eq_true (by first | (with_reducible assumption) | assumption)
                                obtain ⟨ad255, e255, hx255_0, hx255_1⟩ := at_T38 (Kd.R_reads' HO_7.out).2.2 x12_3 p255 q255
                                obtain rfl : ad251 = ad255 := (by injection e255)
                                replace p255 := eq_true p255
                                replace q255 := eq_true q255
                                have p27 : 0 ≤ (x12_3 : Int) := of_decide_eq_true (by first | (with_reducible assumption) | assumption)
                                have q27 : (x12_3 : Int) < ((x7_3.length : Int) : Int) := of_decide_eq_true (by first | (with_reducible assumption) | assumption)
                                obtain ⟨go27, co27, eo27, gb27, gl27, cl27, HG27⟩ := Kd.R_form HO_7.out (by omega)
                                (first | cases eo27 | (injection eo27 with ea_ en_ ec_; (first | subst ea_ | (injection ea_ with ea_; subst ea_)); subst ec_; clear en_))
                                have GB27 := Aside0.mk gb27
                                have GG27 := Aside0.mk HG27
                                clear gb27 gl27 HG27
                                (first | simp only [add_plain] at hx251_0 | skip)
                                (first | simp only [add_plain] at hx251_1 | skip)
                                (first | simp only [add_plain] at hx255_0 | skip)
                                (first | simp only [add_plain] at hx255_1 | skip)
                                obtain ⟨ce27, hcl27, hM27, hcc27, hfr27⟩ := Kd.R_elem HO_7.out z38 (x12_3 : Int) p27 q27
                                obtain rfl := k38_openM hM27
                                have hx27_0 : wr.cell? ⟨go27, (x12_3 : Int).toNat * 2, none⟩ = some (.int .i64 ((rd_T38 x7_3 x12_3).f0)) := hcc27 0 _ rfl
                                have hx27_1 : wr.cell? ⟨go27, (x12_3 : Int).toNat * 2 + 1, none⟩ = some (.int .i64 ((rd_T38 x7_3 x12_3).f1)) := hcc27 1 _ rfl
                                have hf27_0 : wr.frozen? ⟨go27, (x12_3 : Int).toNat * 2, none⟩ = false := hfr27 0
                                have hf27_1 : wr.frozen? ⟨go27, (x12_3 : Int).toNat * 2 + 1, none⟩ = false := hfr27 1
                                clear hcl27 hcc27 hfr27 hM27
                                replace p27 := eq_true p27
                                replace q27 := eq_true q27
                                have HX28 := Aside0.mk (show Kd.R k38 38 wr w.heap.size (fun k_ => some k_ ≠ (v253 : Value).ownBlock) (.slice (some ⟨go27, 0, none⟩) x7_3.length co22) x7_3 from (by (with_reducible repeat (first | apply Kd.R_alloc | apply Kd.R_drewN | apply Kd.R_drew)); exact HO_7.out))
                                obtain ⟨ce28, hcl28, hM28, hcc28, hfr28⟩ := Kd.R_elem HX28.out z38 (x12_3 : Int) (of_decide_eq_true (by first | (with_reducible assumption) | assumption)) (by have h_ : (x12_3 : Int) < ((x7_3.length : Int) : Int) := of_decide_eq_true (by first | (with_reducible assumption) | assumption); first | exact h_ | (have e_ := (Kd.R_reads' HO_7.out).1; omega) | simpa using h_)
                                obtain rfl := k38_openM hM28
                                have HP28 := Kd.R_seg HX28.out (x12_3 : Int) (of_decide_eq_true (by first | (with_reducible assumption) | assumption)) (by have h_ : (x12_3 : Int) < ((x7_3.length : Int) : Int) := of_decide_eq_true (by first | (with_reducible assumption) | assumption); first | exact h_ | (have e_ := (Kd.R_reads' HO_7.out).1; omega) | simpa using h_) (seg := [.int .i64 a1]) (j := 1) hcl28 hcc28 (show 2 ≤ 2 from by decide) (x' := (⟨(rd_T38 x7_3 x12_3).f0, a1⟩ : S38)) (k38_mkM _ _ _ (⟨(rd_T38 x7_3 x12_3).f0, a1⟩ : S38) ) (fun _ hk => hk)
                                have hx28_1 := hcc28 1 _ rfl
                                (try simp only [show (k38).sz = 2 from rfl, Nat.mul_one, Nat.add_zero] at hx28_1)
                                have hf28_1 := hfr28 1
                                (try simp only [show (k38).sz = 2 from rfl, Nat.mul_one, Nat.add_zero] at hf28_1)
                                clear hcl28 hcc28 hfr28 hM28
                                go_wp2_with (first | ((with_reducible refine gate_store (t := 3) (p := 91) rfl ?_); refine store_event (t := 3) (p := 91) (v := ?vo_w29) (w1 := (wr.setCell ⟨go27, (x12_3 : Int).toNat * 2 + 1, none⟩ (.int .i64 a1))) ?hg ?ho ?hn ?hr ?_; (case ho => rfl); (case hg => rfl); (case hn => rfl); (case hr => first | (go_simp; done) | (go_simp; rfl)); intro w29 hw; have hg : wr.grownBy w29 (some go27) := (by rw [hw]; exact HP28.2); have hp_ : Kd.R k38 38 w29 w.heap.size (fun k_ => some k_ ≠ (v253 : Value).ownBlock) (.slice (some ⟨go27, 0, none⟩) x7_3.length co22) y256 := (by rw [hw, Ny256.out]; exact HP28.1); clear HP28; have n0_ := Aside0.mk (hp_); have n1_ := Aside0.mk (Kd.R_after (v := (.slice (some ⟨go27, 0, none⟩) x7_3.length co22)) (v1 := (.slice (some ⟨go27, 0, none⟩) x7_3.length co22)) (ok := (fun _ => True)) (by (with_reducible repeat (first | apply Kd.R_alloc | apply Kd.R_drewN | apply Kd.R_drew)); exact Kd.R_mono HO_9.out (fun _ hk => ⟨trivial, hk⟩)) hg (.inl rfl)); have n2_ := Aside0.mk ((by rw [hw]; exact below_set (HB.out) GB27.out : Below w.heap.size w w29)); clear HO_7; clear HO_9; clear HB; have HO_7 := n0_; have HO_9 := n1_; have HB := n2_; clear n0_ n1_ n2_; clear hg hw hp_))
                                (try simp only [← hl7_3])
                                go_roundg k3
                                case measure => have := HK1.out; have := HK2.out; have := HK3.out; omega
                                case rel => exact ⟨(y256), (wrap64 (x12_3 + 1)), (by first | rfl | (simp; done) | (simp [*]; done)), H', ⟨by have := HK1.out; have := HK2.out; have := HK3.out; omega⟩, ⟨by (try simp only [hl7_3]); (with_reducible repeat (first | apply Kd.R_alloc | apply Kd.R_drewN | apply Kd.R_drew)); exact HO_7.out⟩, ⟨by (try simp only [hl7_3]); (with_reducible repeat (first | apply Kd.R_alloc | apply Kd.R_drewN | apply Kd.R_drew)); exact Kd.R_mono HO_9.out (fun _ hk => hk.2)⟩, ⟨by repeat (first | (with_reducible first | exact HB.out | apply below_alloc | apply pw_below_drewN | apply below_drew1) | exact HB.out)⟩⟩
                              · rw [if_neg c26] at H
                                have c26b0 : (((rd_T38 x7_3 x12_3).f1) == ((rd_T38 x7_2 0).f0)) = false := beq_eq_false_iff_ne.mpr c26
                                have c26b1 : (((rd_T38 x7_3 x12_3).f1) != ((rd_T38 x7_2 0).f0)) = true := bne_iff_ne.mpr c26
                                have H' := Aside0.mk H
                                clear H
                                have p255 : 0 ≤ (x12_3 : Int) := of_decide_eq_true (by first | (with_reducible assumption) | assumption)
                                have q255 : x12_3 < (x7_3.length : Int) := of_decide_eq_true (by first | (with_reducible assumption) | assumption)
                                obtain ⟨ad255, e255, hx255_0, hx255_1⟩ := at_T38 (Kd.R_reads' HO_7.out).2.2 x12_3 p255 q255
                                obtain rfl : ad251 = ad255 := (by injection e255)
                                replace p255 := eq_true p255
                                replace q255 := eq_true q255
                                go_wp2
                                (try simp only [← hl7_3])
                                go_roundg k3
                                case measure => have := HK1.out; have := HK2.out; have := HK3.out; omega
                                case rel => exact ⟨(x7_3), (wrap64 (x12_3 + 1)), (by first | rfl | (simp; done) | (simp [*]; done)), H', ⟨by have := HK1.out; have := HK2.out; have := HK3.out; omega⟩, ⟨by (try simp only [hl7_3]); (with_reducible repeat (first | apply Kd.R_alloc | apply Kd.R_drewN | apply Kd.R_drew)); exact HO_7.out⟩, ⟨by (try simp only [hl7_3]); (with_reducible repeat (first | apply Kd.R_alloc | apply Kd.R_drewN | apply Kd.R_drew)); exact HO_9.out⟩, ⟨by repeat (first | (with_reducible first | exact HB.out | apply below_alloc | apply pw_below_drewN | apply below_drew1) | exact HB.out)⟩⟩
                            · rw [if_neg c25] at H
                              exact absurd H (by simp)
                          · rw [if_neg c24] at H
                            have c24b0 : decide (x12_3 < (x7_3.length : Int)) = false := decide_eq_false c24
                            clear c24
                            have H' := Aside0.mk H
                            clear H
                            go_wp2
                            (try simp only [← hl7_3])
                            go_roundg k3
                            case measure => have := HK1.out; have := HK2.out; have := HK3.out; omega
                            case rel => exact ⟨(x7_3), (y252), H', ⟨by have := HK1.out; have := HK2.out; have := HK3.out; omega⟩, ⟨by (try simp only [hl7_3]); (with_reducible repeat (first | apply Kd.R_alloc | apply Kd.R_drewN | apply Kd.R_drew)); exact HO_7.out⟩, ⟨by (try simp only [hl7_3]); (with_reducible repeat (first | apply Kd.R_alloc | apply Kd.R_drewN | apply Kd.R_drew)); exact HO_9.out⟩, ⟨by repeat (first | (with_reducible first | exact HB.out | apply below_alloc | apply pw_below_drewN | apply below_drew1) | exact HB.out)⟩⟩
                    · rw [if_neg c21] at H
                      exact absurd H (by simp)
                  · rw [if_neg c20] at H
                    exact absurd H (by simp)
                · rw [if_neg c19] at H
                  have c19b0 : decide (t250 < 0) = false := decide_eq_false c19
                  clear c19
                  by_cases c30 : 0 ≤ t250
                  · rw [if_pos c30] at H
                    have c30b0 : decide (0 ≤ t250) = true := decide_eq_true c30
                    clear c30
                    by_cases c31 : t250 < (x7_2.length : Int)
                    · rw [if_pos c31] at H
                      have c31b0 : decide (t250 < (x7_2.length : Int)) = true := decide_eq_true c31
                      clear c31
                      by_cases c32 : x9_2.length < 8796093022208
                      · rw [if_pos c32] at H
                        have LMc32 := Aside0.mk c32
                        clear c32
                        obtain ⟨y258, hy258⟩ : ∃ y_ : List (S38), y_ = (x9_2 ++ [(⟨(rd_T38 x7_2 t250).f0, (rd_T38 x7_2 t250).f1⟩ : S38)]) := ⟨_, rfl⟩
                        replace H : ((some (([] : List (S38)) : List (S38))).bind fun y261 => (if t250 ≤ (x7_2.length : Int) then ((some (x7_2.take (t250 : Int).toNat : List (S38))).bind fun y264 => (if y261.length + y264.length < 8796093022208 then ((some (y261 ++ y264 : List (S38))).bind fun y268 => (if 0 ≤ (wrap64 (t250 + 1)) then (if (wrap64 (t250 + 1)) ≤ (x7_2.length : Int) then ((some (x7_2.drop ((wrap64 (t250 + 1)) : Int).toNat : List (S38))).bind fun y271 => (if y268.length + y271.length < 8796093022208 then (swageref18_Order.l1 k2 a1 (y268 ++ y271) y258) else (none))) else (none)) else (none))) else (none))) else (none))) = some (r1, r2) := by first | (rw [hy258]; with_reducible exact H) | (have H2_ := (Option.bind_some _ _).symm.trans H; rw [hy258]; with_reducible exact H2_) | (have H2_ := (Option.bind_some _ _).symm.trans H; with_reducible exact H2_) | with_reducible exact H | (rw [hy258]; exact H) | exact H
                        have Ny258 := Aside0.mk hy258
                        clear hy258
                        obtain ⟨y261, hy261⟩ : ∃ y_ : List (S38), y_ = (([] : List (S38))) := ⟨_, rfl⟩
                        replace H : (if t250 ≤ (x7_2.length : Int) then ((some (x7_2.take (t250 : Int).toNat : List (S38))).bind fun y264 => (if y261.length + y264.length < 8796093022208 then ((some (y261 ++ y264 : List (S38))).bind fun y268 => (if 0 ≤ (wrap64 (t250 + 1)) then (if (wrap64 (t250 + 1)) ≤ (x7_2.length : Int) then ((some (x7_2.drop ((wrap64 (t250 + 1)) : Int).toNat : List (S38))).bind fun y271 => (if y268.length + y271.length < 8796093022208 then (swageref18_Order.l1 k2 a1 (y268 ++ y271) y258) else (none))) else (none)) else (none))) else (none))) else (none)) = some (r1, r2) := by first | (rw [hy261]; with_reducible exact H) | (have H2_ := (Option.bind_some _ _).symm.trans H; rw [hy261]; with_reducible exact H2_) | (have H2_ := (Option.bind_some _ _).symm.trans H; with_reducible exact H2_) | with_reducible exact H | (rw [hy261]; exact H) | exact H
                        have Ny261 := Aside0.mk hy261
                        clear hy261
                        have c33b0 := eq_true (of_decide_eq_true (by first | (with_reducible assumption) | assumption) : 0 ≤ t250)
                        by_cases c34 : t250 ≤ (x7_2.length : Int)
                        · rw [if_pos c34] at H
                          have c34b0 := eq_true c34
                          have c34b1 : decide (t250 ≤ (x7_2.length : Int)) = true := decide_eq_true c34
                          clear c34
                          obtain ⟨y264, hy264⟩ : ∃ y_ : List (S38), y_ = (x7_2.take (t250 : Int).toNat) := ⟨_, rfl⟩
                          replace H : (if y261.length + y264.length < 8796093022208 then ((some (y261 ++ y264 : List (S38))).bind fun y268 => (if 0 ≤ (wrap64 (t250 + 1)) then (if (wrap64 (t250 + 1)) ≤ (x7_2.length : Int) then ((some (x7_2.drop ((wrap64 (t250 + 1)) : Int).toNat : List (S38))).bind fun y271 => (if y268.length + y271.length < 8796093022208 then (swageref18_Order.l1 k2 a1 (y268 ++ y271) y258) else (none))) else (none)) else (none))) else (none)) = some (r1, r2) := by first | (rw [hy264]; with_reducible exact H) | (have H2_ := (Option.bind_some _ _).symm.trans H; rw [hy264]; with_reducible exact H2_) | (have H2_ := (Option.bind_some _ _).symm.trans H; with_reducible exact H2_) | with_reducible exact H | (rw [hy264]; exact H) | exact H
                          have Ny264 := Aside0.mk hy264
                          clear hy264
                          by_cases c35 : y261.length + y264.length < 8796093022208
                          · rw [if_pos c35] at H
                            have LMc35 := Aside0.mk c35
                            clear c35
                            obtain ⟨y268, hy268⟩ : ∃ y_ : List (S38), y_ = (y261 ++ y264) := ⟨_, rfl⟩
                            replace H : (if 0 ≤ (wrap64 (t250 + 1)) then (if (wrap64 (t250 + 1)) ≤ (x7_2.length : Int) then ((some (x7_2.drop ((wrap64 (t250 + 1)) : Int).toNat : List (S38))).bind fun y271 => (if y268.length + y271.length < 8796093022208 then (swageref18_Order.l1 k2 a1 (y268 ++ y271) y258) else (none))) else (none)) else (none)) = some (r1, r2) := by first | (rw [hy268]; with_reducible exact H) | (have H2_ := (Option.bind_some _ _).symm.trans H; rw [hy268]; with_reducible exact H2_) | (have H2_ := (Option.bind_some _ _).symm.trans H; with_reducible exact H2_) | with_reducible exact H | (rw [hy268]; exact H) | exact H
                            have Ny268 := Aside0.mk hy268
                            clear hy268
                            obtain ⟨ji36, hji36⟩ : ∃ j_ : Int, (wrap64 (t250 + 1)) = j_ := ⟨_, rfl⟩
                            replace H : (if 0 ≤ (ji36) then (if (ji36) ≤ (x7_2.length : Int) then ((some (x7_2.drop ((ji36) : Int).toNat : List (S38))).bind fun y271 => (if y268.length + y271.length < 8796093022208 then (swageref18_Order.l1 k2 a1 (y268 ++ y271) y258) else (none))) else (none)) else (none)) = some (r1, r2) := by first | (rw [hji36] at H; exact H) | (simp only [hji36] at H ⊢; exact H)
                            (try rw [hji36] at A18)
                            have hji36w : (IntKind.i64.wrap (t250 + 1)) = ji36 := (i64_w _).trans hji36
                            by_cases c37 : 0 ≤ (ji36)
                            · rw [if_pos c37] at H
                              have c37b0 := eq_true c37
                              have c37b1 : decide (0 ≤ (ji36)) = true := decide_eq_true c37
                              clear c37
                              by_cases c38 : (ji36) ≤ (x7_2.length : Int)
                              · rw [if_pos c38] at H
                                have c38b0 := eq_true c38
                                have c38b1 : decide ((ji36) ≤ (x7_2.length : Int)) = true := decide_eq_true c38
                                clear c38
                                obtain ⟨y271, hy271⟩ : ∃ y_ : List (S38), y_ = (x7_2.drop ((ji36) : Int).toNat) := ⟨_, rfl⟩
                                replace H : (if y268.length + y271.length < 8796093022208 then (swageref18_Order.l1 k2 a1 (y268 ++ y271) y258) else (none)) = some (r1, r2) := by first | (rw [hy271]; with_reducible exact H) | (have H2_ := (Option.bind_some _ _).symm.trans H; rw [hy271]; with_reducible exact H2_) | (have H2_ := (Option.bind_some _ _).symm.trans H; with_reducible exact H2_) | with_reducible exact H | (rw [hy271]; exact H) | exact H
                                have Ny271 := Aside0.mk hy271
                                clear hy271
                                by_cases c39 : y268.length + y271.length < 8796093022208
                                · rw [if_pos c39] at H
                                  have LMc39 := Aside0.mk c39
                                  clear c39
                                  obtain ⟨y275, hy275⟩ : ∃ y_ : List (S38), y_ = (y268 ++ y271) := ⟨_, rfl⟩
                                  replace H : (swageref18_Order.l1 k2 a1 y275 y258) = some (r1, r2) := by first | (rw [hy275]; with_reducible exact H) | (have H2_ := (Option.bind_some _ _).symm.trans H; rw [hy275]; with_reducible exact H2_) | (have H2_ := (Option.bind_some _ _).symm.trans H; with_reducible exact H2_) | with_reducible exact H | (rw [hy275]; exact H) | exact H
                                  have Ny275 := Aside0.mk hy275
                                  clear hy275
                                  have H' := Aside0.mk H
                                  clear H
                                  obtain ⟨Ao40, co40, eo40⟩ := Kd.R_slice HO_7.out
                                  subst eo40
                                  try go_wp2_with (first | ((with_reducible refine gate_callee (f := 32) rfl ?_); refine goesL_ (some 61) rfl rfl Try.func32 (by kernel_rfl) rfl #[.slice Ao40 x7_2.length co40] rfl (by (try simp only [List.map_toArray, List.map_cons, List.map_nil]); first | done | rfl | (simp only [List.length_drop, List.length_take]; rfl)) ?_; (with_reducible refine (swageref18_free.calls k2 _ _ x7_2 t250 _ ?side1 ?side2 A18.out).mono ?_); (case side1 => repeat (first | exact (Kd.R_reads' HO_7.out).2.2 | (with_reducible refine Kd.C_alloc ?_ _) | (with_reducible refine Kd.C_drewN ?_ _) | (with_reducible refine Kd.C_drew ?_))); (case side2 => exact (Kd.R_reads' HO_7.out).2.1); rintro e w' ⟨rfl, ⟨nd, rfl⟩⟩; refine ⟨_, rfl, ?_⟩; have p257 : 0 ≤ (t250 : Int) := of_decide_eq_true (by first | (with_reducible assumption) | assumption); have q257 : t250 < (x7_2.length : Int) := of_decide_eq_true (by first | (with_reducible assumption) | assumption); obtain ⟨ad257, e257, hx257_0, hx257_1⟩ := at_T38 (Kd.R_reads' HO_7.out).2.2 t250 p257 q257; cases e257; replace p257 := eq_true p257; replace q257 := eq_true q257) | ((with_reducible refine gate_builtin (b := .append) (xs := #[.tmp 92, .tmp 97]) rfl ?_); at_builtin; refine Kd.R_append k38 (w0 := w) w.heap.size rfl (.tmp 92) (.tmp 97) 22 38 (.agg #[(.int .i64 0), (.int .i64 0)]) 16 rfl Try.underlying22 info38 rfl (by decide) (by omega) u9 x9_2 (⟨(rd_T38 x7_2 t250).f0, (rd_T38 x7_2 t250).f1⟩ : S38) [.int .i64 ((rd_T38 x7_2 t250).f0), .int .i64 ((rd_T38 x7_2 t250).f1)] (fun k_ => some k_ ≠ (.slice (some ad257) x7_2.length co40 : Value).ownBlock) (fun _ => False) rfl rfl ?aP (fun _ hk => hk.elim) ?aF ?aO ?aB ?aS ?aL ?_; (case aP => exact k38_mkM _ _ _ (⟨(rd_T38 x7_2 t250).f0, (rd_T38 x7_2 t250).f1⟩ : S38)); (case aB => exact (by repeat (first | (with_reducible first | exact HB.out | apply below_alloc | apply pw_below_drewN | apply below_drew1) | exact HB.out))); (case aF => exact (fun k_ hk => Kd.fresh' (Kd.R_lt (by (with_reducible repeat (first | apply Kd.R_alloc | apply Kd.R_drewN | apply Kd.R_drew)); exact HO_7.out)) k_ hk)); (case aO => exact (by (with_reducible repeat (first | apply Kd.R_alloc | apply Kd.R_drewN | apply Kd.R_drew)); exact HO_9.out)); (case aS => exact (below_size (by repeat (first | (with_reducible first | exact HB.out | apply below_alloc | apply pw_below_drewN | apply below_drew1) | exact HB.out)))); (case aL => have := LMc32.out; omega); intro v259 w41 ho hb hg hat; rw [← Ny258.out] at ho; have n0_ := Aside0.mk (Kd.R_after (ok := (fun _ => True)) (by (with_reducible repeat (first | apply Kd.R_alloc | apply Kd.R_drewN | apply Kd.R_drew)); exact Kd.R_mono HO_7.out (fun _ hk => ⟨trivial, hk⟩)) hg hat); have n1_ := Aside0.mk (hb); have n2_ := Aside0.mk (ho); clear HO_7; clear HB; clear HO_9; have HO_7 := n0_; have HB := n1_; have HO260 := n2_; clear n0_ n1_ n2_; clear ho hb hg hat))
                                  have n0_ := Aside0.mk (Kd.R_drew HO_7.out)
                                  have n1_ := Aside0.mk (Kd.R_drew HO260.out)
                                  have n2_ := Aside0.mk (below_drew1 HB.out)
                                  clear HO_7
                                  clear HO260
                                  clear HB
                                  have HO_7 := n0_
                                  have HO260 := n1_
                                  have HB := n2_
                                  clear n0_ n1_ n2_
                                  have q43 : (t250 : Int) ≤ ((x7_2.length : Int) : Int) := of_decide_eq_true (by first | (with_reducible assumption) | assumption)
                                  obtain ⟨i043, hi043, _, hsz43, _⟩ := info_parts info38
                                  have hroom43 : x7_2.length ≤ co40 := (Kd.R_reads' HO_7.out).2.1
                                  have hC43 : Kd.C k38 _ (some ad257) x7_2.length x7_2 := (Kd.R_reads' HO_7.out).2.2
                                  have hcut43 := cut_to (P := Try.prog) 22 38 .i64 Try.underlying22 hi043 (some ad257) x7_2.length co40 t250 (of_decide_eq_true (by first | (with_reducible assumption) | assumption)) q43 hroom43
                                  have hr43 := Kd.C_take (m := (t250 : Int).toNat) hC43 (by omega)
                                  have hy43 : y264.length = (t250 : Int).toNat := (by rw [Ny264.out, List.length_take]; omega)
                                  rw [← Ny264.out] at hr43
                                  rw [← hy43] at hcut43
                                  have HR267 := Aside0.mk hr43
                                  have HC267 := Aside0.mk (show y264.length ≤ co40 from by omega)
                                  clear hr43 hC43 hroom43 hi043 hsz43
                                  have KY43 := Aside0.mk hy43
                                  clear hy43
                                  have KL43 := Aside0.mk (show (t250 : Int).toNat ≤ x7_2.length from by omega)
                                  replace q43 := eq_true q43
                                  have q44 : ((ji36) : Int) ≤ ((x7_2.length : Int) : Int) := of_decide_eq_true (by first | (with_reducible assumption) | assumption)
                                  obtain ⟨i044, hi044, _, hsz44, _⟩ := info_parts info38
                                  have hroom44 : x7_2.length ≤ co40 := (Kd.R_reads' HO_7.out).2.1
                                  have hC44 : Kd.C k38 _ (some ad257) x7_2.length x7_2 := (Kd.R_reads' HO_7.out).2.2
                                  have q044 : (0 : Int) ≤ ((ji36) : Int) := of_decide_eq_true (by first | (with_reducible assumption) | assumption)
                                  have hcut44 := cut_from (P := Try.prog) 22 38 .i64 Try.underlying22 hi044 2 hsz44 (some ad257) x7_2.length co40 (ji36) q044 q44
                                  have hr44 := Kd.C_drop (m := ((ji36) : Int).toNat) (c := co40) hC44 (by omega) hroom44
                                  obtain ⟨A44, hA44⟩ : ∃ A1, A1 = (if co40 = ((ji36) : Int).toNat then (some ad257) else ((some ad257) : Option Addr).map (·.add (((ji36) : Int).toNat * 2))) := ⟨_, rfl⟩
                                  obtain ⟨c44, hc44⟩ : ∃ c1, c1 = co40 - ((ji36) : Int).toNat := ⟨_, rfl⟩
                                  have hy44 : y271.length = x7_2.length - ((ji36) : Int).toNat := (by rw [Ny271.out, List.length_drop] <;> omega)
                                  rw [show (x7_2).drop ((ji36) : Int).toNat = y271 from Ny271.out.symm] at hr44
                                  replace hr44 : Kd.C k38 _ A44 y271.length y271 := (by rw [hA44]; exact hr44)
                                  rw [← hy44, ← hA44, ← hc44] at hcut44
                                  have HR274 := Aside0.mk hr44
                                  have HC274 := Aside0.mk (show y271.length ≤ c44 from by rw [hy44, hc44]; exact Nat.sub_le_sub_right hroom44 _)
                                  clear hr44 hC44 hroom44 hi044 hsz44 hc44
                                  have KY44 := Aside0.mk hy44
                                  have KA44 := Aside0.mk hA44
                                  clear hy44 hA44
                                  have KL44 := Aside0.mk (show ((ji36) : Int).toNat ≤ x7_2.length from by omega)
                                  replace q44 := eq_true q44
                                  refine start_ (n := 11) (S := fun w' => True) (ds := []) #[false, false, false, false, false, false, false, false, false, false, false] (by kernel_rfl) rfl rfl trivial (fun hHeld => ?_); refine with_tabW swageref18_Order.tab24 swageref18_Order.bits24 (fun HT_ HW_ => ?_)
                                  generalize w41.drew = w42 at HO_7 HO260 HB HR267 HR274 hHeld ⊢
                                  refine pure_ (i := 1) (N := some 100) (v := ?_) (a' := ?_) #[false, true, false, false, false, false, false, false, false, false, false] rfl rfl (any_of HT_.out (by kernel_rfl)) (fun _ _ _ h => h) (Or.inl ⟨by rfl, ?_⟩) ?_ ?_
                                  rotate_left
                                  · intro w'
                                    go_simp
                                    with_reducible rfl
                                  rotate_left
                                  · simp only [Act.put, List.setIfInBounds_toArray, List.set_cons_zero, List.set_cons_succ, i64_w, i32_w]
                                    rfl
                                  refine pure_ (i := 2) (N := some 101) (v := ?_) (a' := ?_) #[false, true, true, false, false, false, false, false, false, false, false] rfl rfl (any_of HT_.out (by kernel_rfl)) (fun _ _ _ h => h) (Or.inl ⟨by rfl, ?_⟩) ?_ ?_
                                  rotate_left
                                  · intro w'
                                    go_simp
                                    with_reducible rfl
                                  rotate_left
                                  · simp only [Act.put, List.setIfInBounds_toArray, List.set_cons_zero, List.set_cons_succ, i64_w, i32_w]
                                    rfl
                                  refine pure_ (i := 3) (N := some 102) (v := ?_) (a' := ?_) #[false, true, true, true, false, false, false, false, false, false, false] rfl rfl (any_of HT_.out (by kernel_rfl)) (fun _ _ _ h => h) (Or.inl ⟨by rfl, ?_⟩) ?_ ?_
                                  rotate_left
                                  · intro w'
                                    go_simp
                                    with_reducible rfl
                                  rotate_left
                                  · simp only [Act.put, List.setIfInBounds_toArray, List.set_cons_zero, List.set_cons_succ, i64_w, i32_w]
                                    rfl
                                  refine pure_ (i := 5) (N := some 104) (v := ?_) (a' := ?_) #[false, true, true, true, false, true, false, false, false, false, false] rfl rfl (any_of HT_.out (by kernel_rfl)) (fun _ _ _ h => h) (Or.inl ⟨by rfl, ?_⟩) ?_ ?_
                                  rotate_left
                                  · intro w'
                                    go_simp
                                    with_reducible rfl
                                  rotate_left
                                  · simp only [Act.put, List.setIfInBounds_toArray, List.set_cons_zero, List.set_cons_succ, i64_w, i32_w]
                                    rfl
                                  refine pure_ (i := 6) (N := some 105) (v := ?_) (a' := ?_) #[false, true, true, true, false, true, true, false, false, false, false] rfl rfl (any_of HT_.out (by kernel_rfl)) (fun _ _ _ h => h) (Or.inl ⟨by rfl, ?_⟩) ?_ ?_
                                  rotate_left
                                  · intro w'
                                    go_simp
                                    with_reducible rfl
                                  rotate_left
                                  · simp only [Act.put, List.setIfInBounds_toArray, List.set_cons_zero, List.set_cons_succ, i64_w, i32_w]
                                    rfl
                                  refine pure_ (i := 7) (N := some 106) (v := ?_) (a' := ?_) #[false, true, true, true, false, true, true, true, false, false, false] rfl rfl (any_of HT_.out (by kernel_rfl)) (fun _ _ _ h => h) (Or.inl ⟨by rfl, ?_⟩) ?_ ?_
                                  rotate_left
                                  · intro w'
                                    go_simp
                                    with_reducible rfl
                                  rotate_left
                                  · simp only [Act.put, List.setIfInBounds_toArray, List.set_cons_zero, List.set_cons_succ, i64_w, i32_w]
                                    rfl
                                  refine pure_ (i := 8) (N := some 107) (v := ?_) (a' := ?_) #[false, true, true, true, false, true, true, true, true, false, false] rfl rfl (any_of HT_.out (by kernel_rfl)) (fun _ _ _ h => h) (Or.inl ⟨by rfl, ?_⟩) ?_ ?_
                                  rotate_left
                                  · intro w'
                                    go_simp
                                    with_reducible rfl
                                  rotate_left
                                  · simp only [Act.put, List.setIfInBounds_toArray, List.set_cons_zero, List.set_cons_succ, i64_w, i32_w]
                                    rfl
                                  refine one_ (i := 0) (N := some 99) #[true, true, true, true, false, true, true, true, true, false, false] rfl rfl (one_of HT_.out (by kernel_rfl)) (by decide) (fun K hK => ?_)
                                  refine Kd.R_lit_step k38 _ 38 ?hg (N := 99) ?hd (xs := ([] : List (S38))) (inner := []) (ok := fun _ => True) (okp := fun _ => True) ?hr ?hp (fun _ hk => hk) trivial (Below.refl _ _) (Nat.le_refl _) (by simp) ?_; (case hd => rfl); (case hg => rfl); (case hr => first | (go_simp; done) | (go_simp; rfl)); (case hp => exact (Reps.none _ _))
                                  intro v262 w45 ho46 hb hg_ hnew_
                                  clear hg_ hnew_
                                  (first | rw [← Ny261.out] at ho46 | (simp only [Int.reduceToNat] at ho46; rw [← Ny261.out] at ho46))
                                  have n0_ := Aside0.mk (Kd.R_elder' (by (with_reducible repeat (first | apply Kd.R_alloc | apply Kd.R_drewN | apply Kd.R_drew)); exact HO_7.out) (Kd.R_base ho46) hb)
                                  have n1_ := Aside0.mk (Kd.R_elder' (by (with_reducible repeat (first | apply Kd.R_alloc | apply Kd.R_drewN | apply Kd.R_drew)); exact HO260.out) (Kd.R_base ho46) hb)
                                  have n2_ := Aside0.mk (Kd.R_lower (Kd.R_new' (Kd.R_new' ho46 (Kd.R_lt (by (with_reducible repeat (first | apply Kd.R_alloc | apply Kd.R_drewN | apply Kd.R_drew)); exact HO_7.out))) (Kd.R_lt (by (with_reducible repeat (first | apply Kd.R_alloc | apply Kd.R_drewN | apply Kd.R_drew)); exact HO260.out))) (below_size (by repeat (first | (with_reducible first | exact HB.out | apply below_alloc | apply pw_below_drewN | apply below_drew1) | exact HB.out))))
                                  have n3_ := Aside0.mk (Kd.C_below (by repeat (first | (with_reducible exact HR267.out) | (with_reducible refine Kd.C_alloc ?_ _) | (with_reducible refine Kd.C_drewN ?_ _) | (with_reducible refine Kd.C_drew ?_) | exact HR267.out)) hb)
                                  have n4_ := Aside0.mk (Kd.C_below (by repeat (first | (with_reducible exact HR274.out) | (with_reducible refine Kd.C_alloc ?_ _) | (with_reducible refine Kd.C_drewN ?_ _) | (with_reducible refine Kd.C_drew ?_) | exact HR274.out)) hb)
                                  have n5_ := Aside0.mk (below_step (by repeat (first | (with_reducible first | exact HB.out | apply below_alloc | apply pw_below_drewN | apply below_drew1) | exact HB.out)) hb)
                                  clear HO_7
                                  clear HO260
                                  clear HR267
                                  clear HR274
                                  clear HB
                                  have HO_7 := n0_
                                  have HO260 := n1_
                                  have HO263 := n2_
                                  have HR267 := n3_
                                  have HR274 := n4_
                                  have HB := n5_
                                  clear n0_ n1_ n2_ n3_ n4_ n5_
                                  clear hb ho46
                                  refine hK.out _ _ trivial (fun hHeld => ?_)
                                  clear hK K
                                  refine norm_ (a' := ?_) ?_ ?_
                                  rotate_left
                                  · show Act.put _ (some 99) _ = _
                                    simp only [Act.put, List.setIfInBounds_toArray, List.set_cons_zero, List.set_cons_succ, i64_w, i32_w]
                                    rfl
                                  refine one_ (i := 4) (N := some 103) #[true, true, true, true, true, true, true, true, true, false, false] rfl rfl (one_of HT_.out (by kernel_rfl)) (by decide) (fun K hK => ?_)
                                  refine Kd.R_append_rows_step k38 (w0 := w) w.heap.size (by rfl) (.tmp 99) (.tmp 102) 22 38 (.agg #[(.int .i64 0), (.int .i64 0)]) 16 rfl Try.underlying22 info38 rfl (by decide) (by omega) v262 y261 y264 _ _ _ (fun k_ => some k_ ≠ (.slice (some ad257) x7_2.length co40 : Value).ownBlock ∧ some k_ ≠ (v259 : Value).ownBlock) (fun _ => False) rfl rfl ?aO ?aR (fun _ _ h => h) (fun _ h => h.elim) ?aF ?aB ?aS ?aL ?_
                                  (case aR => repeat (first | exact (by repeat (first | (with_reducible exact HR267.out) | (with_reducible refine Kd.C_alloc ?_ _) | (with_reducible refine Kd.C_drewN ?_ _) | (with_reducible refine Kd.C_drew ?_) | exact HR267.out)) | (with_reducible refine Kd.C_alloc ?_ _) | (with_reducible refine Kd.C_drewN ?_ _) | (with_reducible refine Kd.C_drew ?_)))
                                  (case aB => exact (by repeat (first | (with_reducible first | exact HB.out | apply below_alloc | apply pw_below_drewN | apply below_drew1) | exact HB.out)))
                                  (case aF => exact (fun k_ hk => ⟨Kd.fresh' (Kd.R_lt (by (with_reducible repeat (first | apply Kd.R_alloc | apply Kd.R_drewN | apply Kd.R_drew)); exact HO_7.out)) k_ hk, Kd.fresh' (Kd.R_lt (by (with_reducible repeat (first | apply Kd.R_alloc | apply Kd.R_drewN | apply Kd.R_drew)); exact HO260.out)) k_ hk⟩))
                                  (case aO => exact (by (with_reducible repeat (first | apply Kd.R_alloc | apply Kd.R_drewN | apply Kd.R_drew)); exact Kd.R_mono HO263.out (fun _ hk => ⟨hk.1.2, hk.2⟩)))
                                  (case aS => exact (below_size (by repeat (first | (with_reducible first | exact HB.out | apply below_alloc | apply pw_below_drewN | apply below_drew1) | exact HB.out))))
                                  (case aL => have := LMc35.out; omega)
                                  intro v269 w47 ho hb hg hat
                                  rw [← Ny268.out] at ho
                                  have n0_ := Aside0.mk (Kd.R_after (ok := (fun k_ => some k_ ≠ (v259 : Value).ownBlock)) (by (with_reducible repeat (first | apply Kd.R_alloc | apply Kd.R_drewN | apply Kd.R_drew)); exact Kd.R_mono HO_7.out (fun _ hk => ⟨hk.1.2, hk.2⟩)) hg hat)
                                  have n1_ := Aside0.mk (Kd.R_after (ok := (fun k_ => some k_ ≠ (.slice (some ad257) x7_2.length co40 : Value).ownBlock)) (by (with_reducible repeat (first | apply Kd.R_alloc | apply Kd.R_drewN | apply Kd.R_drew)); exact HO260.out) hg hat)
                                  have n2_ := Aside0.mk (hb)
                                  have n3_ := Aside0.mk ((show Kd.C k38 w47 (some ad257) y264.length y264 from by rw [Ny264.out]; exact Kd.C_take (m := (t250 : Int).toNat) ((Kd.R_reads' (Kd.R_after (ok := (fun k_ => some k_ ≠ (v259 : Value).ownBlock)) (by (with_reducible repeat (first | apply Kd.R_alloc | apply Kd.R_drewN | apply Kd.R_drew)); exact Kd.R_mono HO_7.out (fun _ hk => ⟨hk.1.2, hk.2⟩)) hg hat)).2.2) KL43.out))
                                  have n4_ := Aside0.mk ((show Kd.C k38 w47 A44 y271.length y271 from by rw [Ny271.out, KA44.out]; exact Kd.C_drop (m := ((ji36) : Int).toNat) (c := co40) ((Kd.R_reads' (Kd.R_after (ok := (fun k_ => some k_ ≠ (v259 : Value).ownBlock)) (by (with_reducible repeat (first | apply Kd.R_alloc | apply Kd.R_drewN | apply Kd.R_drew)); exact Kd.R_mono HO_7.out (fun _ hk => ⟨hk.1.2, hk.2⟩)) hg hat)).2.2) KL44.out ((Kd.R_reads' (Kd.R_after (ok := (fun k_ => some k_ ≠ (v259 : Value).ownBlock)) (by (with_reducible repeat (first | apply Kd.R_alloc | apply Kd.R_drewN | apply Kd.R_drew)); exact Kd.R_mono HO_7.out (fun _ hk => ⟨hk.1.2, hk.2⟩)) hg hat)).2.1)))
                                  have n5_ := Aside0.mk (ho)
                                  clear HO_7
                                  clear HO260
                                  clear HB
                                  clear HR267
                                  clear HR274
                                  clear HO263
                                  have HO_7 := n0_
                                  have HO260 := n1_
                                  have HB := n2_
                                  have HR267 := n3_
                                  have HR274 := n4_
                                  have HO270 := n5_
                                  clear n0_ n1_ n2_ n3_ n4_ n5_
                                  clear ho hb hg hat
                                  refine hK.out _ _ trivial (fun hHeld => ?_)
                                  clear hK K
                                  refine norm_ (a' := ?_) ?_ ?_
                                  rotate_left
                                  · show Act.put _ (some 103) _ = _
                                    simp only [Act.put, List.setIfInBounds_toArray, List.set_cons_zero, List.set_cons_succ, i64_w, i32_w]
                                    rfl
                                  refine one_ (i := 9) (N := some 108) #[true, true, true, true, true, true, true, true, true, true, false] rfl rfl (one_of HT_.out (by kernel_rfl)) (by decide) (fun K hK => ?_)
                                  refine Kd.R_append_rows_step k38 (w0 := w) w.heap.size (by rfl) (.tmp 103) (.tmp 107) 22 38 (.agg #[(.int .i64 0), (.int .i64 0)]) 16 rfl Try.underlying22 info38 rfl (by decide) (by omega) v269 y268 y271 _ _ _ (fun k_ => some k_ ≠ (.slice (some ad257) x7_2.length co40 : Value).ownBlock ∧ some k_ ≠ (v259 : Value).ownBlock) (fun _ => False) rfl rfl ?aO ?aR (fun _ _ h => h) (fun _ h => h.elim) ?aF ?aB ?aS ?aL ?_
                                  (case aR => repeat (first | exact (by repeat (first | (with_reducible exact HR274.out) | (with_reducible refine Kd.C_alloc ?_ _) | (with_reducible refine Kd.C_drewN ?_ _) | (with_reducible refine Kd.C_drew ?_) | exact HR274.out)) | (with_reducible refine Kd.C_alloc ?_ _) | (with_reducible refine Kd.C_drewN ?_ _) | (with_reducible refine Kd.C_drew ?_)))
                                  (case aB => exact (by repeat (first | (with_reducible first | exact HB.out | apply below_alloc | apply pw_below_drewN | apply below_drew1) | exact HB.out)))
                                  (case aF => exact (fun k_ hk => ⟨Kd.fresh' (Kd.R_lt (by (with_reducible repeat (first | apply Kd.R_alloc | apply Kd.R_drewN | apply Kd.R_drew)); exact HO_7.out)) k_ hk, Kd.fresh' (Kd.R_lt (by (with_reducible repeat (first | apply Kd.R_alloc | apply Kd.R_drewN | apply Kd.R_drew)); exact HO260.out)) k_ hk⟩))
                                  (case aO => exact (by (with_reducible repeat (first | apply Kd.R_alloc | apply Kd.R_drewN | apply Kd.R_drew)); exact HO270.out))
                                  (case aS => exact (below_size (by repeat (first | (with_reducible first | exact HB.out | apply below_alloc | apply pw_below_drewN | apply below_drew1) | exact HB.out))))
                                  (case aL => have := LMc39.out; omega)
                                  intro v276 w48 ho hb hg hat
                                  rw [← Ny275.out] at ho
                                  have n0_ := Aside0.mk (Kd.R_after (ok := (fun k_ => some k_ ≠ (v259 : Value).ownBlock)) (by (with_reducible repeat (first | apply Kd.R_alloc | apply Kd.R_drewN | apply Kd.R_drew)); exact HO_7.out) hg hat)
                                  have n1_ := Aside0.mk (Kd.R_after (ok := (fun k_ => some k_ ≠ (.slice (some ad257) x7_2.length co40 : Value).ownBlock)) (by (with_reducible repeat (first | apply Kd.R_alloc | apply Kd.R_drewN | apply Kd.R_drew)); exact HO260.out) hg hat)
                                  have n2_ := Aside0.mk (hb)
                                  have n3_ := Aside0.mk ((show Kd.C k38 w48 (some ad257) y264.length y264 from by rw [Ny264.out]; exact Kd.C_take (m := (t250 : Int).toNat) ((Kd.R_reads' (Kd.R_after (ok := (fun k_ => some k_ ≠ (v259 : Value).ownBlock)) (by (with_reducible repeat (first | apply Kd.R_alloc | apply Kd.R_drewN | apply Kd.R_drew)); exact HO_7.out) hg hat)).2.2) KL43.out))
                                  have n4_ := Aside0.mk ((show Kd.C k38 w48 A44 y271.length y271 from by rw [Ny271.out, KA44.out]; exact Kd.C_drop (m := ((ji36) : Int).toNat) (c := co40) ((Kd.R_reads' (Kd.R_after (ok := (fun k_ => some k_ ≠ (v259 : Value).ownBlock)) (by (with_reducible repeat (first | apply Kd.R_alloc | apply Kd.R_drewN | apply Kd.R_drew)); exact HO_7.out) hg hat)).2.2) KL44.out ((Kd.R_reads' (Kd.R_after (ok := (fun k_ => some k_ ≠ (v259 : Value).ownBlock)) (by (with_reducible repeat (first | apply Kd.R_alloc | apply Kd.R_drewN | apply Kd.R_drew)); exact HO_7.out) hg hat)).2.1)))
                                  have n5_ := Aside0.mk (ho)
                                  clear HO_7
                                  clear HO260
                                  clear HB
                                  clear HR267
                                  clear HR274
                                  clear HO270
                                  have HO_7 := n0_
                                  have HO260 := n1_
                                  have HB := n2_
                                  have HR267 := n3_
                                  have HR274 := n4_
                                  have HO277 := n5_
                                  clear n0_ n1_ n2_ n3_ n4_ n5_
                                  clear ho hb hg hat
                                  refine hK.out _ _ trivial (fun hHeld => ?_)
                                  clear hK K
                                  refine norm_ (a' := ?_) ?_ ?_
                                  rotate_left
                                  · show Act.put _ (some 108) _ = _
                                    simp only [Act.put, List.setIfInBounds_toArray, List.set_cons_zero, List.set_cons_succ, i64_w, i32_w]
                                    rfl
                                  refine pure_ (i := 10) (N := some 7) (v := ?_) (a' := ?_) #[true, true, true, true, true, true, true, true, true, true, true] rfl rfl (any_of HT_.out (by kernel_rfl)) (fun _ _ _ h => h) (Or.inl ⟨by rfl, ?_⟩) ?_ ?_
                                  rotate_left
                                  · intro w'
                                    go_simp
                                    with_reducible rfl
                                  rotate_left
                                  · simp only [Act.put, List.setIfInBounds_toArray, List.set_cons_zero, List.set_cons_succ, i64_w, i32_w]
                                    rfl
                                  refine done_ (done_of HT_.out (by kernel_rfl)) ?_
                                  try go_wp2
                                  go_roundg k2
                                  case measure => have := HK1.out; have := HK2.out; omega
                                  case rel => exact ⟨(y275), (y258), H', ⟨by have := HK1.out; have := HK2.out; omega⟩, ⟨by (with_reducible repeat (first | apply Kd.R_alloc | apply Kd.R_drewN | apply Kd.R_drew)); exact Kd.R_mono HO277.out (fun _ hk => hk.2)⟩, ⟨by (with_reducible repeat (first | apply Kd.R_alloc | apply Kd.R_drewN | apply Kd.R_drew)); exact Kd.R_mono HO260.out (fun _ hk => hk.2)⟩, ⟨by repeat (first | (with_reducible first | exact HB.out | apply below_alloc | apply pw_below_drewN | apply below_drew1) | exact HB.out)⟩⟩
                                · rw [if_neg c39] at H
                                  exact absurd H (by simp)
                              · rw [if_neg c38] at H
                                exact absurd H (by simp)
                            · rw [if_neg c37] at H
                              exact absurd H (by simp)
                          · rw [if_neg c35] at H
                            exact absurd H (by simp)
                        · rw [if_neg c34] at H
                          exact absurd H (by simp)
                      · rw [if_neg c32] at H
                        exact absurd H (by simp)
                    · rw [if_neg c31] at H
                      exact absurd H (by simp)
                  · rw [if_neg c30] at H
                    exact absurd H (by simp)
              · rw [if_neg c17] at H
                have c17b0 : decide (0 < (x7_2.length : Int)) = false := decide_eq_false c17
                have c17b1 : decide (0 < x7_2.length) = false := decide_eq_false (by omega)
                clear c17
                simp only [Option.some.injEq, Prod.mk.injEq] at H
                obtain ⟨rfl, rfl⟩ := H
                obtain ⟨Ao49, co49, eo49⟩ := Kd.R_slice HO_7.out
                subst eo49
                go_wp2
                go_ret2
                exact ⟨_, by first | rfl | (simp [errW_none, errW_some] <;> rfl) | (simp [*, errW_none, errW_some] <;> rfl), by (with_reducible repeat (first | apply Kd.R_alloc | apply Kd.R_drewN | apply Kd.R_drew)); exact Kd.R_mono HO_9.out (fun _ hk => trivial), by repeat (first | (with_reducible first | exact HB.out | apply below_alloc | apply pw_below_drewN | apply below_drew1) | exact HB.out)⟩
  · replace c4 := Bool.eq_false_iff.mpr c4
    subst c4
    have H1 : (some (([] : List (S38)), 4)) = some (r1, r2) := by rw [if_neg (show ¬ (false = true) by decide)] at H; exact H
    clear H
    have H := H1
    clear H1
    simp only [Option.some.injEq, Prod.mk.injEq] at H
    obtain ⟨rfl, rfl⟩ := H
    go_enter Try.func10, Try.ntmps10
    go_wp2_with (first | ((with_reducible refine gate_callee (f := 13) rfl ?_); refine goesL_ (some 14) rfl rfl Try.func13 (by kernel_rfl) rfl #[.slice A0 l0.length c0] rfl (by (try simp only [List.map_toArray, List.map_cons, List.map_nil]); first | done | rfl | (simp only [List.length_drop, List.length_take]; rfl)) ?_; (with_reducible refine (swageref18_Right.calls k _ _ l0 false _ ?side1 ?side2 A3.out).mono ?_); (case side1 => repeat (first | exact HR0.out | (with_reducible refine Kd.C_alloc ?_ _) | (with_reducible refine Kd.C_drewN ?_ _) | (with_reducible refine Kd.C_drew ?_))); (case side2 => exact HC0.out); rintro e w' ⟨rfl, ⟨nd, rfl⟩⟩; refine ⟨_, rfl, ?_⟩))
    go_ret2
    exact ⟨_, by first | rfl | (simp [errW_none, errW_some] <;> rfl) | (simp [*, errW_none, errW_some] <;> rfl), by first | exact Kd.R_nil _ _ _ _ _ | exact Kd.N_nil _ _ _ _ _ | exact Kd.V_nil _ _ _ _ _ | exact Kd.Q_nil _ _ _ _ _ | exact Kd.S_nil _ _ _ _ _, by repeat (first | (with_reducible first | exact HB.out | apply below_alloc | apply pw_below_drewN | apply below_drew1) | exact HB.out)⟩

end Go.Proofs.Ytkfopphcgjdcaaa.A

/- What the document's own functions answer: free, Order. -/
namespace Go.Proofs.Ytkfopphcgjdcaaa.A
open Go.RowKit Go.Maps Go.Proofs.YtkfopphcgjdcaaaW.PrintWords Go.Proofs.YtkfopphcgjdcaaaW.PrintLast Go.Shelf
set_option linter.unusedVariables false
set_option linter.unusedSimpArgs false

theorem Evt.step1 {α β : Type} {f g2 : Nat → Option β} {g : Nat → Option α} {x : α} {r : β} (h1 : Evt g x) (h2 : Evt g2 r) (e : ∀ k, g k = some x → f (k + 1) = g2 k) : Evt f r := by
  obtain ⟨K1, h1⟩ := h1
  obtain ⟨K2, h2⟩ := h2
  refine ⟨K1 + K2 + 1, fun k hk => ?_⟩
  obtain ⟨j, rfl⟩ : ∃ j, k = j + 1 := ⟨k - 1, by omega⟩
  rw [e j (h1 j (by omega))]
  exact h2 j (by omega)
theorem getD38 {w : List S38} {i : Nat} (h : i < w.length) : w.getD i z38 = w[i] := by simp [List.getD_eq_getElem?_getD, h]
theorem rfree_l1 (w : List S38) (hl : w.length ≤ 1000000) (i : Nat) (hi : i < w.length) (hne : w[i].f0 ≠ w[i].f1) (r : Int) (h1 : freeB w w[i] = true → r = i) (h2 : freeB w w[i] = false → Evt (fun k => swageref18_free.l0 k w ((i + 1 : Nat) : Int)) r) :
    ∀ (d j : Nat) (b : Bool), j + d = w.length → (b || (w.drop j).any (fun y => decide (y.f1 = w[i].f0))) = !freeB w w[i] → Evt (fun k => swageref18_free.l1 k w i b j) r
  | 0, j, b, hj, hb => by
    rw [List.drop_eq_nil_of_le (by omega)] at hb
    have hb' : b = !freeB w w[i] := by simpa using hb
    cases hf : freeB w w[i] with
    | true =>
      rw [hf] at hb'
      subst hb'
      have := h1 hf
      subst this
      refine Evt.step (Evt.const rfl) fun k => ?_
      rw [swageref18_free.l1, if_neg (by omega), if_neg (by simp)]
    | false =>
      rw [hf] at hb'
      subst hb'
      refine Evt.step (h2 hf) fun k => ?_
      rw [swageref18_free.l1, if_neg (by omega), if_pos (by simp), w64 (by omega) (by omega)]
      rfl
  | d + 1, j, b, hj, hb => by
    have hlt : j < w.length := by omega
    have hd : w.drop j = w[j] :: w.drop (j + 1) := List.drop_eq_getElem_cons hlt
    rw [hd, List.any_cons] at hb
    cases b with
    | true =>
      have ih := rfree_l1 w hl i hi hne r h1 h2 d (j + 1) true (by omega) (by simpa using hb)
      refine Evt.step ih fun k => ?_
      rw [swageref18_free.l1, if_pos (by omega), if_pos rfl, w64 (by omega) (by omega)]
      rfl
    | false =>
      by_cases hji : j = i
      · subst hji
        have ih := rfree_l1 w hl j hi hne r h1 h2 d (j + 1) false (by omega) (by
          have hne' : ¬ w[j].f1 = w[j].f0 := fun e => hne e.symm
          rw [← hb]; simp [hne'])
        refine Evt.step ih fun k => ?_
        rw [swageref18_free.l1, if_pos (by omega), if_neg (by simp), if_pos rfl, w64 (by omega) (by omega)]
        rfl
      · have ih := rfree_l1 w hl i hi hne r h1 h2 d (j + 1) (decide (w[j].f1 = w[i].f0)) (by omega) (by rw [← hb]; simp)
        refine Evt.step ih fun k => ?_
        rw [swageref18_free.l1, if_pos (by omega), if_neg (by simp), if_neg (by omega), if_pos (by omega), if_pos (by omega), if_pos (by omega), rd38_lt hlt, rd38_lt hi, w64 (by omega) (by omega)]
        rfl
theorem rfree_l0 (w : List S38) (hl : w.length ≤ 1000000) (hne : ∀ c ∈ w, c.f0 ≠ c.f1) : ∀ (d i : Nat), i + d = w.length → (∀ j (h : j < i) (h2 : j < w.length), freeB w w[j] = false) → Evt (fun k => swageref18_free.l0 k w i) (freeOf w)
  | 0, i, hi, hn => by
    have : freeOf w = -1 := firstOf_miss _ _ fun j hj => by rw [getD38 hj]; exact hn j (by omega) hj
    rw [this]
    refine Evt.step (Evt.const rfl) fun k => ?_
    rw [swageref18_free.l0, if_neg (by omega)]
  | d + 1, i, hi, hn => by
    have hlt : i < w.length := by omega
    have := rfree_l1 w hl i hlt (hne _ (List.getElem_mem _)) (freeOf w) (fun h => firstOf_hit _ _ i hlt (fun j hj => by rw [getD38 (show j < w.length by omega)]; exact hn j hj (by omega)) (by rw [getD38 hlt]; exact h))
      (fun h => rfree_l0 w hl hne d (i + 1) (by omega) (fun j h1 h2 => by
        by_cases e : j = i
        · subst e; exact h
        · exact hn j (by omega) h2)) w.length 0 false (by omega) (by
        unfold freeB; simp)
    refine Evt.step this fun k => ?_
    rw [swageref18_free.l0, if_pos (by omega)]
    rfl
theorem rfree_ev (w : List S38) (hl : w.length ≤ 1000000) (hne : ∀ c ∈ w, c.f0 ≠ c.f1) : Evt (fun k => swageref18_free.f k w) (freeOf w) := rfree_l0 w hl hne w.length 0 (by omega) (fun j h => by omega)

/-- turning the first m in place -/
theorem rord_l2 (sp t : Int) (w out : List S38) (hl : w.length ≤ 1000000) (r : List S38 × Int) (hk : Evt (fun k => swageref18_Order.l1 k sp (w.map (spareTo sp t)) out) r) : ∀ (d i : Nat), i + d = w.length → Evt (fun k => swageref18_Order.l2 k sp (mixed sp t w i) out t i) r
  | 0, i, hi => by
    obtain rfl : i = w.length := by omega
    rw [mixed_all]
    refine Evt.step hk fun k => ?_
    rw [swageref18_Order.l2, if_neg (by simp)]
  | d + 1, i, hi => by
    have hlt : i < w.length := by omega
    have ih := rord_l2 sp t w out hl r hk d (i + 1) (by omega)
    have hml := mixed_length sp t w i
    by_cases hc : w[i].f1 = t
    · rw [mixed_yes sp t w i hlt hc] at ih
      refine Evt.step ih fun k => ?_
      rw [swageref18_Order.l2, if_pos (by rw [hml]; omega), if_pos (by omega), mixed_rd sp t w i hlt, if_pos hc, Int.toNat_natCast, w64 (by omega) (by omega)]
      rfl
    · rw [mixed_no sp t w i hlt hc] at ih
      refine Evt.step ih fun k => ?_
      rw [swageref18_Order.l2, if_pos (by rw [hml]; omega), if_pos (by omega), mixed_rd sp t w i hlt, if_neg hc, w64 (by omega) (by omega)]
      rfl
theorem rord_l1 {sp : Int} : ∀ (n : Nat) (w out : List S38), Inv sp w → meas w ≤ n → w.length ≤ 1000 → out.length + n ≤ 100000 → Evt (fun k => swageref18_Order.l1 k sp w out) (out ++ ordN sp n w, 0)
  | 0, w, out, hI, hm, hl, ho => by
    have h1 : w.length = 0 := by unfold meas at hm; omega
    have : w = [] := List.eq_nil_of_length_eq_zero h1
    subst this
    refine Evt.step (Evt.const rfl) fun k => ?_
    rw [swageref18_Order.l1, if_neg (by simp)]
    simp [ordN]
  | n + 1, w, out, hI, hm, hl, ho => by
    by_cases hw : w = []
    · subst hw
      refine Evt.step (Evt.const rfl) fun k => ?_
      rw [swageref18_Order.l1, if_neg (by simp)]
      simp [ordN]
    have hpos : 0 < w.length := by
      rcases Nat.eq_zero_or_pos w.length with h | h
      · exact absurd (List.eq_nil_of_length_eq_zero h) hw
      · exact h
    have hfr := rfree_ev w (by omega) (fun c hc => (hI.ne c hc).2)
    cases hf : fIdx w with
    | some j =>
      have hj := fIdx_lt hf
      have hmm := meas_free hf
      have hlen := List.length_eraseIdx_of_lt hj
      have ih := rord_l1 n (w.eraseIdx j) (out ++ [w[j]]) (inv_erase hI hf) (by omega) (by omega) (by simp; omega)
      rw [freeOf_some hf] at hfr
      rw [ordN_free hf, rd38_lt hj]
      rw [List.append_assoc] at ih
      refine Evt.step1 hfr ih fun k hk => ?_
      rw [swageref18_Order.l1, if_pos (by omega), hk]
      simp only [Option.bind_some]
      rw [if_neg (by omega), if_pos (by omega), if_pos (by omega), if_pos (by omega), if_pos (by omega), if_pos (by simp; omega), w64 (by omega) (by omega), if_pos (by omega), if_pos (by omega), if_pos (by simp; omega), rd38_lt hj, Int.toNat_natCast, show ((j : Int) + 1).toNat = j + 1 by omega, List.nil_append, ← List.eraseIdx_eq_take_drop_succ]
    | none =>
      have hmm := meas_stuck hw hI hf
      have ih := rord_l1 n (w.map (spareTo sp (rd_T38 w 0).f0)) (out ++ [⟨sp, (rd_T38 w 0).f0⟩]) (hI.spare _) (by omega) (by simpa using hl) (by simp; omega)
      have h2 := rord_l2 sp (rd_T38 w 0).f0 w (out ++ [⟨sp, (rd_T38 w 0).f0⟩]) (by omega) _ ih w.length 0 (by omega)
      rw [mixed_zero] at h2
      rw [freeOf_none hf] at hfr
      rw [ordN_stuck hw hf]
      rw [List.append_assoc] at h2
      refine Evt.step1 hfr h2 fun k hk => ?_
      rw [swageref18_Order.l1, if_pos (by omega), hk]
      simp only [Option.bind_some]
      rw [if_pos (by omega), if_pos (by omega), if_pos (by omega)]
      rfl
theorem rord_l0 {l : List S38} {sp : Int} (hl : l.length ≤ 40) (hn : (tos l).Nodup) : ∀ (d i : Nat), i + d = l.length → (l.take i).any (usesSp sp) = false →
    Evt (fun k => swageref18_Order.l0 k l sp (waitsOf (l.take i)) i) (if l.any (usesSp sp) = true then ([], 1) else (ordOf sp l, 0))
  | 0, i, hi, ha => by
    rw [List.take_of_length_le (by omega)] at ha ⊢
    have hI := inv_of hn ha
    have hwl : (waitsOf l).length ≤ l.length := List.length_filter_le _ _
    have := rord_l1 (sp := sp) (meas (waitsOf l)) (waitsOf l) [] hI (Nat.le_refl _) (by omega) (by unfold meas; simp; split <;> omega)
    rw [if_neg (fun e => by rw [ha] at e; cases e)]
    refine Evt.step this fun k => ?_
    rw [swageref18_Order.l0, if_neg (by omega)]
  | d + 1, i, hi, ha => by
    have hlt : i < l.length := by omega
    have htk := List.take_succ_eq_append_getElem hlt
    have hwl : (waitsOf (l.take i)).length ≤ l.length := by
      have : (waitsOf (l.take i)).length ≤ (l.take i).length := List.length_filter_le _ _
      rw [List.length_take] at this; omega
    by_cases hu : usesSp sp l[i] = true
    · rw [if_pos (List.any_eq_true.2 ⟨_, List.getElem_mem hlt, hu⟩)]
      have hj : Evt (fun k => swageref18_Order.j1 k l sp (waitsOf (l.take i)) i true) ([], 1) := by
        refine Evt.step (Evt.const rfl) fun k => ?_
        rw [swageref18_Order.j1, if_pos rfl]
      refine Evt.step hj fun k => ?_
      rw [swageref18_Order.l0, if_pos (by omega), if_pos (by omega), rd38_lt hlt]
      unfold usesSp at hu
      by_cases h0 : l[i].f0 = sp
      · rw [if_pos h0]
      · rw [if_neg h0]
        have : (l[i].f1 == sp) = true := by simpa [h0] using hu
        rw [this]
    · have ha2 : (l.take (i + 1)).any (usesSp sp) = false := by rw [htk, List.any_append, ha]; simpa using hu
      have ih := rord_l0 (sp := sp) hl hn d (i + 1) (by omega) ha2
      have hj : Evt (fun k => swageref18_Order.j1 k l sp (waitsOf (l.take i)) i false) (if l.any (usesSp sp) = true then ([], 1) else (ordOf sp l, 0)) := by
        refine Evt.step ih fun k => ?_
        rw [swageref18_Order.j1, if_neg (by simp), if_pos (by omega), if_pos (by omega), rd38_lt hlt, htk]
        unfold waitsOf
        rw [List.filter_append, w64 (by omega) (by omega)]
        unfold own_
        by_cases hc : l[i].f0 = l[i].f1
        · rw [if_pos hc, List.filter_cons, if_neg (by simp [hc])]
          simp
        · rw [if_neg hc, List.filter_cons, if_pos (show (!decide (l[i].f0 = l[i].f1)) = true by simpa using hc), if_pos (by unfold waitsOf own_ at hwl; omega)]
          rfl
      refine Evt.step hj fun k => ?_
      rw [swageref18_Order.l0, if_pos (by omega), if_pos (by omega), rd38_lt hlt]
      unfold usesSp at hu
      have h0 : ¬ l[i].f0 = sp := fun e => hu (by simp [e])
      have h1 : (l[i].f1 == sp) = false := by
        rw [beq_eq_false_iff_ne]
        exact fun e => hu (by simp [e])
      rw [if_neg h0, h1]
theorem rord_ev (l : List S38) (sp : Int) (hl : l.length ≤ 40) : Evt (fun k => swageref18_Order.f k l sp) (orderRes l sp) := by
  refine (rright_ev l (by omega)).bind ?_
  cases hok : okN l l.length with
  | false =>
    rw [ores_twice hok]
    exact Evt.const rfl
  | true =>
    have := rord_l0 (sp := sp) hl ((okN_iff l).1 hok) l.length 0 (by omega) (by simp)
    unfold orderRes
    rw [hok, if_neg (by simp)]
    exact this
#print axioms rord_ev
end Go.Proofs.Ytkfopphcgjdcaaa.A

/- What the machine does at this function, and a plain Lean function that says the same: written by a program for this claim; Lean checks it. -/
namespace Go.Proofs.Ytkfopphcgjdcaaa.A
open Go.RowKit Go.Proofs.YtkfopphcgjdcaaaW.PrintWords Go.Proofs.YtkfopphcgjdcaaaW.PrintLast Go.Proofs.YtkfopphcgjdcaaaW.PrintMore
attribute [local go_sem] max2_int min2_int max_two min_two max_three min_three max_four min_four   -- for this text's walks alone
set_option linter.unusedVariables false
set_option linter.unusedSimpArgs false

/-! ### swageref18_from: function 38 -/
def swageref18_from.l0 : Nat → List (S38) → Int → Int → Option (Int × Bool)
  | 0, _, _, _ => none
  | k + 1, x0, x1, x6 => if x6 < (x0.length : Int) then (if 0 ≤ x6 then (if ((rd_T38 x0 x6).f0) = x1 then (some ((rd_T38 x0 x6).f1, true)) else (swageref18_from.l0 k x0 x1 (wrap64 (x6 + 1)))) else (none)) else (some (0, false))
def swageref18_from.f (k : Nat) (l0 : List (S38)) (a1 : Int) : Option (Int × Bool) := swageref18_from.l0 k l0 a1 0
theorem swageref18_from.mono_l : ∀ k, (∀ y0 y1 y2, LeO (swageref18_from.l0 k y0 y1 y2) (swageref18_from.l0 (k + 1) y0 y1 y2))
  | 0 => fun _ _ _ r h => by simp [swageref18_from.l0] at h
  | k + 1 => by
    have ih0 := swageref18_from.mono_l k
    · intro y0 y1 y2
      unfold swageref18_from.l0
      repeat' first
      | (with_reducible exact ih0 _ _ _)
      | (with_reducible exact LeO.refl _)
      | (with_reducible exact LeO.none _)
      | (with_reducible refine LeO.ite ?_ ?_)
      | (with_reducible refine LeO.bind ?_ (fun _ => ?_))
      | exact ih0 _ _ _
      | exact LeO.none _
      | refine LeO.ite ?_ ?_
      | refine LeO.bind ?_ (fun _ => ?_)
theorem swageref18_from.mono : ∀ a0 a1 k, LeO (swageref18_from.f k a0 a1) (swageref18_from.f (k + 1) a0 a1) := by
  intro a0 a1 k
  have ih0 := swageref18_from.mono_l k
  unfold swageref18_from.f
  repeat' first
      | (with_reducible exact ih0 _ _ _)
      | (with_reducible exact LeO.refl _)
      | (with_reducible exact LeO.none _)
      | (with_reducible refine LeO.ite ?_ ?_)
      | (with_reducible refine LeO.bind ?_ (fun _ => ?_))
      | exact ih0 _ _ _
      | exact LeO.none _
      | refine LeO.ite ?_ ?_
      | refine LeO.bind ?_ (fun _ => ?_)
set_option maxHeartbeats 8000000 in
set_option maxRecDepth 100000 in
theorem swageref18_from.calls (k : Nat) (A0 : Option Addr) (c0 : Nat) (l0 : List (S38)) (a1 : Int) (r1 : Int) (r2 : Bool) (w : World) (hr0 : Kd.C k38 w A0 l0.length l0) (hc0 : l0.length ≤ c0) (h : swageref18_from.f k l0 a1 = some (r1, r2)) :
    Calls Try.prog 38 #[.slice A0 l0.length c0, .int .i64 a1] w fun e w' => e = .returned (.tuple #[.int .i64 r1, .bool r2]) ∧ Drawn0 w w' := by
  have HR0 := Aside0.mk hr0
  have HC0 := Aside0.mk hc0
  clear hr0 hc0
  have H : (swageref18_from.l0 k l0 a1 0) = some (r1, r2) := h
  clear h
  have H' := Aside0.mk H
  clear H
  go_enter Try.func38, Try.ntmps38
  go_wp2
  go_loopg [6] k (fun kq v6 w' => ∃ (x6_1 : Int), v6 = .int .i64 x6_1 ∧ Aside0 (swageref18_from.l0 kq l0 a1 x6_1 = some (r1, r2)) ∧ Aside0 (kq ≤ k) ∧ Drawn0 w w')
  case atStart => exact ⟨(0), (by first | rfl | (simp; done) | (simp [*]; done)), H', ⟨Nat.le_refl _⟩, by repeat (first | exact Drawn0.refl _ | apply Drawn0.step)⟩
  case round =>
    clear H'
    try clear p2
    obtain ⟨x6_1, rfl, HA, HK1, ⟨m1, rfl⟩⟩ := hrel
    cases gk with
    | zero => exact absurd HA.out (by simp [swageref18_from.l0])
    | succ k1 =>
      have H := HA.out
      clear HA
      simp only [swageref18_from.l0] at H
      by_cases c3 : x6_1 < (l0.length : Int)
      · rw [if_pos c3] at H
        have c3b0 : decide (x6_1 < (l0.length : Int)) = true := decide_eq_true c3
        clear c3
        by_cases c4 : 0 ≤ x6_1
        · rw [if_pos c4] at H
          have c4b0 : decide (0 ≤ x6_1) = true := decide_eq_true c4
          clear c4
          by_cases c5 : ((rd_T38 l0 x6_1).f0) = a1
          · rw [if_pos c5] at H
            have c5b0 : (((rd_T38 l0 x6_1).f0) == a1) = true := beq_iff_eq.mpr c5
            have c5b1 : (((rd_T38 l0 x6_1).f0) != a1) = false := bne_eq_false_iff_eq.mpr c5
            clear c5
            simp only [Option.some.injEq, Prod.mk.injEq] at H
            obtain ⟨rfl, rfl⟩ := H
            have p278 : 0 ≤ (x6_1 : Int) := of_decide_eq_true (by first | (with_reducible assumption) | assumption)
            have q278 : x6_1 < (l0.length : Int) := of_decide_eq_true (by first | (with_reducible assumption) | assumption)
            obtain ⟨ad278, e278, hx278_0, hx278_1⟩ := at_T38 HR0.out x6_1 p278 q278
            cases e278
            replace p278 := eq_true p278
            replace q278 := eq_true q278
            have p279 : 0 ≤ (x6_1 : Int) := of_decide_eq_true (by first | (with_reducible assumption) | assumption)
            have q279 : x6_1 < (l0.length : Int) := of_decide_eq_true (by first | (with_reducible assumption) | assumption)
            obtain ⟨ad279, e279, hx279_0, hx279_1⟩ := at_T38 HR0.out x6_1 p279 q279
            obtain rfl : ad278 = ad279 := (by injection e279)
            replace p279 := eq_true p279
            replace q279 := eq_true q279
            go_wp2
            go_ret2
            exact ⟨by first | rfl | (simp; done) | (simp [*]; done), by repeat (first | exact Drawn0.refl _ | apply Drawn0.step)⟩
          · rw [if_neg c5] at H
            have c5b0 : (((rd_T38 l0 x6_1).f0) == a1) = false := beq_eq_false_iff_ne.mpr c5
            have c5b1 : (((rd_T38 l0 x6_1).f0) != a1) = true := bne_iff_ne.mpr c5
            have H' := Aside0.mk H
            clear H
            have p278 : 0 ≤ (x6_1 : Int) := of_decide_eq_true (by first | (with_reducible assumption) | assumption)
            have q278 : x6_1 < (l0.length : Int) := of_decide_eq_true (by first | (with_reducible assumption) | assumption)
            obtain ⟨ad278, e278, hx278_0, hx278_1⟩ := at_T38 HR0.out x6_1 p278 q278
            cases e278
            replace p278 := eq_true p278
            replace q278 := eq_true q278
            go_wp2
            go_roundg k1
            case measure => have := HK1.out; omega
            case rel => exact ⟨(wrap64 (x6_1 + 1)), (by first | rfl | (simp; done) | (simp [*]; done)), H', ⟨by have := HK1.out; omega⟩, by repeat (first | exact Drawn0.refl _ | apply Drawn0.step)⟩
        · rw [if_neg c4] at H
          exact absurd H (by simp)
      · rw [if_neg c3] at H
        have c3b0 : decide (x6_1 < (l0.length : Int)) = false := decide_eq_false c3
        clear c3
        simp only [Option.some.injEq, Prod.mk.injEq] at H
        obtain ⟨rfl, rfl⟩ := H
        go_wp2
        go_ret2
        exact ⟨by first | rfl | (simp; done) | (simp [*]; done), by repeat (first | exact Drawn0.refl _ | apply Drawn0.step)⟩

end Go.Proofs.Ytkfopphcgjdcaaa.A
