/- Parts of the proof, in the order in which they rest on one another. -/
import Derived.Test.YtkfopphcgjdcaaaMOrder3
/- What the machine does at this function, and a plain Lean function that says the same: written by a program for this claim; Lean checks it. -/
namespace Go.Proofs.Ytkfopphcgjdcaaa.A
open Go.RowKit Go.Proofs.YtkfopphcgjdcaaaW.PrintWords Go.Proofs.YtkfopphcgjdcaaaW.PrintLast Go.Proofs.YtkfopphcgjdcaaaW.PrintMore
attribute [local go_sem] max2_int min2_int max_two min_two max_three min_three max_four min_four   -- for this text's walks alone
set_option linter.unusedVariables false
set_option linter.unusedSimpArgs false

/-! ### swageref18_Cycles: function 16 -/
mutual
def swageref18_Cycles.l0 : Nat → List (S38) → Bool → List (List Int) → Int → Option ((List (List Int)))
  | 0, _, _, _, _ => none
  | k + 1, x0, x3, x4, x5 => if x5 < (x0.length : Int) then (swageref18_Cycles.j1 k x0 x3 x4 x5 x3) else (swageref18_Cycles.j1 k x0 x3 x4 x5 false)
def swageref18_Cycles.j1 : Nat → List (S38) → Bool → List (List Int) → Int → Bool → Option ((List (List Int)))
  | 0, _, _, _, _, _ => none
  | k + 1, x0, x3, x4, x5, x20 => if x20 = true then (if 0 ≤ x5 then (if x5 < (x0.length : Int) then ((swageref18_from.f k x0 ((rd_T38 x0 x5).f0)).bind fun bt286 => (swageref18_Cycles.l1 k x0 x3 x4 x5 (([(rd_T38 x0 x5).f0] : List Int)) true bt286.1 bt286.2)) else (none)) else (none)) else (some x4)
def swageref18_Cycles.j3 : Nat → List (S38) → Bool → List (List Int) → Int → List Int → Bool → Int → Bool → Option ((List (List Int)))
  | 0, _, _, _, _, _, _, _, _ => none
  | k + 1, x0, x3, x4, x5, x6, x7, x8, x9 => if x9 = true then (if 0 ≤ x5 then (if x5 < (x0.length : Int) then (if x8 = ((rd_T38 x0 x5).f0) then (if x7 = true then (swageref18_Cycles.j4 k x0 x3 x4 x5 x6 (decide ((x6.length : Int) < 2))) else (swageref18_Cycles.j4 k x0 x3 x4 x5 x6 true)) else (swageref18_Cycles.j4 k x0 x3 x4 x5 x6 true)) else (none)) else (none)) else (swageref18_Cycles.j4 k x0 x3 x4 x5 x6 true)
def swageref18_Cycles.j4 : Nat → List (S38) → Bool → List (List Int) → Int → List Int → Bool → Option ((List (List Int)))
  | 0, _, _, _, _, _, _ => none
  | k + 1, x0, x3, x4, x5, x6, x99 => if x99 = true then (swageref18_Cycles.l0 k x0 x3 x4 (wrap64 (x5 + 1))) else (swageref18_Cycles.l2 k x0 x3 x4 x5 x6 0)
def swageref18_Cycles.l2 : Nat → List (S38) → Bool → List (List Int) → Int → List Int → Int → Option ((List (List Int)))
  | 0, _, _, _, _, _, _ => none
  | k + 1, x0, x3, x4, x5, x6, x10 => if x10 < (x4.length : Int) then (if 0 ≤ x10 then (if 0 < ((rd_L4 x4 x10).length : Int) then (if 0 < (x6.length : Int) then (if (rd (rd_L4 x4 x10) 0) < (rd x6 0) then (swageref18_Cycles.l2 k x0 x3 x4 x5 x6 (wrap64 (x10 + 1))) else (if x10 ≤ (x4.length : Int) then ((some (x4.take (x10 : Int).toNat : List (List Int))).bind fun y322 => (if ([] : List (List Int)).length + y322.length < 5864062014805 then ((some (([] : List (List Int)) ++ y322 : List (List Int))).bind fun y327 => (if y327.length < 5864062014805 then ((some (y327 ++ [x6] : List (List Int))).bind fun y330 => ((some (x4.drop (x10 : Int).toNat : List (List Int))).bind fun y333 => (if y330.length + y333.length < 5864062014805 then (swageref18_Cycles.l0 k x0 x3 (y330 ++ y333) (wrap64 (x5 + 1))) else (none)))) else (none))) else (none))) else (none))) else (none)) else (none)) else (none)) else (if 0 ≤ x10 then (if x10 ≤ (x4.length : Int) then ((some (x4.take (x10 : Int).toNat : List (List Int))).bind fun y341 => (if ([] : List (List Int)).length + y341.length < 5864062014805 then ((some (([] : List (List Int)) ++ y341 : List (List Int))).bind fun y346 => (if y346.length < 5864062014805 then ((some (y346 ++ [x6] : List (List Int))).bind fun y349 => ((some (x4.drop (x10 : Int).toNat : List (List Int))).bind fun y352 => (if y349.length + y352.length < 5864062014805 then (swageref18_Cycles.l0 k x0 x3 (y349 ++ y352) (wrap64 (x5 + 1))) else (none)))) else (none))) else (none))) else (none)) else (none))
def swageref18_Cycles.l1 : Nat → List (S38) → Bool → List (List Int) → Int → List Int → Bool → Int → Bool → Option ((List (List Int)))
  | 0, _, _, _, _, _, _, _, _ => none
  | k + 1, x0, x3, x4, x5, x6, x7, x8, x9 => if x9 = true then (if 0 ≤ x5 then (if x5 < (x0.length : Int) then (if x8 = ((rd_T38 x0 x5).f0) then (swageref18_Cycles.j3 k x0 x3 x4 x5 x6 x7 x8 x9) else (if (x6.length : Int) ≤ (x0.length : Int) then (if x7 = true then (if 0 < (x6.length : Int) then ((some (([rd x6 0, x8] : List Int) : List Int)).bind fun y291 => (if 1 ≤ (x6.length : Int) then ((some (x6.drop 1 : List Int)).bind fun y294 => (if y291.length + y294.length < 17592186044416 then ((swageref18_from.f k x0 x8).bind fun bt302 => (swageref18_Cycles.l1 k x0 x3 x4 x5 (y291 ++ y294) (decide (x8 > ((rd_T38 x0 x5).f0))) bt302.1 bt302.2)) else (none))) else (none))) else (none)) else (if 0 < (x6.length : Int) then ((some (([rd x6 0, x8] : List Int) : List Int)).bind fun y305 => (if 1 ≤ (x6.length : Int) then ((some (x6.drop 1 : List Int)).bind fun y308 => (if y305.length + y308.length < 17592186044416 then ((swageref18_from.f k x0 x8).bind fun bt316 => (swageref18_Cycles.l1 k x0 x3 x4 x5 (y305 ++ y308) false bt316.1 bt316.2)) else (none))) else (none))) else (none))) else (swageref18_Cycles.j3 k x0 x3 x4 x5 x6 x7 x8 x9))) else (none)) else (none)) else (swageref18_Cycles.j3 k x0 x3 x4 x5 x6 x7 x8 x9)
end
def swageref18_Cycles.f (k : Nat) (l0 : List (S38)) : Option ((List (List Int))) := (swageref18_Right.f k l0).bind fun t280 => (swageref18_Cycles.l0 k l0 t280 ([] : List (List Int)) 0)
theorem swageref18_Cycles.mono_l : ∀ k, (∀ y0 y1 y2 y3, LeO (swageref18_Cycles.l0 k y0 y1 y2 y3) (swageref18_Cycles.l0 (k + 1) y0 y1 y2 y3)) ∧ (∀ y0 y1 y2 y3 y4, LeO (swageref18_Cycles.j1 k y0 y1 y2 y3 y4) (swageref18_Cycles.j1 (k + 1) y0 y1 y2 y3 y4)) ∧ (∀ y0 y1 y2 y3 y4 y5 y6 y7, LeO (swageref18_Cycles.j3 k y0 y1 y2 y3 y4 y5 y6 y7) (swageref18_Cycles.j3 (k + 1) y0 y1 y2 y3 y4 y5 y6 y7)) ∧ (∀ y0 y1 y2 y3 y4 y5, LeO (swageref18_Cycles.j4 k y0 y1 y2 y3 y4 y5) (swageref18_Cycles.j4 (k + 1) y0 y1 y2 y3 y4 y5)) ∧ (∀ y0 y1 y2 y3 y4 y5, LeO (swageref18_Cycles.l2 k y0 y1 y2 y3 y4 y5) (swageref18_Cycles.l2 (k + 1) y0 y1 y2 y3 y4 y5)) ∧ (∀ y0 y1 y2 y3 y4 y5 y6 y7, LeO (swageref18_Cycles.l1 k y0 y1 y2 y3 y4 y5 y6 y7) (swageref18_Cycles.l1 (k + 1) y0 y1 y2 y3 y4 y5 y6 y7))
  | 0 => ⟨fun _ _ _ _ r h => by simp [swageref18_Cycles.l0] at h, fun _ _ _ _ _ r h => by simp [swageref18_Cycles.j1] at h, fun _ _ _ _ _ _ _ _ r h => by simp [swageref18_Cycles.j3] at h, fun _ _ _ _ _ _ r h => by simp [swageref18_Cycles.j4] at h, fun _ _ _ _ _ _ r h => by simp [swageref18_Cycles.l2] at h, fun _ _ _ _ _ _ _ _ r h => by simp [swageref18_Cycles.l1] at h⟩
  | k + 1 => by
    obtain ⟨ih0, ih1, ih2, ih3, ih4, ih5⟩ := swageref18_Cycles.mono_l k
    refine ⟨?_, ?_, ?_, ?_, ?_, ?_⟩
    · intro y0 y1 y2 y3
      unfold swageref18_Cycles.l0
      repeat' first
      | (with_reducible exact ih0 _ _ _ _)
      | (with_reducible exact ih1 _ _ _ _ _)
      | (with_reducible exact ih2 _ _ _ _ _ _ _ _)
      | (with_reducible exact ih3 _ _ _ _ _ _)
      | (with_reducible exact ih4 _ _ _ _ _ _)
      | (with_reducible exact ih5 _ _ _ _ _ _ _ _)
      | (with_reducible exact swageref18_Right.mono _ _)
      | (with_reducible exact swageref18_from.mono _ _ _)
      | (with_reducible exact LeO.refl _)
      | (with_reducible exact LeO.none _)
      | (with_reducible refine LeO.ite ?_ ?_)
      | (with_reducible refine LeO.bind ?_ (fun _ => ?_))
      | exact ih0 _ _ _ _
      | exact ih1 _ _ _ _ _
      | exact ih2 _ _ _ _ _ _ _ _
      | exact ih3 _ _ _ _ _ _
      | exact ih4 _ _ _ _ _ _
      | exact ih5 _ _ _ _ _ _ _ _
      | exact swageref18_Right.mono _ _
      | exact swageref18_from.mono _ _ _
      | exact LeO.none _
      | refine LeO.ite ?_ ?_
      | refine LeO.bind ?_ (fun _ => ?_)
    · intro y0 y1 y2 y3 y4
      unfold swageref18_Cycles.j1
      repeat' first
      | (with_reducible exact ih0 _ _ _ _)
      | (with_reducible exact ih1 _ _ _ _ _)
      | (with_reducible exact ih2 _ _ _ _ _ _ _ _)
      | (with_reducible exact ih3 _ _ _ _ _ _)
      | (with_reducible exact ih4 _ _ _ _ _ _)
      | (with_reducible exact ih5 _ _ _ _ _ _ _ _)
      | (with_reducible exact swageref18_Right.mono _ _)
      | (with_reducible exact swageref18_from.mono _ _ _)
      | (with_reducible exact LeO.refl _)
      | (with_reducible exact LeO.none _)
      | (with_reducible refine LeO.ite ?_ ?_)
      | (with_reducible refine LeO.bind ?_ (fun _ => ?_))
      | exact ih0 _ _ _ _
      | exact ih1 _ _ _ _ _
      | exact ih2 _ _ _ _ _ _ _ _
      | exact ih3 _ _ _ _ _ _
      | exact ih4 _ _ _ _ _ _
      | exact ih5 _ _ _ _ _ _ _ _
      | exact swageref18_Right.mono _ _
      | exact swageref18_from.mono _ _ _
      | exact LeO.none _
      | refine LeO.ite ?_ ?_
      | refine LeO.bind ?_ (fun _ => ?_)
    · intro y0 y1 y2 y3 y4 y5 y6 y7
      unfold swageref18_Cycles.j3
      repeat' first
      | (with_reducible exact ih0 _ _ _ _)
      | (with_reducible exact ih1 _ _ _ _ _)
      | (with_reducible exact ih2 _ _ _ _ _ _ _ _)
      | (with_reducible exact ih3 _ _ _ _ _ _)
      | (with_reducible exact ih4 _ _ _ _ _ _)
      | (with_reducible exact ih5 _ _ _ _ _ _ _ _)
      | (with_reducible exact swageref18_Right.mono _ _)
      | (with_reducible exact swageref18_from.mono _ _ _)
      | (with_reducible exact LeO.refl _)
      | (with_reducible exact LeO.none _)
      | (with_reducible refine LeO.ite ?_ ?_)
      | (with_reducible refine LeO.bind ?_ (fun _ => ?_))
      | exact ih0 _ _ _ _
      | exact ih1 _ _ _ _ _
      | exact ih2 _ _ _ _ _ _ _ _
      | exact ih3 _ _ _ _ _ _
      | exact ih4 _ _ _ _ _ _
      | exact ih5 _ _ _ _ _ _ _ _
      | exact swageref18_Right.mono _ _
      | exact swageref18_from.mono _ _ _
      | exact LeO.none _
      | refine LeO.ite ?_ ?_
      | refine LeO.bind ?_ (fun _ => ?_)
    · intro y0 y1 y2 y3 y4 y5
      unfold swageref18_Cycles.j4
      repeat' first
      | (with_reducible exact ih0 _ _ _ _)
      | (with_reducible exact ih1 _ _ _ _ _)
      | (with_reducible exact ih2 _ _ _ _ _ _ _ _)
      | (with_reducible exact ih3 _ _ _ _ _ _)
      | (with_reducible exact ih4 _ _ _ _ _ _)
      | (with_reducible exact ih5 _ _ _ _ _ _ _ _)
      | (with_reducible exact swageref18_Right.mono _ _)
      | (with_reducible exact swageref18_from.mono _ _ _)
      | (with_reducible exact LeO.refl _)
      | (with_reducible exact LeO.none _)
      | (with_reducible refine LeO.ite ?_ ?_)
      | (with_reducible refine LeO.bind ?_ (fun _ => ?_))
      | exact ih0 _ _ _ _
      | exact ih1 _ _ _ _ _
      | exact ih2 _ _ _ _ _ _ _ _
      | exact ih3 _ _ _ _ _ _
      | exact ih4 _ _ _ _ _ _
      | exact ih5 _ _ _ _ _ _ _ _
      | exact swageref18_Right.mono _ _
      | exact swageref18_from.mono _ _ _
      | exact LeO.none _
      | refine LeO.ite ?_ ?_
      | refine LeO.bind ?_ (fun _ => ?_)
    · intro y0 y1 y2 y3 y4 y5
      unfold swageref18_Cycles.l2
      repeat' first
      | (with_reducible exact ih0 _ _ _ _)
      | (with_reducible exact ih1 _ _ _ _ _)
      | (with_reducible exact ih2 _ _ _ _ _ _ _ _)
      | (with_reducible exact ih3 _ _ _ _ _ _)
      | (with_reducible exact ih4 _ _ _ _ _ _)
      | (with_reducible exact ih5 _ _ _ _ _ _ _ _)
      | (with_reducible exact swageref18_Right.mono _ _)
      | (with_reducible exact swageref18_from.mono _ _ _)
      | (with_reducible exact LeO.refl _)
      | (with_reducible exact LeO.none _)
      | (with_reducible refine LeO.ite ?_ ?_)
      | (with_reducible refine LeO.bind ?_ (fun _ => ?_))
      | exact ih0 _ _ _ _
      | exact ih1 _ _ _ _ _
      | exact ih2 _ _ _ _ _ _ _ _
      | exact ih3 _ _ _ _ _ _
      | exact ih4 _ _ _ _ _ _
      | exact ih5 _ _ _ _ _ _ _ _
      | exact swageref18_Right.mono _ _
      | exact swageref18_from.mono _ _ _
      | exact LeO.none _
      | refine LeO.ite ?_ ?_
      | refine LeO.bind ?_ (fun _ => ?_)
    · intro y0 y1 y2 y3 y4 y5 y6 y7
      unfold swageref18_Cycles.l1
      repeat' first
      | (with_reducible exact ih0 _ _ _ _)
      | (with_reducible exact ih1 _ _ _ _ _)
      | (with_reducible exact ih2 _ _ _ _ _ _ _ _)
      | (with_reducible exact ih3 _ _ _ _ _ _)
      | (with_reducible exact ih4 _ _ _ _ _ _)
      | (with_reducible exact ih5 _ _ _ _ _ _ _ _)
      | (with_reducible exact swageref18_Right.mono _ _)
      | (with_reducible exact swageref18_from.mono _ _ _)
      | (with_reducible exact LeO.refl _)
      | (with_reducible exact LeO.none _)
      | (with_reducible refine LeO.ite ?_ ?_)
      | (with_reducible refine LeO.bind ?_ (fun _ => ?_))
      | exact ih0 _ _ _ _
      | exact ih1 _ _ _ _ _
      | exact ih2 _ _ _ _ _ _ _ _
      | exact ih3 _ _ _ _ _ _
      | exact ih4 _ _ _ _ _ _
      | exact ih5 _ _ _ _ _ _ _ _
      | exact swageref18_Right.mono _ _
      | exact swageref18_from.mono _ _ _
      | exact LeO.none _
      | refine LeO.ite ?_ ?_
      | refine LeO.bind ?_ (fun _ => ?_)
theorem swageref18_Cycles.mono : ∀ a0 k, LeO (swageref18_Cycles.f k a0) (swageref18_Cycles.f (k + 1) a0) := by
  intro a0 k
  obtain ⟨ih0, ih1, ih2, ih3, ih4, ih5⟩ := swageref18_Cycles.mono_l k
  unfold swageref18_Cycles.f
  repeat' first
      | (with_reducible exact ih0 _ _ _ _)
      | (with_reducible exact ih1 _ _ _ _ _)
      | (with_reducible exact ih2 _ _ _ _ _ _ _ _)
      | (with_reducible exact ih3 _ _ _ _ _ _)
      | (with_reducible exact ih4 _ _ _ _ _ _)
      | (with_reducible exact ih5 _ _ _ _ _ _ _ _)
      | (with_reducible exact swageref18_Right.mono _ _)
      | (with_reducible exact swageref18_from.mono _ _ _)
      | (with_reducible exact LeO.refl _)
      | (with_reducible exact LeO.none _)
      | (with_reducible refine LeO.ite ?_ ?_)
      | (with_reducible refine LeO.bind ?_ (fun _ => ?_))
      | exact ih0 _ _ _ _
      | exact ih1 _ _ _ _ _
      | exact ih2 _ _ _ _ _ _ _ _
      | exact ih3 _ _ _ _ _ _
      | exact ih4 _ _ _ _ _ _
      | exact ih5 _ _ _ _ _ _ _ _
      | exact swageref18_Right.mono _ _
      | exact swageref18_from.mono _ _ _
      | exact LeO.none _
      | refine LeO.ite ?_ ?_
      | refine LeO.bind ?_ (fun _ => ?_)
def swageref18_Cycles.T11 : Bool × List (List Nat × List Nat) := (true, [([], []), ([0], [0]), ([1], [1]), ([], []), ([2, 3], [2, 3]), ([], []), ([5], [5]), ([4, 6], [4, 6]), ([7, 7, 0, 1, 2, 3, 4, 5, 6, 7], [0, 5, 7])])
def swageref18_Cycles.B11 : List Nat := [0, 1, 3, 0, 15, 0, 32, 127, 255]
theorem swageref18_Cycles.tab11 : rtab .any (opsOf Try.f16 11) = swageref18_Cycles.T11 := by kernel_rfl
theorem swageref18_Cycles.bits11 : waitsOk swageref18_Cycles.T11.2 swageref18_Cycles.B11 = true := by kernel_rfl
def swageref18_Cycles.T15 : Bool × List (List Nat × List Nat) := (true, [([], []), ([], []), ([1], [1]), ([0, 2], [0, 2]), ([3], [3]), ([4], [4]), ([4], [4]), ([5, 6, 4], [4, 5, 6]), ([7, 4], [4, 7]), ([8, 4], [4, 8]), ([9, 4], [4, 9]), ([4], [4]), ([11, 4], [4, 11]), ([12, 4], [4, 12]), ([10, 13, 4], [4, 10, 13]), ([4, 14], [4, 14])])
def swageref18_Cycles.B15 : List Nat := [0, 0, 2, 7, 15, 31, 31, 127, 255, 511, 1023, 31, 2079, 6175, 16383, 32767]
theorem swageref18_Cycles.tab15 : rtab .any (opsOf Try.f16 15) = swageref18_Cycles.T15 := by kernel_rfl
theorem swageref18_Cycles.bits15 : waitsOk swageref18_Cycles.T15.2 swageref18_Cycles.B15 = true := by kernel_rfl
set_option maxHeartbeats 8000000 in
set_option maxRecDepth 100000 in
theorem swageref18_Cycles.calls (k : Nat) (A0 : Option Addr) (c0 : Nat) (l0 : List (S38)) (r : List (List Int)) (w : World) (hr0 : Kd.C k38 w A0 l0.length l0) (hc0 : l0.length ≤ c0) (h : swageref18_Cycles.f k l0 = some r) :
    Calls Try.prog 16 #[.slice A0 l0.length c0] w fun e w' => ∃ v0_ : Value, e = .returned (v0_) ∧ Kd.N (Kd.slice 3 (Kd.int .i64)) 43 w' w.heap.size (fun k_ => (w.heap.size ≤ k_)) v0_ r ∧ Below w.heap.size w w' := by
  have HR0 := Aside0.mk hr0
  have HC0 := Aside0.mk hc0
  clear hr0 hc0
  have HB := Aside0.mk (Below.refl w.heap.size w)
  have H : ((swageref18_Right.f k l0).bind fun t280 => (swageref18_Cycles.l0 k l0 t280 ([] : List (List Int)) 0)) = some r := h
  clear h
  replace H := Option.bind_eq_some_iff.mp H
  obtain ⟨t280, A20, H⟩ := H
  replace H : (swageref18_Cycles.l0 k l0 t280 ([] : List (List Int)) 0) = some r := H
  have A2 := Aside0.mk A20
  clear A20
  have H' := Aside0.mk H
  clear H
  go_enter Try.func16, Try.ntmps16
  go_wp2_with (first | ((with_reducible refine gate_callee (f := 13) rfl ?_); refine goesL_ (some 13) rfl rfl Try.func13 (by kernel_rfl) rfl #[.slice A0 l0.length c0] rfl (by (try simp only [List.map_toArray, List.map_cons, List.map_nil]); first | done | rfl | (simp only [List.length_drop, List.length_take]; rfl)) ?_; (with_reducible refine (swageref18_Right.calls k _ _ l0 t280 _ ?side1 ?side2 A2.out).mono ?_); (case side1 => repeat (first | exact HR0.out | (with_reducible refine Kd.C_alloc ?_ _) | (with_reducible refine Kd.C_drewN ?_ _) | (with_reducible refine Kd.C_drew ?_))); (case side2 => exact HC0.out); rintro e w' ⟨rfl, ⟨nd, rfl⟩⟩; refine ⟨_, rfl, ?_⟩))
  go_loopg [4, 5] k (fun kq v4 v5 w' => ∃ (x4_1 : List (List Int)) (x5_1 : Int), v5 = .int .i64 x5_1 ∧ Aside0 (swageref18_Cycles.l0 kq l0 t280 x4_1 x5_1 = some r) ∧ Aside0 (kq ≤ k) ∧ Aside0 (Kd.N (Kd.slice 3 (Kd.int .i64)) 43 w' w.heap.size (fun k_ => (w.heap.size ≤ k_)) v4 x4_1) ∧ Aside0 (Below w.heap.size w w'))
  case atStart => exact ⟨(([] : List (List Int))), (0), (by first | rfl | (simp; done) | (simp [*]; done)), H', ⟨Nat.le_refl _⟩, ⟨by first | exact Kd.S_nil _ _ _ _ _ | exact Kd.N_nil _ _ _ _ _ | exact Kd.V_nil _ _ _ _ _ | exact Kd.Q_nil _ _ _ _ _ | exact Kd.R_nil _ _ _ _ _⟩, ⟨by repeat (first | (with_reducible first | exact HB.out | apply below_alloc | apply pw_below_drewN | apply below_drew1) | exact HB.out)⟩⟩
  case round =>
    clear H'
    try clear c1
    try clear p2
    obtain ⟨x4_1, x5_1, rfl, HA, HK1, HO_4, HB⟩ := hrel
    cases gk with
    | zero => exact absurd HA.out (by simp [swageref18_Cycles.l0])
    | succ k1 =>
      have H := HA.out
      clear HA
      simp only [swageref18_Cycles.l0] at H
      have HC3 := Aside0.mk H
      clear H
      go_upto_region 4 with (fail)
      go_cut [20] (fun v20 wc => ∃ (kq : Nat) (x20_2 : Bool), v20 = .bool x20_2 ∧ Aside0 (swageref18_Cycles.j1 kq l0 t280 x4_1 x5_1 x20_2 = some r) ∧ Aside0 (kq ≤ k1) ∧ Aside0 (Kd.N (Kd.slice 3 (Kd.int .i64)) 43 wc w.heap.size (fun k_ => (w.heap.size ≤ k_)) u4 x4_1) ∧ Aside0 (Below w.heap.size w wc))
      case first =>
        have H := HC3.out
        clear HC3
        by_cases c4 : x5_1 < (l0.length : Int)
        · rw [if_pos c4] at H
          have c4b0 : decide (x5_1 < (l0.length : Int)) = true := decide_eq_true c4
          clear c4
          (first | rw [c4b0] | (simp only [i64_w, i32_w]; rw [c4b0]) | skip)
          have H' := Aside0.mk H
          clear H
          go_wp2
          go_meet
          case rel => exact ⟨_, (t280), (by first | rfl | (simp; done) | (simp [*]; done)), H', ⟨by have := HK1.out; first | omega | exact Nat.le_refl _⟩, ⟨by (with_reducible repeat (first | apply Kd.N_alloc | apply Kd.N_drewN | apply Kd.N_drew)); exact HO_4.out⟩, ⟨by repeat (first | (with_reducible first | exact HB.out | apply below_alloc | apply pw_below_drewN | apply below_drew1) | exact HB.out)⟩⟩
        · rw [if_neg c4] at H
          have c4b0 : decide (x5_1 < (l0.length : Int)) = false := decide_eq_false c4
          clear c4
          (first | rw [c4b0] | (simp only [i64_w, i32_w]; rw [c4b0]) | skip)
          have H' := Aside0.mk H
          clear H
          go_wp2
          go_meet
          case rel => exact ⟨_, (false), (by first | rfl | (simp; done) | (simp [*]; done)), H', ⟨by have := HK1.out; first | omega | exact Nat.le_refl _⟩, ⟨by (with_reducible repeat (first | apply Kd.N_alloc | apply Kd.N_drewN | apply Kd.N_drew)); exact HO_4.out⟩, ⟨by repeat (first | (with_reducible first | exact HB.out | apply below_alloc | apply pw_below_drewN | apply below_drew1) | exact HB.out)⟩⟩
      case rest =>
        clear HC3
        try clear c1
        try clear p2
        try clear c4
        try clear c4b0
        try clear p2
        obtain ⟨kq, x20_2, rfl, HA, HJ2, HO_4, HB⟩ := hcut
        cases kq with
        | zero => exact absurd HA.out (by simp [swageref18_Cycles.j1])
        | succ kj2 =>
          have H := HA.out
          clear HA
          simp only [swageref18_Cycles.j1] at H
          by_cases c5 : x20_2 = true
          · subst c5
            have H1 : (if 0 ≤ x5_1 then (if x5_1 < (l0.length : Int) then ((swageref18_from.f kj2 l0 ((rd_T38 l0 x5_1).f0)).bind fun bt286 => (swageref18_Cycles.l1 kj2 l0 t280 x4_1 x5_1 (([(rd_T38 l0 x5_1).f0] : List Int)) true bt286.1 bt286.2)) else (none)) else (none)) = some r := by rw [if_pos rfl] at H; exact H
            clear H
            have H := H1
            clear H1
            by_cases c6 : 0 ≤ x5_1
            · rw [if_pos c6] at H
              have c6b0 : decide (0 ≤ x5_1) = true := decide_eq_true c6
              clear c6
              by_cases c7 : x5_1 < (l0.length : Int)
              · rw [if_pos c7] at H
                have c7b0 : decide (x5_1 < (l0.length : Int)) = true := decide_eq_true c7
                clear c7
                obtain ⟨y282, hy282⟩ : ∃ y_ : List Int, y_ = (([(rd_T38 l0 x5_1).f0] : List Int)) := ⟨_, rfl⟩
                replace H : ((swageref18_from.f kj2 l0 ((rd_T38 l0 x5_1).f0)).bind fun bt286 => (swageref18_Cycles.l1 kj2 l0 t280 x4_1 x5_1 y282 true bt286.1 bt286.2)) = some r := by first | (rw [hy282]; with_reducible exact H) | (have H2_ := (Option.bind_some _ _).symm.trans H; rw [hy282]; with_reducible exact H2_) | (have H2_ := (Option.bind_some _ _).symm.trans H; with_reducible exact H2_) | with_reducible exact H | (rw [hy282]; exact H) | exact H
                have Ny282 := Aside0.mk hy282
                clear hy282
                replace H := Option.bind_eq_some_iff.mp H
                obtain ⟨⟨t286, t287⟩, A80, H⟩ := H
                replace H : (swageref18_Cycles.l1 kj2 l0 t280 x4_1 x5_1 y282 true t286 t287) = some r := H
                have A8 := Aside0.mk A80
                clear A80
                have HC9 := Aside0.mk H
                clear H
                have p281 : 0 ≤ (x5_1 : Int) := of_decide_eq_true (by first | (with_reducible assumption) | assumption)
                have q281 : x5_1 < (l0.length : Int) := of_decide_eq_true (by first | (with_reducible assumption) | assumption)
                obtain ⟨ad281, e281, hx281_0, hx281_1⟩ := at_T38 HR0.out x5_1 p281 q281
                cases e281
                replace hx281_0 := (HB.out.cell (World.block_lt_of_cell? w _ hx281_0)).trans hx281_0
                replace hx281_1 := (HB.out.cell (World.block_lt_of_cell? w _ hx281_1)).trans hx281_1
                replace p281 := eq_true p281
                replace q281 := eq_true q281
                go_upto_block 2 with (first | ((with_reducible refine gate_dst (N := 28) rfl ?_); (try (refine gate_guard (by rfl) ?_; dsimp only)); refine Kd.R_lit (Kd.int .i64) _ 3 ?hg (N := 28) ?hd (xs := ([(rd_T38 l0 x5_1).f0] : List Int)) (inner := [.int .i64 ((rd_T38 l0 x5_1).f0)]) (ok := fun _ => True) (okp := fun _ => True) ?hr ?hp (fun _ hk => hk) trivial (Below.refl _ _) (Nat.le_refl _) (by simp) ?_; (case hd => rfl); (case hg => rfl); (case hr => first | (go_simp; done) | (go_simp; rfl)); (case hp => exact (Reps.one (show Kd.M (Kd.int .i64) _ _ _ ((rd_T38 l0 x5_1).f0) [.int .i64 ((rd_T38 l0 x5_1).f0)] from rfl) (Reps.none _ _))); intro v283 w10 ho11 hb hg_ hnew_; clear hg_ hnew_; (first | rw [← Ny282.out] at ho11 | (simp only [Int.reduceToNat] at ho11; rw [← Ny282.out] at ho11)); have n0_ := Aside0.mk (Kd.N_elder' (by (with_reducible repeat (first | apply Kd.N_alloc | apply Kd.N_drewN | apply Kd.N_drew)); exact HO_4.out) (Kd.R_base ho11) hb); have n1_ := Aside0.mk (Kd.R_lower (Kd.R_newM (M := fun k_ => (w.heap.size ≤ k_)) ho11 (below_size (by repeat (first | (with_reducible first | exact HB.out | apply below_alloc | apply pw_below_drewN | apply below_drew1) | exact HB.out))) (fun k_ h_ => h_)) (below_size (by repeat (first | (with_reducible first | exact HB.out | apply below_alloc | apply pw_below_drewN | apply below_drew1) | exact HB.out)))); have n2_ := Aside0.mk (below_step (by repeat (first | (with_reducible first | exact HB.out | apply below_alloc | apply pw_below_drewN | apply below_drew1) | exact HB.out)) hb); clear HO_4; clear HB; have HO_4 := n0_; have HO284 := n1_; have HB := n2_; clear n0_ n1_ n2_; clear hb ho11; have p285 : 0 ≤ (x5_1 : Int) := of_decide_eq_true (by first | (with_reducible assumption) | assumption); have q285 : x5_1 < (l0.length : Int) := of_decide_eq_true (by first | (with_reducible assumption) | assumption); obtain ⟨ad285, e285, hx285_0, hx285_1⟩ := at_T38 HR0.out x5_1 p285 q285; obtain rfl : ad281 = ad285 := (by injection e285); replace hx285_0 := (HB.out.cell (World.block_lt_of_cell? w _ hx285_0)).trans hx285_0; replace hx285_1 := (HB.out.cell (World.block_lt_of_cell? w _ hx285_1)).trans hx285_1; replace p285 := eq_true p285; replace q285 := eq_true q285) | ((with_reducible refine gate_callee (f := 38) rfl ?_); refine goesL_ (some 36) rfl rfl Try.func38 (by kernel_rfl) rfl #[.slice (some ad281) l0.length c0, .int .i64 ((rd_T38 l0 x5_1).f0)] rfl (by (try simp only [List.map_toArray, List.map_cons, List.map_nil]); first | done | rfl | (simp only [List.length_drop, List.length_take]; rfl)) ?_; (with_reducible refine (swageref18_from.calls kj2 _ _ l0 ((rd_T38 l0 x5_1).f0) t286 t287 _ ?side1 ?side2 A8.out).mono ?_); (case side1 => repeat (first | exact (Kd.C_below HR0.out HB.out) | (with_reducible refine Kd.C_alloc ?_ _) | (with_reducible refine Kd.C_drewN ?_ _) | (with_reducible refine Kd.C_drew ?_))); (case side2 => exact HC0.out); rintro e w' ⟨rfl, ⟨nd, rfl⟩⟩; refine ⟨_, rfl, ?_⟩))
                (try simp only [Act.put, List.setIfInBounds_toArray, List.set_cons_zero, List.set_cons_succ])
                go_cut [6, 7, 8, 9] (fun v6 v7 v8 v9 wc => ∃ (kq : Nat) (x6_8 : List Int) (x7_8 : Bool) (x8_8 : Int) (x9_8 : Bool), v7 = .bool x7_8 ∧ v8 = .int .i64 x8_8 ∧ v9 = .bool x9_8 ∧ Aside0 (swageref18_Cycles.j3 kq l0 t280 x4_1 x5_1 x6_8 x7_8 x8_8 x9_8 = some r) ∧ Aside0 (kq ≤ kj2) ∧ Aside0 (Kd.N (Kd.slice 3 (Kd.int .i64)) 43 wc w.heap.size (fun k_ => (w.heap.size ≤ k_) ∧ some k_ ≠ (v6 : Value).ownBlock) u4 x4_1) ∧ Aside0 (Kd.R (Kd.int .i64) 3 wc w.heap.size (fun k_ => (w.heap.size ≤ k_)) v6 x6_8) ∧ Aside0 (Below w.heap.size w wc))
                case first =>
                  have H := HC9.out
                  clear HC9
                  have H' := Aside0.mk H
                  clear H
                  go_wp2
                  go_loopg [6, 7, 8, 9] kj2 (fun kq v6 v7 v8 v9 w' => ∃ (x6_3 : List Int) (x7_3 : Bool) (x8_3 : Int) (x9_3 : Bool), v7 = .bool x7_3 ∧ v8 = .int .i64 x8_3 ∧ v9 = .bool x9_3 ∧ Aside0 (swageref18_Cycles.l1 kq l0 t280 x4_1 x5_1 x6_3 x7_3 x8_3 x9_3 = some r) ∧ Aside0 (kq ≤ kj2) ∧ Aside0 (Kd.N (Kd.slice 3 (Kd.int .i64)) 43 w' w.heap.size (fun k_ => (w.heap.size ≤ k_) ∧ some k_ ≠ (v6 : Value).ownBlock) u4 x4_1) ∧ Aside0 (Kd.R (Kd.int .i64) 3 w' w.heap.size (fun k_ => (w.heap.size ≤ k_)) v6 x6_3) ∧ Aside0 (Below w.heap.size w w'))
                  case atStart => exact ⟨(y282), (true), (t286), (t287), (by first | rfl | (simp; done) | (simp [*]; done)), (by first | rfl | (simp; done) | (simp [*]; done)), (by first | rfl | (simp; done) | (simp [*]; done)), H', ⟨Nat.le_refl _⟩, ⟨by (with_reducible repeat (first | apply Kd.N_alloc | apply Kd.N_drewN | apply Kd.N_drew)); exact HO_4.out⟩, ⟨by (with_reducible repeat (first | apply Kd.R_alloc | apply Kd.R_drewN | apply Kd.R_drew)); exact Kd.R_mono HO284.out (fun _ hk => hk.1)⟩, ⟨by repeat (first | (with_reducible first | exact HB.out | apply below_alloc | apply pw_below_drewN | apply below_drew1) | exact HB.out)⟩⟩
                  case round =>
                    clear H'
                    try clear c1
                    try clear p2
                    try clear q2
                    try clear hx2
                    try clear c3
                    try clear c4
                    try clear c4b0
                    try clear c5
                    try clear c6
                    try clear c6b0
                    try clear c7
                    try clear c7b0
                    try clear hx281_0
                    try clear hx281_1
                    try clear hx285_0
                    try clear hx285_1
                    try clear p2
                    try clear p281
                    try clear p285
                    try clear q281
                    try clear q285
                    obtain ⟨x6_3, x7_3, x8_3, x9_3, rfl, rfl, rfl, HA, HK3, HO_4, HO_6, HB⟩ := hrel
                    cases gk with
                    | zero => exact absurd HA.out (by simp [swageref18_Cycles.l1])
                    | succ k3 =>
                      have H := HA.out
                      clear HA
                      simp only [swageref18_Cycles.l1] at H
                      by_cases c12 : x9_3 = true
                      · subst c12
                        have H1 : (if 0 ≤ x5_1 then (if x5_1 < (l0.length : Int) then (if x8_3 = ((rd_T38 l0 x5_1).f0) then (swageref18_Cycles.j3 k3 l0 t280 x4_1 x5_1 x6_3 x7_3 x8_3 true) else (if (x6_3.length : Int) ≤ (l0.length : Int) then (if x7_3 = true then (if 0 < (x6_3.length : Int) then ((some (([rd x6_3 0, x8_3] : List Int) : List Int)).bind fun y291 => (if 1 ≤ (x6_3.length : Int) then ((some (x6_3.drop 1 : List Int)).bind fun y294 => (if y291.length + y294.length < 17592186044416 then ((swageref18_from.f k3 l0 x8_3).bind fun bt302 => (swageref18_Cycles.l1 k3 l0 t280 x4_1 x5_1 (y291 ++ y294) (decide (x8_3 > ((rd_T38 l0 x5_1).f0))) bt302.1 bt302.2)) else (none))) else (none))) else (none)) else (if 0 < (x6_3.length : Int) then ((some (([rd x6_3 0, x8_3] : List Int) : List Int)).bind fun y305 => (if 1 ≤ (x6_3.length : Int) then ((some (x6_3.drop 1 : List Int)).bind fun y308 => (if y305.length + y308.length < 17592186044416 then ((swageref18_from.f k3 l0 x8_3).bind fun bt316 => (swageref18_Cycles.l1 k3 l0 t280 x4_1 x5_1 (y305 ++ y308) false bt316.1 bt316.2)) else (none))) else (none))) else (none))) else (swageref18_Cycles.j3 k3 l0 t280 x4_1 x5_1 x6_3 x7_3 x8_3 true))) else (none)) else (none)) = some r := by rw [if_pos rfl] at H; exact H
                        clear H
                        have H := H1
                        clear H1
                        by_cases c13 : 0 ≤ x5_1
                        · rw [if_pos c13] at H
                          have c13b0 : decide (0 ≤ x5_1) = true := decide_eq_true c13
                          clear c13
                          (first | rw [c13b0] | (simp only [i64_w, i32_w]; rw [c13b0]) | skip)
                          by_cases c14 : x5_1 < (l0.length : Int)
                          · rw [if_pos c14] at H
                            have c14b0 : decide (x5_1 < (l0.length : Int)) = true := decide_eq_true c14
                            clear c14
                            by_cases c15 : x8_3 = ((rd_T38 l0 x5_1).f0)
                            · rw [if_pos c15] at H
                              have c15b0 : (x8_3 == ((rd_T38 l0 x5_1).f0)) = true := beq_iff_eq.mpr c15
                              have c15b1 : (x8_3 != ((rd_T38 l0 x5_1).f0)) = false := bne_eq_false_iff_eq.mpr c15
                              clear c15
                              have H' := Aside0.mk H
                              clear H
                              have p288 : 0 ≤ (x5_1 : Int) := of_decide_eq_true (by first | (with_reducible assumption) | assumption)
                              have q288 : x5_1 < (l0.length : Int) := of_decide_eq_true (by first | (with_reducible assumption) | assumption)
                              obtain ⟨ad288, e288, hx288_0, hx288_1⟩ := at_T38 HR0.out x5_1 p288 q288
                              obtain rfl : ad281 = ad288 := (by injection e288)
                              replace hx288_0 := (HB.out.cell (World.block_lt_of_cell? w _ hx288_0)).trans hx288_0
                              replace hx288_1 := (HB.out.cell (World.block_lt_of_cell? w _ hx288_1)).trans hx288_1
                              replace p288 := eq_true p288
                              replace q288 := eq_true q288
                              go_wp2
                              go_meet
                              case rel => exact ⟨_, (x6_3), (x7_3), (x8_3), (true), (by first | rfl | (simp; done) | (simp [*]; done)), (by first | rfl | (simp; done) | (simp [*]; done)), (by first | rfl | (simp; done) | (simp [*]; done)), H', ⟨by have := HK1.out; have := HJ2.out; have := HK3.out; first | omega | exact Nat.le_refl _⟩, ⟨by (with_reducible repeat (first | apply Kd.N_alloc | apply Kd.N_drewN | apply Kd.N_drew)); exact HO_4.out⟩, ⟨by (with_reducible repeat (first | apply Kd.R_alloc | apply Kd.R_drewN | apply Kd.R_drew)); exact HO_6.out⟩, ⟨by repeat (first | (with_reducible first | exact HB.out | apply below_alloc | apply pw_below_drewN | apply below_drew1) | exact HB.out)⟩⟩
                            · rw [if_neg c15] at H
                              have c15b0 : (x8_3 == ((rd_T38 l0 x5_1).f0)) = false := beq_eq_false_iff_ne.mpr c15
                              have c15b1 : (x8_3 != ((rd_T38 l0 x5_1).f0)) = true := bne_iff_ne.mpr c15
                              by_cases c16 : (x6_3.length : Int) ≤ (l0.length : Int)
                              · rw [if_pos c16] at H
                                have c16b0 : decide ((x6_3.length : Int) ≤ (l0.length : Int)) = true := decide_eq_true c16
                                have c16b1 : decide (x6_3.length ≤ l0.length) = true := decide_eq_true (Int.ofNat_le.mp c16)
                                clear c16
                                by_cases c17 : x7_3 = true
                                · subst c17
                                  have H1 : (if 0 < (x6_3.length : Int) then ((some (([rd x6_3 0, x8_3] : List Int) : List Int)).bind fun y291 => (if 1 ≤ (x6_3.length : Int) then ((some (x6_3.drop 1 : List Int)).bind fun y294 => (if y291.length + y294.length < 17592186044416 then ((swageref18_from.f k3 l0 x8_3).bind fun bt302 => (swageref18_Cycles.l1 k3 l0 t280 x4_1 x5_1 (y291 ++ y294) (decide (x8_3 > ((rd_T38 l0 x5_1).f0))) bt302.1 bt302.2)) else (none))) else (none))) else (none)) = some r := by rw [if_pos rfl] at H; exact H
                                  clear H
                                  have H := H1
                                  clear H1
                                  by_cases c18 : 0 < (x6_3.length : Int)
                                  · rw [if_pos c18] at H
                                    have c18b0 : decide (0 < (x6_3.length : Int)) = true := decide_eq_true c18
                                    have c18b1 : decide (0 < x6_3.length) = true := decide_eq_true (by omega)
                                    clear c18
                                    obtain ⟨y291, hy291⟩ : ∃ y_ : List Int, y_ = (([rd x6_3 0, x8_3] : List Int)) := ⟨_, rfl⟩
                                    replace H : (if 1 ≤ (x6_3.length : Int) then ((some (x6_3.drop 1 : List Int)).bind fun y294 => (if y291.length + y294.length < 17592186044416 then ((swageref18_from.f k3 l0 x8_3).bind fun bt302 => (swageref18_Cycles.l1 k3 l0 t280 x4_1 x5_1 (y291 ++ y294) (decide (x8_3 > ((rd_T38 l0 x5_1).f0))) bt302.1 bt302.2)) else (none))) else (none)) = some r := by first | (rw [hy291]; with_reducible exact H) | (have H2_ := (Option.bind_some _ _).symm.trans H; rw [hy291]; with_reducible exact H2_) | (have H2_ := (Option.bind_some _ _).symm.trans H; with_reducible exact H2_) | with_reducible exact H | (rw [hy291]; exact H) | exact H
                                    have Ny291 := Aside0.mk hy291
                                    clear hy291
                                    by_cases c19 : 1 ≤ (x6_3.length : Int)
                                    · rw [if_pos c19] at H
                                      have c19b0 := eq_true c19
                                      have c19b1 : decide (1 ≤ (x6_3.length : Int)) = true := decide_eq_true c19
                                      clear c19
                                      obtain ⟨y294, hy294⟩ : ∃ y_ : List Int, y_ = (x6_3.drop 1) := ⟨_, rfl⟩
                                      replace H : (if y291.length + y294.length < 17592186044416 then ((swageref18_from.f k3 l0 x8_3).bind fun bt302 => (swageref18_Cycles.l1 k3 l0 t280 x4_1 x5_1 (y291 ++ y294) (decide (x8_3 > ((rd_T38 l0 x5_1).f0))) bt302.1 bt302.2)) else (none)) = some r := by first | (rw [hy294]; with_reducible exact H) | (have H2_ := (Option.bind_some _ _).symm.trans H; rw [hy294]; with_reducible exact H2_) | (have H2_ := (Option.bind_some _ _).symm.trans H; with_reducible exact H2_) | with_reducible exact H | (rw [hy294]; exact H) | exact H
                                      have Ny294 := Aside0.mk hy294
                                      clear hy294
                                      by_cases c20 : y291.length + y294.length < 17592186044416
                                      · rw [if_pos c20] at H
                                        have LMc20 := Aside0.mk c20
                                        clear c20
                                        obtain ⟨y299, hy299⟩ : ∃ y_ : List Int, y_ = (y291 ++ y294) := ⟨_, rfl⟩
                                        replace H : ((swageref18_from.f k3 l0 x8_3).bind fun bt302 => (swageref18_Cycles.l1 k3 l0 t280 x4_1 x5_1 y299 (decide (x8_3 > ((rd_T38 l0 x5_1).f0))) bt302.1 bt302.2)) = some r := by first | (rw [hy299]; with_reducible exact H) | (have H2_ := (Option.bind_some _ _).symm.trans H; rw [hy299]; with_reducible exact H2_) | (have H2_ := (Option.bind_some _ _).symm.trans H; with_reducible exact H2_) | with_reducible exact H | (rw [hy299]; exact H) | exact H
                                        have Ny299 := Aside0.mk hy299
                                        clear hy299
                                        replace H := Option.bind_eq_some_iff.mp H
                                        obtain ⟨⟨t302, t303⟩, A210, H⟩ := H
                                        replace H : (swageref18_Cycles.l1 k3 l0 t280 x4_1 x5_1 y299 (decide (x8_3 > ((rd_T38 l0 x5_1).f0))) t302 t303) = some r := H
                                        have A21 := Aside0.mk A210
                                        clear A210
                                        have H' := Aside0.mk H
                                        clear H
                                        have p288 : 0 ≤ (x5_1 : Int) := of_decide_eq_true (by first | (with_reducible assumption) | assumption)
                                        have q288 : x5_1 < (l0.length : Int) := of_decide_eq_true (by first | (with_reducible assumption) | assumption)
                                        obtain ⟨ad288, e288, hx288_0, hx288_1⟩ := at_T38 HR0.out x5_1 p288 q288
                                        obtain rfl : ad281 = ad288 := (by injection e288)
                                        replace hx288_0 := (HB.out.cell (World.block_lt_of_cell? w _ hx288_0)).trans hx288_0
                                        replace hx288_1 := (HB.out.cell (World.block_lt_of_cell? w _ hx288_1)).trans hx288_1
                                        replace p288 := eq_true p288
                                        replace q288 := eq_true q288
                                        obtain ⟨Ao22, co22, eo22⟩ := Kd.R_slice HO_6.out
                                        subst eo22
                                        have p289 : 0 ≤ (x5_1 : Int) := of_decide_eq_true (by first | (with_reducible assumption) | assumption)
                                        have q289 : x5_1 < (l0.length : Int) := of_decide_eq_true (by first | (with_reducible assumption) | assumption)
                                        obtain ⟨ad289, e289, hx289_0, hx289_1⟩ := at_T38 HR0.out x5_1 p289 q289
                                        obtain rfl : ad281 = ad289 := (by injection e289)
                                        replace hx289_0 := (HB.out.cell (World.block_lt_of_cell? w _ hx289_0)).trans hx289_0
                                        replace hx289_1 := (HB.out.cell (World.block_lt_of_cell? w _ hx289_1)).trans hx289_1
                                        replace p289 := eq_true p289
                                        replace q289 := eq_true q289
                                        try go_wp2
                                        have n0_ := Aside0.mk (Kd.N_drew HO_4.out)
                                        have n1_ := Aside0.mk (Kd.R_drew HO_6.out)
                                        have n2_ := Aside0.mk (below_drew1 HB.out)
                                        clear HO_4
                                        clear HO_6
                                        clear HB
                                        have HO_4 := n0_
                                        have HO_6 := n1_
                                        have HB := n2_
                                        clear n0_ n1_ n2_
                                        have p290 : 0 ≤ (0 : Int) := (by omega)
                                        have q290 : 0 < (x6_3.length : Int) := of_decide_eq_true (by first | (with_reducible assumption) | assumption)
                                        obtain ⟨ad290, e290, hx290_0⟩ := Kd.at_int (Kd.R_reads' HO_6.out).2.2 0 p290 q290
                                        cases e290
                                        have qi290 : (0 < x6_3.length) = True := eq_true (by omega)
                                        (try rw [show ((0 : Int)).toNat = 0 from rfl] at hx290_0)
                                        (try rw [Addr.add_zero'] at hx290_0)
                                        replace p290 := eq_true p290
                                        replace q290 := eq_true q290
                                        have q24 : (1 : Int) ≤ ((x6_3.length : Int) : Int) := of_decide_eq_true (by first | (with_reducible assumption) | assumption)
                                        obtain ⟨i024, hi024, _, hsz24, _⟩ := info_parts info3
                                        have hroom24 : x6_3.length ≤ co22 := (Kd.R_reads' HO_6.out).2.1
                                        have hC24 : Kd.F (Kd.int .i64) _ _ (some ad290) x6_3.length x6_3 := (Kd.V_at (base := w.heap.size) (Kd.R_V (Kd.R_apart' (HO_6.out) (Kd.N_typed HO_4.out) (by decide)))).2.2
                                        have hcut24 := cut_from (P := Try.prog) 43 3 .i64 Try.underlying43 hi024 1 hsz24 (some ad290) x6_3.length co22 1 (by omega) q24
                                        have hr24 := Kd.F_cut (m := (1 : Int).toNat) (c := co22) hC24 (by omega) hroom24
                                        obtain ⟨A24, hA24⟩ : ∃ A1, A1 = (if co22 = (1 : Int).toNat then (some ad290) else ((some ad290) : Option Addr).map (·.add ((1 : Int).toNat * 1))) := ⟨_, rfl⟩
                                        obtain ⟨c24, hc24⟩ : ∃ c1, c1 = co22 - (1 : Int).toNat := ⟨_, rfl⟩
                                        have hy24 : y294.length = x6_3.length - (1 : Int).toNat := (by rw [Ny294.out, List.length_drop] <;> omega)
                                        rw [show (x6_3).drop (1 : Int).toNat = y294 from Ny294.out.symm] at hr24
                                        replace hr24 : Kd.F (Kd.int .i64) _ _ A24 y294.length y294 := (by rw [hA24]; exact hr24)
                                        rw [← hy24, ← hA24, ← hc24] at hcut24
                                        have HO298 := Aside0.mk (show Kd.V (Kd.int .i64) 3 _ w.heap.size _ (.slice A24 y294.length c24) y294 from Kd.V_mk (by rw [hy24, hc24]; exact Nat.sub_le_sub_right hroom24 _) hr24)
                                        have HC298 := Aside0.mk (show y294.length ≤ c24 from by rw [hy24, hc24]; exact Nat.sub_le_sub_right hroom24 _)
                                        clear hr24 hC24 hroom24 hi024 hsz24 hc24
                                        have KY24 := Aside0.mk hy24
                                        have KA24 := Aside0.mk hA24
                                        clear hy24 hA24
                                        replace q24 := eq_true q24
                                        refine start_ (n := 9) (S := fun w' => w'.cell? ad290 = some (.int .i64 (rd x6_3 0))) (ds := [7]) #[false, false, false, false, false, false, false, false, false] (by kernel_rfl) rfl rfl (hx290_0) (fun hHeld => ?_); refine with_tabW swageref18_Cycles.tab11 swageref18_Cycles.bits11 (fun HT_ HW_ => ?_)
                                        generalize wr.drew = w23 at HO_4 HO_6 HB HO298 hx290_0 hHeld ⊢
                                        refine pure_ (i := 0) (N := some 66) (v := ?_) (a' := ?_) #[true, false, false, false, false, false, false, false, false] rfl rfl (any_of HT_.out (by kernel_rfl)) (fun _ _ _ h => h) (Or.inl ⟨by rfl, ?_⟩) ?_ ?_
                                        rotate_left
                                        · intro w'
                                          go_simp
                                          with_reducible rfl
                                        rotate_left
                                        · simp only [Act.put, List.setIfInBounds_toArray, List.set_cons_zero, List.set_cons_succ, i64_w, i32_w]
                                          rfl
                                        refine pure_ (i := 1) (N := some 67) (v := ?_) (a' := ?_) #[true, true, false, false, false, false, false, false, false] rfl rfl (any_of HT_.out (by kernel_rfl)) (fun _ _ _ h => h) (Or.inl ⟨by rfl, ?_⟩) ?_ ?_
                                        rotate_left
                                        · intro w'
                                          go_simp
                                          with_reducible rfl
                                        rotate_left
                                        · simp only [Act.put, List.setIfInBounds_toArray, List.set_cons_zero, List.set_cons_succ, i64_w, i32_w]
                                          rfl
                                        refine pure_ (i := 3) (N := some 69) (v := ?_) (a' := ?_) #[true, true, false, true, false, false, false, false, false] rfl rfl (any_of HT_.out (by kernel_rfl)) (fun _ _ _ h => h) (Or.inl ⟨by rfl, ?_⟩) ?_ ?_
                                        rotate_left
                                        · intro w'
                                          go_simp
                                          with_reducible rfl
                                        rotate_left
                                        · simp only [Act.put, List.setIfInBounds_toArray, List.set_cons_zero, List.set_cons_succ, i64_w, i32_w]
                                          rfl
                                        refine pure_ (i := 5) (N := some 71) (v := ?_) (a' := ?_) #[true, true, false, true, false, true, false, false, false] rfl rfl (any_of HT_.out (by kernel_rfl)) (fun _ _ _ h => h) (Or.inl ⟨by rfl, ?_⟩) ?_ ?_
                                        rotate_left
                                        · intro w'
                                          go_simp
                                          with_reducible rfl
                                        rotate_left
                                        · simp only [Act.put, List.setIfInBounds_toArray, List.set_cons_zero, List.set_cons_succ, i64_w, i32_w]
                                          rfl
                                        refine pure_ (i := 6) (N := some 72) (v := ?_) (a' := ?_) #[true, true, false, true, false, true, true, false, false] rfl rfl (any_of HT_.out (by kernel_rfl)) (fun _ _ _ h => h) (Or.inl ⟨by rfl, ?_⟩) ?_ ?_
                                        rotate_left
                                        · intro w'
                                          go_simp
                                          with_reducible rfl
                                        rotate_left
                                        · simp only [Act.put, List.setIfInBounds_toArray, List.set_cons_zero, List.set_cons_succ, i64_w, i32_w]
                                          rfl
                                        refine take_ (i := 2) (N := some 68) (v := ?_) (a' := ?_) #[true, true, true, true, false, true, true, false, false] rfl rfl (take_ofW HT_.out HW_.out (by kernel_rfl)) (fun _ _ _ h => h) (Or.inl ⟨by rfl, ?_⟩) hHeld ?_ ?_
                                        rotate_left
                                        · intro w' s0
                                          go_simp
                                          with_reducible rfl
                                        rotate_left
                                        · simp only [Act.put, List.setIfInBounds_toArray, List.set_cons_zero, List.set_cons_succ, i64_w, i32_w]
                                          rfl
                                        refine one_ (i := 4) (N := some 70) #[true, true, true, true, true, true, true, false, false] rfl rfl (one_of HT_.out (by kernel_rfl)) (by decide) (fun K hK => ?_)
                                        refine Kd.R_lit_step (Kd.int .i64) _ 3 ?hg (N := 70) ?hd (xs := ([rd x6_3 0, x8_3] : List Int)) (inner := [.int .i64 (rd x6_3 0), .int .i64 x8_3]) (ok := fun _ => True) (okp := fun _ => True) ?hr ?hp (fun _ hk => hk) trivial (Below.refl _ _) (Nat.le_refl _) (by simp) ?_; (case hd => rfl); (case hg => rfl); (case hr => first | (go_simp; done) | (go_simp; rfl)); (case hp => exact (Reps.one (show Kd.M (Kd.int .i64) _ _ _ (rd x6_3 0) [.int .i64 (rd x6_3 0)] from rfl) (Reps.one (show Kd.M (Kd.int .i64) _ _ _ x8_3 [.int .i64 x8_3] from rfl) (Reps.none _ _))))
                                        intro v292 w25 ho26 hb hg_ hnew_
                                        have HS0_ := (hb.cell (World.block_lt_of_cell? _ _ (hHeld))).trans (hHeld)
                                        clear hg_ hnew_
                                        (first | rw [← Ny291.out] at ho26 | (simp only [Int.reduceToNat] at ho26; rw [← Ny291.out] at ho26))
                                        have n0_ := Aside0.mk (Kd.N_elder' (by (with_reducible repeat (first | apply Kd.N_alloc | apply Kd.N_drewN | apply Kd.N_drew)); exact HO_4.out) (Kd.R_base ho26) hb)
                                        have n1_ := Aside0.mk (Kd.R_elder' (by (with_reducible repeat (first | apply Kd.R_alloc | apply Kd.R_drewN | apply Kd.R_drew)); exact HO_6.out) (Kd.R_base ho26) hb)
                                        have n2_ := Aside0.mk (Kd.V_elder' (by (with_reducible repeat (first | apply Kd.V_alloc | apply Kd.V_drewN | apply Kd.V_drew)); exact HO298.out) (Kd.R_base ho26) hb)
                                        have n3_ := Aside0.mk (Kd.R_lower (Kd.R_new' (Kd.R_newM (M := fun k_ => (w.heap.size ≤ k_)) ho26 (below_size (by repeat (first | (with_reducible first | exact HB.out | apply below_alloc | apply pw_below_drewN | apply below_drew1) | exact HB.out))) (fun k_ h_ => h_)) (Kd.R_lt (by (with_reducible repeat (first | apply Kd.R_alloc | apply Kd.R_drewN | apply Kd.R_drew)); exact HO_6.out))) (below_size (by repeat (first | (with_reducible first | exact HB.out | apply below_alloc | apply pw_below_drewN | apply below_drew1) | exact HB.out))))
                                        have n4_ := Aside0.mk (below_step (by repeat (first | (with_reducible first | exact HB.out | apply below_alloc | apply pw_below_drewN | apply below_drew1) | exact HB.out)) hb)
                                        clear HO_4
                                        clear HO_6
                                        clear HO298
                                        clear HB
                                        have HO_4 := n0_
                                        have HO_6 := n1_
                                        have HO298 := n2_
                                        have HO293 := n3_
                                        have HB := n4_
                                        clear n0_ n1_ n2_ n3_ n4_
                                        clear hb ho26
                                        refine hK.out _ _ (HS0_) (fun hHeld => ?_)
                                        clear hK K
                                        refine norm_ (a' := ?_) ?_ ?_
                                        rotate_left
                                        · show Act.put _ (some 70) _ = _
                                          simp only [Act.put, List.setIfInBounds_toArray, List.set_cons_zero, List.set_cons_succ, i64_w, i32_w]
                                          rfl
                                        refine last_ (i := 7) (N := some 73) #[true, true, true, true, true, true, true, true, false] rfl rfl (one_of HT_.out (by kernel_rfl)) (by decide) (fun K hK => ?_)
                                        refine Kd.R_append_rows_step (Kd.int .i64) (w0 := w) w.heap.size (by rfl) (.tmp 70) (.tmp 72) 43 3 (.int .i64 0) 8 rfl Try.underlying43 info3 rfl (by decide) (by omega) v292 y291 y294 _ _ _ (fun k_ => (w.heap.size ≤ k_) ∧ some k_ ≠ (.slice (some ad290) x6_3.length co22 : Value).ownBlock) (fun _ => False) rfl rfl ?aO ?aR (fun _ _ h => h) (fun _ h => h.elim) ?aF ?aB ?aS ?aL ?_
                                        (case aR => repeat (first | exact (Kd.V_reads' HO298.out).2.2 | (with_reducible refine Kd.C_alloc ?_ _) | (with_reducible refine Kd.C_drewN ?_ _) | (with_reducible refine Kd.C_drew ?_)))
                                        (case aB => exact (by repeat (first | (with_reducible first | exact HB.out | apply below_alloc | apply pw_below_drewN | apply below_drew1) | exact HB.out)))
                                        (case aF => exact (fun k_ hk => ⟨(Nat.le_trans (below_size (by repeat (first | (with_reducible first | exact HB.out | apply below_alloc | apply pw_below_drewN | apply below_drew1) | exact HB.out))) hk), Kd.fresh' (Kd.R_lt (by (with_reducible repeat (first | apply Kd.R_alloc | apply Kd.R_drewN | apply Kd.R_drew)); exact HO_6.out)) k_ hk⟩))
                                        (case aO => exact (by (with_reducible repeat (first | apply Kd.R_alloc | apply Kd.R_drewN | apply Kd.R_drew)); exact Kd.R_mono HO293.out (fun _ hk => ⟨hk.1.1, hk.2⟩)))
                                        (case aS => exact (below_size (by repeat (first | (with_reducible first | exact HB.out | apply below_alloc | apply pw_below_drewN | apply below_drew1) | exact HB.out))))
                                        (case aL => have := LMc20.out; omega)
                                        intro v300 w27 ho hb hg hat
                                        rw [← Ny299.out] at ho
                                        have n0_ := Aside0.mk (Kd.N_afterv (ok := (fun k_ => (w.heap.size ≤ k_) ∧ some k_ ≠ (.slice (some ad290) x6_3.length co22 : Value).ownBlock)) (by (with_reducible repeat (first | apply Kd.N_alloc | apply Kd.N_drewN | apply Kd.N_drew)); exact HO_4.out) hg hat)
                                        have n1_ := Aside0.mk (Kd.R_after (ok := (fun k_ => (w.heap.size ≤ k_))) (by (with_reducible repeat (first | apply Kd.R_alloc | apply Kd.R_drewN | apply Kd.R_drew)); exact HO_6.out) hg hat)
                                        have n2_ := Aside0.mk (Kd.V_afterv (ok := (fun k_ => (w.heap.size ≤ k_) ∧ some k_ ≠ (u4 : Value).ownBlock)) (by (with_reducible repeat (first | apply Kd.V_alloc | apply Kd.V_drewN | apply Kd.V_drew)); exact HO298.out) hg hat)
                                        have n3_ := Aside0.mk (hb)
                                        have n4_ := Aside0.mk (ho)
                                        clear HO_4
                                        clear HO_6
                                        clear HO298
                                        clear HB
                                        clear HO293
                                        have HO_4 := n0_
                                        have HO_6 := n1_
                                        have HO298 := n2_
                                        have HB := n3_
                                        have HO301 := n4_
                                        clear n0_ n1_ n2_ n3_ n4_
                                        clear ho hb hg hat
                                        refine hK.out _ _ ?_
                                        clear hK K
                                        refine norm_ (a' := ?_) ?_ ?_
                                        rotate_left
                                        · show Act.put _ (some 73) _ = _
                                          simp only [Act.put, List.setIfInBounds_toArray, List.set_cons_zero, List.set_cons_succ, i64_w, i32_w]
                                          rfl
                                        refine pure_ (i := 8) (N := some 6) (v := ?_) (a' := ?_) #[true, true, true, true, true, true, true, true, true] rfl rfl (any_of HT_.out (by kernel_rfl)) (fun _ _ _ h => h) (Or.inl ⟨by rfl, ?_⟩) ?_ ?_
                                        rotate_left
                                        · intro w'
                                          go_simp
                                          with_reducible rfl
                                        rotate_left
                                        · simp only [Act.put, List.setIfInBounds_toArray, List.set_cons_zero, List.set_cons_succ, i64_w, i32_w]
                                          rfl
                                        refine done_ (done_of HT_.out (by kernel_rfl)) ?_
                                        try go_wp2_with (first | ((with_reducible refine gate_callee (f := 38) rfl ?_); refine goesL_ (some 77) rfl rfl Try.func38 (by kernel_rfl) rfl #[.slice (some ad281) l0.length c0, .int .i64 x8_3] rfl (by (try simp only [List.map_toArray, List.map_cons, List.map_nil]); first | done | rfl | (simp only [List.length_drop, List.length_take]; rfl)) ?_; (with_reducible refine (swageref18_from.calls k3 _ _ l0 x8_3 t302 t303 _ ?side1 ?side2 A21.out).mono ?_); (case side1 => repeat (first | exact (Kd.C_below HR0.out HB.out) | (with_reducible refine Kd.C_alloc ?_ _) | (with_reducible refine Kd.C_drewN ?_ _) | (with_reducible refine Kd.C_drew ?_))); (case side2 => exact HC0.out); rintro e w' ⟨rfl, ⟨nd, rfl⟩⟩; refine ⟨_, rfl, ?_⟩))
                                        go_roundg k3
                                        case measure => have := HK1.out; have := HJ2.out; have := HK3.out; omega
                                        case rel => exact ⟨(y299), (decide (x8_3 > ((rd_T38 l0 x5_1).f0))), (t302), (t303), (by first | rfl | (simp; done) | (simp [*]; done)), (by first | rfl | (simp; done) | (simp [*]; done)), (by first | rfl | (simp; done) | (simp [*]; done)), H', ⟨by have := HK1.out; have := HJ2.out; have := HK3.out; omega⟩, ⟨by (with_reducible repeat (first | apply Kd.N_alloc | apply Kd.N_drewN | apply Kd.N_drew)); exact Kd.N_mono HO_4.out (fun _ hk => ⟨hk.1.1, hk.2⟩)⟩, ⟨by (with_reducible repeat (first | apply Kd.R_alloc | apply Kd.R_drewN | apply Kd.R_drew)); exact Kd.R_mono HO301.out (fun _ hk => hk.1)⟩, ⟨by repeat (first | (with_reducible first | exact HB.out | apply below_alloc | apply pw_below_drewN | apply below_drew1) | exact HB.out)⟩⟩
                                      · rw [if_neg c20] at H
                                        exact absurd H (by simp)
                                    · rw [if_neg c19] at H
                                      exact absurd H (by simp)
                                  · rw [if_neg c18] at H
                                    exact absurd H (by simp)
                                · replace c17 := Bool.eq_false_iff.mpr c17
                                  subst c17
                                  have H1 : (if 0 < (x6_3.length : Int) then ((some (([rd x6_3 0, x8_3] : List Int) : List Int)).bind fun y305 => (if 1 ≤ (x6_3.length : Int) then ((some (x6_3.drop 1 : List Int)).bind fun y308 => (if y305.length + y308.length < 17592186044416 then ((swageref18_from.f k3 l0 x8_3).bind fun bt316 => (swageref18_Cycles.l1 k3 l0 t280 x4_1 x5_1 (y305 ++ y308) false bt316.1 bt316.2)) else (none))) else (none))) else (none)) = some r := by rw [if_neg (show ¬ (false = true) by decide)] at H; exact H
                                  clear H
                                  have H := H1
                                  clear H1
                                  by_cases c28 : 0 < (x6_3.length : Int)
                                  · rw [if_pos c28] at H
                                    have c28b0 : decide (0 < (x6_3.length : Int)) = true := decide_eq_true c28
                                    have c28b1 : decide (0 < x6_3.length) = true := decide_eq_true (by omega)
                                    clear c28
                                    obtain ⟨y305, hy305⟩ : ∃ y_ : List Int, y_ = (([rd x6_3 0, x8_3] : List Int)) := ⟨_, rfl⟩
                                    replace H : (if 1 ≤ (x6_3.length : Int) then ((some (x6_3.drop 1 : List Int)).bind fun y308 => (if y305.length + y308.length < 17592186044416 then ((swageref18_from.f k3 l0 x8_3).bind fun bt316 => (swageref18_Cycles.l1 k3 l0 t280 x4_1 x5_1 (y305 ++ y308) false bt316.1 bt316.2)) else (none))) else (none)) = some r := by first | (rw [hy305]; with_reducible exact H) | (have H2_ := (Option.bind_some _ _).symm.trans H; rw [hy305]; with_reducible exact H2_) | (have H2_ := (Option.bind_some _ _).symm.trans H; with_reducible exact H2_) | with_reducible exact H | (rw [hy305]; exact H) | exact H
                                    have Ny305 := Aside0.mk hy305
                                    clear hy305
                                    by_cases c29 : 1 ≤ (x6_3.length : Int)
                                    · rw [if_pos c29] at H
                                      have c29b0 := eq_true c29
                                      have c29b1 : decide (1 ≤ (x6_3.length : Int)) = true := decide_eq_true c29
                                      clear c29
                                      obtain ⟨y308, hy308⟩ : ∃ y_ : List Int, y_ = (x6_3.drop 1) := ⟨_, rfl⟩
                                      replace H : (if y305.length + y308.length < 17592186044416 then ((swageref18_from.f k3 l0 x8_3).bind fun bt316 => (swageref18_Cycles.l1 k3 l0 t280 x4_1 x5_1 (y305 ++ y308) false bt316.1 bt316.2)) else (none)) = some r := by first | (rw [hy308]; with_reducible exact H) | (have H2_ := (Option.bind_some _ _).symm.trans H; rw [hy308]; with_reducible exact H2_) | (have H2_ := (Option.bind_some _ _).symm.trans H; with_reducible exact H2_) | with_reducible exact H | (rw [hy308]; exact H) | exact H
                                      have Ny308 := Aside0.mk hy308
                                      clear hy308
                                      by_cases c30 : y305.length + y308.length < 17592186044416
                                      · rw [if_pos c30] at H
                                        have LMc30 := Aside0.mk c30
                                        clear c30
                                        obtain ⟨y313, hy313⟩ : ∃ y_ : List Int, y_ = (y305 ++ y308) := ⟨_, rfl⟩
                                        replace H : ((swageref18_from.f k3 l0 x8_3).bind fun bt316 => (swageref18_Cycles.l1 k3 l0 t280 x4_1 x5_1 y313 false bt316.1 bt316.2)) = some r := by first | (rw [hy313]; with_reducible exact H) | (have H2_ := (Option.bind_some _ _).symm.trans H; rw [hy313]; with_reducible exact H2_) | (have H2_ := (Option.bind_some _ _).symm.trans H; with_reducible exact H2_) | with_reducible exact H | (rw [hy313]; exact H) | exact H
                                        have Ny313 := Aside0.mk hy313
                                        clear hy313
                                        replace H := Option.bind_eq_some_iff.mp H
                                        obtain ⟨⟨t316, t317⟩, A310, H⟩ := H
                                        replace H : (swageref18_Cycles.l1 k3 l0 t280 x4_1 x5_1 y313 false t316 t317) = some r := H
                                        have A31 := Aside0.mk A310
                                        clear A310
                                        have H' := Aside0.mk H
                                        clear H
                                        have p288 : 0 ≤ (x5_1 : Int) := of_decide_eq_true (by first | (with_reducible assumption) | assumption)
                                        have q288 : x5_1 < (l0.length : Int) := of_decide_eq_true (by first | (with_reducible assumption) | assumption)
                                        obtain ⟨ad288, e288, hx288_0, hx288_1⟩ := at_T38 HR0.out x5_1 p288 q288
                                        obtain rfl : ad281 = ad288 := (by injection e288)
                                        replace hx288_0 := (HB.out.cell (World.block_lt_of_cell? w _ hx288_0)).trans hx288_0
                                        replace hx288_1 := (HB.out.cell (World.block_lt_of_cell? w _ hx288_1)).trans hx288_1
                                        replace p288 := eq_true p288
                                        replace q288 := eq_true q288
                                        obtain ⟨Ao32, co32, eo32⟩ := Kd.R_slice HO_6.out
                                        subst eo32
                                        try go_wp2
                                        have n0_ := Aside0.mk (Kd.N_drew HO_4.out)
                                        have n1_ := Aside0.mk (Kd.R_drew HO_6.out)
                                        have n2_ := Aside0.mk (below_drew1 HB.out)
                                        clear HO_4
                                        clear HO_6
                                        clear HB
                                        have HO_4 := n0_
                                        have HO_6 := n1_
                                        have HB := n2_
                                        clear n0_ n1_ n2_
                                        have p304 : 0 ≤ (0 : Int) := (by omega)
                                        have q304 : 0 < (x6_3.length : Int) := of_decide_eq_true (by first | (with_reducible assumption) | assumption)
                                        obtain ⟨ad304, e304, hx304_0⟩ := Kd.at_int (Kd.R_reads' HO_6.out).2.2 0 p304 q304
                                        cases e304
                                        have qi304 : (0 < x6_3.length) = True := eq_true (by omega)
                                        (try rw [show ((0 : Int)).toNat = 0 from rfl] at hx304_0)
                                        (try rw [Addr.add_zero'] at hx304_0)
                                        replace p304 := eq_true p304
                                        replace q304 := eq_true q304
                                        have q34 : (1 : Int) ≤ ((x6_3.length : Int) : Int) := of_decide_eq_true (by first | (with_reducible assumption) | assumption)
                                        obtain ⟨i034, hi034, _, hsz34, _⟩ := info_parts info3
                                        have hroom34 : x6_3.length ≤ co32 := (Kd.R_reads' HO_6.out).2.1
                                        have hC34 : Kd.F (Kd.int .i64) _ _ (some ad304) x6_3.length x6_3 := (Kd.V_at (base := w.heap.size) (Kd.R_V (Kd.R_apart' (HO_6.out) (Kd.N_typed HO_4.out) (by decide)))).2.2
                                        have hcut34 := cut_from (P := Try.prog) 43 3 .i64 Try.underlying43 hi034 1 hsz34 (some ad304) x6_3.length co32 1 (by omega) q34
                                        have hr34 := Kd.F_cut (m := (1 : Int).toNat) (c := co32) hC34 (by omega) hroom34
                                        obtain ⟨A34, hA34⟩ : ∃ A1, A1 = (if co32 = (1 : Int).toNat then (some ad304) else ((some ad304) : Option Addr).map (·.add ((1 : Int).toNat * 1))) := ⟨_, rfl⟩
                                        obtain ⟨c34, hc34⟩ : ∃ c1, c1 = co32 - (1 : Int).toNat := ⟨_, rfl⟩
                                        have hy34 : y308.length = x6_3.length - (1 : Int).toNat := (by rw [Ny308.out, List.length_drop] <;> omega)
                                        rw [show (x6_3).drop (1 : Int).toNat = y308 from Ny308.out.symm] at hr34
                                        replace hr34 : Kd.F (Kd.int .i64) _ _ A34 y308.length y308 := (by rw [hA34]; exact hr34)
                                        rw [← hy34, ← hA34, ← hc34] at hcut34
                                        have HO312 := Aside0.mk (show Kd.V (Kd.int .i64) 3 _ w.heap.size _ (.slice A34 y308.length c34) y308 from Kd.V_mk (by rw [hy34, hc34]; exact Nat.sub_le_sub_right hroom34 _) hr34)
                                        have HC312 := Aside0.mk (show y308.length ≤ c34 from by rw [hy34, hc34]; exact Nat.sub_le_sub_right hroom34 _)
                                        clear hr34 hC34 hroom34 hi034 hsz34 hc34
                                        have KY34 := Aside0.mk hy34
                                        have KA34 := Aside0.mk hA34
                                        clear hy34 hA34
                                        replace q34 := eq_true q34
                                        refine start_ (n := 9) (S := fun w' => w'.cell? ad304 = some (.int .i64 (rd x6_3 0))) (ds := [7]) #[false, false, false, false, false, false, false, false, false] (by kernel_rfl) rfl rfl (hx304_0) (fun hHeld => ?_); refine with_tabW swageref18_Cycles.tab11 swageref18_Cycles.bits11 (fun HT_ HW_ => ?_)
                                        generalize wr.drew = w33 at HO_4 HO_6 HB HO312 hx304_0 hHeld ⊢
                                        refine pure_ (i := 0) (N := some 66) (v := ?_) (a' := ?_) #[true, false, false, false, false, false, false, false, false] rfl rfl (any_of HT_.out (by kernel_rfl)) (fun _ _ _ h => h) (Or.inl ⟨by rfl, ?_⟩) ?_ ?_
                                        rotate_left
                                        · intro w'
                                          go_simp
                                          with_reducible rfl
                                        rotate_left
                                        · simp only [Act.put, List.setIfInBounds_toArray, List.set_cons_zero, List.set_cons_succ, i64_w, i32_w]
                                          rfl
                                        refine pure_ (i := 1) (N := some 67) (v := ?_) (a' := ?_) #[true, true, false, false, false, false, false, false, false] rfl rfl (any_of HT_.out (by kernel_rfl)) (fun _ _ _ h => h) (Or.inl ⟨by rfl, ?_⟩) ?_ ?_
                                        rotate_left
                                        · intro w'
                                          go_simp
                                          with_reducible rfl
                                        rotate_left
                                        · simp only [Act.put, List.setIfInBounds_toArray, List.set_cons_zero, List.set_cons_succ, i64_w, i32_w]
                                          rfl
                                        refine pure_ (i := 3) (N := some 69) (v := ?_) (a' := ?_) #[true, true, false, true, false, false, false, false, false] rfl rfl (any_of HT_.out (by kernel_rfl)) (fun _ _ _ h => h) (Or.inl ⟨by rfl, ?_⟩) ?_ ?_
                                        rotate_left
                                        · intro w'
                                          go_simp
                                          with_reducible rfl
                                        rotate_left
                                        · simp only [Act.put, List.setIfInBounds_toArray, List.set_cons_zero, List.set_cons_succ, i64_w, i32_w]
                                          rfl
                                        refine pure_ (i := 5) (N := some 71) (v := ?_) (a' := ?_) #[true, true, false, true, false, true, false, false, false] rfl rfl (any_of HT_.out (by kernel_rfl)) (fun _ _ _ h => h) (Or.inl ⟨by rfl, ?_⟩) ?_ ?_
                                        rotate_left
                                        · intro w'
                                          go_simp
                                          with_reducible rfl
                                        rotate_left
                                        · simp only [Act.put, List.setIfInBounds_toArray, List.set_cons_zero, List.set_cons_succ, i64_w, i32_w]
                                          rfl
                                        refine pure_ (i := 6) (N := some 72) (v := ?_) (a' := ?_) #[true, true, false, true, false, true, true, false, false] rfl rfl (any_of HT_.out (by kernel_rfl)) (fun _ _ _ h => h) (Or.inl ⟨by rfl, ?_⟩) ?_ ?_
                                        rotate_left
                                        · intro w'
                                          go_simp
                                          with_reducible rfl
                                        rotate_left
                                        · simp only [Act.put, List.setIfInBounds_toArray, List.set_cons_zero, List.set_cons_succ, i64_w, i32_w]
                                          rfl
                                        refine take_ (i := 2) (N := some 68) (v := ?_) (a' := ?_) #[true, true, true, true, false, true, true, false, false] rfl rfl (take_ofW HT_.out HW_.out (by kernel_rfl)) (fun _ _ _ h => h) (Or.inl ⟨by rfl, ?_⟩) hHeld ?_ ?_
                                        rotate_left
                                        · intro w' s0
                                          go_simp
                                          with_reducible rfl
                                        rotate_left
                                        · simp only [Act.put, List.setIfInBounds_toArray, List.set_cons_zero, List.set_cons_succ, i64_w, i32_w]
                                          rfl
                                        refine one_ (i := 4) (N := some 70) #[true, true, true, true, true, true, true, false, false] rfl rfl (one_of HT_.out (by kernel_rfl)) (by decide) (fun K hK => ?_)
                                        refine Kd.R_lit_step (Kd.int .i64) _ 3 ?hg (N := 70) ?hd (xs := ([rd x6_3 0, x8_3] : List Int)) (inner := [.int .i64 (rd x6_3 0), .int .i64 x8_3]) (ok := fun _ => True) (okp := fun _ => True) ?hr ?hp (fun _ hk => hk) trivial (Below.refl _ _) (Nat.le_refl _) (by simp) ?_; (case hd => rfl); (case hg => rfl); (case hr => first | (go_simp; done) | (go_simp; rfl)); (case hp => exact (Reps.one (show Kd.M (Kd.int .i64) _ _ _ (rd x6_3 0) [.int .i64 (rd x6_3 0)] from rfl) (Reps.one (show Kd.M (Kd.int .i64) _ _ _ x8_3 [.int .i64 x8_3] from rfl) (Reps.none _ _))))
                                        intro v306 w35 ho36 hb hg_ hnew_
                                        have HS0_ := (hb.cell (World.block_lt_of_cell? _ _ (hHeld))).trans (hHeld)
                                        clear hg_ hnew_
                                        (first | rw [← Ny305.out] at ho36 | (simp only [Int.reduceToNat] at ho36; rw [← Ny305.out] at ho36))
                                        have n0_ := Aside0.mk (Kd.N_elder' (by (with_reducible repeat (first | apply Kd.N_alloc | apply Kd.N_drewN | apply Kd.N_drew)); exact HO_4.out) (Kd.R_base ho36) hb)
                                        have n1_ := Aside0.mk (Kd.R_elder' (by (with_reducible repeat (first | apply Kd.R_alloc | apply Kd.R_drewN | apply Kd.R_drew)); exact HO_6.out) (Kd.R_base ho36) hb)
                                        have n2_ := Aside0.mk (Kd.V_elder' (by (with_reducible repeat (first | apply Kd.V_alloc | apply Kd.V_drewN | apply Kd.V_drew)); exact HO312.out) (Kd.R_base ho36) hb)
                                        have n3_ := Aside0.mk (Kd.R_lower (Kd.R_new' (Kd.R_newM (M := fun k_ => (w.heap.size ≤ k_)) ho36 (below_size (by repeat (first | (with_reducible first | exact HB.out | apply below_alloc | apply pw_below_drewN | apply below_drew1) | exact HB.out))) (fun k_ h_ => h_)) (Kd.R_lt (by (with_reducible repeat (first | apply Kd.R_alloc | apply Kd.R_drewN | apply Kd.R_drew)); exact HO_6.out))) (below_size (by repeat (first | (with_reducible first | exact HB.out | apply below_alloc | apply pw_below_drewN | apply below_drew1) | exact HB.out))))
                                        have n4_ := Aside0.mk (below_step (by repeat (first | (with_reducible first | exact HB.out | apply below_alloc | apply pw_below_drewN | apply below_drew1) | exact HB.out)) hb)
                                        clear HO_4
                                        clear HO_6
                                        clear HO312
                                        clear HB
                                        have HO_4 := n0_
                                        have HO_6 := n1_
                                        have HO312 := n2_
                                        have HO307 := n3_
                                        have HB := n4_
                                        clear n0_ n1_ n2_ n3_ n4_
                                        clear hb ho36
                                        refine hK.out _ _ (HS0_) (fun hHeld => ?_)
                                        clear hK K
                                        refine norm_ (a' := ?_) ?_ ?_
                                        rotate_left
                                        · show Act.put _ (some 70) _ = _
                                          simp only [Act.put, List.setIfInBounds_toArray, List.set_cons_zero, List.set_cons_succ, i64_w, i32_w]
                                          rfl
                                        refine last_ (i := 7) (N := some 73) #[true, true, true, true, true, true, true, true, false] rfl rfl (one_of HT_.out (by kernel_rfl)) (by decide) (fun K hK => ?_)
                                        refine Kd.R_append_rows_step (Kd.int .i64) (w0 := w) w.heap.size (by rfl) (.tmp 70) (.tmp 72) 43 3 (.int .i64 0) 8 rfl Try.underlying43 info3 rfl (by decide) (by omega) v306 y305 y308 _ _ _ (fun k_ => (w.heap.size ≤ k_) ∧ some k_ ≠ (.slice (some ad304) x6_3.length co32 : Value).ownBlock) (fun _ => False) rfl rfl ?aO ?aR (fun _ _ h => h) (fun _ h => h.elim) ?aF ?aB ?aS ?aL ?_
                                        (case aR => repeat (first | exact (Kd.V_reads' HO312.out).2.2 | (with_reducible refine Kd.C_alloc ?_ _) | (with_reducible refine Kd.C_drewN ?_ _) | (with_reducible refine Kd.C_drew ?_)))
                                        (case aB => exact (by repeat (first | (with_reducible first | exact HB.out | apply below_alloc | apply pw_below_drewN | apply below_drew1) | exact HB.out)))
                                        (case aF => exact (fun k_ hk => ⟨(Nat.le_trans (below_size (by repeat (first | (with_reducible first | exact HB.out | apply below_alloc | apply pw_below_drewN | apply below_drew1) | exact HB.out))) hk), Kd.fresh' (Kd.R_lt (by (with_reducible repeat (first | apply Kd.R_alloc | apply Kd.R_drewN | apply Kd.R_drew)); exact HO_6.out)) k_ hk⟩))
                                        (case aO => exact (by (with_reducible repeat (first | apply Kd.R_alloc | apply Kd.R_drewN | apply Kd.R_drew)); exact Kd.R_mono HO307.out (fun _ hk => ⟨hk.1.1, hk.2⟩)))
                                        (case aS => exact (below_size (by repeat (first | (with_reducible first | exact HB.out | apply below_alloc | apply pw_below_drewN | apply below_drew1) | exact HB.out))))
                                        (case aL => have := LMc30.out; omega)
                                        intro v314 w37 ho hb hg hat
                                        rw [← Ny313.out] at ho
                                        have n0_ := Aside0.mk (Kd.N_afterv (ok := (fun k_ => (w.heap.size ≤ k_) ∧ some k_ ≠ (.slice (some ad304) x6_3.length co32 : Value).ownBlock)) (by (with_reducible repeat (first | apply Kd.N_alloc | apply Kd.N_drewN | apply Kd.N_drew)); exact HO_4.out) hg hat)
                                        have n1_ := Aside0.mk (Kd.R_after (ok := (fun k_ => (w.heap.size ≤ k_))) (by (with_reducible repeat (first | apply Kd.R_alloc | apply Kd.R_drewN | apply Kd.R_drew)); exact HO_6.out) hg hat)
                                        have n2_ := Aside0.mk (Kd.V_afterv (ok := (fun k_ => (w.heap.size ≤ k_) ∧ some k_ ≠ (u4 : Value).ownBlock)) (by (with_reducible repeat (first | apply Kd.V_alloc | apply Kd.V_drewN | apply Kd.V_drew)); exact HO312.out) hg hat)
                                        have n3_ := Aside0.mk (hb)
                                        have n4_ := Aside0.mk (ho)
                                        clear HO_4
                                        clear HO_6
                                        clear HO312
                                        clear HB
                                        clear HO307
                                        have HO_4 := n0_
                                        have HO_6 := n1_
                                        have HO312 := n2_
                                        have HB := n3_
                                        have HO315 := n4_
                                        clear n0_ n1_ n2_ n3_ n4_
                                        clear ho hb hg hat
                                        refine hK.out _ _ ?_
                                        clear hK K
                                        refine norm_ (a' := ?_) ?_ ?_
                                        rotate_left
                                        · show Act.put _ (some 73) _ = _
                                          simp only [Act.put, List.setIfInBounds_toArray, List.set_cons_zero, List.set_cons_succ, i64_w, i32_w]
                                          rfl
                                        refine pure_ (i := 8) (N := some 6) (v := ?_) (a' := ?_) #[true, true, true, true, true, true, true, true, true] rfl rfl (any_of HT_.out (by kernel_rfl)) (fun _ _ _ h => h) (Or.inl ⟨by rfl, ?_⟩) ?_ ?_
                                        rotate_left
                                        · intro w'
                                          go_simp
                                          with_reducible rfl
                                        rotate_left
                                        · simp only [Act.put, List.setIfInBounds_toArray, List.set_cons_zero, List.set_cons_succ, i64_w, i32_w]
                                          rfl
                                        refine done_ (done_of HT_.out (by kernel_rfl)) ?_
                                        try go_wp2_with (first | ((with_reducible refine gate_callee (f := 38) rfl ?_); refine goesL_ (some 77) rfl rfl Try.func38 (by kernel_rfl) rfl #[.slice (some ad281) l0.length c0, .int .i64 x8_3] rfl (by (try simp only [List.map_toArray, List.map_cons, List.map_nil]); first | done | rfl | (simp only [List.length_drop, List.length_take]; rfl)) ?_; (with_reducible refine (swageref18_from.calls k3 _ _ l0 x8_3 t316 t317 _ ?side1 ?side2 A31.out).mono ?_); (case side1 => repeat (first | exact (Kd.C_below HR0.out HB.out) | (with_reducible refine Kd.C_alloc ?_ _) | (with_reducible refine Kd.C_drewN ?_ _) | (with_reducible refine Kd.C_drew ?_))); (case side2 => exact HC0.out); rintro e w' ⟨rfl, ⟨nd, rfl⟩⟩; refine ⟨_, rfl, ?_⟩))
                                        go_roundg k3
                                        case measure => have := HK1.out; have := HJ2.out; have := HK3.out; omega
                                        case rel => exact ⟨(y313), (false), (t316), (t317), (by first | rfl | (simp; done) | (simp [*]; done)), (by first | rfl | (simp; done) | (simp [*]; done)), (by first | rfl | (simp; done) | (simp [*]; done)), H', ⟨by have := HK1.out; have := HJ2.out; have := HK3.out; omega⟩, ⟨by (with_reducible repeat (first | apply Kd.N_alloc | apply Kd.N_drewN | apply Kd.N_drew)); exact Kd.N_mono HO_4.out (fun _ hk => ⟨hk.1.1, hk.2⟩)⟩, ⟨by (with_reducible repeat (first | apply Kd.R_alloc | apply Kd.R_drewN | apply Kd.R_drew)); exact Kd.R_mono HO315.out (fun _ hk => hk.1)⟩, ⟨by repeat (first | (with_reducible first | exact HB.out | apply below_alloc | apply pw_below_drewN | apply below_drew1) | exact HB.out)⟩⟩
                                      · rw [if_neg c30] at H
                                        exact absurd H (by simp)
                                    · rw [if_neg c29] at H
                                      exact absurd H (by simp)
                                  · rw [if_neg c28] at H
                                    exact absurd H (by simp)
                              · rw [if_neg c16] at H
                                have c16b0 : decide ((x6_3.length : Int) ≤ (l0.length : Int)) = false := decide_eq_false c16
                                have c16b1 : decide (x6_3.length ≤ l0.length) = false := decide_eq_false (fun h => c16 (Int.ofNat_le.mpr h))
                                clear c16
                                have H' := Aside0.mk H
                                clear H
                                have p288 : 0 ≤ (x5_1 : Int) := of_decide_eq_true (by first | (with_reducible assumption) | assumption)
                                have q288 : x5_1 < (l0.length : Int) := of_decide_eq_true (by first | (with_reducible assumption) | assumption)
                                obtain ⟨ad288, e288, hx288_0, hx288_1⟩ := at_T38 HR0.out x5_1 p288 q288
                                obtain rfl : ad281 = ad288 := (by injection e288)
                                replace hx288_0 := (HB.out.cell (World.block_lt_of_cell? w _ hx288_0)).trans hx288_0
                                replace hx288_1 := (HB.out.cell (World.block_lt_of_cell? w _ hx288_1)).trans hx288_1
                                replace p288 := eq_true p288
                                replace q288 := eq_true q288
                                obtain ⟨Ao38, co38, eo38⟩ := Kd.R_slice HO_6.out
                                subst eo38
                                go_wp2
                                go_meet
                                case rel => exact ⟨_, (x6_3), (x7_3), (x8_3), (true), (by first | rfl | (simp; done) | (simp [*]; done)), (by first | rfl | (simp; done) | (simp [*]; done)), (by first | rfl | (simp; done) | (simp [*]; done)), H', ⟨by have := HK1.out; have := HJ2.out; have := HK3.out; first | omega | exact Nat.le_refl _⟩, ⟨by (with_reducible repeat (first | apply Kd.N_alloc | apply Kd.N_drewN | apply Kd.N_drew)); exact HO_4.out⟩, ⟨by (with_reducible repeat (first | apply Kd.R_alloc | apply Kd.R_drewN | apply Kd.R_drew)); exact HO_6.out⟩, ⟨by repeat (first | (with_reducible first | exact HB.out | apply below_alloc | apply pw_below_drewN | apply below_drew1) | exact HB.out)⟩⟩
                          · rw [if_neg c14] at H
                            exact absurd H (by simp)
                        · rw [if_neg c13] at H
                          exact absurd H (by simp)
                      · replace c12 := Bool.eq_false_iff.mpr c12
                        subst c12
                        have H1 : (swageref18_Cycles.j3 k3 l0 t280 x4_1 x5_1 x6_3 x7_3 x8_3 false) = some r := by rw [if_neg (show ¬ (false = true) by decide)] at H; exact H
                        clear H
                        have H := H1
                        clear H1
                        have H' := Aside0.mk H
                        clear H
                        go_wp2
                        go_meet
                        case rel => exact ⟨_, (x6_3), (x7_3), (x8_3), (false), (by first | rfl | (simp; done) | (simp [*]; done)), (by first | rfl | (simp; done) | (simp [*]; done)), (by first | rfl | (simp; done) | (simp [*]; done)), H', ⟨by have := HK1.out; have := HJ2.out; have := HK3.out; first | omega | exact Nat.le_refl _⟩, ⟨by (with_reducible repeat (first | apply Kd.N_alloc | apply Kd.N_drewN | apply Kd.N_drew)); exact HO_4.out⟩, ⟨by (with_reducible repeat (first | apply Kd.R_alloc | apply Kd.R_drewN | apply Kd.R_drew)); exact HO_6.out⟩, ⟨by repeat (first | (with_reducible first | exact HB.out | apply below_alloc | apply pw_below_drewN | apply below_drew1) | exact HB.out)⟩⟩
                case rest =>
                  clear HC9
                  try clear c1
                  try clear c2
                  try clear p2
                  try clear q2
                  try clear hx2
                  try clear qi2
                  try clear c3
                  try clear p3
                  try clear q3
                  try clear hx3
                  try clear qi3
                  try clear c4
                  try clear c4b0
                  try clear c5
                  try clear c6
                  try clear c6b0
                  try clear c7
                  try clear c7b0
                  try clear c12
                  try clear c13
                  try clear c13b0
                  try clear c14
                  try clear c14b0
                  try clear c15
                  try clear c15b0
                  try clear c15b1
                  try clear c16
                  try clear c16b0
                  try clear c16b1
                  try clear c17
                  try clear c18
                  try clear c18b0
                  try clear c18b1
                  try clear c19
                  try clear c19b0
                  try clear c19b1
                  try clear c20
                  try clear c24
                  try clear q24
                  try clear c28
                  try clear c28b0
                  try clear c28b1
                  try clear p28
                  try clear q28
                  try clear hx28
                  try clear c29
                  try clear c29b0
                  try clear c29b1
                  try clear p29
                  try clear q29
                  try clear hx29
                  try clear qi29
                  try clear c30
                  try clear p30
                  try clear q30
                  try clear hx30
                  try clear qi30
                  try clear c34
                  try clear q34
                  try clear c38
                  try clear hx281_0
                  try clear hx281_1
                  try clear hx285_0
                  try clear hx285_1
                  try clear hx288_0
                  try clear hx288_1
                  try clear hx289_0
                  try clear hx289_1
                  try clear hx290_0
                  try clear hx304_0
                  try clear p2
                  try clear p281
                  try clear p285
                  try clear p288
                  try clear p289
                  try clear p290
                  try clear p304
                  try clear q2
                  try clear q24
                  try clear q281
                  try clear q285
                  try clear q288
                  try clear q289
                  try clear q290
                  try clear q304
                  try clear q34
                  obtain ⟨kq, x6_8, x7_8, x8_8, x9_8, rfl, rfl, rfl, HA, HJ8, HO_4, HO_6, HB⟩ := hcut
                  cases kq with
                  | zero => exact absurd HA.out (by simp [swageref18_Cycles.j3])
                  | succ kj8 =>
                    have H := HA.out
                    clear HA
                    simp only [swageref18_Cycles.j3] at H
                    have HC39 := Aside0.mk H
                    clear H
                    go_upto_region 13 with (fail)
                    go_cut [99] (fun v99 wc => ∃ (kq : Nat) (x99_38 : Bool), v99 = .bool x99_38 ∧ Aside0 (swageref18_Cycles.j4 kq l0 t280 x4_1 x5_1 x6_8 x99_38 = some r) ∧ Aside0 (kq ≤ kj8) ∧ Aside0 (Kd.N (Kd.slice 3 (Kd.int .i64)) 43 wc w.heap.size (fun k_ => (w.heap.size ≤ k_) ∧ some k_ ≠ (u6 : Value).ownBlock) u4 x4_1) ∧ Aside0 (Kd.R (Kd.int .i64) 3 wc w.heap.size (fun k_ => (w.heap.size ≤ k_)) u6 x6_8) ∧ Aside0 (Below w.heap.size w wc))
                    case first =>
                      have H := HC39.out
                      clear HC39
                      by_cases c40 : x9_8 = true
                      · subst c40
                        have H1 : (if 0 ≤ x5_1 then (if x5_1 < (l0.length : Int) then (if x8_8 = ((rd_T38 l0 x5_1).f0) then (if x7_8 = true then (swageref18_Cycles.j4 kj8 l0 t280 x4_1 x5_1 x6_8 (decide ((x6_8.length : Int) < 2))) else (swageref18_Cycles.j4 kj8 l0 t280 x4_1 x5_1 x6_8 true)) else (swageref18_Cycles.j4 kj8 l0 t280 x4_1 x5_1 x6_8 true)) else (none)) else (none)) = some r := by rw [if_pos rfl] at H; exact H
                        clear H
                        have H := H1
                        clear H1
                        by_cases c41 : 0 ≤ x5_1
                        · rw [if_pos c41] at H
                          have c41b0 : decide (0 ≤ x5_1) = true := decide_eq_true c41
                          clear c41
                          (first | rw [c41b0] | (simp only [i64_w, i32_w]; rw [c41b0]) | skip)
                          by_cases c42 : x5_1 < (l0.length : Int)
                          · rw [if_pos c42] at H
                            have c42b0 : decide (x5_1 < (l0.length : Int)) = true := decide_eq_true c42
                            clear c42
                            by_cases c43 : x8_8 = ((rd_T38 l0 x5_1).f0)
                            · rw [if_pos c43] at H
                              have c43b0 : (x8_8 == ((rd_T38 l0 x5_1).f0)) = true := beq_iff_eq.mpr c43
                              have c43b1 : (x8_8 != ((rd_T38 l0 x5_1).f0)) = false := bne_eq_false_iff_eq.mpr c43
                              clear c43
                              by_cases c44 : x7_8 = true
                              · subst c44
                                have H1 : (swageref18_Cycles.j4 kj8 l0 t280 x4_1 x5_1 x6_8 (decide ((x6_8.length : Int) < 2))) = some r := by rw [if_pos rfl] at H; exact H
                                clear H
                                have H := H1
                                clear H1
                                have H' := Aside0.mk H
                                clear H
                                have p318 : 0 ≤ (x5_1 : Int) := of_decide_eq_true (by first | (with_reducible assumption) | assumption)
                                have q318 : x5_1 < (l0.length : Int) := of_decide_eq_true (by first | (with_reducible assumption) | assumption)
                                obtain ⟨ad318, e318, hx318_0, hx318_1⟩ := at_T38 HR0.out x5_1 p318 q318
                                obtain rfl : ad281 = ad318 := (by injection e318)
                                replace hx318_0 := (HB.out.cell (World.block_lt_of_cell? w _ hx318_0)).trans hx318_0
                                replace hx318_1 := (HB.out.cell (World.block_lt_of_cell? w _ hx318_1)).trans hx318_1
                                replace p318 := eq_true p318
                                replace q318 := eq_true q318
                                obtain ⟨Ao45, co45, eo45⟩ := Kd.R_slice HO_6.out
                                subst eo45
                                go_wp2
                                go_meet
                                case rel => exact ⟨_, (decide ((x6_8.length : Int) < 2)), (by first | rfl | (simp; done) | (simp [*]; done)), H', ⟨by have := HK1.out; have := HJ2.out; have := HJ8.out; first | omega | exact Nat.le_refl _⟩, ⟨by (with_reducible repeat (first | apply Kd.N_alloc | apply Kd.N_drewN | apply Kd.N_drew)); exact HO_4.out⟩, ⟨by (with_reducible repeat (first | apply Kd.R_alloc | apply Kd.R_drewN | apply Kd.R_drew)); exact HO_6.out⟩, ⟨by repeat (first | (with_reducible first | exact HB.out | apply below_alloc | apply pw_below_drewN | apply below_drew1) | exact HB.out)⟩⟩
                              · replace c44 := Bool.eq_false_iff.mpr c44
                                subst c44
                                have H1 : (swageref18_Cycles.j4 kj8 l0 t280 x4_1 x5_1 x6_8 true) = some r := by rw [if_neg (show ¬ (false = true) by decide)] at H; exact H
                                clear H
                                have H := H1
                                clear H1
                                have H' := Aside0.mk H
                                clear H
                                have p318 : 0 ≤ (x5_1 : Int) := of_decide_eq_true (by first | (with_reducible assumption) | assumption)
                                have q318 : x5_1 < (l0.length : Int) := of_decide_eq_true (by first | (with_reducible assumption) | assumption)
                                obtain ⟨ad318, e318, hx318_0, hx318_1⟩ := at_T38 HR0.out x5_1 p318 q318
                                obtain rfl : ad281 = ad318 := (by injection e318)
                                replace hx318_0 := (HB.out.cell (World.block_lt_of_cell? w _ hx318_0)).trans hx318_0
                                replace hx318_1 := (HB.out.cell (World.block_lt_of_cell? w _ hx318_1)).trans hx318_1
                                replace p318 := eq_true p318
                                replace q318 := eq_true q318
                                go_wp2
                                go_meet
                                case rel => exact ⟨_, (true), (by first | rfl | (simp; done) | (simp [*]; done)), H', ⟨by have := HK1.out; have := HJ2.out; have := HJ8.out; first | omega | exact Nat.le_refl _⟩, ⟨by (with_reducible repeat (first | apply Kd.N_alloc | apply Kd.N_drewN | apply Kd.N_drew)); exact HO_4.out⟩, ⟨by (with_reducible repeat (first | apply Kd.R_alloc | apply Kd.R_drewN | apply Kd.R_drew)); exact HO_6.out⟩, ⟨by repeat (first | (with_reducible first | exact HB.out | apply below_alloc | apply pw_below_drewN | apply below_drew1) | exact HB.out)⟩⟩
                            · rw [if_neg c43] at H
                              have c43b0 : (x8_8 == ((rd_T38 l0 x5_1).f0)) = false := beq_eq_false_iff_ne.mpr c43
                              have c43b1 : (x8_8 != ((rd_T38 l0 x5_1).f0)) = true := bne_iff_ne.mpr c43
                              have H' := Aside0.mk H
                              clear H
                              have p318 : 0 ≤ (x5_1 : Int) := of_decide_eq_true (by first | (with_reducible assumption) | assumption)
                              have q318 : x5_1 < (l0.length : Int) := of_decide_eq_true (by first | (with_reducible assumption) | assumption)
                              obtain ⟨ad318, e318, hx318_0, hx318_1⟩ := at_T38 HR0.out x5_1 p318 q318
                              obtain rfl : ad281 = ad318 := (by injection e318)
                              replace hx318_0 := (HB.out.cell (World.block_lt_of_cell? w _ hx318_0)).trans hx318_0
                              replace hx318_1 := (HB.out.cell (World.block_lt_of_cell? w _ hx318_1)).trans hx318_1
                              replace p318 := eq_true p318
                              replace q318 := eq_true q318
                              go_wp2
                              go_meet
                              case rel => exact ⟨_, (true), (by first | rfl | (simp; done) | (simp [*]; done)), H', ⟨by have := HK1.out; have := HJ2.out; have := HJ8.out; first | omega | exact Nat.le_refl _⟩, ⟨by (with_reducible repeat (first | apply Kd.N_alloc | apply Kd.N_drewN | apply Kd.N_drew)); exact HO_4.out⟩, ⟨by (with_reducible repeat (first | apply Kd.R_alloc | apply Kd.R_drewN | apply Kd.R_drew)); exact HO_6.out⟩, ⟨by repeat (first | (with_reducible first | exact HB.out | apply below_alloc | apply pw_below_drewN | apply below_drew1) | exact HB.out)⟩⟩
                          · rw [if_neg c42] at H
                            exact absurd H (by simp)
                        · rw [if_neg c41] at H
                          exact absurd H (by simp)
                      · replace c40 := Bool.eq_false_iff.mpr c40
                        subst c40
                        have H1 : (swageref18_Cycles.j4 kj8 l0 t280 x4_1 x5_1 x6_8 true) = some r := by rw [if_neg (show ¬ (false = true) by decide)] at H; exact H
                        clear H
                        have H := H1
                        clear H1
                        have H' := Aside0.mk H
                        clear H
                        go_wp2
                        go_meet
                        case rel => exact ⟨_, (true), (by first | rfl | (simp; done) | (simp [*]; done)), H', ⟨by have := HK1.out; have := HJ2.out; have := HJ8.out; first | omega | exact Nat.le_refl _⟩, ⟨by (with_reducible repeat (first | apply Kd.N_alloc | apply Kd.N_drewN | apply Kd.N_drew)); exact HO_4.out⟩, ⟨by (with_reducible repeat (first | apply Kd.R_alloc | apply Kd.R_drewN | apply Kd.R_drew)); exact HO_6.out⟩, ⟨by repeat (first | (with_reducible first | exact HB.out | apply below_alloc | apply pw_below_drewN | apply below_drew1) | exact HB.out)⟩⟩
                    case rest =>
                      clear HC39
                      try clear c1
                      try clear c2
                      try clear p2
                      try clear q2
                      try clear hx2
                      try clear qi2
                      try clear c3
                      try clear p3
                      try clear q3
                      try clear hx3
                      try clear qi3
                      try clear c4
                      try clear c4b0
                      try clear c5
                      try clear c6
                      try clear c6b0
                      try clear c7
                      try clear c7b0
                      try clear c12
                      try clear c13
                      try clear c13b0
                      try clear c14
                      try clear c14b0
                      try clear c15
                      try clear c15b0
                      try clear c15b1
                      try clear c16
                      try clear c16b0
                      try clear c16b1
                      try clear c17
                      try clear c18
                      try clear c18b0
                      try clear c18b1
                      try clear c19
                      try clear c19b0
                      try clear c19b1
                      try clear c20
                      try clear c24
                      try clear q24
                      try clear c28
                      try clear c28b0
                      try clear c28b1
                      try clear p28
                      try clear q28
                      try clear hx28
                      try clear c29
                      try clear c29b0
                      try clear c29b1
                      try clear p29
                      try clear q29
                      try clear hx29
                      try clear qi29
                      try clear c30
                      try clear p30
                      try clear q30
                      try clear hx30
                      try clear qi30
                      try clear p31
                      try clear q31
                      try clear hx31
                      try clear c34
                      try clear q34
                      try clear c38
                      try clear c40
                      try clear c41
                      try clear c41b0
                      try clear c42
                      try clear c42b0
                      try clear c43
                      try clear c43b0
                      try clear c43b1
                      try clear c44
                      try clear hx281_0
                      try clear hx281_1
                      try clear hx285_0
                      try clear hx285_1
                      try clear hx288_0
                      try clear hx288_1
                      try clear hx289_0
                      try clear hx289_1
                      try clear hx290_0
                      try clear hx304_0
                      try clear hx318_0
                      try clear hx318_1
                      try clear p2
                      try clear p28
                      try clear p281
                      try clear p285
                      try clear p288
                      try clear p289
                      try clear p29
                      try clear p290
                      try clear p3
                      try clear p30
                      try clear p304
                      try clear p318
                      try clear q2
                      try clear q24
                      try clear q28
                      try clear q281
                      try clear q285
                      try clear q288
                      try clear q289
                      try clear q29
                      try clear q290
                      try clear q3
                      try clear q30
                      try clear q304
                      try clear q318
                      try clear q34
                      obtain ⟨kq, x99_38, rfl, HA, HJ38, HO_4, HO_6, HB⟩ := hcut
                      cases kq with
                      | zero => exact absurd HA.out (by simp [swageref18_Cycles.j4])
                      | succ kj38 =>
                        have H := HA.out
                        clear HA
                        simp only [swageref18_Cycles.j4] at H
                        by_cases c46 : x99_38 = true
                        · subst c46
                          have H1 : (swageref18_Cycles.l0 kj38 l0 t280 x4_1 (wrap64 (x5_1 + 1))) = some r := by rw [if_pos rfl] at H; exact H
                          clear H
                          have H := H1
                          clear H1
                          have H' := Aside0.mk H
                          clear H
                          go_wp2
                          go_roundg kj38
                          case measure => have := HK1.out; have := HJ2.out; have := HJ8.out; have := HJ38.out; omega
                          case rel => exact ⟨(x4_1), (wrap64 (x5_1 + 1)), (by first | rfl | (simp; done) | (simp [*]; done)), H', ⟨by have := HK1.out; have := HJ2.out; have := HJ8.out; have := HJ38.out; omega⟩, ⟨by (with_reducible repeat (first | apply Kd.N_alloc | apply Kd.N_drewN | apply Kd.N_drew)); exact Kd.N_mono HO_4.out (fun _ hk => hk.1)⟩, ⟨by repeat (first | (with_reducible first | exact HB.out | apply below_alloc | apply pw_below_drewN | apply below_drew1) | exact HB.out)⟩⟩
                        · replace c46 := Bool.eq_false_iff.mpr c46
                          subst c46
                          have H1 : (swageref18_Cycles.l2 kj38 l0 t280 x4_1 x5_1 x6_8 0) = some r := by rw [if_neg (show ¬ (false = true) by decide)] at H; exact H
                          clear H
                          have H := H1
                          clear H1
                          have H' := Aside0.mk H
                          clear H
                          go_wp2
                          go_loopg [10] kj38 (fun kq v10 w' => ∃ (x10_5 : Int), v10 = .int .i64 x10_5 ∧ Aside0 (swageref18_Cycles.l2 kq l0 t280 x4_1 x5_1 x6_8 x10_5 = some r) ∧ Aside0 (kq ≤ kj38) ∧ Aside0 (Kd.N (Kd.slice 3 (Kd.int .i64)) 43 w' w.heap.size (fun k_ => (w.heap.size ≤ k_) ∧ some k_ ≠ (u6 : Value).ownBlock) u4 x4_1) ∧ Aside0 (Kd.R (Kd.int .i64) 3 w' w.heap.size (fun k_ => (w.heap.size ≤ k_)) u6 x6_8) ∧ Aside0 (Below w.heap.size w w'))
                          case atStart => exact ⟨(0), (by first | rfl | (simp; done) | (simp [*]; done)), H', ⟨Nat.le_refl _⟩, ⟨by (with_reducible repeat (first | apply Kd.N_alloc | apply Kd.N_drewN | apply Kd.N_drew)); exact HO_4.out⟩, ⟨by (with_reducible repeat (first | apply Kd.R_alloc | apply Kd.R_drewN | apply Kd.R_drew)); exact HO_6.out⟩, ⟨by repeat (first | (with_reducible first | exact HB.out | apply below_alloc | apply pw_below_drewN | apply below_drew1) | exact HB.out)⟩⟩
                          case round =>
                            clear H'
                            try clear c1
                            try clear c2
                            try clear p2
                            try clear q2
                            try clear hx2
                            try clear qi2
                            try clear c3
                            try clear p3
                            try clear q3
                            try clear hx3
                            try clear qi3
                            try clear c4
                            try clear c4b0
                            try clear c5
                            try clear c6
                            try clear c6b0
                            try clear p6
                            try clear c7
                            try clear c7b0
                            try clear c12
                            try clear c13
                            try clear c13b0
                            try clear c14
                            try clear c14b0
                            try clear c15
                            try clear c15b0
                            try clear c15b1
                            try clear c16
                            try clear c16b0
                            try clear c16b1
                            try clear c17
                            try clear c18
                            try clear c18b0
                            try clear c18b1
                            try clear c19
                            try clear c19b0
                            try clear c19b1
                            try clear c20
                            try clear c24
                            try clear q24
                            try clear c28
                            try clear c28b0
                            try clear c28b1
                            try clear p28
                            try clear q28
                            try clear hx28
                            try clear c29
                            try clear c29b0
                            try clear c29b1
                            try clear p29
                            try clear q29
                            try clear hx29
                            try clear qi29
                            try clear c30
                            try clear p30
                            try clear q30
                            try clear hx30
                            try clear qi30
                            try clear p31
                            try clear q31
                            try clear hx31
                            try clear c34
                            try clear q34
                            try clear c38
                            try clear c40
                            try clear c41
                            try clear c41b0
                            try clear c42
                            try clear c42b0
                            try clear c43
                            try clear c43b0
                            try clear c43b1
                            try clear c44
                            try clear c46
                            try clear hx281_0
                            try clear hx281_1
                            try clear hx285_0
                            try clear hx285_1
                            try clear hx288_0
                            try clear hx288_1
                            try clear hx289_0
                            try clear hx289_1
                            try clear hx290_0
                            try clear hx304_0
                            try clear hx318_0
                            try clear hx318_1
                            try clear p2
                            try clear p28
                            try clear p281
                            try clear p285
                            try clear p288
                            try clear p289
                            try clear p29
                            try clear p290
                            try clear p3
                            try clear p30
                            try clear p304
                            try clear p31
                            try clear p318
                            try clear q2
                            try clear q24
                            try clear q28
                            try clear q281
                            try clear q285
                            try clear q288
                            try clear q289
                            try clear q29
                            try clear q290
                            try clear q3
                            try clear q30
                            try clear q304
                            try clear q31
                            try clear q318
                            try clear q34
                            obtain ⟨x10_5, rfl, HA, HK5, HO_4, HO_6, HB⟩ := hrel
                            cases gk with
                            | zero => exact absurd HA.out (by simp [swageref18_Cycles.l2])
                            | succ k5 =>
                              have H := HA.out
                              clear HA
                              simp only [swageref18_Cycles.l2] at H
                              by_cases c47 : x10_5 < (x4_1.length : Int)
                              · rw [if_pos c47] at H
                                have c47b0 : decide (x10_5 < (x4_1.length : Int)) = true := decide_eq_true c47
                                clear c47
                                by_cases c48 : 0 ≤ x10_5
                                · rw [if_pos c48] at H
                                  have c48b0 : decide (0 ≤ x10_5) = true := decide_eq_true c48
                                  clear c48
                                  by_cases c49 : 0 < ((rd_L4 x4_1 x10_5).length : Int)
                                  · rw [if_pos c49] at H
                                    have c49b0 : decide (0 < ((rd_L4 x4_1 x10_5).length : Int)) = true := decide_eq_true c49
                                    have c49b1 : decide (0 < (rd_L4 x4_1 x10_5).length) = true := decide_eq_true (by omega)
                                    clear c49
                                    by_cases c50 : 0 < (x6_8.length : Int)
                                    · rw [if_pos c50] at H
                                      have c50b0 : decide (0 < (x6_8.length : Int)) = true := decide_eq_true c50
                                      have c50b1 : decide (0 < x6_8.length) = true := decide_eq_true (by omega)
                                      clear c50
                                      by_cases c51 : (rd (rd_L4 x4_1 x10_5) 0) < (rd x6_8 0)
                                      · rw [if_pos c51] at H
                                        have c51b0 : decide ((rd (rd_L4 x4_1 x10_5) 0) < (rd x6_8 0)) = true := decide_eq_true c51
                                        clear c51
                                        have H' := Aside0.mk H
                                        clear H
                                        try go_wp2
                                        have n0_ := Aside0.mk (Kd.N_drew HO_4.out)
                                        have n1_ := Aside0.mk (Kd.R_drew HO_6.out)
                                        have n2_ := Aside0.mk (below_drew1 HB.out)
                                        clear HO_4
                                        clear HO_6
                                        clear HB
                                        have HO_4 := n0_
                                        have HO_6 := n1_
                                        have HB := n2_
                                        clear n0_ n1_ n2_
                                        obtain ⟨Ao53, co53, eo53⟩ := Kd.N_slice HO_4.out
                                        (first | subst eo53 | (injection eo53 with f1_ f2_ f3_; have f4_ := f1_.symm; have f5_ := f3_.symm; clear f1_ f2_ f3_; subst f4_; subst f5_))
                                        have p319 : 0 ≤ (x10_5 : Int) := of_decide_eq_true (by first | (with_reducible assumption) | assumption)
                                        have q319 : x10_5 < (x4_1.length : Int) := of_decide_eq_true (by first | (with_reducible assumption) | assumption)
                                        obtain ⟨ad319, A319_0, c319_0, e319, hx319_0, hl319_0, hi319_0⟩ := at_L4 (Kd.N_reads' HO_4.out).2.2 x10_5 p319 q319
                                        cases e319
                                        obtain ⟨ce319, hce319, hMe319, hcc319⟩ := Kd.N_get HO_4.out [] x10_5 p319 (by first | exact q319 | exact of_decide_eq_true (by first | (with_reducible assumption) | assumption) | (have e_ := (Kd.N_reads' HO_4.out).1; omega))
                                        obtain ⟨ua319_0, uc319_0, rfl, ul319_0, ge319_0⟩ := Kd.FK_slice_open hMe319
                                        have hv319_0 := hcc319 0 _ rfl
                                        rw [Nat.add_zero, show ((Kd.slice 3 (Kd.int .i64))).sz = 1 from rfl, Nat.mul_one] at hv319_0
                                        replace hv319_0 := Option.some.inj (hv319_0.symm.trans hx319_0)
                                        injection hv319_0 with hva_ hvn_ hvc_
                                        rw [hva_] at ge319_0
                                        rw [hvc_] at ul319_0
                                        have HL319_0 := Aside0.mk (show Kd.V (Kd.int .i64) 3 _ w.heap.size _ _ (rd_L4 x4_1 x10_5) from Kd.V_mk ul319_0 ge319_0)
                                        clear hva_ hvn_ hvc_ ge319_0 ul319_0
                                        clear hcc319 hce319
                                        have HR319_0 := Aside0.mk hi319_0
                                        have HC319_0 := Aside0.mk hl319_0
                                        clear hi319_0 hl319_0
                                        replace p319 := eq_true p319
                                        replace q319 := eq_true q319
                                        have p320 : 0 ≤ (0 : Int) := (by omega)
                                        have q320 : 0 < ((rd_L4 x4_1 x10_5).length : Int) := of_decide_eq_true (by first | (with_reducible assumption) | assumption)
                                        obtain ⟨ad320, e320, hx320_0⟩ := Kd.at_int (by repeat (first | (with_reducible exact HR319_0.out) | (with_reducible refine Kd.C_alloc ?_ _) | (with_reducible refine Kd.C_drewN ?_ _) | (with_reducible refine Kd.C_drew ?_) | exact HR319_0.out)) 0 p320 q320
                                        cases e320
                                        have qi320 : (0 < (rd_L4 x4_1 x10_5).length) = True := eq_true (by omega)
                                        (try rw [show ((0 : Int)).toNat = 0 from rfl] at hx320_0)
                                        (try rw [Addr.add_zero'] at hx320_0)
                                        replace p320 := eq_true p320
                                        replace q320 := eq_true q320
                                        obtain ⟨Ao54, co54, eo54⟩ := Kd.R_slice HO_6.out
                                        (first | subst eo54 | (injection eo54 with f1_ f2_ f3_; have f4_ := f1_.symm; have f5_ := f3_.symm; clear f1_ f2_ f3_; subst f4_; subst f5_))
                                        have p321 : 0 ≤ (0 : Int) := (by omega)
                                        have q321 : 0 < (x6_8.length : Int) := of_decide_eq_true (by first | (with_reducible assumption) | assumption)
                                        obtain ⟨ad321, e321, hx321_0⟩ := Kd.at_int (Kd.R_reads' HO_6.out).2.2 0 p321 q321
                                        cases e321
                                        have qi321 : (0 < x6_8.length) = True := eq_true (by omega)
                                        (try rw [show ((0 : Int)).toNat = 0 from rfl] at hx321_0)
                                        (try rw [Addr.add_zero'] at hx321_0)
                                        replace p321 := eq_true p321
                                        replace q321 := eq_true q321
                                        refine start_ (n := 16) (S := fun w' => w'.cell? (ad319.add (x10_5).toNat) = some (.slice (some ad320) (rd_L4 x4_1 x10_5).length c319_0) ∧ w'.cell? ad320 = some (.int .i64 (rd (rd_L4 x4_1 x10_5) 0)) ∧ w'.cell? ad321 = some (.int .i64 (rd x6_8 0))) (ds := []) #[false, false, false, false, false, false, false, false, false, false, false, false, false, false, false, false] (by kernel_rfl) rfl rfl ⟨hx319_0, hx320_0, hx321_0⟩ (fun hHeld => ?_); refine with_tabW swageref18_Cycles.tab15 swageref18_Cycles.bits15 (fun HT_ HW_ => ?_)
                                        generalize wr.drew = w52 at HO_4 HO_6 HB HL319_0 HR319_0 hx319_0 hx320_0 hx321_0 hHeld ⊢
                                        refine pure_ (i := 0) (N := some 100) (v := ?_) (a' := ?_) #[true, false, false, false, false, false, false, false, false, false, false, false, false, false, false, false] rfl rfl (any_of HT_.out (by kernel_rfl)) (fun _ _ _ h => h) (Or.inl ⟨by rfl, ?_⟩) ?_ ?_
                                        rotate_left
                                        · intro w'
                                          go_simp
                                          with_reducible rfl
                                        rotate_left
                                        · simp only [Act.put, List.setIfInBounds_toArray, List.set_cons_zero, List.set_cons_succ, i64_w, i32_w]
                                          rfl
                                        refine pure_ (i := 1) (N := some 101) (v := ?_) (a' := ?_) #[true, true, false, false, false, false, false, false, false, false, false, false, false, false, false, false] rfl rfl (any_of HT_.out (by kernel_rfl)) (fun _ _ _ h => h) (Or.inl ⟨by rfl, ?_⟩) ?_ ?_
                                        rotate_left
                                        · intro w'
                                          go_simp
                                          with_reducible rfl
                                        rotate_left
                                        · simp only [Act.put, List.setIfInBounds_toArray, List.set_cons_zero, List.set_cons_succ, i64_w, i32_w]
                                          rfl
                                        refine pure_ (i := 2) (N := some 102) (v := ?_) (a' := ?_) #[true, true, true, false, false, false, false, false, false, false, false, false, false, false, false, false] rfl rfl (any_of HT_.out (by kernel_rfl)) (fun _ _ _ h => h) (Or.inl ⟨by rfl, ?_⟩) ?_ ?_
                                        rotate_left
                                        · intro w'
                                          go_simp
                                          with_reducible rfl
                                        rotate_left
                                        · simp only [Act.put, List.setIfInBounds_toArray, List.set_cons_zero, List.set_cons_succ, i64_w, i32_w]
                                          rfl
                                        refine pure_ (i := 3) (N := some 103) (v := ?_) (a' := ?_) #[true, true, true, true, false, false, false, false, false, false, false, false, false, false, false, false] rfl rfl (any_of HT_.out (by kernel_rfl)) (fun _ _ _ h => h) (Or.inl ⟨by rfl, ?_⟩) ?_ ?_
                                        rotate_left
                                        · intro w'
                                          go_simp
                                          with_reducible rfl
                                        rotate_left
                                        · simp only [Act.put, List.setIfInBounds_toArray, List.set_cons_zero, List.set_cons_succ, i64_w, i32_w]
                                          rfl
                                        refine pure_ (i := 4) (N := some 104) (v := ?_) (a' := ?_) #[true, true, true, true, true, false, false, false, false, false, false, false, false, false, false, false] rfl rfl (any_of HT_.out (by kernel_rfl)) (fun _ _ _ h => h) (Or.inl ⟨by rfl, ?_⟩) ?_ ?_
                                        rotate_left
                                        · intro w'
                                          go_simp
                                          with_reducible rfl
                                        rotate_left
                                        · simp only [Act.put, List.setIfInBounds_toArray, List.set_cons_zero, List.set_cons_succ, i64_w, i32_w]
                                          rfl
                                        refine pure_ (i := 5) (N := some 105) (v := ?_) (a' := ?_) #[true, true, true, true, true, true, false, false, false, false, false, false, false, false, false, false] rfl rfl (any_of HT_.out (by kernel_rfl)) (fun _ _ _ h => h) (Or.inl ⟨by rfl, ?_⟩) ?_ ?_
                                        rotate_left
                                        · intro w'
                                          go_simp
                                          with_reducible rfl
                                        rotate_left
                                        · simp only [Act.put, List.setIfInBounds_toArray, List.set_cons_zero, List.set_cons_succ, i64_w, i32_w]
                                          rfl
                                        refine pure_ (i := 6) (N := some 106) (v := ?_) (a' := ?_) #[true, true, true, true, true, true, true, false, false, false, false, false, false, false, false, false] rfl rfl (any_of HT_.out (by kernel_rfl)) (fun _ _ _ h => h) (Or.inl ⟨by rfl, ?_⟩) ?_ ?_
                                        rotate_left
                                        · intro w'
                                          go_simp
                                          with_reducible rfl
                                        rotate_left
                                        · simp only [Act.put, List.setIfInBounds_toArray, List.set_cons_zero, List.set_cons_succ, i64_w, i32_w]
                                          rfl
                                        refine pure_ (i := 7) (N := some 107) (v := ?_) (a' := ?_) #[true, true, true, true, true, true, true, true, false, false, false, false, false, false, false, false] rfl rfl (any_of HT_.out (by kernel_rfl)) (fun _ _ _ h => h) (Or.inl ⟨by rfl, ?_⟩) ?_ ?_
                                        rotate_left
                                        · intro w'
                                          go_simp
                                          with_reducible rfl
                                        rotate_left
                                        · simp only [Act.put, List.setIfInBounds_toArray, List.set_cons_zero, List.set_cons_succ, i64_w, i32_w]
                                          rfl
                                        refine pure_ (i := 11) (N := some 111) (v := ?_) (a' := ?_) #[true, true, true, true, true, true, true, true, false, false, false, true, false, false, false, false] rfl rfl (any_of HT_.out (by kernel_rfl)) (fun _ _ _ h => h) (Or.inl ⟨by rfl, ?_⟩) ?_ ?_
                                        rotate_left
                                        · intro w'
                                          go_simp
                                          with_reducible rfl
                                        rotate_left
                                        · simp only [Act.put, List.setIfInBounds_toArray, List.set_cons_zero, List.set_cons_succ, i64_w, i32_w]
                                          rfl
                                        refine pure_ (i := 12) (N := some 112) (v := ?_) (a' := ?_) #[true, true, true, true, true, true, true, true, false, false, false, true, true, false, false, false] rfl rfl (any_of HT_.out (by kernel_rfl)) (fun _ _ _ h => h) (Or.inl ⟨by rfl, ?_⟩) ?_ ?_
                                        rotate_left
                                        · intro w'
                                          go_simp
                                          with_reducible rfl
                                        rotate_left
                                        · simp only [Act.put, List.setIfInBounds_toArray, List.set_cons_zero, List.set_cons_succ, i64_w, i32_w]
                                          rfl
                                        refine take_ (i := 8) (N := some 108) (v := ?_) (a' := ?_) #[true, true, true, true, true, true, true, true, true, false, false, true, true, false, false, false] rfl rfl (take_ofW HT_.out HW_.out (by kernel_rfl)) (fun _ _ _ h => h) (Or.inl ⟨by rfl, ?_⟩) hHeld ?_ ?_
                                        rotate_left
                                        · rintro w' ⟨s0, s1, s2⟩
                                          go_simp
                                          with_reducible rfl
                                        rotate_left
                                        · simp only [Act.put, List.setIfInBounds_toArray, List.set_cons_zero, List.set_cons_succ, i64_w, i32_w]
                                          rfl
                                        refine pure_ (i := 9) (N := some 109) (v := ?_) (a' := ?_) #[true, true, true, true, true, true, true, true, true, true, false, true, true, false, false, false] rfl rfl (any_of HT_.out (by kernel_rfl)) (fun _ _ _ h => h) (Or.inl ⟨by rfl, ?_⟩) ?_ ?_
                                        rotate_left
                                        · intro w'
                                          go_simp
                                          with_reducible rfl
                                        rotate_left
                                        · simp only [Act.put, List.setIfInBounds_toArray, List.set_cons_zero, List.set_cons_succ, i64_w, i32_w]
                                          rfl
                                        refine take_ (i := 10) (N := some 110) (v := ?_) (a' := ?_) #[true, true, true, true, true, true, true, true, true, true, true, true, true, false, false, false] rfl rfl (take_ofW HT_.out HW_.out (by kernel_rfl)) (fun _ _ _ h => h) (Or.inl ⟨by rfl, ?_⟩) hHeld ?_ ?_
                                        rotate_left
                                        · rintro w' ⟨s0, s1, s2⟩
                                          go_simp
                                          with_reducible rfl
                                        rotate_left
                                        · simp only [Act.put, List.setIfInBounds_toArray, List.set_cons_zero, List.set_cons_succ, i64_w, i32_w]
                                          rfl
                                        refine take_ (i := 13) (N := some 113) (v := ?_) (a' := ?_) #[true, true, true, true, true, true, true, true, true, true, true, true, true, true, false, false] rfl rfl (take_ofW HT_.out HW_.out (by kernel_rfl)) (fun _ _ _ h => h) (Or.inl ⟨by rfl, ?_⟩) hHeld ?_ ?_
                                        rotate_left
                                        · rintro w' ⟨s0, s1, s2⟩
                                          go_simp
                                          with_reducible rfl
                                        rotate_left
                                        · simp only [Act.put, List.setIfInBounds_toArray, List.set_cons_zero, List.set_cons_succ, i64_w, i32_w]
                                          rfl
                                        refine pure_ (i := 14) (N := some 114) (v := ?_) (a' := ?_) #[true, true, true, true, true, true, true, true, true, true, true, true, true, true, true, false] rfl rfl (any_of HT_.out (by kernel_rfl)) (fun _ _ _ h => h) (Or.inl ⟨by rfl, ?_⟩) ?_ ?_
                                        rotate_left
                                        · intro w'
                                          go_simp
                                          with_reducible rfl
                                        rotate_left
                                        · simp only [Act.put, List.setIfInBounds_toArray, List.set_cons_zero, List.set_cons_succ, i64_w, i32_w]
                                          rfl
                                        refine pure_ (i := 15) (N := some 115) (v := ?_) (a' := ?_) #[true, true, true, true, true, true, true, true, true, true, true, true, true, true, true, true] rfl rfl (any_of HT_.out (by kernel_rfl)) (fun _ _ _ h => h) (Or.inl ⟨by rfl, ?_⟩) ?_ ?_
                                        rotate_left
                                        · intro w'
                                          go_simp
                                          with_reducible rfl
                                        rotate_left
                                        · simp only [Act.put, List.setIfInBounds_toArray, List.set_cons_zero, List.set_cons_succ, i64_w, i32_w]
                                          rfl
                                        refine done_ (done_of HT_.out (by kernel_rfl)) ?_
                                        try go_wp2
                                        go_roundg k5
                                        case measure => have := HK1.out; have := HJ2.out; have := HJ8.out; have := HJ38.out; have := HK5.out; omega
                                        case rel => exact ⟨(wrap64 (x10_5 + 1)), (by first | rfl | (simp; done) | (simp [*]; done)), H', ⟨by have := HK1.out; have := HJ2.out; have := HJ8.out; have := HJ38.out; have := HK5.out; omega⟩, ⟨by (with_reducible repeat (first | apply Kd.N_alloc | apply Kd.N_drewN | apply Kd.N_drew)); exact HO_4.out⟩, ⟨by (with_reducible repeat (first | apply Kd.R_alloc | apply Kd.R_drewN | apply Kd.R_drew)); exact HO_6.out⟩, ⟨by repeat (first | (with_reducible first | exact HB.out | apply below_alloc | apply pw_below_drewN | apply below_drew1) | exact HB.out)⟩⟩
                                      · rw [if_neg c51] at H
                                        have c51b0 : decide ((rd (rd_L4 x4_1 x10_5) 0) < (rd x6_8 0)) = false := decide_eq_false c51
                                        clear c51
                                        have c55b0 := eq_true (of_decide_eq_true (by first | (with_reducible assumption) | assumption) : 0 ≤ x10_5)
                                        by_cases c56 : x10_5 ≤ (x4_1.length : Int)
                                        · rw [if_pos c56] at H
                                          have c56b0 := eq_true c56
                                          have c56b1 : decide (x10_5 ≤ (x4_1.length : Int)) = true := decide_eq_true c56
                                          clear c56
                                          obtain ⟨y322, hy322⟩ : ∃ y_ : List (List Int), y_ = (x4_1.take (x10_5 : Int).toNat) := ⟨_, rfl⟩
                                          replace H : (if ([] : List (List Int)).length + y322.length < 5864062014805 then ((some (([] : List (List Int)) ++ y322 : List (List Int))).bind fun y327 => (if y327.length < 5864062014805 then ((some (y327 ++ [x6_8] : List (List Int))).bind fun y330 => ((some (x4_1.drop (x10_5 : Int).toNat : List (List Int))).bind fun y333 => (if y330.length + y333.length < 5864062014805 then (swageref18_Cycles.l0 k5 l0 t280 (y330 ++ y333) (wrap64 (x5_1 + 1))) else (none)))) else (none))) else (none)) = some r := by first | (rw [hy322]; with_reducible exact H) | (have H2_ := (Option.bind_some _ _).symm.trans H; rw [hy322]; with_reducible exact H2_) | (have H2_ := (Option.bind_some _ _).symm.trans H; with_reducible exact H2_) | with_reducible exact H | (rw [hy322]; exact H) | exact H
                                          have Ny322 := Aside0.mk hy322
                                          clear hy322
                                          by_cases c57 : ([] : List (List Int)).length + y322.length < 5864062014805
                                          · rw [if_pos c57] at H
                                            have LMc57 := Aside0.mk c57
                                            clear c57
                                            obtain ⟨y327, hy327⟩ : ∃ y_ : List (List Int), y_ = (([] : List (List Int)) ++ y322) := ⟨_, rfl⟩
                                            replace H : (if y327.length < 5864062014805 then ((some (y327 ++ [x6_8] : List (List Int))).bind fun y330 => ((some (x4_1.drop (x10_5 : Int).toNat : List (List Int))).bind fun y333 => (if y330.length + y333.length < 5864062014805 then (swageref18_Cycles.l0 k5 l0 t280 (y330 ++ y333) (wrap64 (x5_1 + 1))) else (none)))) else (none)) = some r := by first | (rw [hy327]; with_reducible exact H) | (have H2_ := (Option.bind_some _ _).symm.trans H; rw [hy327]; with_reducible exact H2_) | (have H2_ := (Option.bind_some _ _).symm.trans H; with_reducible exact H2_) | with_reducible exact H | (rw [hy327]; exact H) | exact H
                                            have Ny327 := Aside0.mk hy327
                                            clear hy327
                                            by_cases c58 : y327.length < 5864062014805
                                            · rw [if_pos c58] at H
                                              have LMc58 := Aside0.mk c58
                                              clear c58
                                              obtain ⟨y330, hy330⟩ : ∃ y_ : List (List Int), y_ = (y327 ++ [x6_8]) := ⟨_, rfl⟩
                                              replace H : ((some (x4_1.drop (x10_5 : Int).toNat : List (List Int))).bind fun y333 => (if y330.length + y333.length < 5864062014805 then (swageref18_Cycles.l0 k5 l0 t280 (y330 ++ y333) (wrap64 (x5_1 + 1))) else (none))) = some r := by first | (rw [hy330]; with_reducible exact H) | (have H2_ := (Option.bind_some _ _).symm.trans H; rw [hy330]; with_reducible exact H2_) | (have H2_ := (Option.bind_some _ _).symm.trans H; with_reducible exact H2_) | with_reducible exact H | (rw [hy330]; exact H) | exact H
                                              have Ny330 := Aside0.mk hy330
                                              clear hy330
                                              have c59b0 := eq_true (of_decide_eq_true (by first | (with_reducible assumption) | assumption) : 0 ≤ x10_5)
                                              have c60b0 := eq_true (of_decide_eq_true (by first | (with_reducible assumption) | assumption) : x10_5 ≤ (x4_1.length : Int))
                                              obtain ⟨y333, hy333⟩ : ∃ y_ : List (List Int), y_ = (x4_1.drop (x10_5 : Int).toNat) := ⟨_, rfl⟩
                                              replace H : (if y330.length + y333.length < 5864062014805 then (swageref18_Cycles.l0 k5 l0 t280 (y330 ++ y333) (wrap64 (x5_1 + 1))) else (none)) = some r := by first | (rw [hy333]; with_reducible exact H) | (have H2_ := (Option.bind_some _ _).symm.trans H; rw [hy333]; with_reducible exact H2_) | (have H2_ := (Option.bind_some _ _).symm.trans H; with_reducible exact H2_) | with_reducible exact H | (rw [hy333]; exact H) | exact H
                                              have Ny333 := Aside0.mk hy333
                                              clear hy333
                                              by_cases c61 : y330.length + y333.length < 5864062014805
                                              · rw [if_pos c61] at H
                                                have LMc61 := Aside0.mk c61
                                                clear c61
                                                obtain ⟨y338, hy338⟩ : ∃ y_ : List (List Int), y_ = (y330 ++ y333) := ⟨_, rfl⟩
                                                replace H : (swageref18_Cycles.l0 k5 l0 t280 y338 (wrap64 (x5_1 + 1))) = some r := by first | (rw [hy338]; with_reducible exact H) | (have H2_ := (Option.bind_some _ _).symm.trans H; rw [hy338]; with_reducible exact H2_) | (have H2_ := (Option.bind_some _ _).symm.trans H; with_reducible exact H2_) | with_reducible exact H | (rw [hy338]; exact H) | exact H
                                                have Ny338 := Aside0.mk hy338
                                                clear hy338
                                                have H' := Aside0.mk H
                                                clear H
                                                try go_wp2
                                                have n0_ := Aside0.mk (Kd.N_drew HO_4.out)
                                                have n1_ := Aside0.mk (Kd.R_drew HO_6.out)
                                                have n2_ := Aside0.mk (below_drew1 HB.out)
                                                clear HO_4
                                                clear HO_6
                                                clear HB
                                                have HO_4 := n0_
                                                have HO_6 := n1_
                                                have HB := n2_
                                                clear n0_ n1_ n2_
                                                obtain ⟨Ao63, co63, eo63⟩ := Kd.N_slice HO_4.out
                                                (first | subst eo63 | (injection eo63 with f1_ f2_ f3_; have f4_ := f1_.symm; have f5_ := f3_.symm; clear f1_ f2_ f3_; subst f4_; subst f5_))
                                                have p319 : 0 ≤ (x10_5 : Int) := of_decide_eq_true (by first | (with_reducible assumption) | assumption)
                                                have q319 : x10_5 < (x4_1.length : Int) := of_decide_eq_true (by first | (with_reducible assumption) | assumption)
                                                obtain ⟨ad319, A319_0, c319_0, e319, hx319_0, hl319_0, hi319_0⟩ := at_L4 (Kd.N_reads' HO_4.out).2.2 x10_5 p319 q319
                                                cases e319
                                                obtain ⟨ce319, hce319, hMe319, hcc319⟩ := Kd.N_get HO_4.out [] x10_5 p319 (by first | exact q319 | exact of_decide_eq_true (by first | (with_reducible assumption) | assumption) | (have e_ := (Kd.N_reads' HO_4.out).1; omega))
                                                obtain ⟨ua319_0, uc319_0, rfl, ul319_0, ge319_0⟩ := Kd.FK_slice_open hMe319
                                                have hv319_0 := hcc319 0 _ rfl
                                                rw [Nat.add_zero, show ((Kd.slice 3 (Kd.int .i64))).sz = 1 from rfl, Nat.mul_one] at hv319_0
                                                replace hv319_0 := Option.some.inj (hv319_0.symm.trans hx319_0)
                                                injection hv319_0 with hva_ hvn_ hvc_
                                                rw [hva_] at ge319_0
                                                rw [hvc_] at ul319_0
                                                have HL319_0 := Aside0.mk (show Kd.V (Kd.int .i64) 3 _ w.heap.size _ _ (rd_L4 x4_1 x10_5) from Kd.V_mk ul319_0 ge319_0)
                                                clear hva_ hvn_ hvc_ ge319_0 ul319_0
                                                clear hcc319 hce319
                                                have HR319_0 := Aside0.mk hi319_0
                                                have HC319_0 := Aside0.mk hl319_0
                                                clear hi319_0 hl319_0
                                                replace p319 := eq_true p319
                                                replace q319 := eq_true q319
                                                have p320 : 0 ≤ (0 : Int) := (by omega)
                                                have q320 : 0 < ((rd_L4 x4_1 x10_5).length : Int) := of_decide_eq_true (by first | (with_reducible assumption) | assumption)
                                                obtain ⟨ad320, e320, hx320_0⟩ := Kd.at_int (by repeat (first | (with_reducible exact HR319_0.out) | (with_reducible refine Kd.C_alloc ?_ _) | (with_reducible refine Kd.C_drewN ?_ _) | (with_reducible refine Kd.C_drew ?_) | exact HR319_0.out)) 0 p320 q320
                                                cases e320
                                                have qi320 : (0 < (rd_L4 x4_1 x10_5).length) = True := eq_true (by omega)
                                                (try rw [show ((0 : Int)).toNat = 0 from rfl] at hx320_0)
                                                (try rw [Addr.add_zero'] at hx320_0)
                                                replace p320 := eq_true p320
                                                replace q320 := eq_true q320
                                                obtain ⟨Ao64, co64, eo64⟩ := Kd.R_slice HO_6.out
                                                (first | subst eo64 | (injection eo64 with f1_ f2_ f3_; have f4_ := f1_.symm; have f5_ := f3_.symm; clear f1_ f2_ f3_; subst f4_; subst f5_))
                                                have p321 : 0 ≤ (0 : Int) := (by omega)
                                                have q321 : 0 < (x6_8.length : Int) := of_decide_eq_true (by first | (with_reducible assumption) | assumption)
                                                obtain ⟨ad321, e321, hx321_0⟩ := Kd.at_int (Kd.R_reads' HO_6.out).2.2 0 p321 q321
                                                cases e321
                                                have qi321 : (0 < x6_8.length) = True := eq_true (by omega)
                                                (try rw [show ((0 : Int)).toNat = 0 from rfl] at hx321_0)
                                                (try rw [Addr.add_zero'] at hx321_0)
                                                replace p321 := eq_true p321
                                                replace q321 := eq_true q321
                                                refine start_ (n := 16) (S := fun w' => w'.cell? (ad319.add (x10_5).toNat) = some (.slice (some ad320) (rd_L4 x4_1 x10_5).length c319_0) ∧ w'.cell? ad320 = some (.int .i64 (rd (rd_L4 x4_1 x10_5) 0)) ∧ w'.cell? ad321 = some (.int .i64 (rd x6_8 0))) (ds := []) #[false, false, false, false, false, false, false, false, false, false, false, false, false, false, false, false] (by kernel_rfl) rfl rfl ⟨hx319_0, hx320_0, hx321_0⟩ (fun hHeld => ?_); refine with_tabW swageref18_Cycles.tab15 swageref18_Cycles.bits15 (fun HT_ HW_ => ?_)
                                                generalize wr.drew = w62 at HO_4 HO_6 HB HL319_0 HR319_0 hx319_0 hx320_0 hx321_0 hHeld ⊢
                                                refine pure_ (i := 0) (N := some 100) (v := ?_) (a' := ?_) #[true, false, false, false, false, false, false, false, false, false, false, false, false, false, false, false] rfl rfl (any_of HT_.out (by kernel_rfl)) (fun _ _ _ h => h) (Or.inl ⟨by rfl, ?_⟩) ?_ ?_
                                                rotate_left
                                                · intro w'
                                                  go_simp
                                                  with_reducible rfl
                                                rotate_left
                                                · simp only [Act.put, List.setIfInBounds_toArray, List.set_cons_zero, List.set_cons_succ, i64_w, i32_w]
                                                  rfl
                                                refine pure_ (i := 1) (N := some 101) (v := ?_) (a' := ?_) #[true, true, false, false, false, false, false, false, false, false, false, false, false, false, false, false] rfl rfl (any_of HT_.out (by kernel_rfl)) (fun _ _ _ h => h) (Or.inl ⟨by rfl, ?_⟩) ?_ ?_
                                                rotate_left
                                                · intro w'
                                                  go_simp
                                                  with_reducible rfl
                                                rotate_left
                                                · simp only [Act.put, List.setIfInBounds_toArray, List.set_cons_zero, List.set_cons_succ, i64_w, i32_w]
                                                  rfl
                                                refine pure_ (i := 2) (N := some 102) (v := ?_) (a' := ?_) #[true, true, true, false, false, false, false, false, false, false, false, false, false, false, false, false] rfl rfl (any_of HT_.out (by kernel_rfl)) (fun _ _ _ h => h) (Or.inl ⟨by rfl, ?_⟩) ?_ ?_
                                                rotate_left
                                                · intro w'
                                                  go_simp
                                                  with_reducible rfl
                                                rotate_left
                                                · simp only [Act.put, List.setIfInBounds_toArray, List.set_cons_zero, List.set_cons_succ, i64_w, i32_w]
                                                  rfl
                                                refine pure_ (i := 3) (N := some 103) (v := ?_) (a' := ?_) #[true, true, true, true, false, false, false, false, false, false, false, false, false, false, false, false] rfl rfl (any_of HT_.out (by kernel_rfl)) (fun _ _ _ h => h) (Or.inl ⟨by rfl, ?_⟩) ?_ ?_
                                                rotate_left
                                                · intro w'
                                                  go_simp
                                                  with_reducible rfl
                                                rotate_left
                                                · simp only [Act.put, List.setIfInBounds_toArray, List.set_cons_zero, List.set_cons_succ, i64_w, i32_w]
                                                  rfl
                                                refine pure_ (i := 4) (N := some 104) (v := ?_) (a' := ?_) #[true, true, true, true, true, false, false, false, false, false, false, false, false, false, false, false] rfl rfl (any_of HT_.out (by kernel_rfl)) (fun _ _ _ h => h) (Or.inl ⟨by rfl, ?_⟩) ?_ ?_
                                                rotate_left
                                                · intro w'
                                                  go_simp
                                                  with_reducible rfl
                                                rotate_left
                                                · simp only [Act.put, List.setIfInBounds_toArray, List.set_cons_zero, List.set_cons_succ, i64_w, i32_w]
                                                  rfl
                                                refine pure_ (i := 5) (N := some 105) (v := ?_) (a' := ?_) #[true, true, true, true, true, true, false, false, false, false, false, false, false, false, false, false] rfl rfl (any_of HT_.out (by kernel_rfl)) (fun _ _ _ h => h) (Or.inl ⟨by rfl, ?_⟩) ?_ ?_
                                                rotate_left
                                                · intro w'
                                                  go_simp
                                                  with_reducible rfl
                                                rotate_left
                                                · simp only [Act.put, List.setIfInBounds_toArray, List.set_cons_zero, List.set_cons_succ, i64_w, i32_w]
                                                  rfl
                                                refine pure_ (i := 6) (N := some 106) (v := ?_) (a' := ?_) #[true, true, true, true, true, true, true, false, false, false, false, false, false, false, false, false] rfl rfl (any_of HT_.out (by kernel_rfl)) (fun _ _ _ h => h) (Or.inl ⟨by rfl, ?_⟩) ?_ ?_
                                                rotate_left
                                                · intro w'
                                                  go_simp
                                                  with_reducible rfl
                                                rotate_left
                                                · simp only [Act.put, List.setIfInBounds_toArray, List.set_cons_zero, List.set_cons_succ, i64_w, i32_w]
                                                  rfl
                                                refine pure_ (i := 7) (N := some 107) (v := ?_) (a' := ?_) #[true, true, true, true, true, true, true, true, false, false, false, false, false, false, false, false] rfl rfl (any_of HT_.out (by kernel_rfl)) (fun _ _ _ h => h) (Or.inl ⟨by rfl, ?_⟩) ?_ ?_
                                                rotate_left
                                                · intro w'
                                                  go_simp
                                                  with_reducible rfl
                                                rotate_left
                                                · simp only [Act.put, List.setIfInBounds_toArray, List.set_cons_zero, List.set_cons_succ, i64_w, i32_w]
                                                  rfl
                                                refine pure_ (i := 11) (N := some 111) (v := ?_) (a' := ?_) #[true, true, true, true, true, true, true, true, false, false, false, true, false, false, false, false] rfl rfl (any_of HT_.out (by kernel_rfl)) (fun _ _ _ h => h) (Or.inl ⟨by rfl, ?_⟩) ?_ ?_
                                                rotate_left
                                                · intro w'
                                                  go_simp
                                                  with_reducible rfl
                                                rotate_left
                                                · simp only [Act.put, List.setIfInBounds_toArray, List.set_cons_zero, List.set_cons_succ, i64_w, i32_w]
                                                  rfl
                                                refine pure_ (i := 12) (N := some 112) (v := ?_) (a' := ?_) #[true, true, true, true, true, true, true, true, false, false, false, true, true, false, false, false] rfl rfl (any_of HT_.out (by kernel_rfl)) (fun _ _ _ h => h) (Or.inl ⟨by rfl, ?_⟩) ?_ ?_
                                                rotate_left
                                                · intro w'
                                                  go_simp
                                                  with_reducible rfl
                                                rotate_left
                                                · simp only [Act.put, List.setIfInBounds_toArray, List.set_cons_zero, List.set_cons_succ, i64_w, i32_w]
                                                  rfl
                                                refine take_ (i := 8) (N := some 108) (v := ?_) (a' := ?_) #[true, true, true, true, true, true, true, true, true, false, false, true, true, false, false, false] rfl rfl (take_ofW HT_.out HW_.out (by kernel_rfl)) (fun _ _ _ h => h) (Or.inl ⟨by rfl, ?_⟩) hHeld ?_ ?_
                                                rotate_left
                                                · rintro w' ⟨s0, s1, s2⟩
                                                  go_simp
                                                  with_reducible rfl
                                                rotate_left
                                                · simp only [Act.put, List.setIfInBounds_toArray, List.set_cons_zero, List.set_cons_succ, i64_w, i32_w]
                                                  rfl
                                                refine pure_ (i := 9) (N := some 109) (v := ?_) (a' := ?_) #[true, true, true, true, true, true, true, true, true, true, false, true, true, false, false, false] rfl rfl (any_of HT_.out (by kernel_rfl)) (fun _ _ _ h => h) (Or.inl ⟨by rfl, ?_⟩) ?_ ?_
                                                rotate_left
                                                · intro w'
                                                  go_simp
                                                  with_reducible rfl
                                                rotate_left
                                                · simp only [Act.put, List.setIfInBounds_toArray, List.set_cons_zero, List.set_cons_succ, i64_w, i32_w]
                                                  rfl
                                                refine take_ (i := 10) (N := some 110) (v := ?_) (a' := ?_) #[true, true, true, true, true, true, true, true, true, true, true, true, true, false, false, false] rfl rfl (take_ofW HT_.out HW_.out (by kernel_rfl)) (fun _ _ _ h => h) (Or.inl ⟨by rfl, ?_⟩) hHeld ?_ ?_
                                                rotate_left
                                                · rintro w' ⟨s0, s1, s2⟩
                                                  go_simp
                                                  with_reducible rfl
                                                rotate_left
                                                · simp only [Act.put, List.setIfInBounds_toArray, List.set_cons_zero, List.set_cons_succ, i64_w, i32_w]
                                                  rfl
                                                refine take_ (i := 13) (N := some 113) (v := ?_) (a' := ?_) #[true, true, true, true, true, true, true, true, true, true, true, true, true, true, false, false] rfl rfl (take_ofW HT_.out HW_.out (by kernel_rfl)) (fun _ _ _ h => h) (Or.inl ⟨by rfl, ?_⟩) hHeld ?_ ?_
                                                rotate_left
                                                · rintro w' ⟨s0, s1, s2⟩
                                                  go_simp
                                                  with_reducible rfl
                                                rotate_left
                                                · simp only [Act.put, List.setIfInBounds_toArray, List.set_cons_zero, List.set_cons_succ, i64_w, i32_w]
                                                  rfl
                                                refine pure_ (i := 14) (N := some 114) (v := ?_) (a' := ?_) #[true, true, true, true, true, true, true, true, true, true, true, true, true, true, true, false] rfl rfl (any_of HT_.out (by kernel_rfl)) (fun _ _ _ h => h) (Or.inl ⟨by rfl, ?_⟩) ?_ ?_
                                                rotate_left
                                                · intro w'
                                                  go_simp
                                                  with_reducible rfl
                                                rotate_left
                                                · simp only [Act.put, List.setIfInBounds_toArray, List.set_cons_zero, List.set_cons_succ, i64_w, i32_w]
                                                  rfl
                                                refine pure_ (i := 15) (N := some 115) (v := ?_) (a' := ?_) #[true, true, true, true, true, true, true, true, true, true, true, true, true, true, true, true] rfl rfl (any_of HT_.out (by kernel_rfl)) (fun _ _ _ h => h) (Or.inl ⟨by rfl, ?_⟩) ?_ ?_
                                                rotate_left
                                                · intro w'
                                                  go_simp
                                                  with_reducible rfl
                                                rotate_left
                                                · simp only [Act.put, List.setIfInBounds_toArray, List.set_cons_zero, List.set_cons_succ, i64_w, i32_w]
                                                  rfl
                                                refine done_ (done_of HT_.out (by kernel_rfl)) ?_
                                                have q65 : (x10_5 : Int) ≤ ((x4_1.length : Int) : Int) := of_decide_eq_true (by first | (with_reducible assumption) | assumption)
                                                obtain ⟨i065, hi065, _, hsz65, _⟩ := info_parts info43
                                                have hroom65 : x4_1.length ≤ co63 := (Kd.N_reads' HO_4.out).2.1
                                                have hC65 : Kd.F (Kd.slice 3 (Kd.int .i64)) _ _ (some ad319) x4_1.length x4_1 := (Kd.V_at (base := w.heap.size) (Kd.N_V HO_4.out)).2.2
                                                have hcut65 := cut_to (P := Try.prog) 30 43 .i64 Try.underlying30 hi065 (some ad319) x4_1.length co63 x10_5 (of_decide_eq_true (by first | (with_reducible assumption) | assumption)) q65 hroom65
                                                have hr65 := Kd.F_take (m := (x10_5 : Int).toNat) hC65 (by omega)
                                                have hy65 : y322.length = (x10_5 : Int).toNat := (by rw [Ny322.out, List.length_take]; omega)
                                                rw [← Ny322.out] at hr65
                                                rw [← hy65] at hcut65
                                                have HO326 := Aside0.mk (show Kd.V (Kd.slice 3 (Kd.int .i64)) 43 _ w.heap.size _ (.slice (some ad319) y322.length co63) y322 from Kd.V_mk (by omega) hr65)
                                                have HC326 := Aside0.mk (show y322.length ≤ co63 from by omega)
                                                clear hr65 hC65 hroom65 hi065 hsz65
                                                have KY65 := Aside0.mk hy65
                                                clear hy65
                                                replace q65 := eq_true q65
                                                try go_wp2_with (first | ((with_reducible refine gate_builtin (b := .append) (xs := #[.tmp 118, .tmp 121]) rfl ?_); (try (refine gate_guard (by rfl) ?_; dsimp only)); at_builtin; refine Kd.N_append_rows (Kd.slice 3 (Kd.int .i64)) (w0 := w) w.heap.size rfl (.tmp 118) (.tmp 121) 30 43 (.slice none 0 0) 24 rfl Try.underlying30 info43 rfl (by decide) (by omega) (.slice none 0 0) ([] : List (List Int)) y322 _ _ _ (fun k_ => (w.heap.size ≤ k_) ∧ some k_ ≠ (.slice (some ad321) x6_8.length co64 : Value).ownBlock) (fun k_ => ((fun k_ => (w.heap.size ≤ k_) ∧ some k_ ≠ (.slice (some ad321) x6_8.length co64 : Value).ownBlock)) k_ ∧ some k_ ≠ (.slice none 0 0 : Value).ownBlock) rfl rfl ?aO ?aR (fun _ hk => hk) ?aF ?aB ?aS ?aL ?_; (case aR => exact (by skip; exact Kd.V_F (Kd.V_mono (ok' := (fun k_ => ((fun k_ => (w.heap.size ≤ k_) ∧ some k_ ≠ (.slice (some ad321) x6_8.length co64 : Value).ownBlock)) k_ ∧ some k_ ≠ (.slice none 0 0 : Value).ownBlock)) (HO326.out) (fun k_ hk => ⟨⟨hk.1, hk.2⟩, (by simp [Value.ownBlock])⟩)))); (case aB => exact (by repeat (first | (with_reducible first | exact HB.out | apply below_alloc | apply pw_below_drewN | apply below_drew1) | exact HB.out))); (case aF => exact (fun k_ hk => ⟨(Nat.le_trans (below_size (by repeat (first | (with_reducible first | exact HB.out | apply below_alloc | apply pw_below_drewN | apply below_drew1) | exact HB.out))) hk), Kd.fresh' (Kd.R_lt (by (with_reducible repeat (first | apply Kd.R_alloc | apply Kd.R_drewN | apply Kd.R_drew)); exact HO_6.out)) k_ hk⟩)); (case aO => exact ((Kd.N_nil _ _ _ _ (fun k_ => (w.heap.size ≤ k_) ∧ some k_ ≠ (.slice (some ad321) x6_8.length co64 : Value).ownBlock)))); (case aS => exact (below_size (by repeat (first | (with_reducible first | exact HB.out | apply below_alloc | apply pw_below_drewN | apply below_drew1) | exact HB.out)))); (case aL => have := LMc57.out; omega); intro v328 w66 ho hb hg hat; rw [← Ny327.out] at ho; have n0_ := Aside0.mk (Kd.N_afterv (Kd.N_apart_nil (by (with_reducible repeat (first | apply Kd.N_alloc | apply Kd.N_drewN | apply Kd.N_drew)); exact HO_4.out)) hg hat); have n1_ := Aside0.mk (Kd.R_grown (by (with_reducible repeat (first | apply Kd.R_alloc | apply Kd.R_drewN | apply Kd.R_drew)); exact HO_6.out) hg (fun _ _ => by simp [Value.ownBlock])); have n2_ := Aside0.mk (Kd.V_afterv (Kd.V_apart_nil (by (with_reducible repeat (first | apply Kd.V_alloc | apply Kd.V_drewN | apply Kd.V_drew)); exact HL319_0.out)) hg hat); have n3_ := Aside0.mk (Kd.V_afterv (Kd.V_apart_nil (by (with_reducible repeat (first | apply Kd.V_alloc | apply Kd.V_drewN | apply Kd.V_drew)); exact HO326.out)) hg hat); have n4_ := Aside0.mk (hb); have n5_ := Aside0.mk (ho); clear HO_4; clear HO_6; clear HL319_0; clear HO326; clear HB; have HO_4 := n0_; have HO_6 := n1_; have HL319_0 := n2_; have HO326 := n3_; have HB := n4_; have HO329 := n5_; clear n0_ n1_ n2_ n3_ n4_ n5_; clear ho hb hg hat) | ((with_reducible refine gate_builtin (b := .append) (xs := #[.tmp 123, .tmp 125]) rfl ?_); (try (refine gate_guard (by rfl) ?_; dsimp only)); at_builtin; refine Kd.N_append (Kd.slice 3 (Kd.int .i64)) (w0 := w) w.heap.size rfl (.tmp 123) (.tmp 125) 30 43 (.slice none 0 0) 24 rfl Try.underlying30 info43 rfl (by decide) (by omega) v328 y327 x6_8 [.slice (some ad321) x6_8.length co64] (fun k_ => (w.heap.size ≤ k_)) (fun k_ => ((fun k_ => (w.heap.size ≤ k_))) k_ ∧ some k_ ≠ (v328 : Value).ownBlock) rfl rfl ?aP (fun _ hk => hk) ?aF ?aO ?aB ?aS ?aL ?_; (case aP => exact (Kd.FK_slice_mk (Kd.R_reads' (Kd.R_mono (ok' := (fun k_ => ((fun k_ => (w.heap.size ≤ k_))) k_ ∧ some k_ ≠ (v328 : Value).ownBlock)) (Kd.R_apart' (HO_6.out) (Kd.N_typed HO329.out) (by decide)) (fun k_ hk => ⟨hk.1, hk.2⟩))).2.1 (Kd.R_F (Kd.R_mono (ok' := (fun k_ => ((fun k_ => (w.heap.size ≤ k_))) k_ ∧ some k_ ≠ (v328 : Value).ownBlock)) (Kd.R_apart' (HO_6.out) (Kd.N_typed HO329.out) (by decide)) (fun k_ hk => ⟨hk.1, hk.2⟩))))); (case aB => exact (by repeat (first | (with_reducible first | exact HB.out | apply below_alloc | apply pw_below_drewN | apply below_drew1) | exact HB.out))); (case aF => exact (fun k_ hk => (Nat.le_trans (below_size (by repeat (first | (with_reducible first | exact HB.out | apply below_alloc | apply pw_below_drewN | apply below_drew1) | exact HB.out))) hk))); (case aO => exact (by (with_reducible repeat (first | apply Kd.N_alloc | apply Kd.N_drewN | apply Kd.N_drew)); exact Kd.N_mono HO329.out (fun _ hk => hk.1))); (case aS => exact (below_size (by repeat (first | (with_reducible first | exact HB.out | apply below_alloc | apply pw_below_drewN | apply below_drew1) | exact HB.out)))); (case aL => have := LMc58.out; omega); intro v331 w67 ho hb hg hat; rw [← Ny330.out] at ho; have n0_ := Aside0.mk (Kd.N_afterv (ok := (fun k_ => (w.heap.size ≤ k_) ∧ some k_ ≠ (.slice (some ad321) x6_8.length co64 : Value).ownBlock)) (by (with_reducible repeat (first | apply Kd.N_alloc | apply Kd.N_drewN | apply Kd.N_drew)); exact HO_4.out) hg hat); have n1_ := Aside0.mk (Kd.V_afterv (ok := (fun k_ => (w.heap.size ≤ k_) ∧ some k_ ≠ (.slice (some ad319) x4_1.length co63 : Value).ownBlock ∧ some k_ ≠ (.slice (some ad321) x6_8.length co64 : Value).ownBlock)) (by (with_reducible repeat (first | apply Kd.V_alloc | apply Kd.V_drewN | apply Kd.V_drew)); exact Kd.V_mono HL319_0.out (fun _ hk => ⟨⟨hk.1.1.1, ⟨hk.1.2, hk.1.1.2⟩⟩, hk.2⟩)) hg hat); have n2_ := Aside0.mk (Kd.V_afterv (ok := (fun k_ => (w.heap.size ≤ k_) ∧ some k_ ≠ (.slice (some ad321) x6_8.length co64 : Value).ownBlock)) (by (with_reducible repeat (first | apply Kd.V_alloc | apply Kd.V_drewN | apply Kd.V_drew)); exact HO326.out) hg hat); have n3_ := Aside0.mk (hb); have n4_ := Aside0.mk (ho); clear HO_4; clear HL319_0; clear HO326; clear HB; clear HO329; clear HO_6; have HO_4 := n0_; have HL319_0 := n1_; have HO326 := n2_; have HB := n3_; have HO332 := n4_; clear n0_ n1_ n2_ n3_ n4_; clear ho hb hg hat; have q68 : (x10_5 : Int) ≤ ((x4_1.length : Int) : Int) := of_decide_eq_true (by first | (with_reducible assumption) | assumption); obtain ⟨i068, hi068, _, hsz68, _⟩ := info_parts info43; have hroom68 : x4_1.length ≤ co63 := (Kd.N_reads' HO_4.out).2.1; have hC68 : Kd.F (Kd.slice 3 (Kd.int .i64)) _ _ (some ad319) x4_1.length x4_1 := (Kd.V_at (base := w.heap.size) (Kd.N_V HO_4.out)).2.2; have q068 : (0 : Int) ≤ (x10_5 : Int) := of_decide_eq_true (by first | (with_reducible assumption) | assumption); have hcut68 := cut_from (P := Try.prog) 30 43 .i64 Try.underlying30 hi068 1 hsz68 (some ad319) x4_1.length co63 x10_5 q068 q68; have hr68 := Kd.F_cut (m := (x10_5 : Int).toNat) (c := co63) hC68 (by omega) hroom68; obtain ⟨A68, hA68⟩ : ∃ A1, A1 = (if co63 = (x10_5 : Int).toNat then (some ad319) else ((some ad319) : Option Addr).map (·.add ((x10_5 : Int).toNat * 1))) := ⟨_, rfl⟩; obtain ⟨c68, hc68⟩ : ∃ c1, c1 = co63 - (x10_5 : Int).toNat := ⟨_, rfl⟩; have hy68 : y333.length = x4_1.length - (x10_5 : Int).toNat := (by rw [Ny333.out, List.length_drop] <;> omega); rw [show (x4_1).drop (x10_5 : Int).toNat = y333 from Ny333.out.symm] at hr68; replace hr68 : Kd.F (Kd.slice 3 (Kd.int .i64)) _ _ A68 y333.length y333 := (by rw [hA68]; exact hr68); rw [← hy68, ← hA68, ← hc68] at hcut68; have HO337 := Aside0.mk (show Kd.V (Kd.slice 3 (Kd.int .i64)) 43 _ w.heap.size _ (.slice A68 y333.length c68) y333 from Kd.V_mk (by rw [hy68, hc68]; exact Nat.sub_le_sub_right hroom68 _) hr68); have HC337 := Aside0.mk (show y333.length ≤ c68 from by rw [hy68, hc68]; exact Nat.sub_le_sub_right hroom68 _); clear hr68 hC68 hroom68 hi068 hsz68 hc68; have KY68 := Aside0.mk hy68; have KA68 := Aside0.mk hA68; clear hy68 hA68; replace q68 := eq_true q68) | ((with_reducible refine gate_builtin (b := .append) (xs := #[.tmp 127, .tmp 130]) rfl ?_); (try (refine gate_guard (by rfl) ?_; dsimp only)); at_builtin; refine Kd.N_append_rows (Kd.slice 3 (Kd.int .i64)) (w0 := w) w.heap.size rfl (.tmp 127) (.tmp 130) 30 43 (.slice none 0 0) 24 rfl Try.underlying30 info43 rfl (by decide) (by omega) v331 y330 y333 _ _ _ (fun k_ => (w.heap.size ≤ k_)) (fun k_ => ((fun k_ => (w.heap.size ≤ k_))) k_ ∧ some k_ ≠ (v331 : Value).ownBlock) rfl rfl ?aO ?aR (fun _ hk => hk) ?aF ?aB ?aS ?aL ?_; (case aR => exact (by skip; exact Kd.V_F (Kd.V_mono (ok' := (fun k_ => ((fun k_ => (w.heap.size ≤ k_))) k_ ∧ some k_ ≠ (v331 : Value).ownBlock)) (HO337.out) (fun k_ hk => ⟨hk.1.1, hk.2⟩)))); (case aB => exact (by repeat (first | (with_reducible first | exact HB.out | apply below_alloc | apply pw_below_drewN | apply below_drew1) | exact HB.out))); (case aF => exact (fun k_ hk => (Nat.le_trans (below_size (by repeat (first | (with_reducible first | exact HB.out | apply below_alloc | apply pw_below_drewN | apply below_drew1) | exact HB.out))) hk))); (case aO => exact (by (with_reducible repeat (first | apply Kd.N_alloc | apply Kd.N_drewN | apply Kd.N_drew)); exact HO332.out)); (case aS => exact (below_size (by repeat (first | (with_reducible first | exact HB.out | apply below_alloc | apply pw_below_drewN | apply below_drew1) | exact HB.out)))); (case aL => have := LMc61.out; omega); intro v339 w69 ho hb hg hat; rw [← Ny338.out] at ho; have n0_ := Aside0.mk (Kd.N_afterv (ok := (fun k_ => (w.heap.size ≤ k_))) (by (with_reducible repeat (first | apply Kd.N_alloc | apply Kd.N_drewN | apply Kd.N_drew)); exact Kd.N_mono HO_4.out (fun _ hk => ⟨hk.1.1, hk.2⟩)) hg hat); have n1_ := Aside0.mk (Kd.V_afterv (ok := (fun k_ => (w.heap.size ≤ k_) ∧ some k_ ≠ (.slice (some ad319) x4_1.length co63 : Value).ownBlock)) (by (with_reducible repeat (first | apply Kd.V_alloc | apply Kd.V_drewN | apply Kd.V_drew)); exact Kd.V_mono HL319_0.out (fun _ hk => ⟨⟨hk.1.1, hk.1.2.1⟩, hk.2⟩)) hg hat); have n2_ := Aside0.mk (Kd.V_afterv (ok := (fun k_ => (w.heap.size ≤ k_))) (by (with_reducible repeat (first | apply Kd.V_alloc | apply Kd.V_drewN | apply Kd.V_drew)); exact Kd.V_mono HO326.out (fun _ hk => ⟨hk.1.1, hk.2⟩)) hg hat); have n3_ := Aside0.mk (Kd.V_afterv (ok := (fun k_ => (w.heap.size ≤ k_))) (by (with_reducible repeat (first | apply Kd.V_alloc | apply Kd.V_drewN | apply Kd.V_drew)); exact Kd.V_mono HO337.out (fun _ hk => ⟨hk.1.1, hk.2⟩)) hg hat); have n4_ := Aside0.mk (hb); have n5_ := Aside0.mk (ho); clear HO_4; clear HL319_0; clear HO326; clear HO337; clear HB; clear HO332; have HO_4 := n0_; have HL319_0 := n1_; have HO326 := n2_; have HO337 := n3_; have HB := n4_; have HO340 := n5_; clear n0_ n1_ n2_ n3_ n4_ n5_; clear ho hb hg hat))
                                                go_roundg k5
                                                case measure => have := HK1.out; have := HJ2.out; have := HJ8.out; have := HJ38.out; have := HK5.out; omega
                                                case rel => exact ⟨(y338), (wrap64 (x5_1 + 1)), (by first | rfl | (simp; done) | (simp [*]; done)), H', ⟨by have := HK1.out; have := HJ2.out; have := HJ8.out; have := HJ38.out; have := HK5.out; omega⟩, ⟨by (with_reducible repeat (first | apply Kd.N_alloc | apply Kd.N_drewN | apply Kd.N_drew)); exact HO340.out⟩, ⟨by repeat (first | (with_reducible first | exact HB.out | apply below_alloc | apply pw_below_drewN | apply below_drew1) | exact HB.out)⟩⟩
                                              · rw [if_neg c61] at H
                                                exact absurd H (by simp)
                                            · rw [if_neg c58] at H
                                              exact absurd H (by simp)
                                          · rw [if_neg c57] at H
                                            exact absurd H (by simp)
                                        · rw [if_neg c56] at H
                                          exact absurd H (by simp)
                                    · rw [if_neg c50] at H
                                      exact absurd H (by simp)
                                  · rw [if_neg c49] at H
                                    exact absurd H (by simp)
                                · rw [if_neg c48] at H
                                  exact absurd H (by simp)
                              · rw [if_neg c47] at H
                                have c47b0 : decide (x10_5 < (x4_1.length : Int)) = false := decide_eq_false c47
                                clear c47
                                by_cases c70 : 0 ≤ x10_5
                                · rw [if_pos c70] at H
                                  have c70b0 := eq_true c70
                                  have c70b1 : decide (0 ≤ x10_5) = true := decide_eq_true c70
                                  clear c70
                                  by_cases c71 : x10_5 ≤ (x4_1.length : Int)
                                  · rw [if_pos c71] at H
                                    have c71b0 := eq_true c71
                                    have c71b1 : decide (x10_5 ≤ (x4_1.length : Int)) = true := decide_eq_true c71
                                    clear c71
                                    obtain ⟨y341, hy341⟩ : ∃ y_ : List (List Int), y_ = (x4_1.take (x10_5 : Int).toNat) := ⟨_, rfl⟩
                                    replace H : (if ([] : List (List Int)).length + y341.length < 5864062014805 then ((some (([] : List (List Int)) ++ y341 : List (List Int))).bind fun y346 => (if y346.length < 5864062014805 then ((some (y346 ++ [x6_8] : List (List Int))).bind fun y349 => ((some (x4_1.drop (x10_5 : Int).toNat : List (List Int))).bind fun y352 => (if y349.length + y352.length < 5864062014805 then (swageref18_Cycles.l0 k5 l0 t280 (y349 ++ y352) (wrap64 (x5_1 + 1))) else (none)))) else (none))) else (none)) = some r := by first | (rw [hy341]; with_reducible exact H) | (have H2_ := (Option.bind_some _ _).symm.trans H; rw [hy341]; with_reducible exact H2_) | (have H2_ := (Option.bind_some _ _).symm.trans H; with_reducible exact H2_) | with_reducible exact H | (rw [hy341]; exact H) | exact H
                                    have Ny341 := Aside0.mk hy341
                                    clear hy341
                                    by_cases c72 : ([] : List (List Int)).length + y341.length < 5864062014805
                                    · rw [if_pos c72] at H
                                      have LMc72 := Aside0.mk c72
                                      clear c72
                                      obtain ⟨y346, hy346⟩ : ∃ y_ : List (List Int), y_ = (([] : List (List Int)) ++ y341) := ⟨_, rfl⟩
                                      replace H : (if y346.length < 5864062014805 then ((some (y346 ++ [x6_8] : List (List Int))).bind fun y349 => ((some (x4_1.drop (x10_5 : Int).toNat : List (List Int))).bind fun y352 => (if y349.length + y352.length < 5864062014805 then (swageref18_Cycles.l0 k5 l0 t280 (y349 ++ y352) (wrap64 (x5_1 + 1))) else (none)))) else (none)) = some r := by first | (rw [hy346]; with_reducible exact H) | (have H2_ := (Option.bind_some _ _).symm.trans H; rw [hy346]; with_reducible exact H2_) | (have H2_ := (Option.bind_some _ _).symm.trans H; with_reducible exact H2_) | with_reducible exact H | (rw [hy346]; exact H) | exact H
                                      have Ny346 := Aside0.mk hy346
                                      clear hy346
                                      by_cases c73 : y346.length < 5864062014805
                                      · rw [if_pos c73] at H
                                        have LMc73 := Aside0.mk c73
                                        clear c73
                                        obtain ⟨y349, hy349⟩ : ∃ y_ : List (List Int), y_ = (y346 ++ [x6_8]) := ⟨_, rfl⟩
                                        replace H : ((some (x4_1.drop (x10_5 : Int).toNat : List (List Int))).bind fun y352 => (if y349.length + y352.length < 5864062014805 then (swageref18_Cycles.l0 k5 l0 t280 (y349 ++ y352) (wrap64 (x5_1 + 1))) else (none))) = some r := by first | (rw [hy349]; with_reducible exact H) | (have H2_ := (Option.bind_some _ _).symm.trans H; rw [hy349]; with_reducible exact H2_) | (have H2_ := (Option.bind_some _ _).symm.trans H; with_reducible exact H2_) | with_reducible exact H | (rw [hy349]; exact H) | exact H
                                        have Ny349 := Aside0.mk hy349
                                        clear hy349
                                        have c74b0 := eq_true (of_decide_eq_true (by first | (with_reducible assumption) | assumption) : 0 ≤ x10_5)
                                        have c75b0 := eq_true (of_decide_eq_true (by first | (with_reducible assumption) | assumption) : x10_5 ≤ (x4_1.length : Int))
                                        obtain ⟨y352, hy352⟩ : ∃ y_ : List (List Int), y_ = (x4_1.drop (x10_5 : Int).toNat) := ⟨_, rfl⟩
                                        replace H : (if y349.length + y352.length < 5864062014805 then (swageref18_Cycles.l0 k5 l0 t280 (y349 ++ y352) (wrap64 (x5_1 + 1))) else (none)) = some r := by first | (rw [hy352]; with_reducible exact H) | (have H2_ := (Option.bind_some _ _).symm.trans H; rw [hy352]; with_reducible exact H2_) | (have H2_ := (Option.bind_some _ _).symm.trans H; with_reducible exact H2_) | with_reducible exact H | (rw [hy352]; exact H) | exact H
                                        have Ny352 := Aside0.mk hy352
                                        clear hy352
                                        by_cases c76 : y349.length + y352.length < 5864062014805
                                        · rw [if_pos c76] at H
                                          have LMc76 := Aside0.mk c76
                                          clear c76
                                          obtain ⟨y357, hy357⟩ : ∃ y_ : List (List Int), y_ = (y349 ++ y352) := ⟨_, rfl⟩
                                          replace H : (swageref18_Cycles.l0 k5 l0 t280 y357 (wrap64 (x5_1 + 1))) = some r := by first | (rw [hy357]; with_reducible exact H) | (have H2_ := (Option.bind_some _ _).symm.trans H; rw [hy357]; with_reducible exact H2_) | (have H2_ := (Option.bind_some _ _).symm.trans H; with_reducible exact H2_) | with_reducible exact H | (rw [hy357]; exact H) | exact H
                                          have Ny357 := Aside0.mk hy357
                                          clear hy357
                                          have H' := Aside0.mk H
                                          clear H
                                          try go_wp2
                                          have n0_ := Aside0.mk (Kd.N_drew HO_4.out)
                                          have n1_ := Aside0.mk (Kd.R_drew HO_6.out)
                                          have n2_ := Aside0.mk (below_drew1 HB.out)
                                          clear HO_4
                                          clear HO_6
                                          clear HB
                                          have HO_4 := n0_
                                          have HO_6 := n1_
                                          have HB := n2_
                                          clear n0_ n1_ n2_
                                          obtain ⟨Ao78, co78, eo78⟩ := Kd.N_slice HO_4.out
                                          (first | subst eo78 | (injection eo78 with f1_ f2_ f3_; have f4_ := f1_.symm; have f5_ := f3_.symm; clear f1_ f2_ f3_; subst f4_; subst f5_))
                                          refine start_ (n := 16) (S := fun w' => True) (ds := []) #[false, false, false, false, false, false, false, false, false, false, false, false, false, false, false, false] (by kernel_rfl) rfl rfl trivial (fun hHeld => ?_); refine with_tabW swageref18_Cycles.tab15 swageref18_Cycles.bits15 (fun HT_ HW_ => ?_)
                                          generalize wr.drew = w77 at HO_4 HO_6 HB hHeld ⊢
                                          refine pure_ (i := 0) (N := some 100) (v := ?_) (a' := ?_) #[true, false, false, false, false, false, false, false, false, false, false, false, false, false, false, false] rfl rfl (any_of HT_.out (by kernel_rfl)) (fun _ _ _ h => h) (Or.inl ⟨by rfl, ?_⟩) ?_ ?_
                                          rotate_left
                                          · intro w'
                                            go_simp
                                            with_reducible rfl
                                          rotate_left
                                          · simp only [Act.put, List.setIfInBounds_toArray, List.set_cons_zero, List.set_cons_succ, i64_w, i32_w]
                                            rfl
                                          refine pure_ (i := 1) (N := some 101) (v := ?_) (a' := ?_) #[true, true, false, false, false, false, false, false, false, false, false, false, false, false, false, false] rfl rfl (any_of HT_.out (by kernel_rfl)) (fun _ _ _ h => h) (Or.inl ⟨by rfl, ?_⟩) ?_ ?_
                                          rotate_left
                                          · intro w'
                                            go_simp
                                            with_reducible rfl
                                          rotate_left
                                          · simp only [Act.put, List.setIfInBounds_toArray, List.set_cons_zero, List.set_cons_succ, i64_w, i32_w]
                                            rfl
                                          refine pure_ (i := 2) (N := some 102) (v := ?_) (a' := ?_) #[true, true, true, false, false, false, false, false, false, false, false, false, false, false, false, false] rfl rfl (any_of HT_.out (by kernel_rfl)) (fun _ _ _ h => h) (Or.inl ⟨by rfl, ?_⟩) ?_ ?_
                                          rotate_left
                                          · intro w'
                                            go_simp
                                            with_reducible rfl
                                          rotate_left
                                          · simp only [Act.put, List.setIfInBounds_toArray, List.set_cons_zero, List.set_cons_succ, i64_w, i32_w]
                                            rfl
                                          refine pure_ (i := 3) (N := some 103) (v := ?_) (a' := ?_) #[true, true, true, true, false, false, false, false, false, false, false, false, false, false, false, false] rfl rfl (any_of HT_.out (by kernel_rfl)) (fun _ _ _ h => h) (Or.inl ⟨by rfl, ?_⟩) ?_ ?_
                                          rotate_left
                                          · intro w'
                                            go_simp
                                            with_reducible rfl
                                          rotate_left
                                          · simp only [Act.put, List.setIfInBounds_toArray, List.set_cons_zero, List.set_cons_succ, i64_w, i32_w]
                                            rfl
                                          refine pure_ (i := 4) (N := some 104) (v := ?_) (a' := ?_) #[true, true, true, true, true, false, false, false, false, false, false, false, false, false, false, false] rfl rfl (any_of HT_.out (by kernel_rfl)) (fun _ _ _ h => h) (Or.inl ⟨by rfl, ?_⟩) ?_ ?_
                                          rotate_left
                                          · intro w'
                                            go_simp
                                            with_reducible rfl
                                          rotate_left
                                          · simp only [Act.put, List.setIfInBounds_toArray, List.set_cons_zero, List.set_cons_succ, i64_w, i32_w]
                                            rfl
                                          refine pure_ (i := 5) (N := some 105) (v := undef) (a' := ?_) #[true, true, true, true, true, true, false, false, false, false, false, false, false, false, false, false] rfl rfl (any_of HT_.out (by kernel_rfl)) (fun _ _ _ h => h) (Or.inr ⟨by rfl, rfl⟩) ?_ ?_
                                          rotate_left
                                          · simp only [Act.put, List.setIfInBounds_toArray, List.set_cons_zero, List.set_cons_succ, i64_w, i32_w]
                                            rfl
                                          refine pure_ (i := 6) (N := some 106) (v := undef) (a' := ?_) #[true, true, true, true, true, true, true, false, false, false, false, false, false, false, false, false] rfl rfl (any_of HT_.out (by kernel_rfl)) (fun _ _ _ h => h) (Or.inr ⟨by rfl, rfl⟩) ?_ ?_
                                          rotate_left
                                          · simp only [Act.put, List.setIfInBounds_toArray, List.set_cons_zero, List.set_cons_succ, i64_w, i32_w]
                                            rfl
                                          refine pure_ (i := 7) (N := some 107) (v := undef) (a' := ?_) #[true, true, true, true, true, true, true, true, false, false, false, false, false, false, false, false] rfl rfl (any_of HT_.out (by kernel_rfl)) (fun _ _ _ h => h) (Or.inr ⟨by rfl, rfl⟩) ?_ ?_
                                          rotate_left
                                          · simp only [Act.put, List.setIfInBounds_toArray, List.set_cons_zero, List.set_cons_succ, i64_w, i32_w]
                                            rfl
                                          refine pure_ (i := 8) (N := some 108) (v := undef) (a' := ?_) #[true, true, true, true, true, true, true, true, true, false, false, false, false, false, false, false] rfl rfl (any_of HT_.out (by kernel_rfl)) (fun _ _ _ h => h) (Or.inr ⟨by rfl, rfl⟩) ?_ ?_
                                          rotate_left
                                          · simp only [Act.put, List.setIfInBounds_toArray, List.set_cons_zero, List.set_cons_succ, i64_w, i32_w]
                                            rfl
                                          refine pure_ (i := 9) (N := some 109) (v := undef) (a' := ?_) #[true, true, true, true, true, true, true, true, true, true, false, false, false, false, false, false] rfl rfl (any_of HT_.out (by kernel_rfl)) (fun _ _ _ h => h) (Or.inr ⟨by rfl, rfl⟩) ?_ ?_
                                          rotate_left
                                          · simp only [Act.put, List.setIfInBounds_toArray, List.set_cons_zero, List.set_cons_succ, i64_w, i32_w]
                                            rfl
                                          refine pure_ (i := 10) (N := some 110) (v := undef) (a' := ?_) #[true, true, true, true, true, true, true, true, true, true, true, false, false, false, false, false] rfl rfl (any_of HT_.out (by kernel_rfl)) (fun _ _ _ h => h) (Or.inr ⟨by rfl, rfl⟩) ?_ ?_
                                          rotate_left
                                          · simp only [Act.put, List.setIfInBounds_toArray, List.set_cons_zero, List.set_cons_succ, i64_w, i32_w]
                                            rfl
                                          refine pure_ (i := 11) (N := some 111) (v := undef) (a' := ?_) #[true, true, true, true, true, true, true, true, true, true, true, true, false, false, false, false] rfl rfl (any_of HT_.out (by kernel_rfl)) (fun _ _ _ h => h) (Or.inr ⟨by rfl, rfl⟩) ?_ ?_
                                          rotate_left
                                          · simp only [Act.put, List.setIfInBounds_toArray, List.set_cons_zero, List.set_cons_succ, i64_w, i32_w]
                                            rfl
                                          refine pure_ (i := 12) (N := some 112) (v := undef) (a' := ?_) #[true, true, true, true, true, true, true, true, true, true, true, true, true, false, false, false] rfl rfl (any_of HT_.out (by kernel_rfl)) (fun _ _ _ h => h) (Or.inr ⟨by rfl, rfl⟩) ?_ ?_
                                          rotate_left
                                          · simp only [Act.put, List.setIfInBounds_toArray, List.set_cons_zero, List.set_cons_succ, i64_w, i32_w]
                                            rfl
                                          refine pure_ (i := 13) (N := some 113) (v := undef) (a' := ?_) #[true, true, true, true, true, true, true, true, true, true, true, true, true, true, false, false] rfl rfl (any_of HT_.out (by kernel_rfl)) (fun _ _ _ h => h) (Or.inr ⟨by rfl, rfl⟩) ?_ ?_
                                          rotate_left
                                          · simp only [Act.put, List.setIfInBounds_toArray, List.set_cons_zero, List.set_cons_succ, i64_w, i32_w]
                                            rfl
                                          refine pure_ (i := 14) (N := some 114) (v := undef) (a' := ?_) #[true, true, true, true, true, true, true, true, true, true, true, true, true, true, true, false] rfl rfl (any_of HT_.out (by kernel_rfl)) (fun _ _ _ h => h) (Or.inr ⟨by rfl, rfl⟩) ?_ ?_
                                          rotate_left
                                          · simp only [Act.put, List.setIfInBounds_toArray, List.set_cons_zero, List.set_cons_succ, i64_w, i32_w]
                                            rfl
                                          refine pure_ (i := 15) (N := some 115) (v := ?_) (a' := ?_) #[true, true, true, true, true, true, true, true, true, true, true, true, true, true, true, true] rfl rfl (any_of HT_.out (by kernel_rfl)) (fun _ _ _ h => h) (Or.inl ⟨by rfl, ?_⟩) ?_ ?_
                                          rotate_left
                                          · intro w'
                                            go_simp
                                            with_reducible rfl
                                          rotate_left
                                          · simp only [Act.put, List.setIfInBounds_toArray, List.set_cons_zero, List.set_cons_succ, i64_w, i32_w]
                                            rfl
                                          refine done_ (done_of HT_.out (by kernel_rfl)) ?_
                                          have q79 : (x10_5 : Int) ≤ ((x4_1.length : Int) : Int) := of_decide_eq_true (by first | (with_reducible assumption) | assumption)
                                          obtain ⟨i079, hi079, _, hsz79, _⟩ := info_parts info43
                                          have hroom79 : x4_1.length ≤ co78 := (Kd.N_reads' HO_4.out).2.1
                                          have hC79 : Kd.F (Kd.slice 3 (Kd.int .i64)) _ _ Ao78 x4_1.length x4_1 := (Kd.V_at (base := w.heap.size) (Kd.N_V HO_4.out)).2.2
                                          have hcut79 := cut_to (P := Try.prog) 30 43 .i64 Try.underlying30 hi079 Ao78 x4_1.length co78 x10_5 (of_decide_eq_true (by first | (with_reducible assumption) | assumption)) q79 hroom79
                                          have hr79 := Kd.F_take (m := (x10_5 : Int).toNat) hC79 (by omega)
                                          have hy79 : y341.length = (x10_5 : Int).toNat := (by rw [Ny341.out, List.length_take]; omega)
                                          rw [← Ny341.out] at hr79
                                          rw [← hy79] at hcut79
                                          have HO345 := Aside0.mk (show Kd.V (Kd.slice 3 (Kd.int .i64)) 43 _ w.heap.size _ (.slice Ao78 y341.length co78) y341 from Kd.V_mk (by omega) hr79)
                                          have HC345 := Aside0.mk (show y341.length ≤ co78 from by omega)
                                          clear hr79 hC79 hroom79 hi079 hsz79
                                          have KY79 := Aside0.mk hy79
                                          clear hy79
                                          replace q79 := eq_true q79
                                          try go_wp2_with (first | ((with_reducible refine gate_builtin (b := .append) (xs := #[.tmp 118, .tmp 121]) rfl ?_); (try (refine gate_guard (by rfl) ?_; dsimp only)); at_builtin; refine Kd.N_append_rows (Kd.slice 3 (Kd.int .i64)) (w0 := w) w.heap.size rfl (.tmp 118) (.tmp 121) 30 43 (.slice none 0 0) 24 rfl Try.underlying30 info43 rfl (by decide) (by omega) (.slice none 0 0) ([] : List (List Int)) y341 _ _ _ (fun k_ => (w.heap.size ≤ k_) ∧ some k_ ≠ (u6 : Value).ownBlock) (fun k_ => ((fun k_ => (w.heap.size ≤ k_) ∧ some k_ ≠ (u6 : Value).ownBlock)) k_ ∧ some k_ ≠ (.slice none 0 0 : Value).ownBlock) rfl rfl ?aO ?aR (fun _ hk => hk) ?aF ?aB ?aS ?aL ?_; (case aR => exact (by skip; exact Kd.V_F (Kd.V_mono (ok' := (fun k_ => ((fun k_ => (w.heap.size ≤ k_) ∧ some k_ ≠ (u6 : Value).ownBlock)) k_ ∧ some k_ ≠ (.slice none 0 0 : Value).ownBlock)) (HO345.out) (fun k_ hk => ⟨⟨hk.1, hk.2⟩, (by simp [Value.ownBlock])⟩)))); (case aB => exact (by repeat (first | (with_reducible first | exact HB.out | apply below_alloc | apply pw_below_drewN | apply below_drew1) | exact HB.out))); (case aF => exact (fun k_ hk => ⟨(Nat.le_trans (below_size (by repeat (first | (with_reducible first | exact HB.out | apply below_alloc | apply pw_below_drewN | apply below_drew1) | exact HB.out))) hk), Kd.fresh' (Kd.R_lt (by (with_reducible repeat (first | apply Kd.R_alloc | apply Kd.R_drewN | apply Kd.R_drew)); exact HO_6.out)) k_ hk⟩)); (case aO => exact ((Kd.N_nil _ _ _ _ (fun k_ => (w.heap.size ≤ k_) ∧ some k_ ≠ (u6 : Value).ownBlock)))); (case aS => exact (below_size (by repeat (first | (with_reducible first | exact HB.out | apply below_alloc | apply pw_below_drewN | apply below_drew1) | exact HB.out)))); (case aL => have := LMc72.out; omega); intro v347 w80 ho hb hg hat; rw [← Ny346.out] at ho; have n0_ := Aside0.mk (Kd.N_afterv (Kd.N_apart_nil (by (with_reducible repeat (first | apply Kd.N_alloc | apply Kd.N_drewN | apply Kd.N_drew)); exact HO_4.out)) hg hat); have n1_ := Aside0.mk (Kd.R_grown (by (with_reducible repeat (first | apply Kd.R_alloc | apply Kd.R_drewN | apply Kd.R_drew)); exact HO_6.out) hg (fun _ _ => by simp [Value.ownBlock])); have n2_ := Aside0.mk (Kd.V_afterv (Kd.V_apart_nil (by (with_reducible repeat (first | apply Kd.V_alloc | apply Kd.V_drewN | apply Kd.V_drew)); exact HO345.out)) hg hat); have n3_ := Aside0.mk (hb); have n4_ := Aside0.mk (ho); clear HO_4; clear HO_6; clear HO345; clear HB; have HO_4 := n0_; have HO_6 := n1_; have HO345 := n2_; have HB := n3_; have HO348 := n4_; clear n0_ n1_ n2_ n3_ n4_; clear ho hb hg hat; obtain ⟨Ao82, co82, eo82⟩ := Kd.R_slice HO_6.out; subst eo82) | ((with_reducible refine gate_builtin (b := .append) (xs := #[.tmp 123, .tmp 125]) rfl ?_); (try (refine gate_guard (by rfl) ?_; dsimp only)); at_builtin; refine Kd.N_append (Kd.slice 3 (Kd.int .i64)) (w0 := w) w.heap.size rfl (.tmp 123) (.tmp 125) 30 43 (.slice none 0 0) 24 rfl Try.underlying30 info43 rfl (by decide) (by omega) v347 y346 x6_8 [.slice Ao82 x6_8.length co82] (fun k_ => (w.heap.size ≤ k_)) (fun k_ => ((fun k_ => (w.heap.size ≤ k_))) k_ ∧ some k_ ≠ (v347 : Value).ownBlock) rfl rfl ?aP (fun _ hk => hk) ?aF ?aO ?aB ?aS ?aL ?_; (case aP => exact (Kd.FK_slice_mk (Kd.R_reads' (Kd.R_mono (ok' := (fun k_ => ((fun k_ => (w.heap.size ≤ k_))) k_ ∧ some k_ ≠ (v347 : Value).ownBlock)) (Kd.R_apart' (HO_6.out) (Kd.N_typed HO348.out) (by decide)) (fun k_ hk => ⟨hk.1, hk.2⟩))).2.1 (Kd.R_F (Kd.R_mono (ok' := (fun k_ => ((fun k_ => (w.heap.size ≤ k_))) k_ ∧ some k_ ≠ (v347 : Value).ownBlock)) (Kd.R_apart' (HO_6.out) (Kd.N_typed HO348.out) (by decide)) (fun k_ hk => ⟨hk.1, hk.2⟩))))); (case aB => exact (by repeat (first | (with_reducible first | exact HB.out | apply below_alloc | apply pw_below_drewN | apply below_drew1) | exact HB.out))); (case aF => exact (fun k_ hk => (Nat.le_trans (below_size (by repeat (first | (with_reducible first | exact HB.out | apply below_alloc | apply pw_below_drewN | apply below_drew1) | exact HB.out))) hk))); (case aO => exact (by (with_reducible repeat (first | apply Kd.N_alloc | apply Kd.N_drewN | apply Kd.N_drew)); exact Kd.N_mono HO348.out (fun _ hk => hk.1))); (case aS => exact (below_size (by repeat (first | (with_reducible first | exact HB.out | apply below_alloc | apply pw_below_drewN | apply below_drew1) | exact HB.out)))); (case aL => have := LMc73.out; omega); intro v350 w81 ho hb hg hat; rw [← Ny349.out] at ho; have n0_ := Aside0.mk (Kd.N_afterv (ok := (fun k_ => (w.heap.size ≤ k_) ∧ some k_ ≠ (.slice Ao82 x6_8.length co82 : Value).ownBlock)) (by (with_reducible repeat (first | apply Kd.N_alloc | apply Kd.N_drewN | apply Kd.N_drew)); exact HO_4.out) hg hat); have n1_ := Aside0.mk (Kd.V_afterv (ok := (fun k_ => (w.heap.size ≤ k_) ∧ some k_ ≠ (.slice Ao82 x6_8.length co82 : Value).ownBlock)) (by (with_reducible repeat (first | apply Kd.V_alloc | apply Kd.V_drewN | apply Kd.V_drew)); exact HO345.out) hg hat); have n2_ := Aside0.mk (hb); have n3_ := Aside0.mk (ho); clear HO_4; clear HO345; clear HB; clear HO348; clear HO_6; have HO_4 := n0_; have HO345 := n1_; have HB := n2_; have HO351 := n3_; clear n0_ n1_ n2_ n3_; clear ho hb hg hat; have q83 : (x10_5 : Int) ≤ ((x4_1.length : Int) : Int) := of_decide_eq_true (by first | (with_reducible assumption) | assumption); obtain ⟨i083, hi083, _, hsz83, _⟩ := info_parts info43; have hroom83 : x4_1.length ≤ co78 := (Kd.N_reads' HO_4.out).2.1; have hC83 : Kd.F (Kd.slice 3 (Kd.int .i64)) _ _ Ao78 x4_1.length x4_1 := (Kd.V_at (base := w.heap.size) (Kd.N_V HO_4.out)).2.2; have q083 : (0 : Int) ≤ (x10_5 : Int) := of_decide_eq_true (by first | (with_reducible assumption) | assumption); have hcut83 := cut_from (P := Try.prog) 30 43 .i64 Try.underlying30 hi083 1 hsz83 Ao78 x4_1.length co78 x10_5 q083 q83; have hr83 := Kd.F_cut (m := (x10_5 : Int).toNat) (c := co78) hC83 (by omega) hroom83; obtain ⟨A83, hA83⟩ : ∃ A1, A1 = (if co78 = (x10_5 : Int).toNat then Ao78 else (Ao78 : Option Addr).map (·.add ((x10_5 : Int).toNat * 1))) := ⟨_, rfl⟩; obtain ⟨c83, hc83⟩ : ∃ c1, c1 = co78 - (x10_5 : Int).toNat := ⟨_, rfl⟩; have hy83 : y352.length = x4_1.length - (x10_5 : Int).toNat := (by rw [Ny352.out, List.length_drop] <;> omega); rw [show (x4_1).drop (x10_5 : Int).toNat = y352 from Ny352.out.symm] at hr83; replace hr83 : Kd.F (Kd.slice 3 (Kd.int .i64)) _ _ A83 y352.length y352 := (by rw [hA83]; exact hr83); rw [← hy83, ← hA83, ← hc83] at hcut83; have HO356 := Aside0.mk (show Kd.V (Kd.slice 3 (Kd.int .i64)) 43 _ w.heap.size _ (.slice A83 y352.length c83) y352 from Kd.V_mk (by rw [hy83, hc83]; exact Nat.sub_le_sub_right hroom83 _) hr83); have HC356 := Aside0.mk (show y352.length ≤ c83 from by rw [hy83, hc83]; exact Nat.sub_le_sub_right hroom83 _); clear hr83 hC83 hroom83 hi083 hsz83 hc83; have KY83 := Aside0.mk hy83; have KA83 := Aside0.mk hA83; clear hy83 hA83; replace q83 := eq_true q83) | ((with_reducible refine gate_builtin (b := .append) (xs := #[.tmp 127, .tmp 130]) rfl ?_); (try (refine gate_guard (by rfl) ?_; dsimp only)); at_builtin; refine Kd.N_append_rows (Kd.slice 3 (Kd.int .i64)) (w0 := w) w.heap.size rfl (.tmp 127) (.tmp 130) 30 43 (.slice none 0 0) 24 rfl Try.underlying30 info43 rfl (by decide) (by omega) v350 y349 y352 _ _ _ (fun k_ => (w.heap.size ≤ k_)) (fun k_ => ((fun k_ => (w.heap.size ≤ k_))) k_ ∧ some k_ ≠ (v350 : Value).ownBlock) rfl rfl ?aO ?aR (fun _ hk => hk) ?aF ?aB ?aS ?aL ?_; (case aR => exact (by skip; exact Kd.V_F (Kd.V_mono (ok' := (fun k_ => ((fun k_ => (w.heap.size ≤ k_))) k_ ∧ some k_ ≠ (v350 : Value).ownBlock)) (HO356.out) (fun k_ hk => ⟨hk.1.1, hk.2⟩)))); (case aB => exact (by repeat (first | (with_reducible first | exact HB.out | apply below_alloc | apply pw_below_drewN | apply below_drew1) | exact HB.out))); (case aF => exact (fun k_ hk => (Nat.le_trans (below_size (by repeat (first | (with_reducible first | exact HB.out | apply below_alloc | apply pw_below_drewN | apply below_drew1) | exact HB.out))) hk))); (case aO => exact (by (with_reducible repeat (first | apply Kd.N_alloc | apply Kd.N_drewN | apply Kd.N_drew)); exact HO351.out)); (case aS => exact (below_size (by repeat (first | (with_reducible first | exact HB.out | apply below_alloc | apply pw_below_drewN | apply below_drew1) | exact HB.out)))); (case aL => have := LMc76.out; omega); intro v358 w84 ho hb hg hat; rw [← Ny357.out] at ho; have n0_ := Aside0.mk (Kd.N_afterv (ok := (fun k_ => (w.heap.size ≤ k_))) (by (with_reducible repeat (first | apply Kd.N_alloc | apply Kd.N_drewN | apply Kd.N_drew)); exact Kd.N_mono HO_4.out (fun _ hk => ⟨hk.1.1, hk.2⟩)) hg hat); have n1_ := Aside0.mk (Kd.V_afterv (ok := (fun k_ => (w.heap.size ≤ k_))) (by (with_reducible repeat (first | apply Kd.V_alloc | apply Kd.V_drewN | apply Kd.V_drew)); exact Kd.V_mono HO345.out (fun _ hk => ⟨hk.1.1, hk.2⟩)) hg hat); have n2_ := Aside0.mk (Kd.V_afterv (ok := (fun k_ => (w.heap.size ≤ k_))) (by (with_reducible repeat (first | apply Kd.V_alloc | apply Kd.V_drewN | apply Kd.V_drew)); exact Kd.V_mono HO356.out (fun _ hk => ⟨hk.1.1, hk.2⟩)) hg hat); have n3_ := Aside0.mk (hb); have n4_ := Aside0.mk (ho); clear HO_4; clear HO345; clear HO356; clear HB; clear HO351; have HO_4 := n0_; have HO345 := n1_; have HO356 := n2_; have HB := n3_; have HO359 := n4_; clear n0_ n1_ n2_ n3_ n4_; clear ho hb hg hat))
                                          go_roundg k5
                                          case measure => have := HK1.out; have := HJ2.out; have := HJ8.out; have := HJ38.out; have := HK5.out; omega
                                          case rel => exact ⟨(y357), (wrap64 (x5_1 + 1)), (by first | rfl | (simp; done) | (simp [*]; done)), H', ⟨by have := HK1.out; have := HJ2.out; have := HJ8.out; have := HJ38.out; have := HK5.out; omega⟩, ⟨by (with_reducible repeat (first | apply Kd.N_alloc | apply Kd.N_drewN | apply Kd.N_drew)); exact HO359.out⟩, ⟨by repeat (first | (with_reducible first | exact HB.out | apply below_alloc | apply pw_below_drewN | apply below_drew1) | exact HB.out)⟩⟩
                                        · rw [if_neg c76] at H
                                          exact absurd H (by simp)
                                      · rw [if_neg c73] at H
                                        exact absurd H (by simp)
                                    · rw [if_neg c72] at H
                                      exact absurd H (by simp)
                                  · rw [if_neg c71] at H
                                    exact absurd H (by simp)
                                · rw [if_neg c70] at H
                                  exact absurd H (by simp)
              · rw [if_neg c7] at H
                exact absurd H (by simp)
            · rw [if_neg c6] at H
              exact absurd H (by simp)
          · replace c5 := Bool.eq_false_iff.mpr c5
            subst c5
            have H1 : (some x4_1) = some r := by rw [if_neg (show ¬ (false = true) by decide)] at H; exact H
            clear H
            have H := H1
            clear H1
            obtain rfl := Option.some.inj H
            go_wp2
            go_ret
            exact ⟨_, by first | rfl | (simp [errW_none, errW_some] <;> rfl) | (simp [*, errW_none, errW_some] <;> rfl), by (with_reducible repeat (first | apply Kd.N_alloc | apply Kd.N_drewN | apply Kd.N_drew)); exact HO_4.out, by repeat (first | (with_reducible first | exact HB.out | apply below_alloc | apply pw_below_drewN | apply below_drew1) | exact HB.out)⟩

end Go.Proofs.Ytkfopphcgjdcaaa.A
