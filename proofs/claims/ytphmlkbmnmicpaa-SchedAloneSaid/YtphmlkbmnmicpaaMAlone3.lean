/- Parts of the proof, in the order in which they rest on one another. -/
import Derived.Test.YtphmlkbmnmicpaaMAlone2
import Derived.Deep.Cut
import Derived.Deep.Slices
import Derived.ChangeArms
/- What the machine does at this function, and a plain Lean function that says the same: written by a program for this claim; Lean checks it. -/
namespace Go.Proofs.Ytphmlkbmnmicpaa.A
open Go.RowKit Go.Proofs.YtphmlkbmnmicpaaW.PrintWords Go.Proofs.YtphmlkbmnmicpaaW.PrintLast Go.Proofs.YtphmlkbmnmicpaaW.PrintMore
attribute [local go_sem] max2_int min2_int max_two min_two max_three min_three max_four min_four   -- for this text's walks alone
set_option linter.unusedVariables false
set_option linter.unusedSimpArgs false

/-! ### sched_Cost: function 26 -/
mutual
def sched_Cost.l0 : Nat → List (S37) → List Int → Int → Int → List (List Int) → Int → Int → Option (Int)
  | 0, _, _, _, _, _, _, _ => none
  | k + 1, x0, x4, x5, x6, x16, x17, x18 => if x18 < x17 then (if 0 ≤ x18 then (if x18 < (x16.length : Int) then (sched_Cost.l1 k x0 x4 x5 x6 x18 x16 x17 x18 (rd_L1 x16 x18) ((rd_L1 x16 x18).length : Int) 0) else (none)) else (none)) else (some x6)
def sched_Cost.l1 : Nat → List (S37) → List Int → Int → Int → Int → List (List Int) → Int → Int → List Int → Int → Int → Option (Int)
  | 0, _, _, _, _, _, _, _, _, _, _, _ => none
  | k + 1, x0, x4, x5, x6, x7, x16, x17, x18, x23, x24, x25 => if x25 < x24 then (if 0 ≤ x25 then (if x25 < (x23.length : Int) then (if 0 ≤ x7 then (if x7 < (x0.length : Int) then (if 0 ≤ (rd x23 x25) then (if (rd x23 x25) < (x0.length : Int) then ((code_Sets.f k ((rd_T37 x0 (rd x23 x25)).f0) ((rd_T37 x0 (rd x23 x25)).f1) ((rd_T37 x0 (rd x23 x25)).f2) ((rd_T37 x0 (rd x23 x25)).f3) ((rd_T37 x0 (rd x23 x25)).f4) ((rd_T37 x0 (rd x23 x25)).f5)).bind fun t196 => ((sched_reads.f k ((rd_T37 x0 x7).f0) ((rd_T37 x0 x7).f1) ((rd_T37 x0 x7).f2) ((rd_T37 x0 x7).f3) ((rd_T37 x0 x7).f4) ((rd_T37 x0 x7).f5) t196).bind fun t197 => (if t197 = true then (if (rd x23 x25) < (x4.length : Int) then (sched_Cost.l1 k x0 x4 (mx x5 (rd x4 (rd x23 x25))) x6 x7 x16 x17 x18 x23 x24 (wrap64 (x25 + 1))) else (none)) else (sched_Cost.l1 k x0 x4 x5 x6 x7 x16 x17 x18 x23 x24 (wrap64 (x25 + 1)))))) else (none)) else (none)) else (none)) else (none)) else (none)) else (none)) else (if 0 ≤ x7 then (if x7 < (x0.length : Int) then ((sched_Latency.f ((rd_T37 x0 x7).f0) ((rd_T37 x0 x7).f1) ((rd_T37 x0 x7).f2) ((rd_T37 x0 x7).f3) ((rd_T37 x0 x7).f4) ((rd_T37 x0 x7).f5)).bind fun t190 => (if x7 < (x4.length : Int) then ((some (x4.set (x7 : Int).toNat (wrap64 (x5 + t190)) : List Int)).bind fun y191 => (sched_Cost.l0 k x0 y191 (wrap64 (x5 + 1)) (mx x6 (rd y191 x7)) x16 x17 (wrap64 (x18 + 1)))) else (none))) else (none)) else (none))
end
def sched_Cost.f (k : Nat) (l0 : List (S37)) : Option (Int) := (sched_Deps.f k l0).bind fun t182 => (if 0 ≤ (t182.length : Int) then (if ((t182.length : Int) : Int).toNat ≤ 35184372088832 then (sched_Cost.l0 k l0 (List.replicate ((t182.length : Int) : Int).toNat 0) 0 0 t182 (t182.length : Int) 0) else (none)) else (none))
theorem sched_Cost.mono_l : ∀ k, (∀ y0 y1 y2 y3 y4 y5 y6, LeO (sched_Cost.l0 k y0 y1 y2 y3 y4 y5 y6) (sched_Cost.l0 (k + 1) y0 y1 y2 y3 y4 y5 y6)) ∧ (∀ y0 y1 y2 y3 y4 y5 y6 y7 y8 y9 y10, LeO (sched_Cost.l1 k y0 y1 y2 y3 y4 y5 y6 y7 y8 y9 y10) (sched_Cost.l1 (k + 1) y0 y1 y2 y3 y4 y5 y6 y7 y8 y9 y10))
  | 0 => ⟨fun _ _ _ _ _ _ _ r h => by simp [sched_Cost.l0] at h, fun _ _ _ _ _ _ _ _ _ _ _ r h => by simp [sched_Cost.l1] at h⟩
  | k + 1 => by
    obtain ⟨ih0, ih1⟩ := sched_Cost.mono_l k
    refine ⟨?_, ?_⟩
    · intro y0 y1 y2 y3 y4 y5 y6
      unfold sched_Cost.l0
      repeat' first
      | (with_reducible exact ih0 _ _ _ _ _ _ _)
      | (with_reducible exact ih1 _ _ _ _ _ _ _ _ _ _ _)
      | (with_reducible exact code_Sets.mono _ _ _ _ _ _ _)
      | (with_reducible exact sched_Deps.mono _ _)
      | (with_reducible exact sched_reads.mono _ _ _ _ _ _ _ _)
      | (with_reducible exact LeO.refl _)
      | (with_reducible exact LeO.none _)
      | (with_reducible refine LeO.ite ?_ ?_)
      | (with_reducible refine LeO.bind ?_ (fun _ => ?_))
      | exact ih0 _ _ _ _ _ _ _
      | exact ih1 _ _ _ _ _ _ _ _ _ _ _
      | exact code_Sets.mono _ _ _ _ _ _ _
      | exact sched_Deps.mono _ _
      | exact sched_reads.mono _ _ _ _ _ _ _ _
      | exact LeO.none _
      | refine LeO.ite ?_ ?_
      | refine LeO.bind ?_ (fun _ => ?_)
    · intro y0 y1 y2 y3 y4 y5 y6 y7 y8 y9 y10
      unfold sched_Cost.l1
      repeat' first
      | (with_reducible exact ih0 _ _ _ _ _ _ _)
      | (with_reducible exact ih1 _ _ _ _ _ _ _ _ _ _ _)
      | (with_reducible exact code_Sets.mono _ _ _ _ _ _ _)
      | (with_reducible exact sched_Deps.mono _ _)
      | (with_reducible exact sched_reads.mono _ _ _ _ _ _ _ _)
      | (with_reducible exact LeO.refl _)
      | (with_reducible exact LeO.none _)
      | (with_reducible refine LeO.ite ?_ ?_)
      | (with_reducible refine LeO.bind ?_ (fun _ => ?_))
      | exact ih0 _ _ _ _ _ _ _
      | exact ih1 _ _ _ _ _ _ _ _ _ _ _
      | exact code_Sets.mono _ _ _ _ _ _ _
      | exact sched_Deps.mono _ _
      | exact sched_reads.mono _ _ _ _ _ _ _ _
      | exact LeO.none _
      | refine LeO.ite ?_ ?_
      | refine LeO.bind ?_ (fun _ => ?_)
theorem sched_Cost.mono : ∀ a0 k, LeO (sched_Cost.f k a0) (sched_Cost.f (k + 1) a0) := by
  intro a0 k
  obtain ⟨ih0, ih1⟩ := sched_Cost.mono_l k
  unfold sched_Cost.f
  repeat' first
      | (with_reducible exact ih0 _ _ _ _ _ _ _)
      | (with_reducible exact ih1 _ _ _ _ _ _ _ _ _ _ _)
      | (with_reducible exact code_Sets.mono _ _ _ _ _ _ _)
      | (with_reducible exact sched_Deps.mono _ _)
      | (with_reducible exact sched_reads.mono _ _ _ _ _ _ _ _)
      | (with_reducible exact LeO.refl _)
      | (with_reducible exact LeO.none _)
      | (with_reducible refine LeO.ite ?_ ?_)
      | (with_reducible refine LeO.bind ?_ (fun _ => ?_))
      | exact ih0 _ _ _ _ _ _ _
      | exact ih1 _ _ _ _ _ _ _ _ _ _ _
      | exact code_Sets.mono _ _ _ _ _ _ _
      | exact sched_Deps.mono _ _
      | exact sched_reads.mono _ _ _ _ _ _ _ _
      | exact LeO.none _
      | refine LeO.ite ?_ ?_
      | refine LeO.bind ?_ (fun _ => ?_)
def sched_Cost.T10 : Bool × List (List Nat × List Nat) := (true, [([], []), ([], []), ([0, 1], [0, 1]), ([2], [2]), ([], []), ([], []), ([4, 5], [4, 5]), ([6], [6]), ([7], [7]), ([3, 8, 8], [3, 8])])
def sched_Cost.B10 : List Nat := [0, 0, 3, 7, 0, 0, 48, 112, 240, 511]
theorem sched_Cost.tab10 : rtab .any (opsOf Try.f26 10) = sched_Cost.T10 := by kernel_rfl
theorem sched_Cost.bits10 : waitsOk sched_Cost.T10.2 sched_Cost.B10 = true := by kernel_rfl
set_option maxHeartbeats 8000000 in
set_option maxRecDepth 100000 in
theorem sched_Cost.calls (k : Nat) (A0 : Option Addr) (c0 : Nat) (l0 : List (S37)) (r : Int) (w : World) (hr0 : Kd.C k37 w A0 l0.length l0) (hc0 : l0.length ≤ c0) (h : sched_Cost.f k l0 = some r) :
    Calls Try.prog 26 #[.slice A0 l0.length c0] w fun e w' => e = .returned (.int .i64 r) ∧ Below w.heap.size w w' := by
  have hu37 := Try.underlying37
  have HR0 := Aside0.mk hr0
  have HC0 := Aside0.mk hc0
  clear hr0 hc0
  have HB := Aside0.mk (Below.refl w.heap.size w)
  have H : ((sched_Deps.f k l0).bind fun t182 => (if 0 ≤ (t182.length : Int) then (if ((t182.length : Int) : Int).toNat ≤ 35184372088832 then (sched_Cost.l0 k l0 (List.replicate ((t182.length : Int) : Int).toNat 0) 0 0 t182 (t182.length : Int) 0) else (none)) else (none))) = some r := h
  clear h
  replace H := Option.bind_eq_some_iff.mp H
  obtain ⟨t182, A20, H⟩ := H
  replace H : (if 0 ≤ (t182.length : Int) then (if ((t182.length : Int) : Int).toNat ≤ 35184372088832 then (sched_Cost.l0 k l0 (List.replicate ((t182.length : Int) : Int).toNat 0) 0 0 t182 (t182.length : Int) 0) else (none)) else (none)) = some r := H
  have A2 := Aside0.mk A20
  clear A20
  by_cases c3 : 0 ≤ (t182.length : Int)
  · rw [if_pos c3] at H
    have c3b0 := eq_true c3
    have c3b1 : decide (0 ≤ (t182.length : Int)) = true := decide_eq_true c3
    clear c3
    by_cases c4 : ((t182.length : Int) : Int).toNat ≤ 35184372088832
    · rw [if_pos c4] at H
      have c4b0 := eq_true c4
      have c4b1 : decide (((t182.length : Int) : Int).toNat ≤ 35184372088832) = true := decide_eq_true c4
      clear c4
      obtain ⟨y185, hy185⟩ : ∃ y_ : List Int, y_ = (List.replicate ((t182.length : Int) : Int).toNat 0) := ⟨_, rfl⟩
      replace H : (sched_Cost.l0 k l0 y185 0 0 t182 (t182.length : Int) 0) = some r := by first | (rw [hy185]; with_reducible exact H) | (have H2_ := (Option.bind_some _ _).symm.trans H; rw [hy185]; with_reducible exact H2_) | (have H2_ := (Option.bind_some _ _).symm.trans H; with_reducible exact H2_) | with_reducible exact H | (rw [hy185]; exact H) | exact H
      have Ny185 := Aside0.mk hy185
      clear hy185
      have H' := Aside0.mk H
      clear H
      go_enter Try.func26, Try.ntmps26
      go_wp2_with (first | ((with_reducible refine gate_callee (f := 17) rfl ?_); refine goesL_ (some 12) rfl rfl Try.func17 (by kernel_rfl) rfl #[.slice A0 l0.length c0] rfl (by (try simp only [List.map_toArray, List.map_cons, List.map_nil]); first | done | rfl | (simp only [List.length_drop, List.length_take]; rfl)) ?_; (with_reducible refine (sched_Deps.calls k _ _ l0 t182 _ ?side1 ?side2 A2.out).mono ?_); (case side1 => repeat (first | exact HR0.out | (with_reducible refine Kd.C_alloc ?_ _) | (with_reducible refine Kd.C_drewN ?_ _) | (with_reducible refine Kd.C_drew ?_))); (case side2 => exact HC0.out); rintro e w5 ⟨v183, rfl, ho0, hb⟩; refine ⟨_, rfl, ?_⟩; have n0_ := Aside0.mk (Kd.S_lower ho0 (below_size (by repeat (first | (with_reducible first | exact HB.out | apply below_alloc | apply pw_below_drewN | apply below_drew1) | exact HB.out)))); have n1_ := Aside0.mk (below_step (by repeat (first | (with_reducible first | exact HB.out | apply below_alloc | apply pw_below_drewN | apply below_drew1) | exact HB.out)) hb); clear HB; have HO184 := n0_; have HB := n1_; clear n0_ n1_; (try clear hb); (try clear hb2); (try clear hk); (try clear hi); (try clear ho0); obtain ⟨Ao6, co6, eo6⟩ := Kd.S_slice HO184.out; subst eo6) | ((with_reducible refine gate_dst (N := 15) rfl ?_); refine Kd.R_make (Kd.int .i64) _ 3 rfl (N := 15) rfl 23 _ _ rfl (t182.length : Int) rfl rfl Try.underlying23 (.int .i64 0) 8 info3 rfl (by decide) (by omega) 0 (ok := fun _ => True) (okp := fun _ => True) rfl (fun _ hk => hk) trivial (of_decide_eq_true (by first | (with_reducible assumption) | assumption)) (Nat.le_trans (Nat.mul_le_mul_right _ (of_decide_eq_true (by first | (with_reducible assumption) | assumption) : (t182.length : Int).toNat ≤ 35184372088832)) (by omega)) (Below.refl _ _) (Nat.le_refl _) ?_; intro v186 w7 ho8 hb hg_ hnew_; clear hg_ hnew_; (first | rw [← Ny185.out] at ho8 | (simp only [Int.reduceToNat] at ho8; rw [← Ny185.out] at ho8)); have n0_ := Aside0.mk (Kd.S_elder' (by (with_reducible repeat (first | apply Kd.S_alloc | apply Kd.S_drewN | apply Kd.S_drew)); exact HO184.out) (Kd.R_base ho8) hb); have n1_ := Aside0.mk (Kd.R_lower ho8 (below_size (by repeat (first | (with_reducible first | exact HB.out | apply below_alloc | apply pw_below_drewN | apply below_drew1) | exact HB.out)))); have n2_ := Aside0.mk (below_step (by repeat (first | (with_reducible first | exact HB.out | apply below_alloc | apply pw_below_drewN | apply below_drew1) | exact HB.out)) hb); clear HO184; clear HB; have HO184 := n0_; have HO187 := n1_; have HB := n2_; clear n0_ n1_ n2_; clear hb ho8))
      go_loopg [5, 6, 18] k (fun kq v5 v6 v18 w' => ∃ (x4_1 : List Int) (x5_1 : Int) (x6_1 : Int) (x18_1 : Int), v5 = .int .i64 x5_1 ∧ v6 = .int .i64 x6_1 ∧ v18 = .int .i64 x18_1 ∧ Aside0 (sched_Cost.l0 kq l0 x4_1 x5_1 x6_1 t182 (t182.length : Int) x18_1 = some r) ∧ Aside0 (kq ≤ k) ∧ Aside0 (Kd.R (Kd.int .i64) 3 w' w.heap.size (fun _ => True) v186 x4_1) ∧ Aside0 (Kd.S (Kd.slice 3 (Kd.int .i64)) 23 w' w.heap.size (fun k_ => some k_ ≠ (v186 : Value).ownBlock) (.slice Ao6 t182.length co6) t182) ∧ Aside0 (Below w.heap.size w w'))
      case atStart => exact ⟨(y185), (0), (0), (0), (by first | rfl | (simp; done) | (simp [*]; done)), (by first | rfl | (simp; done) | (simp [*]; done)), (by first | rfl | (simp; done) | (simp [*]; done)), H', ⟨Nat.le_refl _⟩, ⟨by (with_reducible repeat (first | apply Kd.R_alloc | apply Kd.R_drewN | apply Kd.R_drew)); exact HO187.out⟩, ⟨by (with_reducible repeat (first | apply Kd.S_alloc | apply Kd.S_drewN | apply Kd.S_drew)); exact Kd.S_mono HO184.out (fun _ hk => hk.2)⟩, ⟨by repeat (first | (with_reducible first | exact HB.out | apply below_alloc | apply pw_below_drewN | apply below_drew1) | exact HB.out)⟩⟩
      case round =>
        clear H'
        try clear c1
        try clear c2
        try clear p2
        try clear c3
        try clear c3b0
        try clear c3b1
        try clear c4
        try clear c4b0
        try clear c4b1
        obtain ⟨x4_1, x5_1, x6_1, x18_1, rfl, rfl, rfl, HA, HK1, HO_4, HO_16, HB⟩ := hrel
        cases gk with
        | zero => exact absurd HA.out (by simp [sched_Cost.l0])
        | succ k1 =>
          have H := HA.out
          clear HA
          simp only [sched_Cost.l0] at H
          by_cases c9 : x18_1 < (t182.length : Int)
          · rw [if_pos c9] at H
            have c9b0 : decide (x18_1 < (t182.length : Int)) = true := decide_eq_true c9
            clear c9
            by_cases c10 : 0 ≤ x18_1
            · rw [if_pos c10] at H
              have c10b0 : decide (0 ≤ x18_1) = true := decide_eq_true c10
              clear c10
              by_cases c11 : x18_1 < (t182.length : Int)
              · rw [if_pos c11] at H
                have c11b0 : decide (x18_1 < (t182.length : Int)) = true := decide_eq_true c11
                clear c11
                have H' := Aside0.mk H
                clear H
                have p188 : 0 ≤ (x18_1 : Int) := of_decide_eq_true (by first | (with_reducible assumption) | assumption)
                have q188 : x18_1 < (t182.length : Int) := of_decide_eq_true (by first | (with_reducible assumption) | assumption)
                obtain ⟨ad188, A188_0, c188_0, e188, hx188_0, hl188_0, hi188_0⟩ := at_L1 (Kd.S_reads' HO_16.out).2.2 x18_1 p188 q188
                cases e188
                obtain ⟨ce188, hce188, hMe188, hcc188⟩ := Kd.S_get HO_16.out [] x18_1 p188 (by first | exact q188 | exact of_decide_eq_true (by first | (with_reducible assumption) | assumption) | (have e_ := (Kd.S_reads' HO_16.out).1; omega))
                obtain ⟨ve188_0, rfl, ge188_0⟩ := hMe188
                have hv188_0 := hcc188 0 _ rfl
                rw [Nat.add_zero, show ((Kd.slice 3 (Kd.int .i64))).sz = 1 from rfl, Nat.mul_one] at hv188_0
                replace hv188_0 := Option.some.inj (hv188_0.symm.trans hx188_0)
                rw [hv188_0] at ge188_0
                have HL188_0 := Aside0.mk (show Kd.R (Kd.int .i64) 3 _ _ _ _ (rd_L1 t182 x18_1) from ge188_0)
                clear hv188_0 ge188_0
                clear hcc188 hce188
                have HR188_0 := Aside0.mk hi188_0
                have HC188_0 := Aside0.mk hl188_0
                clear hi188_0 hl188_0
                replace p188 := eq_true p188
                replace q188 := eq_true q188
                go_wp2
                go_loopg [5, 25] k1 (fun kq v5 v25 w' => ∃ (x5_2 : Int) (x25_2 : Int), v5 = .int .i64 x5_2 ∧ v25 = .int .i64 x25_2 ∧ Aside0 (sched_Cost.l1 kq l0 x4_1 x5_2 x6_1 x18_1 t182 (t182.length : Int) x18_1 (rd_L1 t182 x18_1) ((rd_L1 t182 x18_1).length : Int) x25_2 = some r) ∧ Aside0 (kq ≤ k1) ∧ Aside0 (Kd.R (Kd.int .i64) 3 w' w.heap.size (fun _ => True) v186 x4_1) ∧ Aside0 (Kd.S (Kd.slice 3 (Kd.int .i64)) 23 w' w.heap.size (fun k_ => some k_ ≠ (v186 : Value).ownBlock) (.slice (some ad188) t182.length co6) t182) ∧ Aside0 (Kd.C (Kd.int .i64) w' A188_0 (rd_L1 t182 x18_1).length (rd_L1 t182 x18_1)) ∧ Aside0 (Below w.heap.size w w'))
                case atStart => exact ⟨(x5_1), (0), (by first | rfl | (simp; done) | (simp [*]; done)), (by first | rfl | (simp; done) | (simp [*]; done)), H', ⟨Nat.le_refl _⟩, ⟨by (with_reducible repeat (first | apply Kd.R_alloc | apply Kd.R_drewN | apply Kd.R_drew)); exact HO_4.out⟩, ⟨by (with_reducible repeat (first | apply Kd.S_alloc | apply Kd.S_drewN | apply Kd.S_drew)); exact HO_16.out⟩, ⟨by repeat (first | (with_reducible exact HR188_0.out) | (with_reducible refine Kd.C_alloc ?_ _) | (with_reducible refine Kd.C_drewN ?_ _) | (with_reducible refine Kd.C_drew ?_) | exact HR188_0.out)⟩, ⟨by repeat (first | (with_reducible first | exact HB.out | apply below_alloc | apply pw_below_drewN | apply below_drew1) | exact HB.out)⟩⟩
                case round =>
                  clear H'
                  try clear c1
                  try clear p1
                  try clear q1
                  try clear hx1
                  try clear c2
                  try clear p2
                  try clear c3
                  try clear c3b0
                  try clear c3b1
                  try clear c4
                  try clear c4b0
                  try clear c4b1
                  try clear c9
                  try clear c9b0
                  try clear c10
                  try clear c10b0
                  try clear c11
                  try clear c11b0
                  try clear hx188_0
                  try clear p188
                  try clear p2
                  try clear q188
                  obtain ⟨x5_2, x25_2, rfl, rfl, HA, HK2, HO_4, HO_16, HR188_0, HB⟩ := hrel
                  cases gk with
                  | zero => exact absurd HA.out (by simp [sched_Cost.l1])
                  | succ k2 =>
                    have H := HA.out
                    clear HA
                    simp only [sched_Cost.l1] at H
                    by_cases c12 : x25_2 < ((rd_L1 t182 x18_1).length : Int)
                    · rw [if_pos c12] at H
                      have c12b0 : decide (x25_2 < ((rd_L1 t182 x18_1).length : Int)) = true := decide_eq_true c12
                      clear c12
                      by_cases c13 : 0 ≤ x25_2
                      · rw [if_pos c13] at H
                        have c13b0 : decide (0 ≤ x25_2) = true := decide_eq_true c13
                        clear c13
                        by_cases c14 : x25_2 < ((rd_L1 t182 x18_1).length : Int)
                        · rw [if_pos c14] at H
                          have c14b0 : decide (x25_2 < ((rd_L1 t182 x18_1).length : Int)) = true := decide_eq_true c14
                          clear c14
                          by_cases c15 : 0 ≤ x18_1
                          · rw [if_pos c15] at H
                            have c15b0 : decide (0 ≤ x18_1) = true := decide_eq_true c15
                            clear c15
                            by_cases c16 : x18_1 < (l0.length : Int)
                            · rw [if_pos c16] at H
                              have c16b0 : decide (x18_1 < (l0.length : Int)) = true := decide_eq_true c16
                              clear c16
                              by_cases c17 : 0 ≤ (rd (rd_L1 t182 x18_1) x25_2)
                              · rw [if_pos c17] at H
                                have c17b0 : decide (0 ≤ (rd (rd_L1 t182 x18_1) x25_2)) = true := decide_eq_true c17
                                clear c17
                                by_cases c18 : (rd (rd_L1 t182 x18_1) x25_2) < (l0.length : Int)
                                · rw [if_pos c18] at H
                                  have c18b0 : decide ((rd (rd_L1 t182 x18_1) x25_2) < (l0.length : Int)) = true := decide_eq_true c18
                                  clear c18
                                  replace H := Option.bind_eq_some_iff.mp H
                                  obtain ⟨t196, A190, H⟩ := H
                                  replace H : ((sched_reads.f k2 ((rd_T37 l0 x18_1).f0) ((rd_T37 l0 x18_1).f1) ((rd_T37 l0 x18_1).f2) ((rd_T37 l0 x18_1).f3) ((rd_T37 l0 x18_1).f4) ((rd_T37 l0 x18_1).f5) t196).bind fun t197 => (if t197 = true then (if (rd (rd_L1 t182 x18_1) x25_2) < (x4_1.length : Int) then (sched_Cost.l1 k2 l0 x4_1 (mx x5_2 (rd x4_1 (rd (rd_L1 t182 x18_1) x25_2))) x6_1 x18_1 t182 (t182.length : Int) x18_1 (rd_L1 t182 x18_1) ((rd_L1 t182 x18_1).length : Int) (wrap64 (x25_2 + 1))) else (none)) else (sched_Cost.l1 k2 l0 x4_1 x5_2 x6_1 x18_1 t182 (t182.length : Int) x18_1 (rd_L1 t182 x18_1) ((rd_L1 t182 x18_1).length : Int) (wrap64 (x25_2 + 1))))) = some r := H
                                  have A19 := Aside0.mk A190
                                  clear A190
                                  replace H := Option.bind_eq_some_iff.mp H
                                  obtain ⟨t197, A200, H⟩ := H
                                  replace H : (if t197 = true then (if (rd (rd_L1 t182 x18_1) x25_2) < (x4_1.length : Int) then (sched_Cost.l1 k2 l0 x4_1 (mx x5_2 (rd x4_1 (rd (rd_L1 t182 x18_1) x25_2))) x6_1 x18_1 t182 (t182.length : Int) x18_1 (rd_L1 t182 x18_1) ((rd_L1 t182 x18_1).length : Int) (wrap64 (x25_2 + 1))) else (none)) else (sched_Cost.l1 k2 l0 x4_1 x5_2 x6_1 x18_1 t182 (t182.length : Int) x18_1 (rd_L1 t182 x18_1) ((rd_L1 t182 x18_1).length : Int) (wrap64 (x25_2 + 1)))) = some r := H
                                  have A20 := Aside0.mk A200
                                  clear A200
                                  by_cases c21 : t197 = true
                                  · subst c21
                                    have H1 : (if (rd (rd_L1 t182 x18_1) x25_2) < (x4_1.length : Int) then (sched_Cost.l1 k2 l0 x4_1 (mx x5_2 (rd x4_1 (rd (rd_L1 t182 x18_1) x25_2))) x6_1 x18_1 t182 (t182.length : Int) x18_1 (rd_L1 t182 x18_1) ((rd_L1 t182 x18_1).length : Int) (wrap64 (x25_2 + 1))) else (none)) = some r := by rw [if_pos rfl] at H; exact H
                                    clear H
                                    have H := H1
                                    clear H1
                                    by_cases c22 : (rd (rd_L1 t182 x18_1) x25_2) < (x4_1.length : Int)
                                    · rw [if_pos c22] at H
                                      have c22b0 : decide ((rd (rd_L1 t182 x18_1) x25_2) < (x4_1.length : Int)) = true := decide_eq_true c22
                                      clear c22
                                      obtain ⟨ji23, hji23⟩ : ∃ j_ : Int, (mx x5_2 (rd x4_1 (rd (rd_L1 t182 x18_1) x25_2))) = j_ := ⟨_, rfl⟩
                                      replace H : (sched_Cost.l1 k2 l0 x4_1 ji23 x6_1 x18_1 t182 (t182.length : Int) x18_1 (rd_L1 t182 x18_1) ((rd_L1 t182 x18_1).length : Int) (wrap64 (x25_2 + 1))) = some r := by first | (rw [hji23] at H; exact H) | (simp only [hji23] at H ⊢; exact H)
                                      (try rw [hji23] at A19)
                                      (try rw [hji23] at A20)
                                      have hji23_ : (if x5_2 < (rd x4_1 (rd (rd_L1 t182 x18_1) x25_2)) then (rd x4_1 (rd (rd_L1 t182 x18_1) x25_2)) else x5_2) = ji23 := hji23
                                      have H' := Aside0.mk H
                                      clear H
                                      have p193 : 0 ≤ (x25_2 : Int) := of_decide_eq_true (by first | (with_reducible assumption) | assumption)
                                      have q193 : x25_2 < ((rd_L1 t182 x18_1).length : Int) := of_decide_eq_true (by first | (with_reducible assumption) | assumption)
                                      obtain ⟨ad193, e193, hx193_0⟩ := Kd.at_int HR188_0.out x25_2 p193 q193
                                      cases e193
                                      replace p193 := eq_true p193
                                      replace q193 := eq_true q193
                                      try go_wp2
                                      have n0_ := Aside0.mk (Kd.R_drew HO_4.out)
                                      have n1_ := Aside0.mk (Kd.S_drew HO_16.out)
                                      have n2_ := Aside0.mk (Kd.C_drew HR188_0.out)
                                      have n3_ := Aside0.mk (below_drew1 HB.out)
                                      clear HO_4
                                      clear HO_16
                                      clear HR188_0
                                      clear HB
                                      have HO_4 := n0_
                                      have HO_16 := n1_
                                      have HR188_0 := n2_
                                      have HB := n3_
                                      clear n0_ n1_ n2_ n3_
                                      have p194 : 0 ≤ (x18_1 : Int) := of_decide_eq_true (by first | (with_reducible assumption) | assumption)
                                      have q194 : x18_1 < (l0.length : Int) := of_decide_eq_true (by first | (with_reducible assumption) | assumption)
                                      obtain ⟨ad194, A194_5, c194_5, e194, hx194_0, hx194_1, hx194_2, hx194_3, hx194_4, hx194_5, hl194_5, hi194_5⟩ := at_T37 HR0.out x18_1 p194 q194
                                      have hw194_5 := hx194_5
                                      have hw194_4 := hx194_4
                                      have hw194_3 := hx194_3
                                      have hw194_2 := hx194_2
                                      have hw194_1 := hx194_1
                                      have hw194_0 := hx194_0
                                      cases e194
                                      replace hx194_0 := (HB.out.cell (World.block_lt_of_cell? w _ hx194_0)).trans hx194_0
                                      replace hx194_1 := (HB.out.cell (World.block_lt_of_cell? w _ hx194_1)).trans hx194_1
                                      replace hx194_2 := (HB.out.cell (World.block_lt_of_cell? w _ hx194_2)).trans hx194_2
                                      replace hx194_3 := (HB.out.cell (World.block_lt_of_cell? w _ hx194_3)).trans hx194_3
                                      replace hx194_4 := (HB.out.cell (World.block_lt_of_cell? w _ hx194_4)).trans hx194_4
                                      replace hx194_5 := (HB.out.cell (World.block_lt_of_cell? w _ hx194_5)).trans hx194_5
                                      have HR194_5 := Aside0.mk hi194_5
                                      have HC194_5 := Aside0.mk hl194_5
                                      clear hi194_5 hl194_5
                                      replace p194 := eq_true p194
                                      replace q194 := eq_true q194
                                      have p195 : 0 ≤ ((rd (rd_L1 t182 x18_1) x25_2) : Int) := of_decide_eq_true (by first | (with_reducible assumption) | assumption)
                                      have q195 : (rd (rd_L1 t182 x18_1) x25_2) < (l0.length : Int) := of_decide_eq_true (by first | (with_reducible assumption) | assumption)
                                      obtain ⟨ad195, A195_5, c195_5, e195, hx195_0, hx195_1, hx195_2, hx195_3, hx195_4, hx195_5, hl195_5, hi195_5⟩ := at_T37 HR0.out (rd (rd_L1 t182 x18_1) x25_2) p195 q195
                                      have hw195_5 := hx195_5
                                      have hw195_4 := hx195_4
                                      have hw195_3 := hx195_3
                                      have hw195_2 := hx195_2
                                      have hw195_1 := hx195_1
                                      have hw195_0 := hx195_0
                                      obtain rfl : ad194 = ad195 := (by injection e195)
                                      replace hx195_0 := (HB.out.cell (World.block_lt_of_cell? w _ hx195_0)).trans hx195_0
                                      replace hx195_1 := (HB.out.cell (World.block_lt_of_cell? w _ hx195_1)).trans hx195_1
                                      replace hx195_2 := (HB.out.cell (World.block_lt_of_cell? w _ hx195_2)).trans hx195_2
                                      replace hx195_3 := (HB.out.cell (World.block_lt_of_cell? w _ hx195_3)).trans hx195_3
                                      replace hx195_4 := (HB.out.cell (World.block_lt_of_cell? w _ hx195_4)).trans hx195_4
                                      replace hx195_5 := (HB.out.cell (World.block_lt_of_cell? w _ hx195_5)).trans hx195_5
                                      have HR195_5 := Aside0.mk hi195_5
                                      have HC195_5 := Aside0.mk hl195_5
                                      clear hi195_5 hl195_5
                                      replace p195 := eq_true p195
                                      replace q195 := eq_true q195
                                      refine start_ (n := 10) (S := fun w' => w'.cell? (ad194.add ((x18_1).toNat * 6)) = some (.int .i64 ((rd_T37 l0 x18_1).f0)) ∧ w'.cell? ⟨(ad194.add ((x18_1).toNat * 6)).block, (ad194.add ((x18_1).toNat * 6)).off + 1, none⟩ = some (.int .i64 ((rd_T37 l0 x18_1).f1)) ∧ w'.cell? ⟨(ad194.add ((x18_1).toNat * 6)).block, (ad194.add ((x18_1).toNat * 6)).off + 2, none⟩ = some (.int .i64 ((rd_T37 l0 x18_1).f2)) ∧ w'.cell? ⟨(ad194.add ((x18_1).toNat * 6)).block, (ad194.add ((x18_1).toNat * 6)).off + 3, none⟩ = some (.int .i64 ((rd_T37 l0 x18_1).f3)) ∧ w'.cell? ⟨(ad194.add ((x18_1).toNat * 6)).block, (ad194.add ((x18_1).toNat * 6)).off + 4, none⟩ = some (.int .i64 ((rd_T37 l0 x18_1).f4)) ∧ w'.cell? ⟨(ad194.add ((x18_1).toNat * 6)).block, (ad194.add ((x18_1).toNat * 6)).off + 5, none⟩ = some (.slice A194_5 ((rd_T37 l0 x18_1).f5).length c194_5) ∧ w'.cell? (ad194.add (((rd (rd_L1 t182 x18_1) x25_2)).toNat * 6)) = some (.int .i64 ((rd_T37 l0 (rd (rd_L1 t182 x18_1) x25_2)).f0)) ∧ w'.cell? ⟨(ad194.add (((rd (rd_L1 t182 x18_1) x25_2)).toNat * 6)).block, (ad194.add (((rd (rd_L1 t182 x18_1) x25_2)).toNat * 6)).off + 1, none⟩ = some (.int .i64 ((rd_T37 l0 (rd (rd_L1 t182 x18_1) x25_2)).f1)) ∧ w'.cell? ⟨(ad194.add (((rd (rd_L1 t182 x18_1) x25_2)).toNat * 6)).block, (ad194.add (((rd (rd_L1 t182 x18_1) x25_2)).toNat * 6)).off + 2, none⟩ = some (.int .i64 ((rd_T37 l0 (rd (rd_L1 t182 x18_1) x25_2)).f2)) ∧ w'.cell? ⟨(ad194.add (((rd (rd_L1 t182 x18_1) x25_2)).toNat * 6)).block, (ad194.add (((rd (rd_L1 t182 x18_1) x25_2)).toNat * 6)).off + 3, none⟩ = some (.int .i64 ((rd_T37 l0 (rd (rd_L1 t182 x18_1) x25_2)).f3)) ∧ w'.cell? ⟨(ad194.add (((rd (rd_L1 t182 x18_1) x25_2)).toNat * 6)).block, (ad194.add (((rd (rd_L1 t182 x18_1) x25_2)).toNat * 6)).off + 4, none⟩ = some (.int .i64 ((rd_T37 l0 (rd (rd_L1 t182 x18_1) x25_2)).f4)) ∧ w'.cell? ⟨(ad194.add (((rd (rd_L1 t182 x18_1) x25_2)).toNat * 6)).block, (ad194.add (((rd (rd_L1 t182 x18_1) x25_2)).toNat * 6)).off + 5, none⟩ = some (.slice A195_5 ((rd_T37 l0 (rd (rd_L1 t182 x18_1) x25_2)).f5).length c195_5)) (ds := []) #[false, false, false, false, false, false, false, false, false, false] (by kernel_rfl) rfl rfl ⟨((HB.out.cell (World.block_lt_of_cell? w _ hw194_0)).trans hw194_0), ((HB.out.cell (World.block_lt_of_cell? w _ hw194_1)).trans hw194_1), ((HB.out.cell (World.block_lt_of_cell? w _ hw194_2)).trans hw194_2), ((HB.out.cell (World.block_lt_of_cell? w _ hw194_3)).trans hw194_3), ((HB.out.cell (World.block_lt_of_cell? w _ hw194_4)).trans hw194_4), ((HB.out.cell (World.block_lt_of_cell? w _ hw194_5)).trans hw194_5), ((HB.out.cell (World.block_lt_of_cell? w _ hw195_0)).trans hw195_0), ((HB.out.cell (World.block_lt_of_cell? w _ hw195_1)).trans hw195_1), ((HB.out.cell (World.block_lt_of_cell? w _ hw195_2)).trans hw195_2), ((HB.out.cell (World.block_lt_of_cell? w _ hw195_3)).trans hw195_3), ((HB.out.cell (World.block_lt_of_cell? w _ hw195_4)).trans hw195_4), ((HB.out.cell (World.block_lt_of_cell? w _ hw195_5)).trans hw195_5)⟩ (fun hHeld => ?_); refine with_tabW sched_Cost.tab10 sched_Cost.bits10 (fun HT_ HW_ => ?_)
                                      generalize wr.drew = w24 at HO_4 HO_16 HR188_0 HB HR194_5 HR195_5 hx194_0 hx194_1 hx194_2 hx194_3 hx194_4 hx194_5 hx195_0 hx195_1 hx195_2 hx195_3 hx195_4 hx195_5 hHeld ⊢
                                      refine pure_ (i := 0) (N := some 29) (v := ?_) (a' := ?_) #[true, false, false, false, false, false, false, false, false, false] rfl rfl (any_of HT_.out (by kernel_rfl)) (fun _ _ _ h => h) (Or.inl ⟨by rfl, ?_⟩) ?_ ?_
                                      rotate_left
                                      · intro w'
                                        go_simp
                                        with_reducible rfl
                                      rotate_left
                                      · simp only [Act.put, List.setIfInBounds_toArray, List.set_cons_zero, List.set_cons_succ, i64_w, i32_w]
                                        rfl
                                      refine pure_ (i := 1) (N := some 30) (v := ?_) (a' := ?_) #[true, true, false, false, false, false, false, false, false, false] rfl rfl (any_of HT_.out (by kernel_rfl)) (fun _ _ _ h => h) (Or.inl ⟨by rfl, ?_⟩) ?_ ?_
                                      rotate_left
                                      · intro w'
                                        go_simp
                                        with_reducible rfl
                                      rotate_left
                                      · simp only [Act.put, List.setIfInBounds_toArray, List.set_cons_zero, List.set_cons_succ, i64_w, i32_w]
                                        rfl
                                      refine pure_ (i := 2) (N := some 31) (v := ?_) (a' := ?_) #[true, true, true, false, false, false, false, false, false, false] rfl rfl (any_of HT_.out (by kernel_rfl)) (fun _ _ _ h => h) (Or.inl ⟨by rfl, ?_⟩) ?_ ?_
                                      rotate_left
                                      · intro w'
                                        go_simp
                                        with_reducible rfl
                                      rotate_left
                                      · simp only [Act.put, List.setIfInBounds_toArray, List.set_cons_zero, List.set_cons_succ, i64_w, i32_w]
                                        rfl
                                      refine pure_ (i := 4) (N := some 33) (v := ?_) (a' := ?_) #[true, true, true, false, true, false, false, false, false, false] rfl rfl (any_of HT_.out (by kernel_rfl)) (fun _ _ _ h => h) (Or.inl ⟨by rfl, ?_⟩) ?_ ?_
                                      rotate_left
                                      · intro w'
                                        go_simp
                                        with_reducible rfl
                                      rotate_left
                                      · simp only [Act.put, List.setIfInBounds_toArray, List.set_cons_zero, List.set_cons_succ, i64_w, i32_w]
                                        rfl
                                      refine pure_ (i := 5) (N := some 34) (v := ?_) (a' := ?_) #[true, true, true, false, true, true, false, false, false, false] rfl rfl (any_of HT_.out (by kernel_rfl)) (fun _ _ _ h => h) (Or.inl ⟨by rfl, ?_⟩) ?_ ?_
                                      rotate_left
                                      · intro w'
                                        go_simp
                                        with_reducible rfl
                                      rotate_left
                                      · simp only [Act.put, List.setIfInBounds_toArray, List.set_cons_zero, List.set_cons_succ, i64_w, i32_w]
                                        rfl
                                      refine pure_ (i := 6) (N := some 35) (v := ?_) (a' := ?_) #[true, true, true, false, true, true, true, false, false, false] rfl rfl (any_of HT_.out (by kernel_rfl)) (fun _ _ _ h => h) (Or.inl ⟨by rfl, ?_⟩) ?_ ?_
                                      rotate_left
                                      · intro w'
                                        go_simp
                                        with_reducible rfl
                                      rotate_left
                                      · simp only [Act.put, List.setIfInBounds_toArray, List.set_cons_zero, List.set_cons_succ, i64_w, i32_w]
                                        rfl
                                      refine take_ (i := 3) (N := some 32) (v := ?_) (a' := ?_) #[true, true, true, true, true, true, true, false, false, false] rfl rfl (take_ofW HT_.out HW_.out (by kernel_rfl)) (fun _ _ _ h => h) (Or.inl ⟨by rfl, ?_⟩) hHeld ?_ ?_
                                      rotate_left
                                      · rintro w' ⟨s0, s1, s2, s3, s4, s5, s6, s7, s8, s9, s10, s11⟩
                                        go_simp
                                        with_reducible rfl
                                      rotate_left
                                      · simp only [Act.put, List.setIfInBounds_toArray, List.set_cons_zero, List.set_cons_succ, i64_w, i32_w]
                                        rfl
                                      refine take_ (i := 7) (N := some 36) (v := ?_) (a' := ?_) #[true, true, true, true, true, true, true, true, false, false] rfl rfl (take_ofW HT_.out HW_.out (by kernel_rfl)) (fun _ _ _ h => h) (Or.inl ⟨by rfl, ?_⟩) hHeld ?_ ?_
                                      rotate_left
                                      · rintro w' ⟨s0, s1, s2, s3, s4, s5, s6, s7, s8, s9, s10, s11⟩
                                        go_simp
                                        with_reducible rfl
                                      rotate_left
                                      · simp only [Act.put, List.setIfInBounds_toArray, List.set_cons_zero, List.set_cons_succ, i64_w, i32_w]
                                        rfl
                                      refine one_ (i := 8) (N := some 37) #[true, true, true, true, true, true, true, true, true, false] rfl rfl (one_of HT_.out (by kernel_rfl)) (by decide) (fun K hK => ?_)
                                      refine goes_ Try.func43 (by kernel_rfl) rfl #[.agg #[.int .i64 ((rd_T37 l0 (rd (rd_L1 t182 x18_1) x25_2)).f0), .int .i64 ((rd_T37 l0 (rd (rd_L1 t182 x18_1) x25_2)).f1), .int .i64 ((rd_T37 l0 (rd (rd_L1 t182 x18_1) x25_2)).f2), .int .i64 ((rd_T37 l0 (rd (rd_L1 t182 x18_1) x25_2)).f3), .int .i64 ((rd_T37 l0 (rd (rd_L1 t182 x18_1) x25_2)).f4), .slice A195_5 ((rd_T37 l0 (rd (rd_L1 t182 x18_1) x25_2)).f5).length c195_5]] (by rfl) rfl rfl (by (try simp only [List.map_toArray, List.map_cons, List.map_nil]); first | done | rfl | (simp only [List.length_drop, List.length_take]; rfl)) ?_
                                      with_reducible refine (code_Sets.calls k2 ((rd_T37 l0 (rd (rd_L1 t182 x18_1) x25_2)).f0) ((rd_T37 l0 (rd (rd_L1 t182 x18_1) x25_2)).f1) ((rd_T37 l0 (rd (rd_L1 t182 x18_1) x25_2)).f2) ((rd_T37 l0 (rd (rd_L1 t182 x18_1) x25_2)).f3) ((rd_T37 l0 (rd (rd_L1 t182 x18_1) x25_2)).f4) _ _ ((rd_T37 l0 (rd (rd_L1 t182 x18_1) x25_2)).f5) t196 _ ?side1 ?side2 A19.out).mono ?_
                                      (case side1 => repeat (first | exact (Kd.C_below HR195_5.out HB.out) | (with_reducible refine Kd.C_alloc ?_ _) | (with_reducible refine Kd.C_drewN ?_ _) | (with_reducible refine Kd.C_drew ?_)))
                                      (case side2 => exact HC195_5.out)
                                      rintro e w25 ⟨rfl, hb⟩
                                      refine ⟨_, rfl, ?_⟩
                                      have n0_ := Aside0.mk (Kd.R_below (by (with_reducible repeat (first | apply Kd.R_alloc | apply Kd.R_drewN | apply Kd.R_drew)); exact HO_4.out) hb)
                                      have n1_ := Aside0.mk (Kd.S_below (by (with_reducible repeat (first | apply Kd.S_alloc | apply Kd.S_drewN | apply Kd.S_drew)); exact HO_16.out) hb)
                                      have n2_ := Aside0.mk (Kd.C_below (by repeat (first | (with_reducible exact HR188_0.out) | (with_reducible refine Kd.C_alloc ?_ _) | (with_reducible refine Kd.C_drewN ?_ _) | (with_reducible refine Kd.C_drew ?_) | exact HR188_0.out)) hb)
                                      have n3_ := Aside0.mk (below_step (by repeat (first | (with_reducible first | exact HB.out | apply below_alloc | apply pw_below_drewN | apply below_drew1) | exact HB.out)) hb)
                                      clear HO_4
                                      clear HO_16
                                      clear HR188_0
                                      clear HB
                                      have HO_4 := n0_
                                      have HO_16 := n1_
                                      have HR188_0 := n2_
                                      have HB := n3_
                                      clear n0_ n1_ n2_ n3_
                                      (try clear hb)
                                      (try clear hb2)
                                      (try clear hk)
                                      (try clear hi)
                                      refine hK.out _ _ ⟨((HB.out.cell (World.block_lt_of_cell? w _ hw194_0)).trans hw194_0), ((HB.out.cell (World.block_lt_of_cell? w _ hw194_1)).trans hw194_1), ((HB.out.cell (World.block_lt_of_cell? w _ hw194_2)).trans hw194_2), ((HB.out.cell (World.block_lt_of_cell? w _ hw194_3)).trans hw194_3), ((HB.out.cell (World.block_lt_of_cell? w _ hw194_4)).trans hw194_4), ((HB.out.cell (World.block_lt_of_cell? w _ hw194_5)).trans hw194_5), ((HB.out.cell (World.block_lt_of_cell? w _ hw195_0)).trans hw195_0), ((HB.out.cell (World.block_lt_of_cell? w _ hw195_1)).trans hw195_1), ((HB.out.cell (World.block_lt_of_cell? w _ hw195_2)).trans hw195_2), ((HB.out.cell (World.block_lt_of_cell? w _ hw195_3)).trans hw195_3), ((HB.out.cell (World.block_lt_of_cell? w _ hw195_4)).trans hw195_4), ((HB.out.cell (World.block_lt_of_cell? w _ hw195_5)).trans hw195_5)⟩ (fun hHeld => ?_)
                                      clear hK K
                                      refine norm_ (a' := ?_) ?_ ?_
                                      rotate_left
                                      · show Act.put _ (some 37) _ = _
                                        simp only [Act.put, List.setIfInBounds_toArray, List.set_cons_zero, List.set_cons_succ, i64_w, i32_w]
                                        rfl
                                      refine one_ (i := 9) (N := some 38) #[true, true, true, true, true, true, true, true, true, true] rfl rfl (one_of HT_.out (by kernel_rfl)) (by decide) (fun K hK => ?_)
                                      refine goes_ Try.func42 (by kernel_rfl) rfl #[.agg #[.int .i64 ((rd_T37 l0 x18_1).f0), .int .i64 ((rd_T37 l0 x18_1).f1), .int .i64 ((rd_T37 l0 x18_1).f2), .int .i64 ((rd_T37 l0 x18_1).f3), .int .i64 ((rd_T37 l0 x18_1).f4), .slice A194_5 ((rd_T37 l0 x18_1).f5).length c194_5], .int .i64 t196] (by rfl) rfl rfl (by (try simp only [List.map_toArray, List.map_cons, List.map_nil]); first | done | rfl | (simp only [List.length_drop, List.length_take]; rfl)) ?_
                                      with_reducible refine (sched_reads.calls k2 ((rd_T37 l0 x18_1).f0) ((rd_T37 l0 x18_1).f1) ((rd_T37 l0 x18_1).f2) ((rd_T37 l0 x18_1).f3) ((rd_T37 l0 x18_1).f4) _ _ ((rd_T37 l0 x18_1).f5) t196 true _ ?side1 ?side2 A20.out).mono ?_
                                      (case side1 => repeat (first | exact (Kd.C_below HR194_5.out HB.out) | (with_reducible refine Kd.C_alloc ?_ _) | (with_reducible refine Kd.C_drewN ?_ _) | (with_reducible refine Kd.C_drew ?_)))
                                      (case side2 => exact HC194_5.out)
                                      rintro e w26 ⟨rfl, hb⟩
                                      refine ⟨_, rfl, ?_⟩
                                      have n0_ := Aside0.mk (Kd.R_below (by (with_reducible repeat (first | apply Kd.R_alloc | apply Kd.R_drewN | apply Kd.R_drew)); exact HO_4.out) hb)
                                      have n1_ := Aside0.mk (Kd.S_below (by (with_reducible repeat (first | apply Kd.S_alloc | apply Kd.S_drewN | apply Kd.S_drew)); exact HO_16.out) hb)
                                      have n2_ := Aside0.mk (Kd.C_below (by repeat (first | (with_reducible exact HR188_0.out) | (with_reducible refine Kd.C_alloc ?_ _) | (with_reducible refine Kd.C_drewN ?_ _) | (with_reducible refine Kd.C_drew ?_) | exact HR188_0.out)) hb)
                                      have n3_ := Aside0.mk (below_step (by repeat (first | (with_reducible first | exact HB.out | apply below_alloc | apply pw_below_drewN | apply below_drew1) | exact HB.out)) hb)
                                      clear HO_4
                                      clear HO_16
                                      clear HR188_0
                                      clear HB
                                      have HO_4 := n0_
                                      have HO_16 := n1_
                                      have HR188_0 := n2_
                                      have HB := n3_
                                      clear n0_ n1_ n2_ n3_
                                      (try clear hb)
                                      (try clear hb2)
                                      (try clear hk)
                                      (try clear hi)
                                      refine hK.out _ _ ⟨((HB.out.cell (World.block_lt_of_cell? w _ hw194_0)).trans hw194_0), ((HB.out.cell (World.block_lt_of_cell? w _ hw194_1)).trans hw194_1), ((HB.out.cell (World.block_lt_of_cell? w _ hw194_2)).trans hw194_2), ((HB.out.cell (World.block_lt_of_cell? w _ hw194_3)).trans hw194_3), ((HB.out.cell (World.block_lt_of_cell? w _ hw194_4)).trans hw194_4), ((HB.out.cell (World.block_lt_of_cell? w _ hw194_5)).trans hw194_5), ((HB.out.cell (World.block_lt_of_cell? w _ hw195_0)).trans hw195_0), ((HB.out.cell (World.block_lt_of_cell? w _ hw195_1)).trans hw195_1), ((HB.out.cell (World.block_lt_of_cell? w _ hw195_2)).trans hw195_2), ((HB.out.cell (World.block_lt_of_cell? w _ hw195_3)).trans hw195_3), ((HB.out.cell (World.block_lt_of_cell? w _ hw195_4)).trans hw195_4), ((HB.out.cell (World.block_lt_of_cell? w _ hw195_5)).trans hw195_5)⟩ (fun hHeld => ?_)
                                      clear hK K
                                      refine norm_ (a' := ?_) ?_ ?_
                                      rotate_left
                                      · show Act.put _ (some 38) _ = _
                                        simp only [Act.put, List.setIfInBounds_toArray, List.set_cons_zero, List.set_cons_succ, i64_w, i32_w]
                                        rfl
                                      refine done_ (done_of HT_.out (by kernel_rfl)) ?_
                                      obtain ⟨Ao27, co27, eo27⟩ := Kd.R_slice HO_4.out
                                      subst eo27
                                      have p198 : 0 ≤ ((rd (rd_L1 t182 x18_1) x25_2) : Int) := of_decide_eq_true (by first | (with_reducible assumption) | assumption)
                                      have q198 : (rd (rd_L1 t182 x18_1) x25_2) < (x4_1.length : Int) := of_decide_eq_true (by first | (with_reducible assumption) | assumption)
                                      obtain ⟨ad198, e198, hx198_0⟩ := Kd.at_int (Kd.R_reads' HO_4.out).2.2 (rd (rd_L1 t182 x18_1) x25_2) p198 q198
                                      cases e198
                                      replace p198 := eq_true p198
                                      replace q198 := eq_true q198
                                      try go_wp2
                                      go_roundg k2
                                      case measure => have := HK1.out; have := HK2.out; omega
                                      case rel => exact ⟨(ji23), (wrap64 (x25_2 + 1)), (by first | rfl | (simp; done) | (simp only [← hji23] <;> (first | rfl | simp)) | (simp [*]; done)), (by first | rfl | (simp; done) | (simp [*]; done)), H', ⟨by have := HK1.out; have := HK2.out; omega⟩, ⟨by (with_reducible repeat (first | apply Kd.R_alloc | apply Kd.R_drewN | apply Kd.R_drew)); exact HO_4.out⟩, ⟨by (with_reducible repeat (first | apply Kd.S_alloc | apply Kd.S_drewN | apply Kd.S_drew)); exact HO_16.out⟩, ⟨by repeat (first | (with_reducible exact HR188_0.out) | (with_reducible refine Kd.C_alloc ?_ _) | (with_reducible refine Kd.C_drewN ?_ _) | (with_reducible refine Kd.C_drew ?_) | exact HR188_0.out)⟩, ⟨by repeat (first | (with_reducible first | exact HB.out | apply below_alloc | apply pw_below_drewN | apply below_drew1) | exact HB.out)⟩⟩
                                    · rw [if_neg c22] at H
                                      exact absurd H (by simp)
                                  · replace c21 := Bool.eq_false_iff.mpr c21
                                    subst c21
                                    have H1 : (sched_Cost.l1 k2 l0 x4_1 x5_2 x6_1 x18_1 t182 (t182.length : Int) x18_1 (rd_L1 t182 x18_1) ((rd_L1 t182 x18_1).length : Int) (wrap64 (x25_2 + 1))) = some r := by rw [if_neg (show ¬ (false = true) by decide)] at H; exact H
                                    clear H
                                    have H := H1
                                    clear H1
                                    have H' := Aside0.mk H
                                    clear H
                                    have p193 : 0 ≤ (x25_2 : Int) := of_decide_eq_true (by first | (with_reducible assumption) | assumption)
                                    have q193 : x25_2 < ((rd_L1 t182 x18_1).length : Int) := of_decide_eq_true (by first | (with_reducible assumption) | assumption)
                                    obtain ⟨ad193, e193, hx193_0⟩ := Kd.at_int HR188_0.out x25_2 p193 q193
                                    cases e193
                                    replace p193 := eq_true p193
                                    replace q193 := eq_true q193
                                    try go_wp2
                                    have n0_ := Aside0.mk (Kd.R_drew HO_4.out)
                                    have n1_ := Aside0.mk (Kd.S_drew HO_16.out)
                                    have n2_ := Aside0.mk (Kd.C_drew HR188_0.out)
                                    have n3_ := Aside0.mk (below_drew1 HB.out)
                                    clear HO_4
                                    clear HO_16
                                    clear HR188_0
                                    clear HB
                                    have HO_4 := n0_
                                    have HO_16 := n1_
                                    have HR188_0 := n2_
                                    have HB := n3_
                                    clear n0_ n1_ n2_ n3_
                                    have p194 : 0 ≤ (x18_1 : Int) := of_decide_eq_true (by first | (with_reducible assumption) | assumption)
                                    have q194 : x18_1 < (l0.length : Int) := of_decide_eq_true (by first | (with_reducible assumption) | assumption)
                                    obtain ⟨ad194, A194_5, c194_5, e194, hx194_0, hx194_1, hx194_2, hx194_3, hx194_4, hx194_5, hl194_5, hi194_5⟩ := at_T37 HR0.out x18_1 p194 q194
                                    have hw194_5 := hx194_5
                                    have hw194_4 := hx194_4
                                    have hw194_3 := hx194_3
                                    have hw194_2 := hx194_2
                                    have hw194_1 := hx194_1
                                    have hw194_0 := hx194_0
                                    cases e194
                                    replace hx194_0 := (HB.out.cell (World.block_lt_of_cell? w _ hx194_0)).trans hx194_0
                                    replace hx194_1 := (HB.out.cell (World.block_lt_of_cell? w _ hx194_1)).trans hx194_1
                                    replace hx194_2 := (HB.out.cell (World.block_lt_of_cell? w _ hx194_2)).trans hx194_2
                                    replace hx194_3 := (HB.out.cell (World.block_lt_of_cell? w _ hx194_3)).trans hx194_3
                                    replace hx194_4 := (HB.out.cell (World.block_lt_of_cell? w _ hx194_4)).trans hx194_4
                                    replace hx194_5 := (HB.out.cell (World.block_lt_of_cell? w _ hx194_5)).trans hx194_5
                                    have HR194_5 := Aside0.mk hi194_5
                                    have HC194_5 := Aside0.mk hl194_5
                                    clear hi194_5 hl194_5
                                    replace p194 := eq_true p194
                                    replace q194 := eq_true q194
                                    have p195 : 0 ≤ ((rd (rd_L1 t182 x18_1) x25_2) : Int) := of_decide_eq_true (by first | (with_reducible assumption) | assumption)
                                    have q195 : (rd (rd_L1 t182 x18_1) x25_2) < (l0.length : Int) := of_decide_eq_true (by first | (with_reducible assumption) | assumption)
                                    obtain ⟨ad195, A195_5, c195_5, e195, hx195_0, hx195_1, hx195_2, hx195_3, hx195_4, hx195_5, hl195_5, hi195_5⟩ := at_T37 HR0.out (rd (rd_L1 t182 x18_1) x25_2) p195 q195
                                    have hw195_5 := hx195_5
                                    have hw195_4 := hx195_4
                                    have hw195_3 := hx195_3
                                    have hw195_2 := hx195_2
                                    have hw195_1 := hx195_1
                                    have hw195_0 := hx195_0
                                    obtain rfl : ad194 = ad195 := (by injection e195)
                                    replace hx195_0 := (HB.out.cell (World.block_lt_of_cell? w _ hx195_0)).trans hx195_0
                                    replace hx195_1 := (HB.out.cell (World.block_lt_of_cell? w _ hx195_1)).trans hx195_1
                                    replace hx195_2 := (HB.out.cell (World.block_lt_of_cell? w _ hx195_2)).trans hx195_2
                                    replace hx195_3 := (HB.out.cell (World.block_lt_of_cell? w _ hx195_3)).trans hx195_3
                                    replace hx195_4 := (HB.out.cell (World.block_lt_of_cell? w _ hx195_4)).trans hx195_4
                                    replace hx195_5 := (HB.out.cell (World.block_lt_of_cell? w _ hx195_5)).trans hx195_5
                                    have HR195_5 := Aside0.mk hi195_5
                                    have HC195_5 := Aside0.mk hl195_5
                                    clear hi195_5 hl195_5
                                    replace p195 := eq_true p195
                                    replace q195 := eq_true q195
                                    refine start_ (n := 10) (S := fun w' => w'.cell? (ad194.add ((x18_1).toNat * 6)) = some (.int .i64 ((rd_T37 l0 x18_1).f0)) ∧ w'.cell? ⟨(ad194.add ((x18_1).toNat * 6)).block, (ad194.add ((x18_1).toNat * 6)).off + 1, none⟩ = some (.int .i64 ((rd_T37 l0 x18_1).f1)) ∧ w'.cell? ⟨(ad194.add ((x18_1).toNat * 6)).block, (ad194.add ((x18_1).toNat * 6)).off + 2, none⟩ = some (.int .i64 ((rd_T37 l0 x18_1).f2)) ∧ w'.cell? ⟨(ad194.add ((x18_1).toNat * 6)).block, (ad194.add ((x18_1).toNat * 6)).off + 3, none⟩ = some (.int .i64 ((rd_T37 l0 x18_1).f3)) ∧ w'.cell? ⟨(ad194.add ((x18_1).toNat * 6)).block, (ad194.add ((x18_1).toNat * 6)).off + 4, none⟩ = some (.int .i64 ((rd_T37 l0 x18_1).f4)) ∧ w'.cell? ⟨(ad194.add ((x18_1).toNat * 6)).block, (ad194.add ((x18_1).toNat * 6)).off + 5, none⟩ = some (.slice A194_5 ((rd_T37 l0 x18_1).f5).length c194_5) ∧ w'.cell? (ad194.add (((rd (rd_L1 t182 x18_1) x25_2)).toNat * 6)) = some (.int .i64 ((rd_T37 l0 (rd (rd_L1 t182 x18_1) x25_2)).f0)) ∧ w'.cell? ⟨(ad194.add (((rd (rd_L1 t182 x18_1) x25_2)).toNat * 6)).block, (ad194.add (((rd (rd_L1 t182 x18_1) x25_2)).toNat * 6)).off + 1, none⟩ = some (.int .i64 ((rd_T37 l0 (rd (rd_L1 t182 x18_1) x25_2)).f1)) ∧ w'.cell? ⟨(ad194.add (((rd (rd_L1 t182 x18_1) x25_2)).toNat * 6)).block, (ad194.add (((rd (rd_L1 t182 x18_1) x25_2)).toNat * 6)).off + 2, none⟩ = some (.int .i64 ((rd_T37 l0 (rd (rd_L1 t182 x18_1) x25_2)).f2)) ∧ w'.cell? ⟨(ad194.add (((rd (rd_L1 t182 x18_1) x25_2)).toNat * 6)).block, (ad194.add (((rd (rd_L1 t182 x18_1) x25_2)).toNat * 6)).off + 3, none⟩ = some (.int .i64 ((rd_T37 l0 (rd (rd_L1 t182 x18_1) x25_2)).f3)) ∧ w'.cell? ⟨(ad194.add (((rd (rd_L1 t182 x18_1) x25_2)).toNat * 6)).block, (ad194.add (((rd (rd_L1 t182 x18_1) x25_2)).toNat * 6)).off + 4, none⟩ = some (.int .i64 ((rd_T37 l0 (rd (rd_L1 t182 x18_1) x25_2)).f4)) ∧ w'.cell? ⟨(ad194.add (((rd (rd_L1 t182 x18_1) x25_2)).toNat * 6)).block, (ad194.add (((rd (rd_L1 t182 x18_1) x25_2)).toNat * 6)).off + 5, none⟩ = some (.slice A195_5 ((rd_T37 l0 (rd (rd_L1 t182 x18_1) x25_2)).f5).length c195_5)) (ds := []) #[false, false, false, false, false, false, false, false, false, false] (by kernel_rfl) rfl rfl ⟨((HB.out.cell (World.block_lt_of_cell? w _ hw194_0)).trans hw194_0), ((HB.out.cell (World.block_lt_of_cell? w _ hw194_1)).trans hw194_1), ((HB.out.cell (World.block_lt_of_cell? w _ hw194_2)).trans hw194_2), ((HB.out.cell (World.block_lt_of_cell? w _ hw194_3)).trans hw194_3), ((HB.out.cell (World.block_lt_of_cell? w _ hw194_4)).trans hw194_4), ((HB.out.cell (World.block_lt_of_cell? w _ hw194_5)).trans hw194_5), ((HB.out.cell (World.block_lt_of_cell? w _ hw195_0)).trans hw195_0), ((HB.out.cell (World.block_lt_of_cell? w _ hw195_1)).trans hw195_1), ((HB.out.cell (World.block_lt_of_cell? w _ hw195_2)).trans hw195_2), ((HB.out.cell (World.block_lt_of_cell? w _ hw195_3)).trans hw195_3), ((HB.out.cell (World.block_lt_of_cell? w _ hw195_4)).trans hw195_4), ((HB.out.cell (World.block_lt_of_cell? w _ hw195_5)).trans hw195_5)⟩ (fun hHeld => ?_); refine with_tabW sched_Cost.tab10 sched_Cost.bits10 (fun HT_ HW_ => ?_)
                                    generalize wr.drew = w28 at HO_4 HO_16 HR188_0 HB HR194_5 HR195_5 hx194_0 hx194_1 hx194_2 hx194_3 hx194_4 hx194_5 hx195_0 hx195_1 hx195_2 hx195_3 hx195_4 hx195_5 hHeld ⊢
                                    refine pure_ (i := 0) (N := some 29) (v := ?_) (a' := ?_) #[true, false, false, false, false, false, false, false, false, false] rfl rfl (any_of HT_.out (by kernel_rfl)) (fun _ _ _ h => h) (Or.inl ⟨by rfl, ?_⟩) ?_ ?_
                                    rotate_left
                                    · intro w'
                                      go_simp
                                      with_reducible rfl
                                    rotate_left
                                    · simp only [Act.put, List.setIfInBounds_toArray, List.set_cons_zero, List.set_cons_succ, i64_w, i32_w]
                                      rfl
                                    refine pure_ (i := 1) (N := some 30) (v := ?_) (a' := ?_) #[true, true, false, false, false, false, false, false, false, false] rfl rfl (any_of HT_.out (by kernel_rfl)) (fun _ _ _ h => h) (Or.inl ⟨by rfl, ?_⟩) ?_ ?_
                                    rotate_left
                                    · intro w'
                                      go_simp
                                      with_reducible rfl
                                    rotate_left
                                    · simp only [Act.put, List.setIfInBounds_toArray, List.set_cons_zero, List.set_cons_succ, i64_w, i32_w]
                                      rfl
                                    refine pure_ (i := 2) (N := some 31) (v := ?_) (a' := ?_) #[true, true, true, false, false, false, false, false, false, false] rfl rfl (any_of HT_.out (by kernel_rfl)) (fun _ _ _ h => h) (Or.inl ⟨by rfl, ?_⟩) ?_ ?_
                                    rotate_left
                                    · intro w'
                                      go_simp
                                      with_reducible rfl
                                    rotate_left
                                    · simp only [Act.put, List.setIfInBounds_toArray, List.set_cons_zero, List.set_cons_succ, i64_w, i32_w]
                                      rfl
                                    refine pure_ (i := 4) (N := some 33) (v := ?_) (a' := ?_) #[true, true, true, false, true, false, false, false, false, false] rfl rfl (any_of HT_.out (by kernel_rfl)) (fun _ _ _ h => h) (Or.inl ⟨by rfl, ?_⟩) ?_ ?_
                                    rotate_left
                                    · intro w'
                                      go_simp
                                      with_reducible rfl
                                    rotate_left
                                    · simp only [Act.put, List.setIfInBounds_toArray, List.set_cons_zero, List.set_cons_succ, i64_w, i32_w]
                                      rfl
                                    refine pure_ (i := 5) (N := some 34) (v := ?_) (a' := ?_) #[true, true, true, false, true, true, false, false, false, false] rfl rfl (any_of HT_.out (by kernel_rfl)) (fun _ _ _ h => h) (Or.inl ⟨by rfl, ?_⟩) ?_ ?_
                                    rotate_left
                                    · intro w'
                                      go_simp
                                      with_reducible rfl
                                    rotate_left
                                    · simp only [Act.put, List.setIfInBounds_toArray, List.set_cons_zero, List.set_cons_succ, i64_w, i32_w]
                                      rfl
                                    refine pure_ (i := 6) (N := some 35) (v := ?_) (a' := ?_) #[true, true, true, false, true, true, true, false, false, false] rfl rfl (any_of HT_.out (by kernel_rfl)) (fun _ _ _ h => h) (Or.inl ⟨by rfl, ?_⟩) ?_ ?_
                                    rotate_left
                                    · intro w'
                                      go_simp
                                      with_reducible rfl
                                    rotate_left
                                    · simp only [Act.put, List.setIfInBounds_toArray, List.set_cons_zero, List.set_cons_succ, i64_w, i32_w]
                                      rfl
                                    refine take_ (i := 3) (N := some 32) (v := ?_) (a' := ?_) #[true, true, true, true, true, true, true, false, false, false] rfl rfl (take_ofW HT_.out HW_.out (by kernel_rfl)) (fun _ _ _ h => h) (Or.inl ⟨by rfl, ?_⟩) hHeld ?_ ?_
                                    rotate_left
                                    · rintro w' ⟨s0, s1, s2, s3, s4, s5, s6, s7, s8, s9, s10, s11⟩
                                      go_simp
                                      with_reducible rfl
                                    rotate_left
                                    · simp only [Act.put, List.setIfInBounds_toArray, List.set_cons_zero, List.set_cons_succ, i64_w, i32_w]
                                      rfl
                                    refine take_ (i := 7) (N := some 36) (v := ?_) (a' := ?_) #[true, true, true, true, true, true, true, true, false, false] rfl rfl (take_ofW HT_.out HW_.out (by kernel_rfl)) (fun _ _ _ h => h) (Or.inl ⟨by rfl, ?_⟩) hHeld ?_ ?_
                                    rotate_left
                                    · rintro w' ⟨s0, s1, s2, s3, s4, s5, s6, s7, s8, s9, s10, s11⟩
                                      go_simp
                                      with_reducible rfl
                                    rotate_left
                                    · simp only [Act.put, List.setIfInBounds_toArray, List.set_cons_zero, List.set_cons_succ, i64_w, i32_w]
                                      rfl
                                    refine one_ (i := 8) (N := some 37) #[true, true, true, true, true, true, true, true, true, false] rfl rfl (one_of HT_.out (by kernel_rfl)) (by decide) (fun K hK => ?_)
                                    refine goes_ Try.func43 (by kernel_rfl) rfl #[.agg #[.int .i64 ((rd_T37 l0 (rd (rd_L1 t182 x18_1) x25_2)).f0), .int .i64 ((rd_T37 l0 (rd (rd_L1 t182 x18_1) x25_2)).f1), .int .i64 ((rd_T37 l0 (rd (rd_L1 t182 x18_1) x25_2)).f2), .int .i64 ((rd_T37 l0 (rd (rd_L1 t182 x18_1) x25_2)).f3), .int .i64 ((rd_T37 l0 (rd (rd_L1 t182 x18_1) x25_2)).f4), .slice A195_5 ((rd_T37 l0 (rd (rd_L1 t182 x18_1) x25_2)).f5).length c195_5]] (by rfl) rfl rfl (by (try simp only [List.map_toArray, List.map_cons, List.map_nil]); first | done | rfl | (simp only [List.length_drop, List.length_take]; rfl)) ?_
                                    with_reducible refine (code_Sets.calls k2 ((rd_T37 l0 (rd (rd_L1 t182 x18_1) x25_2)).f0) ((rd_T37 l0 (rd (rd_L1 t182 x18_1) x25_2)).f1) ((rd_T37 l0 (rd (rd_L1 t182 x18_1) x25_2)).f2) ((rd_T37 l0 (rd (rd_L1 t182 x18_1) x25_2)).f3) ((rd_T37 l0 (rd (rd_L1 t182 x18_1) x25_2)).f4) _ _ ((rd_T37 l0 (rd (rd_L1 t182 x18_1) x25_2)).f5) t196 _ ?side1 ?side2 A19.out).mono ?_
                                    (case side1 => repeat (first | exact (Kd.C_below HR195_5.out HB.out) | (with_reducible refine Kd.C_alloc ?_ _) | (with_reducible refine Kd.C_drewN ?_ _) | (with_reducible refine Kd.C_drew ?_)))
                                    (case side2 => exact HC195_5.out)
                                    rintro e w29 ⟨rfl, hb⟩
                                    refine ⟨_, rfl, ?_⟩
                                    have n0_ := Aside0.mk (Kd.R_below (by (with_reducible repeat (first | apply Kd.R_alloc | apply Kd.R_drewN | apply Kd.R_drew)); exact HO_4.out) hb)
                                    have n1_ := Aside0.mk (Kd.S_below (by (with_reducible repeat (first | apply Kd.S_alloc | apply Kd.S_drewN | apply Kd.S_drew)); exact HO_16.out) hb)
                                    have n2_ := Aside0.mk (Kd.C_below (by repeat (first | (with_reducible exact HR188_0.out) | (with_reducible refine Kd.C_alloc ?_ _) | (with_reducible refine Kd.C_drewN ?_ _) | (with_reducible refine Kd.C_drew ?_) | exact HR188_0.out)) hb)
                                    have n3_ := Aside0.mk (below_step (by repeat (first | (with_reducible first | exact HB.out | apply below_alloc | apply pw_below_drewN | apply below_drew1) | exact HB.out)) hb)
                                    clear HO_4
                                    clear HO_16
                                    clear HR188_0
                                    clear HB
                                    have HO_4 := n0_
                                    have HO_16 := n1_
                                    have HR188_0 := n2_
                                    have HB := n3_
                                    clear n0_ n1_ n2_ n3_
                                    (try clear hb)
                                    (try clear hb2)
                                    (try clear hk)
                                    (try clear hi)
                                    refine hK.out _ _ ⟨((HB.out.cell (World.block_lt_of_cell? w _ hw194_0)).trans hw194_0), ((HB.out.cell (World.block_lt_of_cell? w _ hw194_1)).trans hw194_1), ((HB.out.cell (World.block_lt_of_cell? w _ hw194_2)).trans hw194_2), ((HB.out.cell (World.block_lt_of_cell? w _ hw194_3)).trans hw194_3), ((HB.out.cell (World.block_lt_of_cell? w _ hw194_4)).trans hw194_4), ((HB.out.cell (World.block_lt_of_cell? w _ hw194_5)).trans hw194_5), ((HB.out.cell (World.block_lt_of_cell? w _ hw195_0)).trans hw195_0), ((HB.out.cell (World.block_lt_of_cell? w _ hw195_1)).trans hw195_1), ((HB.out.cell (World.block_lt_of_cell? w _ hw195_2)).trans hw195_2), ((HB.out.cell (World.block_lt_of_cell? w _ hw195_3)).trans hw195_3), ((HB.out.cell (World.block_lt_of_cell? w _ hw195_4)).trans hw195_4), ((HB.out.cell (World.block_lt_of_cell? w _ hw195_5)).trans hw195_5)⟩ (fun hHeld => ?_)
                                    clear hK K
                                    refine norm_ (a' := ?_) ?_ ?_
                                    rotate_left
                                    · show Act.put _ (some 37) _ = _
                                      simp only [Act.put, List.setIfInBounds_toArray, List.set_cons_zero, List.set_cons_succ, i64_w, i32_w]
                                      rfl
                                    refine one_ (i := 9) (N := some 38) #[true, true, true, true, true, true, true, true, true, true] rfl rfl (one_of HT_.out (by kernel_rfl)) (by decide) (fun K hK => ?_)
                                    refine goes_ Try.func42 (by kernel_rfl) rfl #[.agg #[.int .i64 ((rd_T37 l0 x18_1).f0), .int .i64 ((rd_T37 l0 x18_1).f1), .int .i64 ((rd_T37 l0 x18_1).f2), .int .i64 ((rd_T37 l0 x18_1).f3), .int .i64 ((rd_T37 l0 x18_1).f4), .slice A194_5 ((rd_T37 l0 x18_1).f5).length c194_5], .int .i64 t196] (by rfl) rfl rfl (by (try simp only [List.map_toArray, List.map_cons, List.map_nil]); first | done | rfl | (simp only [List.length_drop, List.length_take]; rfl)) ?_
                                    with_reducible refine (sched_reads.calls k2 ((rd_T37 l0 x18_1).f0) ((rd_T37 l0 x18_1).f1) ((rd_T37 l0 x18_1).f2) ((rd_T37 l0 x18_1).f3) ((rd_T37 l0 x18_1).f4) _ _ ((rd_T37 l0 x18_1).f5) t196 false _ ?side1 ?side2 A20.out).mono ?_
                                    (case side1 => repeat (first | exact (Kd.C_below HR194_5.out HB.out) | (with_reducible refine Kd.C_alloc ?_ _) | (with_reducible refine Kd.C_drewN ?_ _) | (with_reducible refine Kd.C_drew ?_)))
                                    (case side2 => exact HC194_5.out)
                                    rintro e w30 ⟨rfl, hb⟩
                                    refine ⟨_, rfl, ?_⟩
                                    have n0_ := Aside0.mk (Kd.R_below (by (with_reducible repeat (first | apply Kd.R_alloc | apply Kd.R_drewN | apply Kd.R_drew)); exact HO_4.out) hb)
                                    have n1_ := Aside0.mk (Kd.S_below (by (with_reducible repeat (first | apply Kd.S_alloc | apply Kd.S_drewN | apply Kd.S_drew)); exact HO_16.out) hb)
                                    have n2_ := Aside0.mk (Kd.C_below (by repeat (first | (with_reducible exact HR188_0.out) | (with_reducible refine Kd.C_alloc ?_ _) | (with_reducible refine Kd.C_drewN ?_ _) | (with_reducible refine Kd.C_drew ?_) | exact HR188_0.out)) hb)
                                    have n3_ := Aside0.mk (below_step (by repeat (first | (with_reducible first | exact HB.out | apply below_alloc | apply pw_below_drewN | apply below_drew1) | exact HB.out)) hb)
                                    clear HO_4
                                    clear HO_16
                                    clear HR188_0
                                    clear HB
                                    have HO_4 := n0_
                                    have HO_16 := n1_
                                    have HR188_0 := n2_
                                    have HB := n3_
                                    clear n0_ n1_ n2_ n3_
                                    (try clear hb)
                                    (try clear hb2)
                                    (try clear hk)
                                    (try clear hi)
                                    refine hK.out _ _ ⟨((HB.out.cell (World.block_lt_of_cell? w _ hw194_0)).trans hw194_0), ((HB.out.cell (World.block_lt_of_cell? w _ hw194_1)).trans hw194_1), ((HB.out.cell (World.block_lt_of_cell? w _ hw194_2)).trans hw194_2), ((HB.out.cell (World.block_lt_of_cell? w _ hw194_3)).trans hw194_3), ((HB.out.cell (World.block_lt_of_cell? w _ hw194_4)).trans hw194_4), ((HB.out.cell (World.block_lt_of_cell? w _ hw194_5)).trans hw194_5), ((HB.out.cell (World.block_lt_of_cell? w _ hw195_0)).trans hw195_0), ((HB.out.cell (World.block_lt_of_cell? w _ hw195_1)).trans hw195_1), ((HB.out.cell (World.block_lt_of_cell? w _ hw195_2)).trans hw195_2), ((HB.out.cell (World.block_lt_of_cell? w _ hw195_3)).trans hw195_3), ((HB.out.cell (World.block_lt_of_cell? w _ hw195_4)).trans hw195_4), ((HB.out.cell (World.block_lt_of_cell? w _ hw195_5)).trans hw195_5)⟩ (fun hHeld => ?_)
                                    clear hK K
                                    refine norm_ (a' := ?_) ?_ ?_
                                    rotate_left
                                    · show Act.put _ (some 38) _ = _
                                      simp only [Act.put, List.setIfInBounds_toArray, List.set_cons_zero, List.set_cons_succ, i64_w, i32_w]
                                      rfl
                                    refine done_ (done_of HT_.out (by kernel_rfl)) ?_
                                    try go_wp2
                                    go_roundg k2
                                    case measure => have := HK1.out; have := HK2.out; omega
                                    case rel => exact ⟨(x5_2), (wrap64 (x25_2 + 1)), (by first | rfl | (simp; done) | (simp [*]; done)), (by first | rfl | (simp; done) | (simp [*]; done)), H', ⟨by have := HK1.out; have := HK2.out; omega⟩, ⟨by (with_reducible repeat (first | apply Kd.R_alloc | apply Kd.R_drewN | apply Kd.R_drew)); exact HO_4.out⟩, ⟨by (with_reducible repeat (first | apply Kd.S_alloc | apply Kd.S_drewN | apply Kd.S_drew)); exact HO_16.out⟩, ⟨by repeat (first | (with_reducible exact HR188_0.out) | (with_reducible refine Kd.C_alloc ?_ _) | (with_reducible refine Kd.C_drewN ?_ _) | (with_reducible refine Kd.C_drew ?_) | exact HR188_0.out)⟩, ⟨by repeat (first | (with_reducible first | exact HB.out | apply below_alloc | apply pw_below_drewN | apply below_drew1) | exact HB.out)⟩⟩
                                · rw [if_neg c18] at H
                                  exact absurd H (by simp)
                              · rw [if_neg c17] at H
                                exact absurd H (by simp)
                            · rw [if_neg c16] at H
                              exact absurd H (by simp)
                          · rw [if_neg c15] at H
                            exact absurd H (by simp)
                        · rw [if_neg c14] at H
                          exact absurd H (by simp)
                      · rw [if_neg c13] at H
                        exact absurd H (by simp)
                    · rw [if_neg c12] at H
                      have c12b0 : decide (x25_2 < ((rd_L1 t182 x18_1).length : Int)) = false := decide_eq_false c12
                      clear c12
                      by_cases c31 : 0 ≤ x18_1
                      · rw [if_pos c31] at H
                        have c31b0 : decide (0 ≤ x18_1) = true := decide_eq_true c31
                        clear c31
                        by_cases c32 : x18_1 < (l0.length : Int)
                        · rw [if_pos c32] at H
                          have c32b0 : decide (x18_1 < (l0.length : Int)) = true := decide_eq_true c32
                          clear c32
                          replace H := Option.bind_eq_some_iff.mp H
                          obtain ⟨t190, A330, H⟩ := H
                          replace H : (if x18_1 < (x4_1.length : Int) then ((some (x4_1.set (x18_1 : Int).toNat (wrap64 (x5_2 + t190)) : List Int)).bind fun y191 => (sched_Cost.l0 k2 l0 y191 (wrap64 (x5_2 + 1)) (mx x6_1 (rd y191 x18_1)) t182 (t182.length : Int) (wrap64 (x18_1 + 1)))) else (none)) = some r := H
                          have A33 := Aside0.mk A330
                          clear A330
                          by_cases c34 : x18_1 < (x4_1.length : Int)
                          · rw [if_pos c34] at H
                            have c34b0 : decide (x18_1 < (x4_1.length : Int)) = true := decide_eq_true c34
                            clear c34
                            obtain ⟨y191, hy191⟩ : ∃ y_ : List Int, y_ = (x4_1.set (x18_1 : Int).toNat (wrap64 (x5_2 + t190))) := ⟨_, rfl⟩
                            replace H : (sched_Cost.l0 k2 l0 y191 (wrap64 (x5_2 + 1)) (mx x6_1 (rd y191 x18_1)) t182 (t182.length : Int) (wrap64 (x18_1 + 1))) = some r := by first | (rw [hy191]; with_reducible exact H) | (have H2_ := (Option.bind_some _ _).symm.trans H; rw [hy191]; with_reducible exact H2_) | (have H2_ := (Option.bind_some _ _).symm.trans H; with_reducible exact H2_) | with_reducible exact H | (rw [hy191]; exact H) | exact H
                            have Ny191 := Aside0.mk hy191
                            clear hy191
                            obtain ⟨ji36, hji36⟩ : ∃ j_ : Int, (mx x6_1 (rd y191 x18_1)) = j_ := ⟨_, rfl⟩
                            replace H : (sched_Cost.l0 k2 l0 y191 (wrap64 (x5_2 + 1)) ji36 t182 (t182.length : Int) (wrap64 (x18_1 + 1))) = some r := by first | (rw [hji36] at H; exact H) | (simp only [hji36] at H ⊢; exact H)
                            (try rw [hji36] at A33)
                            have hji36_ : (if x6_1 < (rd y191 x18_1) then (rd y191 x18_1) else x6_1) = ji36 := hji36
                            have H' := Aside0.mk H
                            clear H
                            have p189 : 0 ≤ (x18_1 : Int) := of_decide_eq_true (by first | (with_reducible assumption) | assumption)
                            have q189 : x18_1 < (l0.length : Int) := of_decide_eq_true (by first | (with_reducible assumption) | assumption)
                            obtain ⟨ad189, A189_5, c189_5, e189, hx189_0, hx189_1, hx189_2, hx189_3, hx189_4, hx189_5, hl189_5, hi189_5⟩ := at_T37 HR0.out x18_1 p189 q189
                            cases e189
                            replace hx189_0 := (HB.out.cell (World.block_lt_of_cell? w _ hx189_0)).trans hx189_0
                            replace hx189_1 := (HB.out.cell (World.block_lt_of_cell? w _ hx189_1)).trans hx189_1
                            replace hx189_2 := (HB.out.cell (World.block_lt_of_cell? w _ hx189_2)).trans hx189_2
                            replace hx189_3 := (HB.out.cell (World.block_lt_of_cell? w _ hx189_3)).trans hx189_3
                            replace hx189_4 := (HB.out.cell (World.block_lt_of_cell? w _ hx189_4)).trans hx189_4
                            replace hx189_5 := (HB.out.cell (World.block_lt_of_cell? w _ hx189_5)).trans hx189_5
                            have HR189_5 := Aside0.mk hi189_5
                            have HC189_5 := Aside0.mk hl189_5
                            clear hi189_5 hl189_5
                            replace p189 := eq_true p189
                            replace q189 := eq_true q189
                            go_wp2_with (first | ((with_reducible refine gate_callee (f := 14) rfl ?_); refine goesL_ (some 53) rfl rfl Try.func14 (by kernel_rfl) rfl #[.agg #[.int .i64 ((rd_T37 l0 x18_1).f0), .int .i64 ((rd_T37 l0 x18_1).f1), .int .i64 ((rd_T37 l0 x18_1).f2), .int .i64 ((rd_T37 l0 x18_1).f3), .int .i64 ((rd_T37 l0 x18_1).f4), .slice A189_5 ((rd_T37 l0 x18_1).f5).length c189_5]] rfl (by (try simp only [List.map_toArray, List.map_cons, List.map_nil]); first | done | rfl | (simp only [List.length_drop, List.length_take]; rfl)) ?_; (with_reducible refine (sched_Latency.calls ((rd_T37 l0 x18_1).f0) ((rd_T37 l0 x18_1).f1) ((rd_T37 l0 x18_1).f2) ((rd_T37 l0 x18_1).f3) ((rd_T37 l0 x18_1).f4) _ _ ((rd_T37 l0 x18_1).f5) t190 _ ?side1 ?side2 A33.out).mono ?_); (case side1 => repeat (first | exact (Kd.C_below HR189_5.out HB.out) | (with_reducible refine Kd.C_alloc ?_ _) | (with_reducible refine Kd.C_drewN ?_ _) | (with_reducible refine Kd.C_drew ?_))); (case side2 => exact HC189_5.out); rintro e w37 ⟨rfl, hb⟩; refine ⟨_, rfl, ?_⟩; have n0_ := Aside0.mk (Kd.R_below (by (with_reducible repeat (first | apply Kd.R_alloc | apply Kd.R_drewN | apply Kd.R_drew)); exact HO_4.out) hb); have n1_ := Aside0.mk (Kd.S_below (by (with_reducible repeat (first | apply Kd.S_alloc | apply Kd.S_drewN | apply Kd.S_drew)); exact HO_16.out) hb); have n2_ := Aside0.mk (Kd.C_below (by repeat (first | (with_reducible exact HR188_0.out) | (with_reducible refine Kd.C_alloc ?_ _) | (with_reducible refine Kd.C_drewN ?_ _) | (with_reducible refine Kd.C_drew ?_) | exact HR188_0.out)) hb); have n3_ := Aside0.mk (below_step (by repeat (first | (with_reducible first | exact HB.out | apply below_alloc | apply pw_below_drewN | apply below_drew1) | exact HB.out)) hb); clear HO_4; clear HO_16; clear HR188_0; clear HB; have HO_4 := n0_; have HO_16 := n1_; have HR188_0 := n2_; have HB := n3_; clear n0_ n1_ n2_ n3_; (try clear hb); (try clear hb2); (try clear hk); (try clear hi); have p35 : 0 ≤ (x18_1 : Int) := of_decide_eq_true (by first | (with_reducible assumption) | assumption); have q35 : (x18_1 : Int) < ((x4_1.length : Int) : Int) := of_decide_eq_true (by first | (with_reducible assumption) | assumption); obtain ⟨go35, co35, eo35, gb35, gl35, cl35, HG35⟩ := Kd.R_form HO_4.out (by omega); (first | cases eo35 | (injection eo35 with ea_ en_ ec_; (first | subst ea_ | (injection ea_ with ea_; subst ea_)); subst ec_; clear en_)); have GB35 := Aside0.mk gb35; have GG35 := Aside0.mk HG35; clear gb35 gl35 HG35; obtain ⟨hx35_0, hf35_0⟩ := Kd.R_celln 0 HO_4.out (x18_1 : Int) p35 q35; replace p35 := eq_true p35; replace q35 := eq_true q35; obtain ⟨hy38_, hz38_⟩ := Kd.R_celln 0 HO_4.out (x18_1 : Int) (of_decide_eq_true (by first | (with_reducible assumption) | assumption)) (of_decide_eq_true (by first | (with_reducible assumption) | assumption)); have HP38 := Kd.R_putg HO_4.out (x18_1 : Int) (wrap64 (x5_2 + t190))) | ((with_reducible refine gate_store (t := 3) (p := 55) rfl ?_); refine store_event (t := 3) (p := 55) (v := ?vo_w39) (w1 := (w37.setCell ⟨go35, (x18_1 : Int).toNat, none⟩ (.int .i64 (wrap64 (x5_2 + t190))))) ?hg ?ho ?hn ?hr ?_; (case ho => rfl); (case hg => rfl); (case hn => rfl); (case hr => first | (go_simp; done) | (go_simp; rfl)); intro w39 hw; have hg : w37.grownBy w39 (some go35) := (by rw [hw]; exact HP38.2); have hp_ : Kd.R (Kd.int .i64) 3 w39 w.heap.size (fun _ => True) (.slice (some ⟨go35, 0, none⟩) x4_1.length co35) y191 := (by rw [hw, Ny191.out]; exact HP38.1); clear HP38; have n0_ := Aside0.mk (hp_); have n1_ := Aside0.mk (Kd.S_after (v := (.slice (some ⟨go35, 0, none⟩) x4_1.length co35)) (v1 := (.slice (some ⟨go35, 0, none⟩) x4_1.length co35)) (ok := (fun _ => True)) (by (with_reducible repeat (first | apply Kd.S_alloc | apply Kd.S_drewN | apply Kd.S_drew)); exact Kd.S_mono HO_16.out (fun _ hk => ⟨trivial, hk⟩)) hg (.inl rfl)); have n2_ := Aside0.mk ((by rw [hw]; exact below_set (HB.out) GB35.out : Below w.heap.size w w39)); clear HO_4; clear HO_16; clear HB; have HO_4 := n0_; have HO_16 := n1_; have HB := n2_; clear n0_ n1_ n2_; clear hg hw hp_; have p192 : 0 ≤ (x18_1 : Int) := of_decide_eq_true (by first | (with_reducible assumption) | assumption); have q192 : x18_1 < (y191.length : Int) := (by have h_ : (x18_1 : Int) < ((x4_1.length : Int) : Int) := of_decide_eq_true (by first | (with_reducible assumption) | assumption); first | (have e_ := (Kd.R_reads' HO_4.out).1; omega) | simpa only [Ny191.out, List.length_set] using h_); have ql192 : ((x18_1 : Int) < ((x4_1.length : Int) : Int)) = True := eq_true (of_decide_eq_true (by first | (with_reducible assumption) | assumption)); obtain ⟨ad192, e192, hx192_0⟩ := Kd.at_int (Kd.R_reads' HO_4.out).2.2 x18_1 p192 q192; obtain rfl : (⟨go35, 0, none⟩ : Addr) = ad192 := (by injection e192); (first | simp only [add_plain] at hx192_0 | simp only [add_at] at hx192_0 | simp only [Addr.add, Nat.zero_add] at hx192_0 | skip); replace p192 := eq_true p192; replace q192 := eq_true q192))
                            go_roundg k2
                            case measure => have := HK1.out; have := HK2.out; omega
                            case rel => exact ⟨(y191), (wrap64 (x5_2 + 1)), (ji36), (wrap64 (x18_1 + 1)), (by first | rfl | (simp; done) | (simp [*]; done)), (by first | rfl | (simp; done) | (simp only [← hji36] <;> (first | rfl | simp)) | (simp [*]; done)), (by first | rfl | (simp; done) | (simp [*]; done)), H', ⟨by have := HK1.out; have := HK2.out; omega⟩, ⟨by (with_reducible repeat (first | apply Kd.R_alloc | apply Kd.R_drewN | apply Kd.R_drew)); exact HO_4.out⟩, ⟨by (with_reducible repeat (first | apply Kd.S_alloc | apply Kd.S_drewN | apply Kd.S_drew)); exact Kd.S_mono HO_16.out (fun _ hk => hk.2)⟩, ⟨by repeat (first | (with_reducible first | exact HB.out | apply below_alloc | apply pw_below_drewN | apply below_drew1) | exact HB.out)⟩⟩
                          · rw [if_neg c34] at H
                            exact absurd H (by simp)
                        · rw [if_neg c32] at H
                          exact absurd H (by simp)
                      · rw [if_neg c31] at H
                        exact absurd H (by simp)
              · rw [if_neg c11] at H
                exact absurd H (by simp)
            · rw [if_neg c10] at H
              exact absurd H (by simp)
          · rw [if_neg c9] at H
            have c9b0 : decide (x18_1 < (t182.length : Int)) = false := decide_eq_false c9
            clear c9
            obtain rfl := Option.some.inj H
            go_wp2
            go_ret
            exact ⟨by first | rfl | (simp [errW_none, errW_some] <;> rfl) | (simp [*, errW_none, errW_some] <;> rfl), by repeat (first | (with_reducible first | exact HB.out | apply below_alloc | apply pw_below_drewN | apply below_drew1) | exact HB.out)⟩
    · rw [if_neg c4] at H
      exact absurd H (by simp)
  · rw [if_neg c3] at H
    exact absurd H (by simp)

end Go.Proofs.Ytphmlkbmnmicpaa.A

/- What the machine does at this function, and a plain Lean function that says the same: written by a program for this claim; Lean checks it. -/
namespace Go.Proofs.Ytphmlkbmnmicpaa.A
open Go.RowKit Go.Proofs.YtphmlkbmnmicpaaW.PrintWords Go.Proofs.YtphmlkbmnmicpaaW.PrintLast Go.Proofs.YtphmlkbmnmicpaaW.PrintMore
attribute [local go_sem] max2_int min2_int max_two min_two max_three min_three max_four min_four   -- for this text's walks alone
set_option linter.unusedVariables false
set_option linter.unusedSimpArgs false

/-! ### sched_Heights: function 20 -/
def sched_Heights.f (k : Nat) (l0 : List (S37)) : Option (List Int) := (sched_Deps.f k l0).bind fun t176 => ((sched_heights.f l0 t176).bind fun t179 => (some t179))
theorem sched_Heights.mono : ∀ a0 k, LeO (sched_Heights.f k a0) (sched_Heights.f (k + 1) a0) := by
  intro a0 k
  unfold sched_Heights.f
  repeat' first
      | (with_reducible exact sched_Deps.mono _ _)
      | (with_reducible exact LeO.refl _)
      | (with_reducible exact LeO.none _)
      | (with_reducible refine LeO.ite ?_ ?_)
      | (with_reducible refine LeO.bind ?_ (fun _ => ?_))
      | exact sched_Deps.mono _ _
      | exact LeO.none _
      | refine LeO.ite ?_ ?_
      | refine LeO.bind ?_ (fun _ => ?_)
set_option maxHeartbeats 8000000 in
set_option maxRecDepth 100000 in
theorem sched_Heights.calls (k : Nat) (A0 : Option Addr) (c0 : Nat) (l0 : List (S37)) (r : List Int) (w : World) (hr0 : Kd.C k37 w A0 l0.length l0) (hc0 : l0.length ≤ c0) (h : sched_Heights.f k l0 = some r) :
    Calls Try.prog 20 #[.slice A0 l0.length c0] w fun e w' => ∃ v0_ : Value, e = .returned (v0_) ∧ Kd.R (Kd.int .i64) 3 w' w.heap.size (fun _ => True) v0_ r ∧ Below w.heap.size w w' := by
  have HR0 := Aside0.mk hr0
  have HC0 := Aside0.mk hc0
  clear hr0 hc0
  have HB := Aside0.mk (Below.refl w.heap.size w)
  have H : ((sched_Deps.f k l0).bind fun t176 => ((sched_heights.f l0 t176).bind fun t179 => (some t179))) = some r := h
  clear h
  replace H := Option.bind_eq_some_iff.mp H
  obtain ⟨t176, A20, H⟩ := H
  replace H : ((sched_heights.f l0 t176).bind fun t179 => (some t179)) = some r := H
  have A2 := Aside0.mk A20
  clear A20
  replace H := Option.bind_eq_some_iff.mp H
  obtain ⟨t179, A30, H⟩ := H
  replace H : (some t179) = some r := H
  have A3 := Aside0.mk A30
  clear A30
  obtain rfl := Option.some.inj H
  go_enter Try.func20, Try.ntmps20
  go_wp2_with (first | ((with_reducible refine gate_callee (f := 17) rfl ?_); refine goesL_ (some 5) rfl rfl Try.func17 (by kernel_rfl) rfl #[.slice A0 l0.length c0] rfl (by (try simp only [List.map_toArray, List.map_cons, List.map_nil]); first | done | rfl | (simp only [List.length_drop, List.length_take]; rfl)) ?_; (with_reducible refine (sched_Deps.calls k _ _ l0 t176 _ ?side1 ?side2 A2.out).mono ?_); (case side1 => repeat (first | exact HR0.out | (with_reducible refine Kd.C_alloc ?_ _) | (with_reducible refine Kd.C_drewN ?_ _) | (with_reducible refine Kd.C_drew ?_))); (case side2 => exact HC0.out); rintro e w4 ⟨v177, rfl, ho0, hb⟩; refine ⟨_, rfl, ?_⟩; have n0_ := Aside0.mk (Kd.S_lower ho0 (below_size (by repeat (first | (with_reducible first | exact HB.out | apply below_alloc | apply pw_below_drewN | apply below_drew1) | exact HB.out)))); have n1_ := Aside0.mk (below_step (by repeat (first | (with_reducible first | exact HB.out | apply below_alloc | apply pw_below_drewN | apply below_drew1) | exact HB.out)) hb); clear HB; have HO178 := n0_; have HB := n1_; clear n0_ n1_; (try clear hb); (try clear hb2); (try clear hk); (try clear hi); (try clear ho0); obtain ⟨Ao5, co5, eo5⟩ := Kd.S_slice HO178.out; subst eo5) | ((with_reducible refine gate_callee (f := 34) rfl ?_); refine goesL_ (some 6) rfl rfl Try.func34 (by kernel_rfl) rfl #[.slice A0 l0.length c0, .slice Ao5 t176.length co5] rfl (by (try simp only [List.map_toArray, List.map_cons, List.map_nil]); first | done | rfl | (simp only [List.length_drop, List.length_take]; rfl)) ?_; (with_reducible refine (sched_heights.calls _ _ l0 _ _ t176 t179 _ ?side1 ?side2 ?side3 ?side4 A3.out).mono ?_); (case side1 => repeat (first | exact (Kd.C_below HR0.out HB.out) | (with_reducible refine Kd.C_alloc ?_ _) | (with_reducible refine Kd.C_drewN ?_ _) | (with_reducible refine Kd.C_drew ?_))); (case side2 => exact HC0.out); (case side3 => repeat (first | exact (Kd.S_reads' HO178.out).2.2 | (with_reducible refine Kd.C_alloc ?_ _) | (with_reducible refine Kd.C_drewN ?_ _) | (with_reducible refine Kd.C_drew ?_))); (case side4 => exact (Kd.S_reads' HO178.out).2.1); rintro e w6 ⟨v180, rfl, ho0, hb⟩; refine ⟨_, rfl, ?_⟩; have n0_ := Aside0.mk (Kd.S_elder' (by (with_reducible repeat (first | apply Kd.S_alloc | apply Kd.S_drewN | apply Kd.S_drew)); exact HO178.out) (Kd.R_base ho0) hb); have n1_ := Aside0.mk (Kd.R_lower ho0 (below_size (by repeat (first | (with_reducible first | exact HB.out | apply below_alloc | apply pw_below_drewN | apply below_drew1) | exact HB.out)))); have n2_ := Aside0.mk (below_step (by repeat (first | (with_reducible first | exact HB.out | apply below_alloc | apply pw_below_drewN | apply below_drew1) | exact HB.out)) hb); clear HO178; clear HB; have HO178 := n0_; have HO181 := n1_; have HB := n2_; clear n0_ n1_ n2_; (try clear hb); (try clear hb2); (try clear hk); (try clear hi); (try clear ho0)))
  go_ret
  exact ⟨_, by first | rfl | (simp [errW_none, errW_some] <;> rfl) | (simp [*, errW_none, errW_some] <;> rfl), by (with_reducible repeat (first | apply Kd.R_alloc | apply Kd.R_drewN | apply Kd.R_drew)); exact HO181.out, by repeat (first | (with_reducible first | exact HB.out | apply below_alloc | apply pw_below_drewN | apply below_drew1) | exact HB.out)⟩

end Go.Proofs.Ytphmlkbmnmicpaa.A

/- The small case at the head of each law of sched comes out right. -/
namespace Go.Proofs.Ytphmlkbmnmicpaa.A
open Go.RowKit Go.Proofs.YtphmlkbmnmicpaaW.PrintWords Go.Proofs.YtphmlkbmnmicpaaW.PrintLast Go.Shelf
set_option linter.unusedVariables false
set_option linter.unusedSimpArgs false

theorem R_new_lit {α : Type} (d : Kd α) (W : World) (base e : Nat) {xs : List α} {inner : List Value} {ok okp : Nat → Prop}
    (hrep : Reps (d.M W base okp) d.sz xs inner) (hok : ∀ k, okp k → ok k) (hfresh : ok W.heap.size) (hbase : base ≤ W.heap.size) (hm : xs.length ≤ 9223372036854775807) :
    d.R e (W.alloc (.cells inner.toArray e)) base ok (.slice (some ⟨W.heap.size, 0, none⟩) xs.length xs.length) xs := by
  refine ⟨fun k hk => ?_, inner, ?_, ?_⟩
  · have : W.heap.size = k := by simpa [Value.ownBlock] using hk
    subst this
    exact hfresh
  · have h2 := World.ownsRow_lit (base := base) (e := e) (size := d.sz) W inner.toArray xs.length hbase (by simpa [maxLen] using hm) (by simpa using hrep.1)
    simpa using h2
  · refine hrep.imp_ (fun p c hp => d.M_mono (fun k hk => ⟨hok k hk.1, fun he => ?_⟩) (Kd.M_below (d.M_bound hp) (below_alloc (Below.refl _ _) _)))
    have : W.heap.size = k := by simpa [Value.ownBlock] using he.symm
    have := hk.2.2.1
    omega

def L3 : List S37 := [⟨1, 1, 0, 0, 0, []⟩, ⟨4, 2, 3, 0, 0, []⟩, ⟨2, 4, 1, 2, 1, []⟩]
def L3o : List S37 := [⟨4, 2, 3, 0, 0, []⟩, ⟨1, 1, 0, 0, 0, []⟩, ⟨2, 4, 1, 2, 1, []⟩]

theorem some_c (W : World) : Calls Try.prog 30 #[] W fun e w' => ∃ A c, e = .returned (.slice A 3 c) ∧ Kd.C k37 w' A 3 L3 ∧ 3 ≤ c ∧ Below W.heap.size W w' :=
  (swagelaw27_some.calls _ W rfl).mono fun e w' ⟨v, he, hS, hb⟩ => by
    obtain ⟨A, c, rfl, h1, h2⟩ := Kd.S_reads hS
    exact ⟨A, c, he, h2, h1, hb⟩
theorem few3 : Few L3 := by decide
theorem order3 : sched_Order.f L3 = some [1, 0, 2] := by
  unfold sched_Order.f; rw [if_pos few3]; decide +kernel
theorem block3 : sched_Block.f L3 0 0 0 0 = some (L3o, 0, 0, 0, 0) := by
  unfold sched_Block.f; rw [if_pos few3, show orderOf L3 = [1, 0, 2] by decide +kernel]; rfl
theorem may3a : sched_May.f L3 [0, 1, 2] = some true := by
  unfold sched_May.f; rw [if_pos few3]; decide +kernel
theorem may3b : sched_May.f L3 [0, 2, 1] = some false := by
  unfold sched_May.f; rw [if_pos few3]; decide +kernel
theorem deps3 : depsOf L3 = [[], [], [0, 1]] := by decide +kernel
theorem heights3 : heightsOf L3 = [2, 4, 1] := by decide +kernel
theorem cost3 : sched_Cost.f 60 L3 = some 5 := by decide +kernel
theorem fheights3 : sched_Heights.f 60 L3 = some [2, 4, 1] := by decide +kernel
theorem ints3 (xs : List Int) (h : xs.length = 3) : ∃ k, swageref02_Ints.f k xs xs = some true := by
  rcases xs with _ | ⟨a, _ | ⟨b, _ | ⟨c, _ | ⟨d, xs⟩⟩⟩⟩ <;> simp at h
  exact ⟨10, by simp [swageref02_Ints.f, swageref02_Ints.l0, wrap64]⟩
theorem rows3 : swageref06_Rows.f 30 [[], [], [0, 1]] [[], [], [0, 1]] = some true := by decide +kernel

theorem block_c (A : Option Addr) (c : Nat) (W : World) (h : Kd.C k37 W A 3 L3) (hc : 3 ≤ c) : Calls Try.prog 11 #[.agg #[.slice A 3 c, .int .i64 0, .int .i64 0, .int .i64 0, .int .i64 0]] W fun e w' =>
    ∃ A c, e = .returned (.agg #[.slice A 3 c, .int .i64 0, .int .i64 0, .int .i64 0, .int .i64 0]) ∧ Kd.C k37 w' A 3 L3o ∧ 3 ≤ c ∧ Below W.heap.size W w' :=
  (sched_Block.calls A c L3 0 0 0 0 _ _ _ _ _ W h hc block3).mono fun e w' ⟨v, he, hS, hb⟩ => by
    obtain ⟨A, c, rfl, h1, h2⟩ := Kd.S_reads hS
    exact ⟨A, c, he, h2, h1, hb⟩
theorem order_c (A : Option Addr) (c : Nat) (W : World) (h : Kd.C k37 W A 3 L3) (hc : 3 ≤ c) : Calls Try.prog 22 #[.slice A 3 c] W fun e w' =>
    ∃ A c, e = .returned (.slice A 3 c) ∧ Kd.C (Kd.int .i64) w' A 3 [1, 0, 2] ∧ 3 ≤ c ∧ Below W.heap.size W w' :=
  (sched_Order.calls A c L3 _ W h hc order3).mono fun e w' ⟨v, he, hS, hb⟩ => by
    obtain ⟨A, c, rfl, h1, h2⟩ := Kd.R_reads hS
    exact ⟨A, c, he, h2, h1, hb⟩
theorem heights_c (A : Option Addr) (c : Nat) (W : World) (h : Kd.C k37 W A 3 L3) (hc : 3 ≤ c) : Calls Try.prog 20 #[.slice A 3 c] W fun e w' =>
    ∃ A c, e = .returned (.slice A 3 c) ∧ Kd.C (Kd.int .i64) w' A 3 [2, 4, 1] ∧ 3 ≤ c ∧ Below W.heap.size W w' :=
  (sched_Heights.calls 60 A c L3 _ W h hc fheights3).mono fun e w' ⟨v, he, hS, hb⟩ => by
    obtain ⟨A, c, rfl, h1, h2⟩ := Kd.R_reads hS
    exact ⟨A, c, he, h2, h1, hb⟩
theorem deps_c (A : Option Addr) (c : Nat) (W : World) (h : Kd.C k37 W A 3 L3) (hc : 3 ≤ c) : Calls Try.prog 17 #[.slice A 3 c] W fun e w' =>
    ∃ A c, e = .returned (.slice A 3 c) ∧ Kd.C (Kd.slice 3 (Kd.int .i64)) w' A 3 [[], [], [0, 1]] ∧ 3 ≤ c ∧ Below W.heap.size W w' :=
  (deps_calls L3 few3.1 few3.2 A c W h hc).mono fun e w' ⟨v, he, hS, hb⟩ => by
    obtain ⟨A, c, rfl, h1, h2⟩ := Kd.S_reads hS
    rw [deps3] at he h1 h2
    exact ⟨A, c, he, h2, h1, hb⟩
theorem ints_c (xs : List Int) (A B : Option Addr) (c b : Nat) (W : World) (h : Kd.C (Kd.int .i64) W A 3 xs) (hc : 3 ≤ c) (h' : Kd.C (Kd.int .i64) W B 3 xs) (hb : 3 ≤ b) : Calls Try.prog 19 #[.slice A 3 c, .slice B 3 b] W fun e w' =>
    e = .returned (.bool true) ∧ Drawn0 W w' := by
  have hl := Kd.C_len h
  obtain ⟨k, hk⟩ := ints3 xs hl
  have := swageref02_Ints.calls k A c xs B b xs true W (by rw [hl]; exact h) (by omega) (by rw [hl]; exact h') (by omega) hk
  rwa [hl] at this
theorem int_lit_c (a b c : Int) (W : World) : Kd.C (Kd.int .i64) (W.alloc (.cells #[.int .i64 a, .int .i64 b, .int .i64 c] 3)) (some ⟨W.heap.size, 0, none⟩) 3 [a, b, c] :=
  (Kd.R_reads' (R_new_lit (Kd.int .i64) W W.heap.size 3 (xs := [a, b, c]) (inner := [.int .i64 a, .int .i64 b, .int .i64 c]) (ok := fun _ => True) (okp := fun _ => True) (Kd.reps_scalar [a, b, c]) (fun _ h => h) trivial (Nat.le_refl _) (by simp))).2.2

theorem int_lit2 (a b : Int) (W : World) (base : Nat) (hb : base ≤ W.heap.size) : Kd.R (Kd.int .i64) 3 (W.alloc (.cells #[.int .i64 a, .int .i64 b] 3)) base (fun _ => True) (.slice (some ⟨W.heap.size, 0, none⟩) 2 2) [a, b] :=
  R_new_lit (Kd.int .i64) W base 3 (xs := [a, b]) (inner := [.int .i64 a, .int .i64 b]) (ok := fun _ => True) (okp := fun _ => True) (Kd.reps_scalar [a, b]) (fun _ h => h) trivial hb (by simp)
theorem rows_lit (W : World) : Kd.C (Kd.slice 3 (Kd.int .i64)) ((W.alloc (.cells #[.int .i64 0, .int .i64 1] 3)).alloc (.cells #[.slice none 0 0, .slice none 0 0, .slice (some ⟨W.heap.size, 0, none⟩) 2 2] 23)) (some ⟨W.heap.size + 1, 0, none⟩) 3 [[], [], [0, 1]] := by
  have h := (Kd.R_reads' (R_new_lit (Kd.slice 3 (Kd.int .i64)) (W.alloc (.cells #[.int .i64 0, .int .i64 1] 3)) W.heap.size 23 (xs := [[], [], [0, 1]]) (inner := [.slice none 0 0, .slice none 0 0, .slice (some ⟨W.heap.size, 0, none⟩) 2 2]) (ok := fun _ => True) (okp := fun _ => True)
    (Reps.one ⟨_, rfl, Kd.R_nil _ _ _ _ _⟩ (Reps.one ⟨_, rfl, Kd.R_nil _ _ _ _ _⟩ (Reps.one ⟨_, rfl, int_lit2 0 1 W _ (Nat.le_refl _)⟩ (Reps.none _ _)))) (fun _ h => h) trivial (by simp) (by simp))).2.2
  rw [World.size_alloc] at h
  exact h
theorem rows_c (A : Option Addr) (c : Nat) (W : World) (h : Kd.C (Kd.slice 3 (Kd.int .i64)) W A 3 [[], [], [0, 1]]) (hc : 3 ≤ c) :
    Calls Try.prog 16 #[.slice A 3 c, .slice (some ⟨W.heap.size + 1, 0, none⟩) 3 3] ((W.alloc (.cells #[.int .i64 0, .int .i64 1] 3)).alloc (.cells #[.slice none 0 0, .slice none 0 0, .slice (some ⟨W.heap.size, 0, none⟩) 2 2] 23)) fun e w' =>
      e = .returned (.bool true) ∧ Below W.heap.size W w' := by
  have hr := rows_lit W
  have hB : Below W.heap.size W ((W.alloc (.cells #[.int .i64 0, .int .i64 1] 3)).alloc (.cells #[.slice none 0 0, .slice none 0 0, .slice (some ⟨W.heap.size, 0, none⟩) 2 2] 23)) := below_alloc (below_alloc (Below.refl _ _) _) _
  replace h := Kd.C_below h hB
  generalize ((W.alloc (.cells #[.int .i64 0, .int .i64 1] 3)).alloc (.cells #[.slice none 0 0, .slice none 0 0, .slice (some ⟨W.heap.size, 0, none⟩) 2 2] 23)) = W1 at *
  exact (swageref06_Rows.calls 30 A c [[], [], [0, 1]] (some ⟨W.heap.size + 1, 0, none⟩) 3 [[], [], [0, 1]] true W1 h hc hr (Nat.le_refl _) rows3).mono fun e w' ⟨he, hD⟩ => ⟨he, below_then hB hB.size hD.below⟩

/-- what small keeps: the block with the box, its operations -/
structure SI (w : World) (g : Nat) (A : Option Addr) (c : Nat) (W : World) : Prop where
  hb : W.heap[g]? = some (.cells #[.slice A 3 c, .int .i64 0, .int .i64 0, .int .i64 0, .int .i64 0] 29 (0, 0))
  hC : Kd.C k37 W A 3 L3o
  hB : Below w.heap.size w W
theorem SI.below {w W W1 : World} {g : Nat} {A : Option Addr} {c : Nat} (h : SI w g A c W) (hb : Below W.heap.size W W1) : SI w g A c W1 :=
  ⟨(hb.block _ (blk_lt h.hb)).trans h.hb, Kd.C_below h.hC hb, below_then h.hB h.hB.size hb⟩
theorem SI.alloc {w W : World} {g : Nat} {A : Option Addr} {c : Nat} (h : SI w g A c W) (o : Obj) : SI w g A c (W.alloc o) := h.below (below_alloc (Below.refl _ _) o)
theorem SI.cell {w W : World} {g : Nat} {A : Option Addr} {c : Nat} (h : SI w g A c W) : W.cell? ⟨g, 0, none⟩ = some (.slice A 3 c) := (blk_cell h.hb 0).trans rfl
theorem C_alloc' {α : Type} {d : Kd α} {W : World} {A : Option Addr} {n : Nat} {xs : List α} (h : Kd.C d W A n xs) (o : Obj) : Kd.C d (W.alloc o) A n xs := Kd.C_below h (below_alloc (Below.refl _ _) o)
theorem may_c (o : List Int) (ho : o.length = 3) (b : Bool) (hm : sched_May.f L3 o = some b) (A B : Option Addr) (c c' : Nat) (W : World) (h : Kd.C k37 W A 3 L3) (hc : 3 ≤ c) (h' : Kd.C (Kd.int .i64) W B 3 o) (hc' : 3 ≤ c') : Calls Try.prog 24 #[.slice A 3 c, .slice B 3 c'] W fun e w' =>
    e = .returned (.bool b) ∧ Below W.heap.size W w' := by
  have := sched_May.calls A c L3 B c' o b W h hc (by rw [ho]; exact h') (by omega) hm
  rwa [ho] at this

set_option maxRecDepth 100000 in
set_option maxHeartbeats 4000000 in
theorem small_calls (w : World) : Calls Try.prog 8 #[] w fun e w' => e = .returned (.bool true) ∧ Below w.heap.size w w' := by
  have hu29 := Try.underlying29
  have hu37 := Try.underlying37
  go_enter Try.func8, Try.ntmps8
  go_wp2_with fail
  refine (some_c w).mono ?_
  rintro e w1 ⟨A1, c1, rfl, hC1, hl1, hB1⟩
  go_wp2_with fail
  refine (block_c A1 c1 w1 hC1 hl1).mono ?_
  rintro e w2 ⟨A2, c2, rfl, hC2, hl2, hB2⟩
  have hB2' := below_then hB1 hB1.size hB2
  clear hC1 hl1 hB1 hB2
  go_wp2_with fail
  have hI : SI w w2.heap.size A2 c2 (w2.alloc (.cells #[.slice A2 3 c2, .int .i64 0, .int .i64 0, .int .i64 0, .int .i64 0] 29)) := ⟨World.alloc_heap_new w2 _, C_alloc' hC2 _, below_alloc hB2' _⟩
  clear hC2 hl2 hB2'
  generalize w2.alloc (.cells #[.slice A2 3 c2, .int .i64 0, .int .i64 0, .int .i64 0, .int .i64 0] 29) = w3 at hI ⊢
  generalize w2.heap.size = g at hI ⊢
  refine (some_c w3).mono ?_
  rintro e w4 ⟨A4, c4, rfl, hC4, hl4, hB4⟩
  replace hI := hI.below hB4
  go_wp2_with fail
  refine (order_c A4 c4 w4 hC4 hl4).mono ?_
  rintro e w5 ⟨A5, c5, rfl, hC5, hl5, hB5⟩
  replace hI := hI.below hB5
  clear hC4 hB4 hB5
  go_wp2_with fail
  refine (ints_c [1, 0, 2] _ _ _ _ _ (C_alloc' hC5 _) hl5 (int_lit_c 1 0 2 w5) (by omega)).mono ?_
  rintro e w6 ⟨rfl, hD⟩
  replace hI := (hI.alloc _).below hD.below
  clear hC5 hD
  go_wp2_with fail
  refine (some_c w6).mono ?_
  rintro e w7 ⟨A7, c7, rfl, hC7, hl7, hB7⟩
  replace hI := hI.below hB7
  go_wp2_with fail
  refine (deps_c A7 c7 w7 hC7 hl7).mono ?_
  rintro e w8 ⟨A8, c8, rfl, hC8, hl8, hB8⟩
  replace hI := hI.below hB8
  clear hC7 hB7 hB8
  go_wp2_with fail
  refine (rows_c A8 c8 w8 hC8 hl8).mono ?_
  rintro e w9 ⟨rfl, hD⟩
  replace hI := hI.below hD
  clear hC8 hD
  go_wp2_with fail
  refine (some_c w9).mono ?_
  rintro e w10 ⟨A10, c10, rfl, hC10, hl10, hB10⟩
  replace hI := hI.below hB10
  go_wp2_with fail
  refine (heights_c A10 c10 w10 hC10 hl10).mono ?_
  rintro e w11 ⟨A11, c11, rfl, hC11, hl11, hB11⟩
  replace hI := hI.below hB11
  clear hC10 hB10 hB11
  go_wp2_with fail
  refine (ints_c [2, 4, 1] _ _ _ _ _ (C_alloc' hC11 _) hl11 (int_lit_c 2 4 1 w11) (by omega)).mono ?_
  rintro e w12 ⟨rfl, hD⟩
  replace hI := (hI.alloc _).below hD.below
  clear hC11 hD
  have hc := hI.cell
  obtain ⟨ld, A5', c5', e5, q0, q1, q2, q3, q4, q5, q6, q7⟩ := at_T37 hI.hC 0 (by omega) (by omega)
  subst e5
  rw [show ld.add ((0 : Int).toNat * 6) = ld by rfl] at q0
  replace q0 : w12.cell? ld = some (.int .i64 4) := q0
  clear q1 q2 q3 q4 q5 q6 q7
  go_wp2_with fail
  refine (some_c w12).mono ?_
  rintro e w13 ⟨A13, c13, rfl, hC13, hl13, hB13⟩
  clear hc q0
  replace hI := hI.below hB13
  go_wp2_with fail
  refine (may_c [0, 1, 2] rfl true may3a _ _ _ _ _ (C_alloc' hC13 _) hl13 (int_lit_c 0 1 2 w13) (by omega)).mono ?_
  rintro e w14 ⟨rfl, hB14⟩
  replace hI := (hI.alloc _).below hB14
  clear hC13 hB13 hB14
  go_wp2_with fail
  refine (some_c w14).mono ?_
  rintro e w15 ⟨A15, c15, rfl, hC15, hl15, hB15⟩
  replace hI := hI.below hB15
  go_wp2_with fail
  refine (may_c [0, 2, 1] rfl false may3b _ _ _ _ _ (C_alloc' hC15 _) hl15 (int_lit_c 0 2 1 w15) (by omega)).mono ?_
  rintro e w16 ⟨rfl, hB16⟩
  replace hI := (hI.alloc _).below hB16
  clear hC15 hB15 hB16
  go_wp2_with fail
  refine (some_c w16).mono ?_
  rintro e w17 ⟨A17, c17, rfl, hC17, hl17, hB17⟩
  replace hI := hI.below hB17
  go_wp2_with fail
  refine (sched_Cost.calls 60 A17 c17 L3 5 w17 hC17 hl17 cost3).mono ?_
  rintro e w18 ⟨rfl, hB18⟩
  replace hI := hI.below hB18
  clear hC17 hB17 hB18
  go_wp2_with fail
  refine (some_c w18).mono ?_
  rintro e w19 ⟨A19, c19, rfl, hC19, hl19, hB19⟩
  replace hI := hI.below hB19
  obtain ⟨le, A6', c6', e6, q0, q1, q2, q3, q4, q5, q6, q7⟩ := at_T37 hC19 1 (by omega) (by omega)
  subst e6
  have q0a : w19.cell? ⟨le.block, le.off + 6, none⟩ = some (.int .i64 4) := q0
  replace q0 : w19.cell? (le.add 6) = some (.int .i64 4) := q0
  replace q1 : w19.cell? ⟨le.block, le.off + 6 + 1, none⟩ = some (.int .i64 2) := q1
  replace q2 : w19.cell? ⟨le.block, le.off + 6 + 2, none⟩ = some (.int .i64 3) := q2
  replace q3 : w19.cell? ⟨le.block, le.off + 6 + 3, none⟩ = some (.int .i64 0) := q3
  replace q4 : w19.cell? ⟨le.block, le.off + 6 + 4, none⟩ = some (.int .i64 0) := q4
  replace q5 : w19.cell? ⟨le.block, le.off + 6 + 5, none⟩ = some (.slice A6' 0 c6') := q5
  go_wp2_with fail
  refine (lat_calls (rd_T37 L3 1) A6' c6' w19 q7 q6).mono ?_
  rintro e w20 ⟨rfl, hB20⟩
  replace hI := hI.below hB20
  rw [show latOf (rd_T37 L3 1) = 3 by rfl]
  clear q0 q1 q2 q3 q4 q5 q6 q7 hC19 hB19 hB20
  go_wp2_with fail
  go_ret
  exact ⟨rfl, hI.hB⟩
def swagelaw27_small.f : Option Bool := some true
theorem swagelaw27_small.calls (r : Bool) (w : World) (h : swagelaw27_small.f = some r) : Calls Try.prog 8 #[] w fun e w' => e = .returned (.bool r) ∧ Below w.heap.size w w' := by
  obtain rfl := Option.some.inj h
  exact small_calls w
#print axioms small_calls
end Go.Proofs.Ytphmlkbmnmicpaa.A

/- The law SchedAlone: it returns true. -/
namespace Go.Proofs.Ytphmlkbmnmicpaa.A
open Go.RowKit Go.Proofs.YtphmlkbmnmicpaaW.PrintWords Go.Proofs.YtphmlkbmnmicpaaW.PrintLast Go.Shelf
set_option linter.unusedVariables false
set_option linter.unusedSimpArgs false

def alOp (z : Int) (i : Nat) : S37 :=
  if Go.bits .and .i64 z 6 = 0 then ⟨1, 2 * ((i : Int) + 1), 0, 0, i, []⟩
  else if Go.bits .and .i64 z 1 = 0 then ⟨2, 2 * ((i : Int) + 1), 1, 1, 3, []⟩ else ⟨2, 2 * ((i : Int) + 1), 1, 1, 1, []⟩
def alL (ks : List Int) (n : Nat) : List S37 := mkL n fun i => alOp (rd ks i) i
theorem alL_length (ks : List Int) (n : Nat) : (alL ks n).length = n := mkL_length _ _
theorem alL_succ (ks : List Int) (n : Nat) : alL ks (n + 1) = alL ks n ++ [alOp (rd ks n) n] := by simp [alL, mkL, List.range_succ]
theorem alL_get (ks : List Int) (n i : Nat) (hi : i < n) : rd_T37 (alL ks n) (i : Int) = alOp (rd ks i) i := by
  unfold rd_T37 alL
  rw [Int.toNat_natCast, mkL_get _ _ _ hi]
theorem al_sets (z : Int) (i : Nat) : setsOf (alOp z i) = 2 * ((i : Int) + 1) := by
  unfold setsOf alOp
  split
  · rw [if_pos (show (shapeOf 1).1 = true by decide)]
  · split <;> rw [if_pos (show (shapeOf 2).1 = true by decide)]
theorem al_uses (z : Int) (i : Nat) : ∀ k ∈ usesOf (alOp z i), k = 1 ∨ k = 0 := by
  unfold usesOf alOp
  split
  · intro k hk
    simp only [show (shapeOf 1).2.1 = false by decide, show (shapeOf 1).2.2.1 = false by decide] at hk
    simp at hk
  · split
    all_goals
      intro k hk
      simp only [show (shapeOf 2).2.1 = true by decide, show (shapeOf 2).2.2.1 = true by decide] at hk
      simp at hk
      omega
theorem al_pure (z : Int) (i : Nat) : pureOf (alOp z i) = true := by
  unfold pureOf alOp
  split
  · simp
  · split <;> simp
theorem al_reads (z y : Int) (i k : Nat) : readsOf (alOp z i) (setsOf (alOp y k)) = false := by
  unfold readsOf
  rw [al_sets]
  simp only [Bool.and_eq_false_iff, decide_eq_false_iff_not]
  right
  intro h
  have := al_uses z i _ h
  omega
theorem al_after (z y : Int) (i k : Nat) (h : i ≠ k) : afterOf (alOp z i) (alOp y k) = false := by
  unfold afterOf
  rw [al_pure, al_pure, al_reads, al_reads, al_sets, al_sets]
  have : ¬ 2 * ((k : Int) + 1) = 2 * ((i : Int) + 1) := by omega
  simp [this]
theorem al_row (ks : List Int) (n i : Nat) (hi : i < n) : rd_L1 (depsOf (alL ks n)) (i : Int) = [] := by
  apply List.eq_nil_iff_forall_not_mem.2
  intro k hk
  obtain ⟨m, rfl, hm⟩ := depsOf_back _ i (by rw [depsOf_length, alL_length]; exact hi) k hk
  have := ((dep_iff _ i m (by rw [alL_length]; exact hi)).1 hk).2
  rw [alL_get _ _ _ hi, alL_get _ _ _ (by omega), al_after _ _ _ _ (by omega)] at this
  cases this
theorem al_high (ks : List Int) (n i : Nat) (hn : n ≤ 4096) (hi : i < n) : rd (heightsOf (alL ks n)) (i : Int) = latOf (rd_T37 (alL ks n) (i : Int)) := by
  have H := heightsOf_high (alL ks n) (by rw [alL_length]; exact hn)
  rcases H.why i (by rw [alL_length]; exact hi) with h | ⟨k, h1, h2, h3, _⟩
  · exact h
  · rw [alL_length] at h2
    rw [al_row _ _ _ h2] at h3
    cases h3
theorem al_sorted (ks : List Int) (n : Nat) (hn : n ≤ 4096) {ob : Nat → Nat} (hp : Places (alL ks n) ob) (i : Nat) (hi : i + 1 < n) :
    latOf (rd_T37 (alL ks n) (ob (i + 1) : Nat)) ≤ latOf (rd_T37 (alL ks n) (ob i : Nat)) ∧ (latOf (rd_T37 (alL ks n) (ob i : Nat)) = latOf (rd_T37 (alL ks n) (ob (i + 1) : Nat)) → ob i < ob (i + 1)) := by
  have hl := alL_length ks n
  have h1 := hp.lt i (by omega)
  have h2 := hp.lt (i + 1) (by omega)
  rw [hl] at h1 h2
  have ht := (hp.pick i (by omega)).top (ob (i + 1)) (by rw [depsOf_length, hl]; exact h2) (fun hk => by
    obtain ⟨j, hj, e⟩ := (hp.mem i _ (by omega)).1 hk
    have := hp.inj (i + 1) j (by omega) (by omega) e
    omega) (fun k hk => by rw [al_row _ _ _ h2] at hk; cases hk)
  rw [al_high _ _ _ hn h1, al_high _ _ _ hn h2] at ht
  refine ⟨ht.1, fun he => ?_⟩
  rcases Nat.lt_trichotomy (ob i) (ob (i + 1)) with h | h | h
  · exact h
  · have := hp.inj i (i + 1) (by omega) (by omega) h; omega
  · have := ht.2 h; omega

/-- what lies in memory within a round: x lies in the block g -/
structure AI (w : World) (g : Nat) (cs : Array Value) (xs : List S37) (v : Value) (W : World) : Prop where
  hv : Kd.R k37 37 W w.heap.size (fun k => k ≠ g) v xs
  hb : W.heap[g]? = some (.cells cs 37 (0, 0))
  hB : Below w.heap.size w W
  ge : w.heap.size ≤ g
theorem AI.set {w : World} {g : Nat} {cs : Array Value} {xs : List S37} {v : Value} {W : World} (h : AI w g cs xs v W) (j : Nat) (u : Value) : AI w g (cs.setIfInBounds j u) xs v (W.setCell ⟨g, j, none⟩ u) :=
  ⟨Kd.R_far (p := ⟨g, j, none⟩) h.hv (fun k hk => hk) u, blk_set h.hb j u, below_set h.hB h.ge, h.ge⟩
theorem AI.six {w : World} {g : Nat} {xs : List S37} {v : Value} {W : World} {a0 a1 a2 a3 a4 a5 : Value} (h : AI w g #[a0, a1, a2, a3, a4, a5] xs v W) (b0 b1 b2 b3 b4 b5 : Value) :
    AI w g #[b0, b1, b2, b3, b4, b5] xs v ((((((W.setCell ⟨g, 0, none⟩ b0).setCell ⟨g, 1, none⟩ b1).setCell ⟨g, 2, none⟩ b2).setCell ⟨g, 3, none⟩ b3).setCell ⟨g, 4, none⟩ b4).setCell ⟨g, 5, none⟩ b5) :=
  (((((h.set 0 b0).set 1 b1).set 2 b2).set 3 b3).set 4 b4).set 5 b5
theorem AI.four {w : World} {g : Nat} {xs : List S37} {v : Value} {W : World} {a0 a1 a2 a3 a4 a5 : Value} (h : AI w g #[a0, a1, a2, a3, a4, a5] xs v W) (b4 : Value) :
    AI w g #[a0, a1, a2, a3, b4, a5] xs v (W.setCell ⟨g, 4, none⟩ b4) := h.set 4 b4
theorem AI.cells {w : World} {g : Nat} {xs : List S37} {v : Value} {W : World} {a0 a1 a2 a3 a4 a5 : Value} (h : AI w g #[a0, a1, a2, a3, a4, a5] xs v W) :
    (W.cell? ⟨g, 0, none⟩ = some a0 ∧ W.cell? ⟨g, 1, none⟩ = some a1 ∧ W.cell? ⟨g, 2, none⟩ = some a2 ∧ W.cell? ⟨g, 3, none⟩ = some a3 ∧ W.cell? ⟨g, 4, none⟩ = some a4 ∧ W.cell? ⟨g, 5, none⟩ = some a5) ∧
    (W.frozen? ⟨g, 0, none⟩ = false ∧ W.frozen? ⟨g, 1, none⟩ = false ∧ W.frozen? ⟨g, 2, none⟩ = false ∧ W.frozen? ⟨g, 3, none⟩ = false ∧ W.frozen? ⟨g, 4, none⟩ = false ∧ W.frozen? ⟨g, 5, none⟩ = false) :=
  ⟨⟨(blk_cell h.hb 0).trans rfl, (blk_cell h.hb 1).trans rfl, (blk_cell h.hb 2).trans rfl, (blk_cell h.hb 3).trans rfl, (blk_cell h.hb 4).trans rfl, (blk_cell h.hb 5).trans rfl⟩, blk_frozen h.hb 0, blk_frozen h.hb 1, blk_frozen h.hb 2, blk_frozen h.hb 3, blk_frozen h.hb 4, blk_frozen h.hb 5⟩

/-- what lies in memory in the second loop -/
structure LA (w : World) (A Ao Ad : Option Addr) (n : Nat) (l : List S37) (O : List Int) (D : List (List Int)) (W : World) : Prop where
  hl : Kd.C k37 W A n l
  hO : Kd.C (Kd.int .i64) W Ao n O
  hD : Kd.C (Kd.slice 3 (Kd.int .i64)) W Ad n D
  hB : Below w.heap.size w W
theorem LA.below {w : World} {A Ao Ad : Option Addr} {n : Nat} {l : List S37} {O : List Int} {D : List (List Int)} {W W1 : World} (h : LA w A Ao Ad n l O D W) (hb : Below W.heap.size W W1) : LA w A Ao Ad n l O D W1 :=
  ⟨Kd.C_below h.hl hb, Kd.C_below h.hO hb, Kd.C_below h.hD hb, below_then h.hB h.hB.size hb⟩

set_option maxRecDepth 100000 in
set_option maxHeartbeats 1000000 in
theorem law_alone (A : Option Addr) (c : Nat) (ks : List Int) (w : World) (h : Kd.C (Kd.int .i64) w A ks.length ks) (hc : ks.length ≤ c) :
    Calls Try.prog 6 #[.slice A ks.length c] w fun e w' => e = .returned (.bool true) ∧ Below w.heap.size w w' := by
  have hu37 := Try.underlying37
  by_cases h60 : (ks.length : Int) > 60
  · go_enter Try.func6, Try.ntmps6
    go_wp2_with fail
    refine (small_calls w).mono ?_
    rintro e w1 ⟨rfl, hB1⟩
    go_wp2_with fail
    go_ret
    exact ⟨rfl, hB1⟩
  go_enter Try.func6, Try.ntmps6
  go_wp2_with fail
  refine (small_calls w).mono ?_
  rintro e w1 ⟨rfl, hB1⟩
  go_wp2_with fail
  go_loopw [4, 5] (fun s4 s5 wr => ∃ (m : Nat), m ≤ ks.length ∧ s5 = .int .i64 m ∧ Aside0 (Kd.R k37 37 wr w.heap.size (fun _ => True) s4 (alL ks m)) ∧ Aside0 (Below w.heap.size w wr))
    (fun _ s5 _ => ks.length - (intOf s5).toNat)
  case atStart => exact ⟨0, Nat.zero_le _, rfl, ⟨Kd.R_nil _ _ _ _ _⟩, ⟨hB1⟩⟩
  case round =>
    clear hB1
    obtain ⟨m, hm, rfl, hv, hB⟩ := hrel
    by_cases hlt : m < ks.length
    · have hmn : (m : Int) < (ks.length : Int) := by omega
      have hm0 : (0 : Int) ≤ (m : Int) := by omega
      obtain ⟨kd, hoe, hk⟩ := Kd.at_int h (m : Int) hm0 hmn
      subst hoe
      rw [Int.toNat_natCast] at hk
      have hs := Aside0.mk (alL_succ ks m)
      have hxl := Aside0.mk (alL_length ks m)
      generalize alL ks m = xs at hs hv hxl
      generalize rd ks (m : Int) = z at hk hs
      have hsc := Aside0.mk hB.out.size
      have hk' := fun W (hW : Below w.heap.size w W) => pw_cell_below hW hk
      have Hk := Aside0.mk hk'
      clear hk hk'
      go_upto_region 9 with (first | ((with_reducible refine gate_dst (N := 6) rfl ?_); refine box_event ?hg (N := 6) ?hd (cs := #[.int .i64 0, .int .i64 0, .int .i64 0, .int .i64 0, .int .i64 0, .slice none 0 0]) (t := 37) ?hr ?_; (case hd => rfl); (case hg => rfl); (case hr => first | (go_simp; done) | (go_simp; rfl)); intro g hg w10 hbox hb; have hI := Aside0.mk (⟨Kd.R_below (Kd.R_mono (Kd.R_bound hv.out) (fun k hk => (show k ≠ g by have := hk.2.2.1; omega))) hb, hbox, below_then hB.out hB.out.size hb, (by have := hsc.out; omega)⟩ : AI w g _ xs _ w10); clear hv hB hbox hg hb hsc; obtain ⟨⟨hc0, hc1, hc2, hc3, hc4, hc5⟩, hf0, hf1, hf2, hf3, hf4, hf5⟩ := hI.out.cells))
      clear hc0 hc1 hc2 hc3 hc4 hc5 hf0 hf1 hf2 hf3 hf4 hf5
      replace hI := Aside0.mk (hI.out.six (.int .i64 2) (.int .i64 (2 * ((m : Int) + 1))) (.int .i64 1) (.int .i64 1) (.int .i64 1) (.slice none 0 0))
      generalize World.setCell (World.setCell (World.setCell (World.setCell (World.setCell (World.setCell w10 _ _) _ _) _ _) _ _) _ _) _ _ = W1 at hI ⊢
      have hk := Hk.out W1 hI.out.hB
      obtain ⟨⟨hc0, hc1, hc2, hc3, hc4, hc5⟩, hf0, hf1, hf2, hf3, hf4, hf5⟩ := hI.out.cells
      by_cases e1 : Go.bits .and .i64 z 1 = 0
      · go_upto_region 11 with fail
        clear hc0 hc1 hc2 hc3 hc4 hc5 hf0 hf1 hf2 hf3 hf4 hf5 hk
        replace hI := Aside0.mk (hI.out.four (.int .i64 3))
        generalize World.setCell W1 _ _ = W2 at hI ⊢
        have hk := Hk.out W2 hI.out.hB
        obtain ⟨⟨hc0, hc1, hc2, hc3, hc4, hc5⟩, hf0, hf1, hf2, hf3, hf4, hf5⟩ := hI.out.cells
        by_cases e6 : Go.bits .and .i64 z 6 = 0
        · go_upto_region 13 with fail
          clear hc0 hc1 hc2 hc3 hc4 hc5 hf0 hf1 hf2 hf3 hf4 hf5 hk
          replace hI := Aside0.mk (hI.out.six (.int .i64 1) (.int .i64 (2 * ((m : Int) + 1))) (.int .i64 0) (.int .i64 0) (.int .i64 m) (.slice none 0 0))
          generalize World.setCell (World.setCell (World.setCell (World.setCell (World.setCell (World.setCell W2 _ _) _ _) _ _) _ _) _ _) _ _ = W3 at hI ⊢
          have hx : alL ks (m + 1) = xs ++ [⟨1, 2 * ((m : Int) + 1), 0, 0, m, []⟩] := by rw [hs.out]; unfold alOp; simp only [e1, e6, if_true, if_false]
          obtain ⟨⟨hc0, hc1, hc2, hc3, hc4, hc5⟩, hf0, hf1, hf2, hf3, hf4, hf5⟩ := hI.out.cells
          have hxx := Aside0.mk hx
          clear hx hf0 hf1 hf2 hf3 hf4 hf5
          go_wp2_with (at_builtin; refine Kd.R_append k37 (w0 := w) w.heap.size rfl (.tmp 45) (.tmp 47) 22 37 (.agg #[(.int .i64 0), (.int .i64 0), (.int .i64 0), (.int .i64 0), (.int .i64 0), (.slice none 0 0)]) 64 rfl Try.underlying22 info37 rfl (by decide) (by omega) _ xs ⟨1, 2 * ((m : Int) + 1), 0, 0, m, []⟩ _ (fun k => k ≠ g) (fun _ => False) rfl rfl (k37_mkM _ _ _ ⟨1, 2 * ((m : Int) + 1), 0, 0, m, []⟩ (Kd.R_nil _ _ _ _ _)) (fun _ hk => hk.elim) (fun k hk => by have := blk_lt hI.out.hb; omega) hI.out.hv hI.out.hB (Nat.le_of_lt (Nat.lt_of_le_of_lt hI.out.ge (blk_lt hI.out.hb))) (by have := hxl.out; omega) ?_; intro v1 w4 hv4 hB4 _ _)
          clear hI hc0 hc1 hc2 hc3 hc4 hc5
          go_roundw
          case rel => exact ⟨m + 1, by omega, by go_num, ⟨by rw [hxx.out]; exact Kd.R_mono hv4 (fun _ _ => trivial)⟩, ⟨hB4⟩⟩
          case measure => simp [intOf]; omega
        · go_upto_region 13 with fail
          clear hc0 hc1 hc2 hc3 hc4 hc5 hf0 hf1 hf2 hf3 hf4 hf5 hk
          have hx : alL ks (m + 1) = xs ++ [⟨2, 2 * ((m : Int) + 1), 1, 1, 3, []⟩] := by rw [hs.out]; unfold alOp; simp only [e1, e6, if_true, if_false]
          obtain ⟨⟨hc0, hc1, hc2, hc3, hc4, hc5⟩, hf0, hf1, hf2, hf3, hf4, hf5⟩ := hI.out.cells
          have hxx := Aside0.mk hx
          clear hx hf0 hf1 hf2 hf3 hf4 hf5
          go_wp2_with (at_builtin; refine Kd.R_append k37 (w0 := w) w.heap.size rfl (.tmp 45) (.tmp 47) 22 37 (.agg #[(.int .i64 0), (.int .i64 0), (.int .i64 0), (.int .i64 0), (.int .i64 0), (.slice none 0 0)]) 64 rfl Try.underlying22 info37 rfl (by decide) (by omega) _ xs ⟨2, 2 * ((m : Int) + 1), 1, 1, 3, []⟩ _ (fun k => k ≠ g) (fun _ => False) rfl rfl (k37_mkM _ _ _ ⟨2, 2 * ((m : Int) + 1), 1, 1, 3, []⟩ (Kd.R_nil _ _ _ _ _)) (fun _ hk => hk.elim) (fun k hk => by have := blk_lt hI.out.hb; omega) hI.out.hv hI.out.hB (Nat.le_of_lt (Nat.lt_of_le_of_lt hI.out.ge (blk_lt hI.out.hb))) (by have := hxl.out; omega) ?_; intro v1 w4 hv4 hB4 _ _)
          clear hI hc0 hc1 hc2 hc3 hc4 hc5
          go_roundw
          case rel => exact ⟨m + 1, by omega, by go_num, ⟨by rw [hxx.out]; exact Kd.R_mono hv4 (fun _ _ => trivial)⟩, ⟨hB4⟩⟩
          case measure => simp [intOf]; omega
      · by_cases e6 : Go.bits .and .i64 z 6 = 0
        · go_upto_region 13 with fail
          clear hc0 hc1 hc2 hc3 hc4 hc5 hf0 hf1 hf2 hf3 hf4 hf5 hk
          replace hI := Aside0.mk (hI.out.six (.int .i64 1) (.int .i64 (2 * ((m : Int) + 1))) (.int .i64 0) (.int .i64 0) (.int .i64 m) (.slice none 0 0))
          generalize World.setCell (World.setCell (World.setCell (World.setCell (World.setCell (World.setCell W1 _ _) _ _) _ _) _ _) _ _) _ _ = W3 at hI ⊢
          have hx : alL ks (m + 1) = xs ++ [⟨1, 2 * ((m : Int) + 1), 0, 0, m, []⟩] := by rw [hs.out]; unfold alOp; simp only [e1, e6, if_true, if_false]
          obtain ⟨⟨hc0, hc1, hc2, hc3, hc4, hc5⟩, hf0, hf1, hf2, hf3, hf4, hf5⟩ := hI.out.cells
          have hxx := Aside0.mk hx
          clear hx hf0 hf1 hf2 hf3 hf4 hf5
          go_wp2_with (at_builtin; refine Kd.R_append k37 (w0 := w) w.heap.size rfl (.tmp 45) (.tmp 47) 22 37 (.agg #[(.int .i64 0), (.int .i64 0), (.int .i64 0), (.int .i64 0), (.int .i64 0), (.slice none 0 0)]) 64 rfl Try.underlying22 info37 rfl (by decide) (by omega) _ xs ⟨1, 2 * ((m : Int) + 1), 0, 0, m, []⟩ _ (fun k => k ≠ g) (fun _ => False) rfl rfl (k37_mkM _ _ _ ⟨1, 2 * ((m : Int) + 1), 0, 0, m, []⟩ (Kd.R_nil _ _ _ _ _)) (fun _ hk => hk.elim) (fun k hk => by have := blk_lt hI.out.hb; omega) hI.out.hv hI.out.hB (Nat.le_of_lt (Nat.lt_of_le_of_lt hI.out.ge (blk_lt hI.out.hb))) (by have := hxl.out; omega) ?_; intro v1 w4 hv4 hB4 _ _)
          clear hI hc0 hc1 hc2 hc3 hc4 hc5
          go_roundw
          case rel => exact ⟨m + 1, by omega, by go_num, ⟨by rw [hxx.out]; exact Kd.R_mono hv4 (fun _ _ => trivial)⟩, ⟨hB4⟩⟩
          case measure => simp [intOf]; omega
        · go_upto_region 13 with fail
          clear hc0 hc1 hc2 hc3 hc4 hc5 hf0 hf1 hf2 hf3 hf4 hf5 hk
          have hx : alL ks (m + 1) = xs ++ [⟨2, 2 * ((m : Int) + 1), 1, 1, 1, []⟩] := by rw [hs.out]; unfold alOp; simp only [e1, e6, if_true, if_false]
          obtain ⟨⟨hc0, hc1, hc2, hc3, hc4, hc5⟩, hf0, hf1, hf2, hf3, hf4, hf5⟩ := hI.out.cells
          have hxx := Aside0.mk hx
          clear hx hf0 hf1 hf2 hf3 hf4 hf5
          go_wp2_with (at_builtin; refine Kd.R_append k37 (w0 := w) w.heap.size rfl (.tmp 45) (.tmp 47) 22 37 (.agg #[(.int .i64 0), (.int .i64 0), (.int .i64 0), (.int .i64 0), (.int .i64 0), (.slice none 0 0)]) 64 rfl Try.underlying22 info37 rfl (by decide) (by omega) _ xs ⟨2, 2 * ((m : Int) + 1), 1, 1, 1, []⟩ _ (fun k => k ≠ g) (fun _ => False) rfl rfl (k37_mkM _ _ _ ⟨2, 2 * ((m : Int) + 1), 1, 1, 1, []⟩ (Kd.R_nil _ _ _ _ _)) (fun _ hk => hk.elim) (fun k hk => by have := blk_lt hI.out.hb; omega) hI.out.hv hI.out.hB (Nat.le_of_lt (Nat.lt_of_le_of_lt hI.out.ge (blk_lt hI.out.hb))) (by have := hxl.out; omega) ?_; intro v1 w4 hv4 hB4 _ _)
          clear hI hc0 hc1 hc2 hc3 hc4 hc5
          go_roundw
          case rel => exact ⟨m + 1, by omega, by go_num, ⟨by rw [hxx.out]; exact Kd.R_mono hv4 (fun _ _ => trivial)⟩, ⟨hB4⟩⟩
          case measure => simp [intOf]; omega
    · obtain rfl : m = ks.length := by omega
      have hF : Few (alL ks ks.length) := ⟨by rw [alL_length]; omega, fun x hx => by
        unfold alL mkL at hx
        obtain ⟨i, _, rfl⟩ := List.mem_map.1 hx
        unfold alOp
        split
        · simp
        · split <;> simp⟩
      obtain ⟨ob, hp⟩ := places (alL ks ks.length)
      have hll := alL_length ks ks.length
      have Hp := Aside0.mk hp
      have Hs := Aside0.mk (al_sorted ks ks.length (by omega) hp)
      have Hr := Aside0.mk (al_row ks ks.length)
      obtain ⟨Al, cl, rfl, hlc, hlC⟩ := Kd.R_reads hv.out
      rw [hll] at hlc hlC
      have hordc : ∀ W, Kd.C k37 W Al ks.length (alL ks ks.length) → Calls Try.prog 22 #[.slice Al ks.length cl] W fun e w' => ∃ Ao co, e = .returned (.slice Ao ks.length co) ∧ Kd.C (Kd.int .i64) w' Ao ks.length (orderOf (alL ks ks.length)) ∧ ks.length ≤ co ∧ Below W.heap.size W w' := fun W hW => by
        have := order_calls (alL ks ks.length) hF.1 hF.2 Al cl W (by rw [hll]; exact hW) (by rw [hll]; exact hlc)
        rw [hll] at this
        exact this.mono fun e w' ⟨v, he, hv, hb⟩ => by
          obtain ⟨Ao, co, rfl, h1, h2⟩ := Kd.R_reads hv
          rw [orderOf_length, hll] at he h1 h2
          exact ⟨Ao, co, he, h2, h1, hb⟩
      have hdepc : ∀ W, Kd.C k37 W Al ks.length (alL ks ks.length) → Calls Try.prog 17 #[.slice Al ks.length cl] W fun e w' => ∃ Ad cd, e = .returned (.slice Ad ks.length cd) ∧ Kd.C (Kd.slice 3 (Kd.int .i64)) w' Ad ks.length (depsOf (alL ks ks.length)) ∧ ks.length ≤ cd ∧ Below W.heap.size W w' := fun W hW => by
        have := deps_calls (alL ks ks.length) hF.1 hF.2 Al cl W (by rw [hll]; exact hW) (by rw [hll]; exact hlc)
        rw [hll] at this
        exact this.mono fun e w' ⟨v, he, hv, hb⟩ => by
          obtain ⟨Ao, co, rfl, h1, h2⟩ := Kd.S_reads hv
          rw [depsOf_length, hll] at he h1 h2
          exact ⟨Ao, co, he, h2, h1, hb⟩
      have HO : Aside0 (∀ i : Nat, i < ks.length → rd (orderOf (alL ks ks.length)) (i : Int) = (ob i : Nat)) := ⟨fun i hi => by
        show (orderOf _).getD _ 0 = _
        rw [Int.toNat_natCast, List.getD_eq_getElem?_getD, Hp.out.get i (by omega)]
        rfl⟩
      have Hlt : Aside0 (∀ i, i < ks.length → ob i < ks.length) := ⟨fun i hi => by have := Hp.out.lt i (by omega); omega⟩
      clear hp Hp hF h hv
      generalize orderOf (alL ks ks.length) = O at hordc HO
      generalize depsOf (alL ks ks.length) = D at hdepc Hr
      generalize alL ks ks.length = l at *
      go_wp2_with fail
      refine (hordc wr hlC).mono ?_
      rintro e w2 ⟨Ao, co, rfl, hO2, hco, hB2⟩
      have hl2 := Kd.C_below hlC hB2
      have hBB := below_then hB.out hB.out.size hB2
      clear hordc hlC hB2 hB
      go_wp2_with fail
      refine (hdepc w2 hl2).mono ?_
      rintro e w3 ⟨Ad, cd, rfl, hD3, hcd, hB3⟩
      have hl3 := Kd.C_below hl2 hB3
      have hO3 := Kd.C_below hO2 hB3
      have hB4 := below_then hBB hBB.size hB3
      clear hdepc hl2 hB3 hO2 hBB
      have hI := Aside0.mk (show LA w Al Ao Ad ks.length l O D w3 from ⟨hl3, hO3, hD3, hB4⟩)
      clear hl3 hO3 hD3 hB4
      go_wp2_with fail
      go_loopw [9] (fun s wr => ∃ (m : Nat), m ≤ ks.length ∧ s = .int .i64 m ∧ Aside0 (LA w Al Ao Ad ks.length l O D wr))
        (fun s _ => ks.length - (intOf s).toNat)
      case atStart => exact ⟨0, Nat.zero_le _, rfl, hI⟩
      case round =>
        clear hI
        obtain ⟨m, hm, rfl, hI⟩ := hrel
        by_cases hlt : m < ks.length
        · have hmn : (m : Int) < (ks.length : Int) := by omega
          have hm0 : (0 : Int) ≤ (m : Int) := by omega
          obtain ⟨do_, hoe, ho⟩ := Kd.at_int hI.out.hO (m : Int) hm0 hmn
          subst hoe
          rw [Int.toNat_natCast, HO.out m hlt] at ho
          obtain ⟨dd, A0, c0, rfl, q0, q1, q2⟩ := at_L1 hI.out.hD (m : Int) hm0 hmn
          rw [Int.toNat_natCast, Hr.out m hlt] at q0
          replace q0 : wr.cell? (dd.add m) = some (.slice A0 0 c0) := q0
          clear q1 q2
          have hbl := Hlt.out m hlt
          have hb0 : ¬ ((ob m : Nat) : Int) < 0 := by omega
          have hb1 : (0 : Int) ≤ ((ob m : Nat) : Int) := by omega
          have hb2 : ((ob m : Nat) : Int) < (ks.length : Int) := by omega
          by_cases hm1 : m = 0
          · subst hm1
            rw [Addr.add_zero'] at ho q0
            go_wp2_with fail
            go_roundw
            case rel => exact ⟨1, by omega, by go_num, hI⟩
            case measure => simp [intOf]; omega
          · have hm2 : ¬ (m : Int) = 0 := by omega
            have hbq := Hlt.out (m - 1) (by omega)
            have hbq1 : (0 : Int) ≤ ((ob (m - 1) : Nat) : Int) := by omega
            have hbq2 : ((ob (m - 1) : Nat) : Int) < (ks.length : Int) := by omega
            have hmi : (m : Int) - 1 = ((m - 1 : Nat) : Int) := by omega
            obtain ⟨do2, hoe, ho2⟩ := Kd.at_int hI.out.hO ((m - 1 : Nat) : Int) (by omega) (by omega)
            obtain rfl : do_ = do2 := Option.some.inj hoe
            clear hoe
            rw [Int.toNat_natCast, HO.out (m - 1) (by omega)] at ho2
            obtain ⟨dl, Ax, cx, hle, x0, x1, x2, x3, x4, x5, x6, x7⟩ := at_T37 hI.out.hl ((ob (m - 1) : Nat) : Int) hbq1 hbq2
            have hIy : ∀ W, LA w Al (some do_) (some dd) ks.length l O D W → ∃ Ay cy, Al = some dl ∧ W.cell? (dl.add ((ob m : Nat) * 6)) = some (.int .i64 (rd_T37 l (ob m : Nat)).f0) ∧ W.cell? ⟨(dl.add ((ob m : Nat) * 6)).block, (dl.add ((ob m : Nat) * 6)).off + 1, none⟩ = some (.int .i64 (rd_T37 l (ob m : Nat)).f1) ∧ W.cell? ⟨(dl.add ((ob m : Nat) * 6)).block, (dl.add ((ob m : Nat) * 6)).off + 2, none⟩ = some (.int .i64 (rd_T37 l (ob m : Nat)).f2) ∧ W.cell? ⟨(dl.add ((ob m : Nat) * 6)).block, (dl.add ((ob m : Nat) * 6)).off + 3, none⟩ = some (.int .i64 (rd_T37 l (ob m : Nat)).f3) ∧ W.cell? ⟨(dl.add ((ob m : Nat) * 6)).block, (dl.add ((ob m : Nat) * 6)).off + 4, none⟩ = some (.int .i64 (rd_T37 l (ob m : Nat)).f4) ∧ W.cell? ⟨(dl.add ((ob m : Nat) * 6)).block, (dl.add ((ob m : Nat) * 6)).off + 5, none⟩ = some (.slice Ay (rd_T37 l (ob m : Nat)).f5.length cy) ∧ (rd_T37 l (ob m : Nat)).f5.length ≤ cy ∧ Kd.C (Kd.int .i64) W Ay (rd_T37 l (ob m : Nat)).f5.length (rd_T37 l (ob m : Nat)).f5 := fun W hW => by
              obtain ⟨dy, Ay, cy, hye, y0, y1, y2, y3, y4, y5, y6, y7⟩ := at_T37 hW.hl ((ob m : Nat) : Int) hb1 hb2
              obtain rfl : dl = dy := Option.some.inj (hle.symm.trans hye)
              rw [Int.toNat_natCast] at y0 y1 y2 y3 y4 y5
              exact ⟨Ay, cy, hle, y0, y1, y2, y3, y4, y5, y6, y7⟩
            subst hle
            rw [Int.toNat_natCast] at x0 x1 x2 x3 x4 x5
            have hsrt := Hs.out (m - 1) (by omega)
            rw [show m - 1 + 1 = m by omega] at hsrt
            have hlx := lat_calls (rd_T37 l (ob (m - 1) : Nat)) Ax cx wr x7 x6
            have HIy := Aside0.mk hIy
            have hly := fun W A c => lat_calls (rd_T37 l (ob m : Nat)) A c W
            have Hly := Aside0.mk hly
            clear hIy hly x6 x7
            have hab1 := hsrt.1
            have hab2 := hsrt.2
            clear hsrt
            generalize hA_ : latOf (rd_T37 l (ob (m - 1) : Nat)) = a at hlx hab1 hab2
            generalize hB_ : latOf (rd_T37 l (ob m : Nat)) = b at Hly hab1 hab2
            clear hA_ hB_
            generalize rd_T37 l ((ob (m - 1) : Nat) : Int) = x at x0 x1 x2 x3 x4 x5 hlx
            generalize rd_T37 l ((ob m : Nat) : Int) = y at HIy Hly
            have hnlt : ¬ a < b := by omega
            have hor : a = b → ¬ ((ob m : Nat) : Int) ≤ ((ob (m - 1) : Nat) : Int) := fun e => by have := hab2 e; omega
            clear hab1 hab2
            generalize ob m = om at *
            generalize ob (m - 1) = oq at *
            go_wp2_with fail
            refine hlx.mono ?_
            rintro e w4 ⟨rfl, hB5⟩
            have hI5 := Aside0.mk (hI.out.below hB5)
            have o1 := pw_cell_below hB5 ho
            have o2 := pw_cell_below hB5 ho2
            clear hI hlx x0 x1 x2 x3 x4 x5 ho ho2 q0 hB5
            obtain ⟨Ay, cy, _, y0, y1, y2, y3, y4, y5, y6, y7⟩ := HIy.out w4 hI5.out
            have hly := Hly.out w4 Ay cy y7 y6
            clear HIy Hly y7 y6
            go_wp2_with fail
            refine hly.mono ?_
            rintro e w6 ⟨rfl, hB7⟩
            have hI7 := Aside0.mk (hI5.out.below hB7)
            have o3 := pw_cell_below hB7 o1
            have o4 := pw_cell_below hB7 o2
            clear hI5 hly y0 y1 y2 y3 y4 y5 o1 o2 hB7
            by_cases hab : a = b
            · have hno := hor hab
              have hlo : (oq : Int) < (om : Int) := by omega
              go_wp2_with fail
              go_quiet (fail)
              have hI8 := Aside0.mk (hI7.out.below (pw_below_drewN (Below.refl _ _) nq))
              clear hI7
              go_wp2
              go_roundw
              case rel => exact ⟨m + 1, by omega, by go_num, hI8⟩
              case measure => simp [intOf]; omega
            · go_wp2_with fail
              go_quiet (fail)
              have hI8 := Aside0.mk (hI7.out.below (pw_below_drewN (Below.refl _ _) nq))
              clear hI7
              go_wp2
              go_roundw
              case rel => exact ⟨m + 1, by omega, by go_num, hI8⟩
              case measure => simp [intOf]; omega
        · obtain rfl : m = ks.length := by omega
          have hB := Aside0.mk hI.out.hB
          clear hI
          go_wp2_with fail
          go_ret
          exact ⟨rfl, hB.out⟩
#print axioms law_alone
end Go.Proofs.Ytphmlkbmnmicpaa.A

/- What comes in, opened: a datum that is trodden at a type is a value of the kind. -/
namespace Go.Proofs.Ytphmlkbmnmicpaa.A
open Go.Deep Go.RowKit Go.Proofs.YtphmlkbmnmicpaaW.PrintWords Go.Proofs.YtphmlkbmnmicpaaW.PrintLast
set_option linter.unusedVariables false
set_option linter.unusedSimpArgs false

section
variable {H : Type} {enc : TypeId × Value → H} {P : Program} {w : World} {base : Nat} {α : Type} [Inhabited α]

def Opens (enc : TypeId × Value → H) (P : Program) (w : World) (base : Nat) (t : TypeId) (d : Kd α) (p : α → Prop) : Prop :=
  ∀ fuel cs x, DataW.trod enc P w base (fun _ => true) true fuel t cs = some x → ∃ y, d.K w y cs ∧ p y

theorem opens_int {t : TypeId} {k : IntKind} (ht : P.underlying t = some (.int k)) : Opens enc P w base t (Kd.int k) (fun n => (Lit.int k n).wf = true) := by
  intro fuel cs x h
  obtain ⟨n, rfl, _, hw⟩ := DataW.trod_int ht h
  exact ⟨n, rfl, hw⟩

theorem opens_slice {t e : TypeId} {d : Kd α} {p : α → Prop} (ht : P.underlying t = some (.slice e)) (hc : P.cellsOf e = d.sz) (ho : Opens enc P w base e d p) : Opens enc P w base t (Kd.slice e d) (fun xs => ∀ x ∈ xs, p x) := by
  intro fuel cs x h
  rcases open_slice ht h with ⟨rfl, _⟩ | ⟨a, len, cap, m, n, D, Pl, rfl, hb, hl, hm, hmm, _, hx⟩
  · exact ⟨[], ⟨none, 0, rfl, Nat.le_refl _, rfl, by simp, fun h => by simp at h⟩, fun x hx => by simp at hx⟩
  · simp only [if_true] at hmm
    obtain ⟨Y, hY⟩ := choose_lt (α := α) (n := len) (p := fun i y => p y ∧ ∃ c, d.K w y c ∧ ∀ j u, c[j]? = some u → w.cell? (a.add (i * d.sz + j)) = some u) (fun i hi => by
      obtain ⟨cs', h1, h2⟩ := hx i (by omega)
      obtain ⟨y, hy, hp⟩ := ho _ _ _ h2
      obtain ⟨_, hlen, hcell⟩ := World.cells?_some h1
      refine ⟨y, hp, cs', hy, fun j u hj => ?_⟩
      have hj' : j < cs'.length := (List.getElem?_eq_some_iff.1 hj).1
      have := hcell j (by omega)
      rw [hj, hc] at this
      rwa [Addr.add_add] at this)
    have hlen : ((List.range len).map Y).length = len := by simp
    refine ⟨(List.range len).map Y, ⟨some a, cap, by rw [hlen], by rw [hlen]; exact hl, hlen.trans hlen.symm, by rw [hlen]; unfold maxLen at hm; omega, fun _ => ⟨a, rfl, fun j y hj => ?_⟩⟩, fun y hy => ?_⟩
    · have hjl : j < len := by have := (List.getElem?_eq_some_iff.1 hj).1; omega
      rw [List.getElem?_map, List.getElem?_range hjl] at hj
      obtain rfl := Option.some.inj hj
      obtain ⟨_, c, hk, hcell⟩ := hY j hjl
      exact ⟨c, d.K_len hk, hk, hcell⟩
    · obtain ⟨i, hi, rfl⟩ := List.mem_map.1 hy
      exact (hY i (List.mem_range.1 hi)).1
omit [Inhabited α] in
/-- of a parameter: a slice -/
theorem opens_param {t e : TypeId} {d : Kd α} {p : List α → Prop} (ho : Opens enc P w base t (Kd.slice e d) p) {A : Option Addr} {len cap : Nat} {x : DataW H} {ps : List MemPlace} (h : DataW.Trod enc P w base (fun _ => true) true t (.slice A len cap) x ps) :
    ∃ xs : List α, len = xs.length ∧ xs.length ≤ cap ∧ d.C w A xs.length xs ∧ p xs := by
  obtain ⟨fuel, hf⟩ := h
  obtain ⟨xs, ⟨A', c', he, hl, hC⟩, hp⟩ := ho _ _ _ hf
  simp [Value.cells] at he
  obtain ⟨rfl, rfl, rfl⟩ := he
  exact ⟨xs, rfl, hl, hC, hp⟩
end

instance : Inhabited S37 := ⟨z37⟩
theorem opens_op {H : Type} {enc : TypeId × Value → H} {w : World} {base : Nat} : Opens enc Try.prog w base 37 k37 (fun _ => True) := by
  intro fuel cs x h
  obtain ⟨xs, n, _, _, hl, hlen, hf⟩ := DataW.trod_struct Try.underlying37 h
  have hl' : cs.length = 6 := hl.trans (by kernel_rfl)
  match cs, hl' with
  | [c0, c1, c2, c3, c4, c5], _ =>
    have int_ : ∀ (i : Nat) (c : Value), DataW.trod enc Try.prog w base (fun _ => true) true n 3 [c] = xs[i]? → i < 6 → ∃ m, c = .int .i64 m := by
      intro i c h hi
      have : i < xs.length := by rw [hlen]; exact hi
      rw [List.getElem?_eq_getElem this] at h
      obtain ⟨m, hm, _, _⟩ := DataW.trod_int Try.underlying3 h
      exact ⟨m, by simpa using hm⟩
    have h0 : DataW.trod enc Try.prog w base (fun _ => true) true n 3 (([c0, c1, c2, c3, c4, c5].drop 0).take (Try.prog.cellsOf 3)) = xs[0]? := hf 0 _ rfl
    have h1 : DataW.trod enc Try.prog w base (fun _ => true) true n 3 (([c0, c1, c2, c3, c4, c5].drop 1).take (Try.prog.cellsOf 3)) = xs[1]? := hf 1 _ rfl
    have h2 : DataW.trod enc Try.prog w base (fun _ => true) true n 3 (([c0, c1, c2, c3, c4, c5].drop 2).take (Try.prog.cellsOf 3)) = xs[2]? := hf 2 _ rfl
    have h3 : DataW.trod enc Try.prog w base (fun _ => true) true n 3 (([c0, c1, c2, c3, c4, c5].drop 3).take (Try.prog.cellsOf 3)) = xs[3]? := hf 3 _ rfl
    have h4 : DataW.trod enc Try.prog w base (fun _ => true) true n 3 (([c0, c1, c2, c3, c4, c5].drop 4).take (Try.prog.cellsOf 3)) = xs[4]? := hf 4 _ rfl
    have h5 : DataW.trod enc Try.prog w base (fun _ => true) true n 23 (([c0, c1, c2, c3, c4, c5].drop 5).take (Try.prog.cellsOf 23)) = xs[5]? := hf 5 _ rfl
    rw [show Try.prog.cellsOf 3 = 1 by kernel_rfl] at h0 h1 h2 h3 h4
    rw [show Try.prog.cellsOf 23 = 1 by kernel_rfl] at h5
    obtain ⟨m0, rfl⟩ := int_ 0 c0 h0 (by omega)
    obtain ⟨m1, rfl⟩ := int_ 1 c1 h1 (by omega)
    obtain ⟨m2, rfl⟩ := int_ 2 c2 h2 (by omega)
    obtain ⟨m3, rfl⟩ := int_ 3 c3 h3 (by omega)
    obtain ⟨m4, rfl⟩ := int_ 4 c4 h4 (by omega)
    have h5' : 5 < xs.length := by rw [hlen]; decide
    rw [List.getElem?_eq_getElem h5'] at h5
    obtain ⟨ys, ⟨A, c, he, hl5, hC⟩, _⟩ := opens_slice (d := Kd.int .i64) Try.underlying23 (by kernel_rfl) (opens_int Try.underlying3) _ _ _ h5
    have he' : c5 = .slice A ys.length c := by simpa using he
    subst he'
    exact ⟨⟨m0, m1, m2, m3, m4, ys⟩, k37_mk w ⟨m0, m1, m2, m3, m4, ys⟩ hl5 hC, trivial⟩
theorem opens_ops {H : Type} {enc : TypeId × Value → H} {w : World} {base : Nat} : Opens enc Try.prog w base 22 (Kd.slice 37 k37) (fun xs => ∀ x ∈ xs, True) := opens_slice Try.underlying22 (by kernel_rfl) opens_op
theorem opens_ints {H : Type} {enc : TypeId × Value → H} {w : World} {base : Nat} : Opens enc Try.prog w base 23 (Kd.slice 3 (Kd.int .i64)) (fun xs => ∀ x ∈ xs, (Lit.int .i64 x).wf = true) := opens_slice Try.underlying23 (by kernel_rfl) (opens_int Try.underlying3)
#print axioms opens_ops
end Go.Proofs.Ytphmlkbmnmicpaa.A
