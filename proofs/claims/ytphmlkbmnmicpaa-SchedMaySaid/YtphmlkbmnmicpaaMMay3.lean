/- Parts of the proof, in the order in which they rest on one another. -/
import Derived.Test.YtphmlkbmnmicpaaMMay2
import Derived.Deep.Slices
import Derived.ChangeArms
/- What the machine does at this function, and a plain Lean function that says the same: written by a program for this claim; Lean checks it. -/
namespace Go.Proofs.Ytphmlkbmnmicpaa.A
open Go.RowKit Go.Proofs.YtphmlkbmnmicpaaW.PrintWords Go.Proofs.YtphmlkbmnmicpaaW.PrintLast Go.Proofs.YtphmlkbmnmicpaaW.PrintMore
attribute [local go_sem] max2_int min2_int max_two min_two max_three min_three max_four min_four   -- for this text's walks alone
set_option linter.unusedVariables false
set_option linter.unusedSimpArgs false

/-! ### sched_Cost: function 26 -/
mutual
def sched_Cost.l0 : Nat → List (S37) → List Int → Int → Int → List (List Int) → Int → Int → Option (Int)
  | 0, _, _, _, _, _, _, _ => none
  | k + 1, x0, x4, x5, x6, x16, x17, x18 => if x18 < x17 then (if 0 ≤ x18 then (if x18 < (x16.length : Int) then (sched_Cost.l1 k x0 x4 x5 x6 x18 x16 x17 x18 (rd_L1 x16 x18) ((rd_L1 x16 x18).length : Int) 0) else (none)) else (none)) else (some x6)
def sched_Cost.l1 : Nat → List (S37) → List Int → Int → Int → Int → List (List Int) → Int → Int → List Int → Int → Int → Option (Int)
  | 0, _, _, _, _, _, _, _, _, _, _, _ => none
  | k + 1, x0, x4, x5, x6, x7, x16, x17, x18, x23, x24, x25 => if x25 < x24 then (if 0 ≤ x25 then (if x25 < (x23.length : Int) then (if 0 ≤ x7 then (if x7 < (x0.length : Int) then (if 0 ≤ (rd x23 x25) then (if (rd x23 x25) < (x0.length : Int) then ((code_Sets.f k ((rd_T37 x0 (rd x23 x25)).f0) ((rd_T37 x0 (rd x23 x25)).f1) ((rd_T37 x0 (rd x23 x25)).f2) ((rd_T37 x0 (rd x23 x25)).f3) ((rd_T37 x0 (rd x23 x25)).f4) ((rd_T37 x0 (rd x23 x25)).f5)).bind fun t196 => ((sched_reads.f k ((rd_T37 x0 x7).f0) ((rd_T37 x0 x7).f1) ((rd_T37 x0 x7).f2) ((rd_T37 x0 x7).f3) ((rd_T37 x0 x7).f4) ((rd_T37 x0 x7).f5) t196).bind fun t197 => (if t197 = true then (if (rd x23 x25) < (x4.length : Int) then (sched_Cost.l1 k x0 x4 (mx x5 (rd x4 (rd x23 x25))) x6 x7 x16 x17 x18 x23 x24 (wrap64 (x25 + 1))) else (none)) else (sched_Cost.l1 k x0 x4 x5 x6 x7 x16 x17 x18 x23 x24 (wrap64 (x25 + 1)))))) else (none)) else (none)) else (none)) else (none)) else (none)) else (none)) else (if 0 ≤ x7 then (if x7 < (x0.length : Int) then ((sched_Latency.f ((rd_T37 x0 x7).f0) ((rd_T37 x0 x7).f1) ((rd_T37 x0 x7).f2) ((rd_T37 x0 x7).f3) ((rd_T37 x0 x7).f4) ((rd_T37 x0 x7).f5)).bind fun t190 => (if x7 < (x4.length : Int) then ((some (x4.set (x7 : Int).toNat (wrap64 (x5 + t190)) : List Int)).bind fun y191 => (sched_Cost.l0 k x0 y191 (wrap64 (x5 + 1)) (mx x6 (rd y191 x7)) x16 x17 (wrap64 (x18 + 1)))) else (none))) else (none)) else (none))
end
def sched_Cost.f (k : Nat) (l0 : List (S37)) : Option (Int) := (sched_Deps.f k l0).bind fun t182 => (if 0 ≤ (t182.length : Int) then (if ((t182.length : Int) : Int).toNat ≤ 35184372088832 then (sched_Cost.l0 k l0 (List.replicate ((t182.length : Int) : Int).toNat 0) 0 0 t182 (t182.length : Int) 0) else (none)) else (none))
theorem sched_Cost.mono_l : ∀ k, (∀ y0 y1 y2 y3 y4 y5 y6, LeO (sched_Cost.l0 k y0 y1 y2 y3 y4 y5 y6) (sched_Cost.l0 (k + 1) y0 y1 y2 y3 y4 y5 y6)) ∧ (∀ y0 y1 y2 y3 y4 y5 y6 y7 y8 y9 y10, LeO (sched_Cost.l1 k y0 y1 y2 y3 y4 y5 y6 y7 y8 y9 y10) (sched_Cost.l1 (k + 1) y0 y1 y2 y3 y4 y5 y6 y7 y8 y9 y10))
  | 0 => ⟨fun _ _ _ _ _ _ _ r h => by simp [sched_Cost.l0] at h, fun _ _ _ _ _ _ _ _ _ _ _ r h => by simp [sched_Cost.l1] at h⟩
  | k + 1 => by
    obtain ⟨ih0, ih1⟩ := sched_Cost.mono_l k
    refine ⟨?_, ?_⟩
    · intro y0 y1 y2 y3 y4 y5 y6
      unfold sched_Cost.l0
      repeat' first
      | (with_reducible exact ih0 _ _ _ _ _ _ _)
      | (with_reducible exact ih1 _ _ _ _ _ _ _ _ _ _ _)
      | (with_reducible exact code_Sets.mono _ _ _ _ _ _ _)
      | (with_reducible exact sched_Deps.mono _ _)
      | (with_reducible exact sched_reads.mono _ _ _ _ _ _ _ _)
      | (with_reducible exact LeO.refl _)
      | (with_reducible exact LeO.none _)
      | (with_reducible refine LeO.ite ?_ ?_)
      | (with_reducible refine LeO.bind ?_ (fun _ => ?_))
      | exact ih0 _ _ _ _ _ _ _
      | exact ih1 _ _ _ _ _ _ _ _ _ _ _
      | exact code_Sets.mono _ _ _ _ _ _ _
      | exact sched_Deps.mono _ _
      | exact sched_reads.mono _ _ _ _ _ _ _ _
      | exact LeO.none _
      | refine LeO.ite ?_ ?_
      | refine LeO.bind ?_ (fun _ => ?_)
    · intro y0 y1 y2 y3 y4 y5 y6 y7 y8 y9 y10
      unfold sched_Cost.l1
      repeat' first
      | (with_reducible exact ih0 _ _ _ _ _ _ _)
      | (with_reducible exact ih1 _ _ _ _ _ _ _ _ _ _ _)
      | (with_reducible exact code_Sets.mono _ _ _ _ _ _ _)
      | (with_reducible exact sched_Deps.mono _ _)
      | (with_reducible exact sched_reads.mono _ _ _ _ _ _ _ _)
      | (with_reducible exact LeO.refl _)
      | (with_reducible exact LeO.none _)
      | (with_reducible refine LeO.ite ?_ ?_)
      | (with_reducible refine LeO.bind ?_ (fun _ => ?_))
      | exact ih0 _ _ _ _ _ _ _
      | exact ih1 _ _ _ _ _ _ _ _ _ _ _
      | exact code_Sets.mono _ _ _ _ _ _ _
      | exact sched_Deps.mono _ _
      | exact sched_reads.mono _ _ _ _ _ _ _ _
      | exact LeO.none _
      | refine LeO.ite ?_ ?_
      | refine LeO.bind ?_ (fun _ => ?_)
theorem sched_Cost.mono : ∀ a0 k, LeO (sched_Cost.f k a0) (sched_Cost.f (k + 1) a0) := by
  intro a0 k
  obtain ⟨ih0, ih1⟩ := sched_Cost.mono_l k
  unfold sched_Cost.f
  repeat' first
      | (with_reducible exact ih0 _ _ _ _ _ _ _)
      | (with_reducible exact ih1 _ _ _ _ _ _ _ _ _ _ _)
      | (with_reducible exact code_Sets.mono _ _ _ _ _ _ _)
      | (with_reducible exact sched_Deps.mono _ _)
      | (with_reducible exact sched_reads.mono _ _ _ _ _ _ _ _)
      | (with_reducible exact LeO.refl _)
      | (with_reducible exact LeO.none _)
      | (with_reducible refine LeO.ite ?_ ?_)
      | (with_reducible refine LeO.bind ?_ (fun _ => ?_))
      | exact ih0 _ _ _ _ _ _ _
      | exact ih1 _ _ _ _ _ _ _ _ _ _ _
      | exact code_Sets.mono _ _ _ _ _ _ _
      | exact sched_Deps.mono _ _
      | exact sched_reads.mono _ _ _ _ _ _ _ _
      | exact LeO.none _
      | refine LeO.ite ?_ ?_
      | refine LeO.bind ?_ (fun _ => ?_)
def sched_Cost.T10 : Bool × List (List Nat × List Nat) := (true, [([], []), ([], []), ([0, 1], [0, 1]), ([2], [2]), ([], []), ([], []), ([4, 5], [4, 5]), ([6], [6]), ([7], [7]), ([3, 8, 8], [3, 8])])
def sched_Cost.B10 : List Nat := [0, 0, 3, 7, 0, 0, 48, 112, 240, 511]
theorem sched_Cost.tab10 : rtab .any (opsOf Try.f26 10) = sched_Cost.T10 := by kernel_rfl
theorem sched_Cost.bits10 : waitsOk sched_Cost.T10.2 sched_Cost.B10 = true := by kernel_rfl
set_option maxHeartbeats 8000000 in
set_option maxRecDepth 100000 in
theorem sched_Cost.calls (k : Nat) (A0 : Option Addr) (c0 : Nat) (l0 : List (S37)) (r : Int) (w : World) (hr0 : Kd.C k37 w A0 l0.length l0) (hc0 : l0.length ≤ c0) (h : sched_Cost.f k l0 = some r) :
    Calls Try.prog 26 #[.slice A0 l0.length c0] w fun e w' => e = .returned (.int .i64 r) ∧ Below w.heap.size w w' := by
  have hu37 := Try.underlying37
  have HR0 := Aside0.mk hr0
  have HC0 := Aside0.mk hc0
  clear hr0 hc0
  have HB := Aside0.mk (Below.refl w.heap.size w)
  have H : ((sched_Deps.f k l0).bind fun t182 => (if 0 ≤ (t182.length : Int) then (if ((t182.length : Int) : Int).toNat ≤ 35184372088832 then (sched_Cost.l0 k l0 (List.replicate ((t182.length : Int) : Int).toNat 0) 0 0 t182 (t182.length : Int) 0) else (none)) else (none))) = some r := h
  clear h
  replace H := Option.bind_eq_some_iff.mp H
  obtain ⟨t182, A20, H⟩ := H
  replace H : (if 0 ≤ (t182.length : Int) then (if ((t182.length : Int) : Int).toNat ≤ 35184372088832 then (sched_Cost.l0 k l0 (List.replicate ((t182.length : Int) : Int).toNat 0) 0 0 t182 (t182.length : Int) 0) else (none)) else (none)) = some r := H
  have A2 := Aside0.mk A20
  clear A20
  by_cases c3 : 0 ≤ (t182.length : Int)
  · rw [if_pos c3] at H
    have c3b0 := eq_true c3
    have c3b1 : decide (0 ≤ (t182.length : Int)) = true := decide_eq_true c3
    clear c3
    by_cases c4 : ((t182.length : Int) : Int).toNat ≤ 35184372088832
    · rw [if_pos c4] at H
      have c4b0 := eq_true c4
      have c4b1 : decide (((t182.length : Int) : Int).toNat ≤ 35184372088832) = true := decide_eq_true c4
      clear c4
      obtain ⟨y185, hy185⟩ : ∃ y_ : List Int, y_ = (List.replicate ((t182.length : Int) : Int).toNat 0) := ⟨_, rfl⟩
      replace H : (sched_Cost.l0 k l0 y185 0 0 t182 (t182.length : Int) 0) = some r := by first | (rw [hy185]; with_reducible exact H) | (have H2_ := (Option.bind_some _ _).symm.trans H; rw [hy185]; with_reducible exact H2_) | (have H2_ := (Option.bind_some _ _).symm.trans H; with_reducible exact H2_) | with_reducible exact H | (rw [hy185]; exact H) | exact H
      have Ny185 := Aside0.mk hy185
      clear hy185
      have H' := Aside0.mk H
      clear H
      go_enter Try.func26, Try.ntmps26
      go_wp2_with (first | ((with_reducible refine gate_callee (f := 17) rfl ?_); refine goesL_ (some 12) rfl rfl Try.func17 (by kernel_rfl) rfl #[.slice A0 l0.length c0] rfl (by (try simp only [List.map_toArray, List.map_cons, List.map_nil]); first | done | rfl | (simp only [List.length_drop, List.length_take]; rfl)) ?_; (with_reducible refine (sched_Deps.calls k _ _ l0 t182 _ ?side1 ?side2 A2.out).mono ?_); (case side1 => repeat (first | exact HR0.out | (with_reducible refine Kd.C_alloc ?_ _) | (with_reducible refine Kd.C_drewN ?_ _) | (with_reducible refine Kd.C_drew ?_))); (case side2 => exact HC0.out); rintro e w5 ⟨v183, rfl, ho0, hb⟩; refine ⟨_, rfl, ?_⟩; have n0_ := Aside0.mk (Kd.S_lower ho0 (below_size (by repeat (first | (with_reducible first | exact HB.out | apply below_alloc | apply pw_below_drewN | apply below_drew1) | exact HB.out)))); have n1_ := Aside0.mk (below_step (by repeat (first | (with_reducible first | exact HB.out | apply below_alloc | apply pw_below_drewN | apply below_drew1) | exact HB.out)) hb); clear HB; have HO184 := n0_; have HB := n1_; clear n0_ n1_; (try clear hb); (try clear hb2); (try clear hk); (try clear hi); (try clear ho0); obtain ⟨Ao6, co6, eo6⟩ := Kd.S_slice HO184.out; subst eo6) | ((with_reducible refine gate_dst (N := 15) rfl ?_); refine Kd.R_make (Kd.int .i64) _ 3 rfl (N := 15) rfl 23 _ _ rfl (t182.length : Int) rfl rfl Try.underlying23 (.int .i64 0) 8 info3 rfl (by decide) (by omega) 0 (ok := fun _ => True) (okp := fun _ => True) rfl (fun _ hk => hk) trivial (of_decide_eq_true (by first | (with_reducible assumption) | assumption)) (Nat.le_trans (Nat.mul_le_mul_right _ (of_decide_eq_true (by first | (with_reducible assumption) | assumption) : (t182.length : Int).toNat ≤ 35184372088832)) (by omega)) (Below.refl _ _) (Nat.le_refl _) ?_; intro v186 w7 ho8 hb hg_ hnew_; clear hg_ hnew_; (first | rw [← Ny185.out] at ho8 | (simp only [Int.reduceToNat] at ho8; rw [← Ny185.out] at ho8)); have n0_ := Aside0.mk (Kd.S_elder' (by (with_reducible repeat (first | apply Kd.S_alloc | apply Kd.S_drewN | apply Kd.S_drew)); exact HO184.out) (Kd.R_base ho8) hb); have n1_ := Aside0.mk (Kd.R_lower ho8 (below_size (by repeat (first | (with_reducible first | exact HB.out | apply below_alloc | apply pw_below_drewN | apply below_drew1) | exact HB.out)))); have n2_ := Aside0.mk (below_step (by repeat (first | (with_reducible first | exact HB.out | apply below_alloc | apply pw_below_drewN | apply below_drew1) | exact HB.out)) hb); clear HO184; clear HB; have HO184 := n0_; have HO187 := n1_; have HB := n2_; clear n0_ n1_ n2_; clear hb ho8))
      go_loopg [5, 6, 18] k (fun kq v5 v6 v18 w' => ∃ (x4_1 : List Int) (x5_1 : Int) (x6_1 : Int) (x18_1 : Int), v5 = .int .i64 x5_1 ∧ v6 = .int .i64 x6_1 ∧ v18 = .int .i64 x18_1 ∧ Aside0 (sched_Cost.l0 kq l0 x4_1 x5_1 x6_1 t182 (t182.length : Int) x18_1 = some r) ∧ Aside0 (kq ≤ k) ∧ Aside0 (Kd.R (Kd.int .i64) 3 w' w.heap.size (fun _ => True) v186 x4_1) ∧ Aside0 (Kd.S (Kd.slice 3 (Kd.int .i64)) 23 w' w.heap.size (fun k_ => some k_ ≠ (v186 : Value).ownBlock) (.slice Ao6 t182.length co6) t182) ∧ Aside0 (Below w.heap.size w w'))
      case atStart => exact ⟨(y185), (0), (0), (0), (by first | rfl | (simp; done) | (simp [*]; done)), (by first | rfl | (simp; done) | (simp [*]; done)), (by first | rfl | (simp; done) | (simp [*]; done)), H', ⟨Nat.le_refl _⟩, ⟨by (with_reducible repeat (first | apply Kd.R_alloc | apply Kd.R_drewN | apply Kd.R_drew)); exact HO187.out⟩, ⟨by (with_reducible repeat (first | apply Kd.S_alloc | apply Kd.S_drewN | apply Kd.S_drew)); exact Kd.S_mono HO184.out (fun _ hk => hk.2)⟩, ⟨by repeat (first | (with_reducible first | exact HB.out | apply below_alloc | apply pw_below_drewN | apply below_drew1) | exact HB.out)⟩⟩
      case round =>
        clear H'
        try clear c1
        try clear c2
        try clear p2
        try clear c3
        try clear c3b0
        try clear c3b1
        try clear c4
        try clear c4b0
        try clear c4b1
        obtain ⟨x4_1, x5_1, x6_1, x18_1, rfl, rfl, rfl, HA, HK1, HO_4, HO_16, HB⟩ := hrel
        cases gk with
        | zero => exact absurd HA.out (by simp [sched_Cost.l0])
        | succ k1 =>
          have H := HA.out
          clear HA
          simp only [sched_Cost.l0] at H
          by_cases c9 : x18_1 < (t182.length : Int)
          · rw [if_pos c9] at H
            have c9b0 : decide (x18_1 < (t182.length : Int)) = true := decide_eq_true c9
            clear c9
            by_cases c10 : 0 ≤ x18_1
            · rw [if_pos c10] at H
              have c10b0 : decide (0 ≤ x18_1) = true := decide_eq_true c10
              clear c10
              by_cases c11 : x18_1 < (t182.length : Int)
              · rw [if_pos c11] at H
                have c11b0 : decide (x18_1 < (t182.length : Int)) = true := decide_eq_true c11
                clear c11
                have H' := Aside0.mk H
                clear H
                have p188 : 0 ≤ (x18_1 : Int) := of_decide_eq_true (by first | (with_reducible assumption) | assumption)
                have q188 : x18_1 < (t182.length : Int) := of_decide_eq_true (by first | (with_reducible assumption) | assumption)
                obtain ⟨ad188, A188_0, c188_0, e188, hx188_0, hl188_0, hi188_0⟩ := at_L1 (Kd.S_reads' HO_16.out).2.2 x18_1 p188 q188
                cases e188
                obtain ⟨ce188, hce188, hMe188, hcc188⟩ := Kd.S_get HO_16.out [] x18_1 p188 (by first | exact q188 | exact of_decide_eq_true (by first | (with_reducible assumption) | assumption) | (have e_ := (Kd.S_reads' HO_16.out).1; omega))
                obtain ⟨ve188_0, rfl, ge188_0⟩ := hMe188
                have hv188_0 := hcc188 0 _ rfl
                rw [Nat.add_zero, show ((Kd.slice 3 (Kd.int .i64))).sz = 1 from rfl, Nat.mul_one] at hv188_0
                replace hv188_0 := Option.some.inj (hv188_0.symm.trans hx188_0)
                rw [hv188_0] at ge188_0
                have HL188_0 := Aside0.mk (show Kd.R (Kd.int .i64) 3 _ _ _ _ (rd_L1 t182 x18_1) from ge188_0)
                clear hv188_0 ge188_0
                clear hcc188 hce188
                have HR188_0 := Aside0.mk hi188_0
                have HC188_0 := Aside0.mk hl188_0
                clear hi188_0 hl188_0
                replace p188 := eq_true p188
                replace q188 := eq_true q188
                go_wp2
                go_loopg [5, 25] k1 (fun kq v5 v25 w' => ∃ (x5_2 : Int) (x25_2 : Int), v5 = .int .i64 x5_2 ∧ v25 = .int .i64 x25_2 ∧ Aside0 (sched_Cost.l1 kq l0 x4_1 x5_2 x6_1 x18_1 t182 (t182.length : Int) x18_1 (rd_L1 t182 x18_1) ((rd_L1 t182 x18_1).length : Int) x25_2 = some r) ∧ Aside0 (kq ≤ k1) ∧ Aside0 (Kd.R (Kd.int .i64) 3 w' w.heap.size (fun _ => True) v186 x4_1) ∧ Aside0 (Kd.S (Kd.slice 3 (Kd.int .i64)) 23 w' w.heap.size (fun k_ => some k_ ≠ (v186 : Value).ownBlock) (.slice (some ad188) t182.length co6) t182) ∧ Aside0 (Kd.C (Kd.int .i64) w' A188_0 (rd_L1 t182 x18_1).length (rd_L1 t182 x18_1)) ∧ Aside0 (Below w.heap.size w w'))
                case atStart => exact ⟨(x5_1), (0), (by first | rfl | (simp; done) | (simp [*]; done)), (by first | rfl | (simp; done) | (simp [*]; done)), H', ⟨Nat.le_refl _⟩, ⟨by (with_reducible repeat (first | apply Kd.R_alloc | apply Kd.R_drewN | apply Kd.R_drew)); exact HO_4.out⟩, ⟨by (with_reducible repeat (first | apply Kd.S_alloc | apply Kd.S_drewN | apply Kd.S_drew)); exact HO_16.out⟩, ⟨by repeat (first | (with_reducible exact HR188_0.out) | (with_reducible refine Kd.C_alloc ?_ _) | (with_reducible refine Kd.C_drewN ?_ _) | (with_reducible refine Kd.C_drew ?_) | exact HR188_0.out)⟩, ⟨by repeat (first | (with_reducible first | exact HB.out | apply below_alloc | apply pw_below_drewN | apply below_drew1) | exact HB.out)⟩⟩
                case round =>
                  clear H'
                  try clear c1
                  try clear p1
                  try clear q1
                  try clear hx1
                  try clear c2
                  try clear p2
                  try clear c3
                  try clear c3b0
                  try clear c3b1
                  try clear c4
                  try clear c4b0
                  try clear c4b1
                  try clear c9
                  try clear c9b0
                  try clear c10
                  try clear c10b0
                  try clear c11
                  try clear c11b0
                  try clear hx188_0
                  try clear p188
                  try clear p2
                  try clear q188
                  obtain ⟨x5_2, x25_2, rfl, rfl, HA, HK2, HO_4, HO_16, HR188_0, HB⟩ := hrel
                  cases gk with
                  | zero => exact absurd HA.out (by simp [sched_Cost.l1])
                  | succ k2 =>
                    have H := HA.out
                    clear HA
                    simp only [sched_Cost.l1] at H
                    by_cases c12 : x25_2 < ((rd_L1 t182 x18_1).length : Int)
                    · rw [if_pos c12] at H
                      have c12b0 : decide (x25_2 < ((rd_L1 t182 x18_1).length : Int)) = true := decide_eq_true c12
                      clear c12
                      by_cases c13 : 0 ≤ x25_2
                      · rw [if_pos c13] at H
                        have c13b0 : decide (0 ≤ x25_2) = true := decide_eq_true c13
                        clear c13
                        by_cases c14 : x25_2 < ((rd_L1 t182 x18_1).length : Int)
                        · rw [if_pos c14] at H
                          have c14b0 : decide (x25_2 < ((rd_L1 t182 x18_1).length : Int)) = true := decide_eq_true c14
                          clear c14
                          by_cases c15 : 0 ≤ x18_1
                          · rw [if_pos c15] at H
                            have c15b0 : decide (0 ≤ x18_1) = true := decide_eq_true c15
                            clear c15
                            by_cases c16 : x18_1 < (l0.length : Int)
                            · rw [if_pos c16] at H
                              have c16b0 : decide (x18_1 < (l0.length : Int)) = true := decide_eq_true c16
                              clear c16
                              by_cases c17 : 0 ≤ (rd (rd_L1 t182 x18_1) x25_2)
                              · rw [if_pos c17] at H
                                have c17b0 : decide (0 ≤ (rd (rd_L1 t182 x18_1) x25_2)) = true := decide_eq_true c17
                                clear c17
                                by_cases c18 : (rd (rd_L1 t182 x18_1) x25_2) < (l0.length : Int)
                                · rw [if_pos c18] at H
                                  have c18b0 : decide ((rd (rd_L1 t182 x18_1) x25_2) < (l0.length : Int)) = true := decide_eq_true c18
                                  clear c18
                                  replace H := Option.bind_eq_some_iff.mp H
                                  obtain ⟨t196, A190, H⟩ := H
                                  replace H : ((sched_reads.f k2 ((rd_T37 l0 x18_1).f0) ((rd_T37 l0 x18_1).f1) ((rd_T37 l0 x18_1).f2) ((rd_T37 l0 x18_1).f3) ((rd_T37 l0 x18_1).f4) ((rd_T37 l0 x18_1).f5) t196).bind fun t197 => (if t197 = true then (if (rd (rd_L1 t182 x18_1) x25_2) < (x4_1.length : Int) then (sched_Cost.l1 k2 l0 x4_1 (mx x5_2 (rd x4_1 (rd (rd_L1 t182 x18_1) x25_2))) x6_1 x18_1 t182 (t182.length : Int) x18_1 (rd_L1 t182 x18_1) ((rd_L1 t182 x18_1).length : Int) (wrap64 (x25_2 + 1))) else (none)) else (sched_Cost.l1 k2 l0 x4_1 x5_2 x6_1 x18_1 t182 (t182.length : Int) x18_1 (rd_L1 t182 x18_1) ((rd_L1 t182 x18_1).length : Int) (wrap64 (x25_2 + 1))))) = some r := H
                                  have A19 := Aside0.mk A190
                                  clear A190
                                  replace H := Option.bind_eq_some_iff.mp H
                                  obtain ⟨t197, A200, H⟩ := H
                                  replace H : (if t197 = true then (if (rd (rd_L1 t182 x18_1) x25_2) < (x4_1.length : Int) then (sched_Cost.l1 k2 l0 x4_1 (mx x5_2 (rd x4_1 (rd (rd_L1 t182 x18_1) x25_2))) x6_1 x18_1 t182 (t182.length : Int) x18_1 (rd_L1 t182 x18_1) ((rd_L1 t182 x18_1).length : Int) (wrap64 (x25_2 + 1))) else (none)) else (sched_Cost.l1 k2 l0 x4_1 x5_2 x6_1 x18_1 t182 (t182.length : Int) x18_1 (rd_L1 t182 x18_1) ((rd_L1 t182 x18_1).length : Int) (wrap64 (x25_2 + 1)))) = some r := H
                                  have A20 := Aside0.mk A200
                                  clear A200
                                  by_cases c21 : t197 = true
                                  · subst c21
                                    have H1 : (if (rd (rd_L1 t182 x18_1) x25_2) < (x4_1.length : Int) then (sched_Cost.l1 k2 l0 x4_1 (mx x5_2 (rd x4_1 (rd (rd_L1 t182 x18_1) x25_2))) x6_1 x18_1 t182 (t182.length : Int) x18_1 (rd_L1 t182 x18_1) ((rd_L1 t182 x18_1).length : Int) (wrap64 (x25_2 + 1))) else (none)) = some r := by rw [if_pos rfl] at H; exact H
                                    clear H
                                    have H := H1
                                    clear H1
                                    by_cases c22 : (rd (rd_L1 t182 x18_1) x25_2) < (x4_1.length : Int)
                                    · rw [if_pos c22] at H
                                      have c22b0 : decide ((rd (rd_L1 t182 x18_1) x25_2) < (x4_1.length : Int)) = true := decide_eq_true c22
                                      clear c22
                                      obtain ⟨ji23, hji23⟩ : ∃ j_ : Int, (mx x5_2 (rd x4_1 (rd (rd_L1 t182 x18_1) x25_2))) = j_ := ⟨_, rfl⟩
                                      replace H : (sched_Cost.l1 k2 l0 x4_1 ji23 x6_1 x18_1 t182 (t182.length : Int) x18_1 (rd_L1 t182 x18_1) ((rd_L1 t182 x18_1).length : Int) (wrap64 (x25_2 + 1))) = some r := by first | (rw [hji23] at H; exact H) | (simp only [hji23] at H ⊢; exact H)
                                      (try rw [hji23] at A19)
                                      (try rw [hji23] at A20)
                                      have hji23_ : (if x5_2 < (rd x4_1 (rd (rd_L1 t182 x18_1) x25_2)) then (rd x4_1 (rd (rd_L1 t182 x18_1) x25_2)) else x5_2) = ji23 := hji23
                                      have H' := Aside0.mk H
                                      clear H
                                      have p193 : 0 ≤ (x25_2 : Int) := of_decide_eq_true (by first | (with_reducible assumption) | assumption)
                                      have q193 : x25_2 < ((rd_L1 t182 x18_1).length : Int) := of_decide_eq_true (by first | (with_reducible assumption) | assumption)
                                      obtain ⟨ad193, e193, hx193_0⟩ := Kd.at_int HR188_0.out x25_2 p193 q193
                                      cases e193
                                      replace p193 := eq_true p193
                                      replace q193 := eq_true q193
                                      try go_wp2
                                      have n0_ := Aside0.mk (Kd.R_drew HO_4.out)
                                      have n1_ := Aside0.mk (Kd.S_drew HO_16.out)
                                      have n2_ := Aside0.mk (Kd.C_drew HR188_0.out)
                                      have n3_ := Aside0.mk (below_drew1 HB.out)
                                      clear HO_4
                                      clear HO_16
                                      clear HR188_0
                                      clear HB
                                      have HO_4 := n0_
                                      have HO_16 := n1_
                                      have HR188_0 := n2_
                                      have HB := n3_
                                      clear n0_ n1_ n2_ n3_
                                      have p194 : 0 ≤ (x18_1 : Int) := of_decide_eq_true (by first | (with_reducible assumption) | assumption)
                                      have q194 : x18_1 < (l0.length : Int) := of_decide_eq_true (by first | (with_reducible assumption) | assumption)
                                      obtain ⟨ad194, A194_5, c194_5, e194, hx194_0, hx194_1, hx194_2, hx194_3, hx194_4, hx194_5, hl194_5, hi194_5⟩ := at_T37 HR0.out x18_1 p194 q194
                                      have hw194_5 := hx194_5
                                      have hw194_4 := hx194_4
                                      have hw194_3 := hx194_3
                                      have hw194_2 := hx194_2
                                      have hw194_1 := hx194_1
                                      have hw194_0 := hx194_0
                                      cases e194
                                      replace hx194_0 := (HB.out.cell (World.block_lt_of_cell? w _ hx194_0)).trans hx194_0
                                      replace hx194_1 := (HB.out.cell (World.block_lt_of_cell? w _ hx194_1)).trans hx194_1
                                      replace hx194_2 := (HB.out.cell (World.block_lt_of_cell? w _ hx194_2)).trans hx194_2
                                      replace hx194_3 := (HB.out.cell (World.block_lt_of_cell? w _ hx194_3)).trans hx194_3
                                      replace hx194_4 := (HB.out.cell (World.block_lt_of_cell? w _ hx194_4)).trans hx194_4
                                      replace hx194_5 := (HB.out.cell (World.block_lt_of_cell? w _ hx194_5)).trans hx194_5
                                      have HR194_5 := Aside0.mk hi194_5
                                      have HC194_5 := Aside0.mk hl194_5
                                      clear hi194_5 hl194_5
                                      replace p194 := eq_true p194
                                      replace q194 := eq_true q194
                                      have p195 : 0 ≤ ((rd (rd_L1 t182 x18_1) x25_2) : Int) := of_decide_eq_true (by first | (with_reducible assumption) | assumption)
                                      have q195 : (rd (rd_L1 t182 x18_1) x25_2) < (l0.length : Int) := of_decide_eq_true (by first | (with_reducible assumption) | assumption)
                                      obtain ⟨ad195, A195_5, c195_5, e195, hx195_0, hx195_1, hx195_2, hx195_3, hx195_4, hx195_5, hl195_5, hi195_5⟩ := at_T37 HR0.out (rd (rd_L1 t182 x18_1) x25_2) p195 q195
                                      have hw195_5 := hx195_5
                                      have hw195_4 := hx195_4
                                      have hw195_3 := hx195_3
                                      have hw195_2 := hx195_2
                                      have hw195_1 := hx195_1
                                      have hw195_0 := hx195_0
                                      obtain rfl : ad194 = ad195 := (by injection e195)
                                      replace hx195_0 := (HB.out.cell (World.block_lt_of_cell? w _ hx195_0)).trans hx195_0
                                      replace hx195_1 := (HB.out.cell (World.block_lt_of_cell? w _ hx195_1)).trans hx195_1
                                      replace hx195_2 := (HB.out.cell (World.block_lt_of_cell? w _ hx195_2)).trans hx195_2
                                      replace hx195_3 := (HB.out.cell (World.block_lt_of_cell? w _ hx195_3)).trans hx195_3
                                      replace hx195_4 := (HB.out.cell (World.block_lt_of_cell? w _ hx195_4)).trans hx195_4
                                      replace hx195_5 := (HB.out.cell (World.block_lt_of_cell? w _ hx195_5)).trans hx195_5
                                      have HR195_5 := Aside0.mk hi195_5
                                      have HC195_5 := Aside0.mk hl195_5
                                      clear hi195_5 hl195_5
                                      replace p195 := eq_true p195
                                      replace q195 := eq_true q195
                                      refine start_ (n := 10) (S := fun w' => w'.cell? (ad194.add ((x18_1).toNat * 6)) = some (.int .i64 ((rd_T37 l0 x18_1).f0)) ∧ w'.cell? ⟨(ad194.add ((x18_1).toNat * 6)).block, (ad194.add ((x18_1).toNat * 6)).off + 1, none⟩ = some (.int .i64 ((rd_T37 l0 x18_1).f1)) ∧ w'.cell? ⟨(ad194.add ((x18_1).toNat * 6)).block, (ad194.add ((x18_1).toNat * 6)).off + 2, none⟩ = some (.int .i64 ((rd_T37 l0 x18_1).f2)) ∧ w'.cell? ⟨(ad194.add ((x18_1).toNat * 6)).block, (ad194.add ((x18_1).toNat * 6)).off + 3, none⟩ = some (.int .i64 ((rd_T37 l0 x18_1).f3)) ∧ w'.cell? ⟨(ad194.add ((x18_1).toNat * 6)).block, (ad194.add ((x18_1).toNat * 6)).off + 4, none⟩ = some (.int .i64 ((rd_T37 l0 x18_1).f4)) ∧ w'.cell? ⟨(ad194.add ((x18_1).toNat * 6)).block, (ad194.add ((x18_1).toNat * 6)).off + 5, none⟩ = some (.slice A194_5 ((rd_T37 l0 x18_1).f5).length c194_5) ∧ w'.cell? (ad194.add (((rd (rd_L1 t182 x18_1) x25_2)).toNat * 6)) = some (.int .i64 ((rd_T37 l0 (rd (rd_L1 t182 x18_1) x25_2)).f0)) ∧ w'.cell? ⟨(ad194.add (((rd (rd_L1 t182 x18_1) x25_2)).toNat * 6)).block, (ad194.add (((rd (rd_L1 t182 x18_1) x25_2)).toNat * 6)).off + 1, none⟩ = some (.int .i64 ((rd_T37 l0 (rd (rd_L1 t182 x18_1) x25_2)).f1)) ∧ w'.cell? ⟨(ad194.add (((rd (rd_L1 t182 x18_1) x25_2)).toNat * 6)).block, (ad194.add (((rd (rd_L1 t182 x18_1) x25_2)).toNat * 6)).off + 2, none⟩ = some (.int .i64 ((rd_T37 l0 (rd (rd_L1 t182 x18_1) x25_2)).f2)) ∧ w'.cell? ⟨(ad194.add (((rd (rd_L1 t182 x18_1) x25_2)).toNat * 6)).block, (ad194.add (((rd (rd_L1 t182 x18_1) x25_2)).toNat * 6)).off + 3, none⟩ = some (.int .i64 ((rd_T37 l0 (rd (rd_L1 t182 x18_1) x25_2)).f3)) ∧ w'.cell? ⟨(ad194.add (((rd (rd_L1 t182 x18_1) x25_2)).toNat * 6)).block, (ad194.add (((rd (rd_L1 t182 x18_1) x25_2)).toNat * 6)).off + 4, none⟩ = some (.int .i64 ((rd_T37 l0 (rd (rd_L1 t182 x18_1) x25_2)).f4)) ∧ w'.cell? ⟨(ad194.add (((rd (rd_L1 t182 x18_1) x25_2)).toNat * 6)).block, (ad194.add (((rd (rd_L1 t182 x18_1) x25_2)).toNat * 6)).off + 5, none⟩ = some (.slice A195_5 ((rd_T37 l0 (rd (rd_L1 t182 x18_1) x25_2)).f5).length c195_5)) (ds := []) #[false, false, false, false, false, false, false, false, false, false] (by kernel_rfl) rfl rfl ⟨((HB.out.cell (World.block_lt_of_cell? w _ hw194_0)).trans hw194_0), ((HB.out.cell (World.block_lt_of_cell? w _ hw194_1)).trans hw194_1), ((HB.out.cell (World.block_lt_of_cell? w _ hw194_2)).trans hw194_2), ((HB.out.cell (World.block_lt_of_cell? w _ hw194_3)).trans hw194_3), ((HB.out.cell (World.block_lt_of_cell? w _ hw194_4)).trans hw194_4), ((HB.out.cell (World.block_lt_of_cell? w _ hw194_5)).trans hw194_5), ((HB.out.cell (World.block_lt_of_cell? w _ hw195_0)).trans hw195_0), ((HB.out.cell (World.block_lt_of_cell? w _ hw195_1)).trans hw195_1), ((HB.out.cell (World.block_lt_of_cell? w _ hw195_2)).trans hw195_2), ((HB.out.cell (World.block_lt_of_cell? w _ hw195_3)).trans hw195_3), ((HB.out.cell (World.block_lt_of_cell? w _ hw195_4)).trans hw195_4), ((HB.out.cell (World.block_lt_of_cell? w _ hw195_5)).trans hw195_5)⟩ (fun hHeld => ?_); refine with_tabW sched_Cost.tab10 sched_Cost.bits10 (fun HT_ HW_ => ?_)
                                      generalize wr.drew = w24 at HO_4 HO_16 HR188_0 HB HR194_5 HR195_5 hx194_0 hx194_1 hx194_2 hx194_3 hx194_4 hx194_5 hx195_0 hx195_1 hx195_2 hx195_3 hx195_4 hx195_5 hHeld ⊢
                                      refine pure_ (i := 0) (N := some 29) (v := ?_) (a' := ?_) #[true, false, false, false, false, false, false, false, false, false] rfl rfl (any_of HT_.out (by kernel_rfl)) (fun _ _ _ h => h) (Or.inl ⟨by rfl, ?_⟩) ?_ ?_
                                      rotate_left
                                      · intro w'
                                        go_simp
                                        with_reducible rfl
                                      rotate_left
                                      · simp only [Act.put, List.setIfInBounds_toArray, List.set_cons_zero, List.set_cons_succ, i64_w, i32_w]
                                        rfl
                                      refine pure_ (i := 1) (N := some 30) (v := ?_) (a' := ?_) #[true, true, false, false, false, false, false, false, false, false] rfl rfl (any_of HT_.out (by kernel_rfl)) (fun _ _ _ h => h) (Or.inl ⟨by rfl, ?_⟩) ?_ ?_
                                      rotate_left
                                      · intro w'
                                        go_simp
                                        with_reducible rfl
                                      rotate_left
                                      · simp only [Act.put, List.setIfInBounds_toArray, List.set_cons_zero, List.set_cons_succ, i64_w, i32_w]
                                        rfl
                                      refine pure_ (i := 2) (N := some 31) (v := ?_) (a' := ?_) #[true, true, true, false, false, false, false, false, false, false] rfl rfl (any_of HT_.out (by kernel_rfl)) (fun _ _ _ h => h) (Or.inl ⟨by rfl, ?_⟩) ?_ ?_
                                      rotate_left
                                      · intro w'
                                        go_simp
                                        with_reducible rfl
                                      rotate_left
                                      · simp only [Act.put, List.setIfInBounds_toArray, List.set_cons_zero, List.set_cons_succ, i64_w, i32_w]
                                        rfl
                                      refine pure_ (i := 4) (N := some 33) (v := ?_) (a' := ?_) #[true, true, true, false, true, false, false, false, false, false] rfl rfl (any_of HT_.out (by kernel_rfl)) (fun _ _ _ h => h) (Or.inl ⟨by rfl, ?_⟩) ?_ ?_
                                      rotate_left
                                      · intro w'
                                        go_simp
                                        with_reducible rfl
                                      rotate_left
                                      · simp only [Act.put, List.setIfInBounds_toArray, List.set_cons_zero, List.set_cons_succ, i64_w, i32_w]
                                        rfl
                                      refine pure_ (i := 5) (N := some 34) (v := ?_) (a' := ?_) #[true, true, true, false, true, true, false, false, false, false] rfl rfl (any_of HT_.out (by kernel_rfl)) (fun _ _ _ h => h) (Or.inl ⟨by rfl, ?_⟩) ?_ ?_
                                      rotate_left
                                      · intro w'
                                        go_simp
                                        with_reducible rfl
                                      rotate_left
                                      · simp only [Act.put, List.setIfInBounds_toArray, List.set_cons_zero, List.set_cons_succ, i64_w, i32_w]
                                        rfl
                                      refine pure_ (i := 6) (N := some 35) (v := ?_) (a' := ?_) #[true, true, true, false, true, true, true, false, false, false] rfl rfl (any_of HT_.out (by kernel_rfl)) (fun _ _ _ h => h) (Or.inl ⟨by rfl, ?_⟩) ?_ ?_
                                      rotate_left
                                      · intro w'
                                        go_simp
                                        with_reducible rfl
                                      rotate_left
                                      · simp only [Act.put, List.setIfInBounds_toArray, List.set_cons_zero, List.set_cons_succ, i64_w, i32_w]
                                        rfl
                                      refine take_ (i := 3) (N := some 32) (v := ?_) (a' := ?_) #[true, true, true, true, true, true, true, false, false, false] rfl rfl (take_ofW HT_.out HW_.out (by kernel_rfl)) (fun _ _ _ h => h) (Or.inl ⟨by rfl, ?_⟩) hHeld ?_ ?_
                                      rotate_left
                                      · rintro w' ⟨s0, s1, s2, s3, s4, s5, s6, s7, s8, s9, s10, s11⟩
                                        go_simp
                                        with_reducible rfl
                                      rotate_left
                                      · simp only [Act.put, List.setIfInBounds_toArray, List.set_cons_zero, List.set_cons_succ, i64_w, i32_w]
                                        rfl
                                      refine take_ (i := 7) (N := some 36) (v := ?_) (a' := ?_) #[true, true, true, true, true, true, true, true, false, false] rfl rfl (take_ofW HT_.out HW_.out (by kernel_rfl)) (fun _ _ _ h => h) (Or.inl ⟨by rfl, ?_⟩) hHeld ?_ ?_
                                      rotate_left
                                      · rintro w' ⟨s0, s1, s2, s3, s4, s5, s6, s7, s8, s9, s10, s11⟩
                                        go_simp
                                        with_reducible rfl
                                      rotate_left
                                      · simp only [Act.put, List.setIfInBounds_toArray, List.set_cons_zero, List.set_cons_succ, i64_w, i32_w]
                                        rfl
                                      refine one_ (i := 8) (N := some 37) #[true, true, true, true, true, true, true, true, true, false] rfl rfl (one_of HT_.out (by kernel_rfl)) (by decide) (fun K hK => ?_)
                                      refine goes_ Try.func43 (by kernel_rfl) rfl #[.agg #[.int .i64 ((rd_T37 l0 (rd (rd_L1 t182 x18_1) x25_2)).f0), .int .i64 ((rd_T37 l0 (rd (rd_L1 t182 x18_1) x25_2)).f1), .int .i64 ((rd_T37 l0 (rd (rd_L1 t182 x18_1) x25_2)).f2), .int .i64 ((rd_T37 l0 (rd (rd_L1 t182 x18_1) x25_2)).f3), .int .i64 ((rd_T37 l0 (rd (rd_L1 t182 x18_1) x25_2)).f4), .slice A195_5 ((rd_T37 l0 (rd (rd_L1 t182 x18_1) x25_2)).f5).length c195_5]] (by rfl) rfl rfl (by (try simp only [List.map_toArray, List.map_cons, List.map_nil]); first | done | rfl | (simp only [List.length_drop, List.length_take]; rfl)) ?_
                                      with_reducible refine (code_Sets.calls k2 ((rd_T37 l0 (rd (rd_L1 t182 x18_1) x25_2)).f0) ((rd_T37 l0 (rd (rd_L1 t182 x18_1) x25_2)).f1) ((rd_T37 l0 (rd (rd_L1 t182 x18_1) x25_2)).f2) ((rd_T37 l0 (rd (rd_L1 t182 x18_1) x25_2)).f3) ((rd_T37 l0 (rd (rd_L1 t182 x18_1) x25_2)).f4) _ _ ((rd_T37 l0 (rd (rd_L1 t182 x18_1) x25_2)).f5) t196 _ ?side1 ?side2 A19.out).mono ?_
                                      (case side1 => repeat (first | exact (Kd.C_below HR195_5.out HB.out) | (with_reducible refine Kd.C_alloc ?_ _) | (with_reducible refine Kd.C_drewN ?_ _) | (with_reducible refine Kd.C_drew ?_)))
                                      (case side2 => exact HC195_5.out)
                                      rintro e w25 ⟨rfl, hb⟩
                                      refine ⟨_, rfl, ?_⟩
                                      have n0_ := Aside0.mk (Kd.R_below (by (with_reducible repeat (first | apply Kd.R_alloc | apply Kd.R_drewN | apply Kd.R_drew)); exact HO_4.out) hb)
                                      have n1_ := Aside0.mk (Kd.S_below (by (with_reducible repeat (first | apply Kd.S_alloc | apply Kd.S_drewN | apply Kd.S_drew)); exact HO_16.out) hb)
                                      have n2_ := Aside0.mk (Kd.C_below (by repeat (first | (with_reducible exact HR188_0.out) | (with_reducible refine Kd.C_alloc ?_ _) | (with_reducible refine Kd.C_drewN ?_ _) | (with_reducible refine Kd.C_drew ?_) | exact HR188_0.out)) hb)
                                      have n3_ := Aside0.mk (below_step (by repeat (first | (with_reducible first | exact HB.out | apply below_alloc | apply pw_below_drewN | apply below_drew1) | exact HB.out)) hb)
                                      clear HO_4
                                      clear HO_16
                                      clear HR188_0
                                      clear HB
                                      have HO_4 := n0_
                                      have HO_16 := n1_
                                      have HR188_0 := n2_
                                      have HB := n3_
                                      clear n0_ n1_ n2_ n3_
                                      (try clear hb)
                                      (try clear hb2)
                                      (try clear hk)
                                      (try clear hi)
                                      refine hK.out _ _ ⟨((HB.out.cell (World.block_lt_of_cell? w _ hw194_0)).trans hw194_0), ((HB.out.cell (World.block_lt_of_cell? w _ hw194_1)).trans hw194_1), ((HB.out.cell (World.block_lt_of_cell? w _ hw194_2)).trans hw194_2), ((HB.out.cell (World.block_lt_of_cell? w _ hw194_3)).trans hw194_3), ((HB.out.cell (World.block_lt_of_cell? w _ hw194_4)).trans hw194_4), ((HB.out.cell (World.block_lt_of_cell? w _ hw194_5)).trans hw194_5), ((HB.out.cell (World.block_lt_of_cell? w _ hw195_0)).trans hw195_0), ((HB.out.cell (World.block_lt_of_cell? w _ hw195_1)).trans hw195_1), ((HB.out.cell (World.block_lt_of_cell? w _ hw195_2)).trans hw195_2), ((HB.out.cell (World.block_lt_of_cell? w _ hw195_3)).trans hw195_3), ((HB.out.cell (World.block_lt_of_cell? w _ hw195_4)).trans hw195_4), ((HB.out.cell (World.block_lt_of_cell? w _ hw195_5)).trans hw195_5)⟩ (fun hHeld => ?_)
                                      clear hK K
                                      refine norm_ (a' := ?_) ?_ ?_
                                      rotate_left
                                      · show Act.put _ (some 37) _ = _
                                        simp only [Act.put, List.setIfInBounds_toArray, List.set_cons_zero, List.set_cons_succ, i64_w, i32_w]
                                        rfl
                                      refine one_ (i := 9) (N := some 38) #[true, true, true, true, true, true, true, true, true, true] rfl rfl (one_of HT_.out (by kernel_rfl)) (by decide) (fun K hK => ?_)
                                      refine goes_ Try.func42 (by kernel_rfl) rfl #[.agg #[.int .i64 ((rd_T37 l0 x18_1).f0), .int .i64 ((rd_T37 l0 x18_1).f1), .int .i64 ((rd_T37 l0 x18_1).f2), .int .i64 ((rd_T37 l0 x18_1).f3), .int .i64 ((rd_T37 l0 x18_1).f4), .slice A194_5 ((rd_T37 l0 x18_1).f5).length c194_5], .int .i64 t196] (by rfl) rfl rfl (by (try simp only [List.map_toArray, List.map_cons, List.map_nil]); first | done | rfl | (simp only [List.length_drop, List.length_take]; rfl)) ?_
                                      with_reducible refine (sched_reads.calls k2 ((rd_T37 l0 x18_1).f0) ((rd_T37 l0 x18_1).f1) ((rd_T37 l0 x18_1).f2) ((rd_T37 l0 x18_1).f3) ((rd_T37 l0 x18_1).f4) _ _ ((rd_T37 l0 x18_1).f5) t196 true _ ?side1 ?side2 A20.out).mono ?_
                                      (case side1 => repeat (first | exact (Kd.C_below HR194_5.out HB.out) | (with_reducible refine Kd.C_alloc ?_ _) | (with_reducible refine Kd.C_drewN ?_ _) | (with_reducible refine Kd.C_drew ?_)))
                                      (case side2 => exact HC194_5.out)
                                      rintro e w26 ⟨rfl, hb⟩
                                      refine ⟨_, rfl, ?_⟩
                                      have n0_ := Aside0.mk (Kd.R_below (by (with_reducible repeat (first | apply Kd.R_alloc | apply Kd.R_drewN | apply Kd.R_drew)); exact HO_4.out) hb)
                                      have n1_ := Aside0.mk (Kd.S_below (by (with_reducible repeat (first | apply Kd.S_alloc | apply Kd.S_drewN | apply Kd.S_drew)); exact HO_16.out) hb)
                                      have n2_ := Aside0.mk (Kd.C_below (by repeat (first | (with_reducible exact HR188_0.out) | (with_reducible refine Kd.C_alloc ?_ _) | (with_reducible refine Kd.C_drewN ?_ _) | (with_reducible refine Kd.C_drew ?_) | exact HR188_0.out)) hb)
                                      have n3_ := Aside0.mk (below_step (by repeat (first | (with_reducible first | exact HB.out | apply below_alloc | apply pw_below_drewN | apply below_drew1) | exact HB.out)) hb)
                                      clear HO_4
                                      clear HO_16
                                      clear HR188_0
                                      clear HB
                                      have HO_4 := n0_
                                      have HO_16 := n1_
                                      have HR188_0 := n2_
                                      have HB := n3_
                                      clear n0_ n1_ n2_ n3_
                                      (try clear hb)
                                      (try clear hb2)
                                      (try clear hk)
                                      (try clear hi)
                                      refine hK.out _ _ ⟨((HB.out.cell (World.block_lt_of_cell? w _ hw194_0)).trans hw194_0), ((HB.out.cell (World.block_lt_of_cell? w _ hw194_1)).trans hw194_1), ((HB.out.cell (World.block_lt_of_cell? w _ hw194_2)).trans hw194_2), ((HB.out.cell (World.block_lt_of_cell? w _ hw194_3)).trans hw194_3), ((HB.out.cell (World.block_lt_of_cell? w _ hw194_4)).trans hw194_4), ((HB.out.cell (World.block_lt_of_cell? w _ hw194_5)).trans hw194_5), ((HB.out.cell (World.block_lt_of_cell? w _ hw195_0)).trans hw195_0), ((HB.out.cell (World.block_lt_of_cell? w _ hw195_1)).trans hw195_1), ((HB.out.cell (World.block_lt_of_cell? w _ hw195_2)).trans hw195_2), ((HB.out.cell (World.block_lt_of_cell? w _ hw195_3)).trans hw195_3), ((HB.out.cell (World.block_lt_of_cell? w _ hw195_4)).trans hw195_4), ((HB.out.cell (World.block_lt_of_cell? w _ hw195_5)).trans hw195_5)⟩ (fun hHeld => ?_)
                                      clear hK K
                                      refine norm_ (a' := ?_) ?_ ?_
                                      rotate_left
                                      · show Act.put _ (some 38) _ = _
                                        simp only [Act.put, List.setIfInBounds_toArray, List.set_cons_zero, List.set_cons_succ, i64_w, i32_w]
                                        rfl
                                      refine done_ (done_of HT_.out (by kernel_rfl)) ?_
                                      obtain ⟨Ao27, co27, eo27⟩ := Kd.R_slice HO_4.out
                                      subst eo27
                                      have p198 : 0 ≤ ((rd (rd_L1 t182 x18_1) x25_2) : Int) := of_decide_eq_true (by first | (with_reducible assumption) | assumption)
                                      have q198 : (rd (rd_L1 t182 x18_1) x25_2) < (x4_1.length : Int) := of_decide_eq_true (by first | (with_reducible assumption) | assumption)
                                      obtain ⟨ad198, e198, hx198_0⟩ := Kd.at_int (Kd.R_reads' HO_4.out).2.2 (rd (rd_L1 t182 x18_1) x25_2) p198 q198
                                      cases e198
                                      replace p198 := eq_true p198
                                      replace q198 := eq_true q198
                                      try go_wp2
                                      go_roundg k2
                                      case measure => have := HK1.out; have := HK2.out; omega
                                      case rel => exact ⟨(ji23), (wrap64 (x25_2 + 1)), (by first | rfl | (simp; done) | (simp only [← hji23] <;> (first | rfl | simp)) | (simp [*]; done)), (by first | rfl | (simp; done) | (simp [*]; done)), H', ⟨by have := HK1.out; have := HK2.out; omega⟩, ⟨by (with_reducible repeat (first | apply Kd.R_alloc | apply Kd.R_drewN | apply Kd.R_drew)); exact HO_4.out⟩, ⟨by (with_reducible repeat (first | apply Kd.S_alloc | apply Kd.S_drewN | apply Kd.S_drew)); exact HO_16.out⟩, ⟨by repeat (first | (with_reducible exact HR188_0.out) | (with_reducible refine Kd.C_alloc ?_ _) | (with_reducible refine Kd.C_drewN ?_ _) | (with_reducible refine Kd.C_drew ?_) | exact HR188_0.out)⟩, ⟨by repeat (first | (with_reducible first | exact HB.out | apply below_alloc | apply pw_below_drewN | apply below_drew1) | exact HB.out)⟩⟩
                                    · rw [if_neg c22] at H
                                      exact absurd H (by simp)
                                  · replace c21 := Bool.eq_false_iff.mpr c21
                                    subst c21
                                    have H1 : (sched_Cost.l1 k2 l0 x4_1 x5_2 x6_1 x18_1 t182 (t182.length : Int) x18_1 (rd_L1 t182 x18_1) ((rd_L1 t182 x18_1).length : Int) (wrap64 (x25_2 + 1))) = some r := by rw [if_neg (show ¬ (false = true) by decide)] at H; exact H
                                    clear H
                                    have H := H1
                                    clear H1
                                    have H' := Aside0.mk H
                                    clear H
                                    have p193 : 0 ≤ (x25_2 : Int) := of_decide_eq_true (by first | (with_reducible assumption) | assumption)
                                    have q193 : x25_2 < ((rd_L1 t182 x18_1).length : Int) := of_decide_eq_true (by first | (with_reducible assumption) | assumption)
                                    obtain ⟨ad193, e193, hx193_0⟩ := Kd.at_int HR188_0.out x25_2 p193 q193
                                    cases e193
                                    replace p193 := eq_true p193
                                    replace q193 := eq_true q193
                                    try go_wp2
                                    have n0_ := Aside0.mk (Kd.R_drew HO_4.out)
                                    have n1_ := Aside0.mk (Kd.S_drew HO_16.out)
                                    have n2_ := Aside0.mk (Kd.C_drew HR188_0.out)
                                    have n3_ := Aside0.mk (below_drew1 HB.out)
                                    clear HO_4
                                    clear HO_16
                                    clear HR188_0
                                    clear HB
                                    have HO_4 := n0_
                                    have HO_16 := n1_
                                    have HR188_0 := n2_
                                    have HB := n3_
                                    clear n0_ n1_ n2_ n3_
                                    have p194 : 0 ≤ (x18_1 : Int) := of_decide_eq_true (by first | (with_reducible assumption) | assumption)
                                    have q194 : x18_1 < (l0.length : Int) := of_decide_eq_true (by first | (with_reducible assumption) | assumption)
                                    obtain ⟨ad194, A194_5, c194_5, e194, hx194_0, hx194_1, hx194_2, hx194_3, hx194_4, hx194_5, hl194_5, hi194_5⟩ := at_T37 HR0.out x18_1 p194 q194
                                    have hw194_5 := hx194_5
                                    have hw194_4 := hx194_4
                                    have hw194_3 := hx194_3
                                    have hw194_2 := hx194_2
                                    have hw194_1 := hx194_1
                                    have hw194_0 := hx194_0
                                    cases e194
                                    replace hx194_0 := (HB.out.cell (World.block_lt_of_cell? w _ hx194_0)).trans hx194_0
                                    replace hx194_1 := (HB.out.cell (World.block_lt_of_cell? w _ hx194_1)).trans hx194_1
                                    replace hx194_2 := (HB.out.cell (World.block_lt_of_cell? w _ hx194_2)).trans hx194_2
                                    replace hx194_3 := (HB.out.cell (World.block_lt_of_cell? w _ hx194_3)).trans hx194_3
                                    replace hx194_4 := (HB.out.cell (World.block_lt_of_cell? w _ hx194_4)).trans hx194_4
                                    replace hx194_5 := (HB.out.cell (World.block_lt_of_cell? w _ hx194_5)).trans hx194_5
                                    have HR194_5 := Aside0.mk hi194_5
                                    have HC194_5 := Aside0.mk hl194_5
                                    clear hi194_5 hl194_5
                                    replace p194 := eq_true p194
                                    replace q194 := eq_true q194
                                    have p195 : 0 ≤ ((rd (rd_L1 t182 x18_1) x25_2) : Int) := of_decide_eq_true (by first | (with_reducible assumption) | assumption)
                                    have q195 : (rd (rd_L1 t182 x18_1) x25_2) < (l0.length : Int) := of_decide_eq_true (by first | (with_reducible assumption) | assumption)
                                    obtain ⟨ad195, A195_5, c195_5, e195, hx195_0, hx195_1, hx195_2, hx195_3, hx195_4, hx195_5, hl195_5, hi195_5⟩ := at_T37 HR0.out (rd (rd_L1 t182 x18_1) x25_2) p195 q195
                                    have hw195_5 := hx195_5
                                    have hw195_4 := hx195_4
                                    have hw195_3 := hx195_3
                                    have hw195_2 := hx195_2
                                    have hw195_1 := hx195_1
                                    have hw195_0 := hx195_0
                                    obtain rfl : ad194 = ad195 := (by injection e195)
                                    replace hx195_0 := (HB.out.cell (World.block_lt_of_cell? w _ hx195_0)).trans hx195_0
                                    replace hx195_1 := (HB.out.cell (World.block_lt_of_cell? w _ hx195_1)).trans hx195_1
                                    replace hx195_2 := (HB.out.cell (World.block_lt_of_cell? w _ hx195_2)).trans hx195_2
                                    replace hx195_3 := (HB.out.cell (World.block_lt_of_cell? w _ hx195_3)).trans hx195_3
                                    replace hx195_4 := (HB.out.cell (World.block_lt_of_cell? w _ hx195_4)).trans hx195_4
                                    replace hx195_5 := (HB.out.cell (World.block_lt_of_cell? w _ hx195_5)).trans hx195_5
                                    have HR195_5 := Aside0.mk hi195_5
                                    have HC195_5 := Aside0.mk hl195_5
                                    clear hi195_5 hl195_5
                                    replace p195 := eq_true p195
                                    replace q195 := eq_true q195
                                    refine start_ (n := 10) (S := fun w' => w'.cell? (ad194.add ((x18_1).toNat * 6)) = some (.int .i64 ((rd_T37 l0 x18_1).f0)) ∧ w'.cell? ⟨(ad194.add ((x18_1).toNat * 6)).block, (ad194.add ((x18_1).toNat * 6)).off + 1, none⟩ = some (.int .i64 ((rd_T37 l0 x18_1).f1)) ∧ w'.cell? ⟨(ad194.add ((x18_1).toNat * 6)).block, (ad194.add ((x18_1).toNat * 6)).off + 2, none⟩ = some (.int .i64 ((rd_T37 l0 x18_1).f2)) ∧ w'.cell? ⟨(ad194.add ((x18_1).toNat * 6)).block, (ad194.add ((x18_1).toNat * 6)).off + 3, none⟩ = some (.int .i64 ((rd_T37 l0 x18_1).f3)) ∧ w'.cell? ⟨(ad194.add ((x18_1).toNat * 6)).block, (ad194.add ((x18_1).toNat * 6)).off + 4, none⟩ = some (.int .i64 ((rd_T37 l0 x18_1).f4)) ∧ w'.cell? ⟨(ad194.add ((x18_1).toNat * 6)).block, (ad194.add ((x18_1).toNat * 6)).off + 5, none⟩ = some (.slice A194_5 ((rd_T37 l0 x18_1).f5).length c194_5) ∧ w'.cell? (ad194.add (((rd (rd_L1 t182 x18_1) x25_2)).toNat * 6)) = some (.int .i64 ((rd_T37 l0 (rd (rd_L1 t182 x18_1) x25_2)).f0)) ∧ w'.cell? ⟨(ad194.add (((rd (rd_L1 t182 x18_1) x25_2)).toNat * 6)).block, (ad194.add (((rd (rd_L1 t182 x18_1) x25_2)).toNat * 6)).off + 1, none⟩ = some (.int .i64 ((rd_T37 l0 (rd (rd_L1 t182 x18_1) x25_2)).f1)) ∧ w'.cell? ⟨(ad194.add (((rd (rd_L1 t182 x18_1) x25_2)).toNat * 6)).block, (ad194.add (((rd (rd_L1 t182 x18_1) x25_2)).toNat * 6)).off + 2, none⟩ = some (.int .i64 ((rd_T37 l0 (rd (rd_L1 t182 x18_1) x25_2)).f2)) ∧ w'.cell? ⟨(ad194.add (((rd (rd_L1 t182 x18_1) x25_2)).toNat * 6)).block, (ad194.add (((rd (rd_L1 t182 x18_1) x25_2)).toNat * 6)).off + 3, none⟩ = some (.int .i64 ((rd_T37 l0 (rd (rd_L1 t182 x18_1) x25_2)).f3)) ∧ w'.cell? ⟨(ad194.add (((rd (rd_L1 t182 x18_1) x25_2)).toNat * 6)).block, (ad194.add (((rd (rd_L1 t182 x18_1) x25_2)).toNat * 6)).off + 4, none⟩ = some (.int .i64 ((rd_T37 l0 (rd (rd_L1 t182 x18_1) x25_2)).f4)) ∧ w'.cell? ⟨(ad194.add (((rd (rd_L1 t182 x18_1) x25_2)).toNat * 6)).block, (ad194.add (((rd (rd_L1 t182 x18_1) x25_2)).toNat * 6)).off + 5, none⟩ = some (.slice A195_5 ((rd_T37 l0 (rd (rd_L1 t182 x18_1) x25_2)).f5).length c195_5)) (ds := []) #[false, false, false, false, false, false, false, false, false, false] (by kernel_rfl) rfl rfl ⟨((HB.out.cell (World.block_lt_of_cell? w _ hw194_0)).trans hw194_0), ((HB.out.cell (World.block_lt_of_cell? w _ hw194_1)).trans hw194_1), ((HB.out.cell (World.block_lt_of_cell? w _ hw194_2)).trans hw194_2), ((HB.out.cell (World.block_lt_of_cell? w _ hw194_3)).trans hw194_3), ((HB.out.cell (World.block_lt_of_cell? w _ hw194_4)).trans hw194_4), ((HB.out.cell (World.block_lt_of_cell? w _ hw194_5)).trans hw194_5), ((HB.out.cell (World.block_lt_of_cell? w _ hw195_0)).trans hw195_0), ((HB.out.cell (World.block_lt_of_cell? w _ hw195_1)).trans hw195_1), ((HB.out.cell (World.block_lt_of_cell? w _ hw195_2)).trans hw195_2), ((HB.out.cell (World.block_lt_of_cell? w _ hw195_3)).trans hw195_3), ((HB.out.cell (World.block_lt_of_cell? w _ hw195_4)).trans hw195_4), ((HB.out.cell (World.block_lt_of_cell? w _ hw195_5)).trans hw195_5)⟩ (fun hHeld => ?_); refine with_tabW sched_Cost.tab10 sched_Cost.bits10 (fun HT_ HW_ => ?_)
                                    generalize wr.drew = w28 at HO_4 HO_16 HR188_0 HB HR194_5 HR195_5 hx194_0 hx194_1 hx194_2 hx194_3 hx194_4 hx194_5 hx195_0 hx195_1 hx195_2 hx195_3 hx195_4 hx195_5 hHeld ⊢
                                    refine pure_ (i := 0) (N := some 29) (v := ?_) (a' := ?_) #[true, false, false, false, false, false, false, false, false, false] rfl rfl (any_of HT_.out (by kernel_rfl)) (fun _ _ _ h => h) (Or.inl ⟨by rfl, ?_⟩) ?_ ?_
                                    rotate_left
                                    · intro w'
                                      go_simp
                                      with_reducible rfl
                                    rotate_left
                                    · simp only [Act.put, List.setIfInBounds_toArray, List.set_cons_zero, List.set_cons_succ, i64_w, i32_w]
                                      rfl
                                    refine pure_ (i := 1) (N := some 30) (v := ?_) (a' := ?_) #[true, true, false, false, false, false, false, false, false, false] rfl rfl (any_of HT_.out (by kernel_rfl)) (fun _ _ _ h => h) (Or.inl ⟨by rfl, ?_⟩) ?_ ?_
                                    rotate_left
                                    · intro w'
                                      go_simp
                                      with_reducible rfl
                                    rotate_left
                                    · simp only [Act.put, List.setIfInBounds_toArray, List.set_cons_zero, List.set_cons_succ, i64_w, i32_w]
                                      rfl
                                    refine pure_ (i := 2) (N := some 31) (v := ?_) (a' := ?_) #[true, true, true, false, false, false, false, false, false, false] rfl rfl (any_of HT_.out (by kernel_rfl)) (fun _ _ _ h => h) (Or.inl ⟨by rfl, ?_⟩) ?_ ?_
                                    rotate_left
                                    · intro w'
                                      go_simp
                                      with_reducible rfl
                                    rotate_left
                                    · simp only [Act.put, List.setIfInBounds_toArray, List.set_cons_zero, List.set_cons_succ, i64_w, i32_w]
                                      rfl
                                    refine pure_ (i := 4) (N := some 33) (v := ?_) (a' := ?_) #[true, true, true, false, true, false, false, false, false, false] rfl rfl (any_of HT_.out (by kernel_rfl)) (fun _ _ _ h => h) (Or.inl ⟨by rfl, ?_⟩) ?_ ?_
                                    rotate_left
                                    · intro w'
                                      go_simp
                                      with_reducible rfl
                                    rotate_left
                                    · simp only [Act.put, List.setIfInBounds_toArray, List.set_cons_zero, List.set_cons_succ, i64_w, i32_w]
                                      rfl
                                    refine pure_ (i := 5) (N := some 34) (v := ?_) (a' := ?_) #[true, true, true, false, true, true, false, false, false, false] rfl rfl (any_of HT_.out (by kernel_rfl)) (fun _ _ _ h => h) (Or.inl ⟨by rfl, ?_⟩) ?_ ?_
                                    rotate_left
                                    · intro w'
                                      go_simp
                                      with_reducible rfl
                                    rotate_left
                                    · simp only [Act.put, List.setIfInBounds_toArray, List.set_cons_zero, List.set_cons_succ, i64_w, i32_w]
                                      rfl
                                    refine pure_ (i := 6) (N := some 35) (v := ?_) (a' := ?_) #[true, true, true, false, true, true, true, false, false, false] rfl rfl (any_of HT_.out (by kernel_rfl)) (fun _ _ _ h => h) (Or.inl ⟨by rfl, ?_⟩) ?_ ?_
                                    rotate_left
                                    · intro w'
                                      go_simp
                                      with_reducible rfl
                                    rotate_left
                                    · simp only [Act.put, List.setIfInBounds_toArray, List.set_cons_zero, List.set_cons_succ, i64_w, i32_w]
                                      rfl
                                    refine take_ (i := 3) (N := some 32) (v := ?_) (a' := ?_) #[true, true, true, true, true, true, true, false, false, false] rfl rfl (take_ofW HT_.out HW_.out (by kernel_rfl)) (fun _ _ _ h => h) (Or.inl ⟨by rfl, ?_⟩) hHeld ?_ ?_
                                    rotate_left
                                    · rintro w' ⟨s0, s1, s2, s3, s4, s5, s6, s7, s8, s9, s10, s11⟩
                                      go_simp
                                      with_reducible rfl
                                    rotate_left
                                    · simp only [Act.put, List.setIfInBounds_toArray, List.set_cons_zero, List.set_cons_succ, i64_w, i32_w]
                                      rfl
                                    refine take_ (i := 7) (N := some 36) (v := ?_) (a' := ?_) #[true, true, true, true, true, true, true, true, false, false] rfl rfl (take_ofW HT_.out HW_.out (by kernel_rfl)) (fun _ _ _ h => h) (Or.inl ⟨by rfl, ?_⟩) hHeld ?_ ?_
                                    rotate_left
                                    · rintro w' ⟨s0, s1, s2, s3, s4, s5, s6, s7, s8, s9, s10, s11⟩
                                      go_simp
                                      with_reducible rfl
                                    rotate_left
                                    · simp only [Act.put, List.setIfInBounds_toArray, List.set_cons_zero, List.set_cons_succ, i64_w, i32_w]
                                      rfl
                                    refine one_ (i := 8) (N := some 37) #[true, true, true, true, true, true, true, true, true, false] rfl rfl (one_of HT_.out (by kernel_rfl)) (by decide) (fun K hK => ?_)
                                    refine goes_ Try.func43 (by kernel_rfl) rfl #[.agg #[.int .i64 ((rd_T37 l0 (rd (rd_L1 t182 x18_1) x25_2)).f0), .int .i64 ((rd_T37 l0 (rd (rd_L1 t182 x18_1) x25_2)).f1), .int .i64 ((rd_T37 l0 (rd (rd_L1 t182 x18_1) x25_2)).f2), .int .i64 ((rd_T37 l0 (rd (rd_L1 t182 x18_1) x25_2)).f3), .int .i64 ((rd_T37 l0 (rd (rd_L1 t182 x18_1) x25_2)).f4), .slice A195_5 ((rd_T37 l0 (rd (rd_L1 t182 x18_1) x25_2)).f5).length c195_5]] (by rfl) rfl rfl (by (try simp only [List.map_toArray, List.map_cons, List.map_nil]); first | done | rfl | (simp only [List.length_drop, List.length_take]; rfl)) ?_
                                    with_reducible refine (code_Sets.calls k2 ((rd_T37 l0 (rd (rd_L1 t182 x18_1) x25_2)).f0) ((rd_T37 l0 (rd (rd_L1 t182 x18_1) x25_2)).f1) ((rd_T37 l0 (rd (rd_L1 t182 x18_1) x25_2)).f2) ((rd_T37 l0 (rd (rd_L1 t182 x18_1) x25_2)).f3) ((rd_T37 l0 (rd (rd_L1 t182 x18_1) x25_2)).f4) _ _ ((rd_T37 l0 (rd (rd_L1 t182 x18_1) x25_2)).f5) t196 _ ?side1 ?side2 A19.out).mono ?_
                                    (case side1 => repeat (first | exact (Kd.C_below HR195_5.out HB.out) | (with_reducible refine Kd.C_alloc ?_ _) | (with_reducible refine Kd.C_drewN ?_ _) | (with_reducible refine Kd.C_drew ?_)))
                                    (case side2 => exact HC195_5.out)
                                    rintro e w29 ⟨rfl, hb⟩
                                    refine ⟨_, rfl, ?_⟩
                                    have n0_ := Aside0.mk (Kd.R_below (by (with_reducible repeat (first | apply Kd.R_alloc | apply Kd.R_drewN | apply Kd.R_drew)); exact HO_4.out) hb)
                                    have n1_ := Aside0.mk (Kd.S_below (by (with_reducible repeat (first | apply Kd.S_alloc | apply Kd.S_drewN | apply Kd.S_drew)); exact HO_16.out) hb)
                                    have n2_ := Aside0.mk (Kd.C_below (by repeat (first | (with_reducible exact HR188_0.out) | (with_reducible refine Kd.C_alloc ?_ _) | (with_reducible refine Kd.C_drewN ?_ _) | (with_reducible refine Kd.C_drew ?_) | exact HR188_0.out)) hb)
                                    have n3_ := Aside0.mk (below_step (by repeat (first | (with_reducible first | exact HB.out | apply below_alloc | apply pw_below_drewN | apply below_drew1) | exact HB.out)) hb)
                                    clear HO_4
                                    clear HO_16
                                    clear HR188_0
                                    clear HB
                                    have HO_4 := n0_
                                    have HO_16 := n1_
                                    have HR188_0 := n2_
                                    have HB := n3_
                                    clear n0_ n1_ n2_ n3_
                                    (try clear hb)
                                    (try clear hb2)
                                    (try clear hk)
                                    (try clear hi)
                                    refine hK.out _ _ ⟨((HB.out.cell (World.block_lt_of_cell? w _ hw194_0)).trans hw194_0), ((HB.out.cell (World.block_lt_of_cell? w _ hw194_1)).trans hw194_1), ((HB.out.cell (World.block_lt_of_cell? w _ hw194_2)).trans hw194_2), ((HB.out.cell (World.block_lt_of_cell? w _ hw194_3)).trans hw194_3), ((HB.out.cell (World.block_lt_of_cell? w _ hw194_4)).trans hw194_4), ((HB.out.cell (World.block_lt_of_cell? w _ hw194_5)).trans hw194_5), ((HB.out.cell (World.block_lt_of_cell? w _ hw195_0)).trans hw195_0), ((HB.out.cell (World.block_lt_of_cell? w _ hw195_1)).trans hw195_1), ((HB.out.cell (World.block_lt_of_cell? w _ hw195_2)).trans hw195_2), ((HB.out.cell (World.block_lt_of_cell? w _ hw195_3)).trans hw195_3), ((HB.out.cell (World.block_lt_of_cell? w _ hw195_4)).trans hw195_4), ((HB.out.cell (World.block_lt_of_cell? w _ hw195_5)).trans hw195_5)⟩ (fun hHeld => ?_)
                                    clear hK K
                                    refine norm_ (a' := ?_) ?_ ?_
                                    rotate_left
                                    · show Act.put _ (some 37) _ = _
                                      simp only [Act.put, List.setIfInBounds_toArray, List.set_cons_zero, List.set_cons_succ, i64_w, i32_w]
                                      rfl
                                    refine one_ (i := 9) (N := some 38) #[true, true, true, true, true, true, true, true, true, true] rfl rfl (one_of HT_.out (by kernel_rfl)) (by decide) (fun K hK => ?_)
                                    refine goes_ Try.func42 (by kernel_rfl) rfl #[.agg #[.int .i64 ((rd_T37 l0 x18_1).f0), .int .i64 ((rd_T37 l0 x18_1).f1), .int .i64 ((rd_T37 l0 x18_1).f2), .int .i64 ((rd_T37 l0 x18_1).f3), .int .i64 ((rd_T37 l0 x18_1).f4), .slice A194_5 ((rd_T37 l0 x18_1).f5).length c194_5], .int .i64 t196] (by rfl) rfl rfl (by (try simp only [List.map_toArray, List.map_cons, List.map_nil]); first | done | rfl | (simp only [List.length_drop, List.length_take]; rfl)) ?_
                                    with_reducible refine (sched_reads.calls k2 ((rd_T37 l0 x18_1).f0) ((rd_T37 l0 x18_1).f1) ((rd_T37 l0 x18_1).f2) ((rd_T37 l0 x18_1).f3) ((rd_T37 l0 x18_1).f4) _ _ ((rd_T37 l0 x18_1).f5) t196 false _ ?side1 ?side2 A20.out).mono ?_
                                    (case side1 => repeat (first | exact (Kd.C_below HR194_5.out HB.out) | (with_reducible refine Kd.C_alloc ?_ _) | (with_reducible refine Kd.C_drewN ?_ _) | (with_reducible refine Kd.C_drew ?_)))
                                    (case side2 => exact HC194_5.out)
                                    rintro e w30 ⟨rfl, hb⟩
                                    refine ⟨_, rfl, ?_⟩
                                    have n0_ := Aside0.mk (Kd.R_below (by (with_reducible repeat (first | apply Kd.R_alloc | apply Kd.R_drewN | apply Kd.R_drew)); exact HO_4.out) hb)
                                    have n1_ := Aside0.mk (Kd.S_below (by (with_reducible repeat (first | apply Kd.S_alloc | apply Kd.S_drewN | apply Kd.S_drew)); exact HO_16.out) hb)
                                    have n2_ := Aside0.mk (Kd.C_below (by repeat (first | (with_reducible exact HR188_0.out) | (with_reducible refine Kd.C_alloc ?_ _) | (with_reducible refine Kd.C_drewN ?_ _) | (with_reducible refine Kd.C_drew ?_) | exact HR188_0.out)) hb)
                                    have n3_ := Aside0.mk (below_step (by repeat (first | (with_reducible first | exact HB.out | apply below_alloc | apply pw_below_drewN | apply below_drew1) | exact HB.out)) hb)
                                    clear HO_4
                                    clear HO_16
                                    clear HR188_0
                                    clear HB
                                    have HO_4 := n0_
                                    have HO_16 := n1_
                                    have HR188_0 := n2_
                                    have HB := n3_
                                    clear n0_ n1_ n2_ n3_
                                    (try clear hb)
                                    (try clear hb2)
                                    (try clear hk)
                                    (try clear hi)
                                    refine hK.out _ _ ⟨((HB.out.cell (World.block_lt_of_cell? w _ hw194_0)).trans hw194_0), ((HB.out.cell (World.block_lt_of_cell? w _ hw194_1)).trans hw194_1), ((HB.out.cell (World.block_lt_of_cell? w _ hw194_2)).trans hw194_2), ((HB.out.cell (World.block_lt_of_cell? w _ hw194_3)).trans hw194_3), ((HB.out.cell (World.block_lt_of_cell? w _ hw194_4)).trans hw194_4), ((HB.out.cell (World.block_lt_of_cell? w _ hw194_5)).trans hw194_5), ((HB.out.cell (World.block_lt_of_cell? w _ hw195_0)).trans hw195_0), ((HB.out.cell (World.block_lt_of_cell? w _ hw195_1)).trans hw195_1), ((HB.out.cell (World.block_lt_of_cell? w _ hw195_2)).trans hw195_2), ((HB.out.cell (World.block_lt_of_cell? w _ hw195_3)).trans hw195_3), ((HB.out.cell (World.block_lt_of_cell? w _ hw195_4)).trans hw195_4), ((HB.out.cell (World.block_lt_of_cell? w _ hw195_5)).trans hw195_5)⟩ (fun hHeld => ?_)
                                    clear hK K
                                    refine norm_ (a' := ?_) ?_ ?_
                                    rotate_left
                                    · show Act.put _ (some 38) _ = _
                                      simp only [Act.put, List.setIfInBounds_toArray, List.set_cons_zero, List.set_cons_succ, i64_w, i32_w]
                                      rfl
                                    refine done_ (done_of HT_.out (by kernel_rfl)) ?_
                                    try go_wp2
                                    go_roundg k2
                                    case measure => have := HK1.out; have := HK2.out; omega
                                    case rel => exact ⟨(x5_2), (wrap64 (x25_2 + 1)), (by first | rfl | (simp; done) | (simp [*]; done)), (by first | rfl | (simp; done) | (simp [*]; done)), H', ⟨by have := HK1.out; have := HK2.out; omega⟩, ⟨by (with_reducible repeat (first | apply Kd.R_alloc | apply Kd.R_drewN | apply Kd.R_drew)); exact HO_4.out⟩, ⟨by (with_reducible repeat (first | apply Kd.S_alloc | apply Kd.S_drewN | apply Kd.S_drew)); exact HO_16.out⟩, ⟨by repeat (first | (with_reducible exact HR188_0.out) | (with_reducible refine Kd.C_alloc ?_ _) | (with_reducible refine Kd.C_drewN ?_ _) | (with_reducible refine Kd.C_drew ?_) | exact HR188_0.out)⟩, ⟨by repeat (first | (with_reducible first | exact HB.out | apply below_alloc | apply pw_below_drewN | apply below_drew1) | exact HB.out)⟩⟩
                                · rw [if_neg c18] at H
                                  exact absurd H (by simp)
                              · rw [if_neg c17] at H
                                exact absurd H (by simp)
                            · rw [if_neg c16] at H
                              exact absurd H (by simp)
                          · rw [if_neg c15] at H
                            exact absurd H (by simp)
                        · rw [if_neg c14] at H
                          exact absurd H (by simp)
                      · rw [if_neg c13] at H
                        exact absurd H (by simp)
                    · rw [if_neg c12] at H
                      have c12b0 : decide (x25_2 < ((rd_L1 t182 x18_1).length : Int)) = false := decide_eq_false c12
                      clear c12
                      by_cases c31 : 0 ≤ x18_1
                      · rw [if_pos c31] at H
                        have c31b0 : decide (0 ≤ x18_1) = true := decide_eq_true c31
                        clear c31
                        by_cases c32 : x18_1 < (l0.length : Int)
                        · rw [if_pos c32] at H
                          have c32b0 : decide (x18_1 < (l0.length : Int)) = true := decide_eq_true c32
                          clear c32
                          replace H := Option.bind_eq_some_iff.mp H
                          obtain ⟨t190, A330, H⟩ := H
                          replace H : (if x18_1 < (x4_1.length : Int) then ((some (x4_1.set (x18_1 : Int).toNat (wrap64 (x5_2 + t190)) : List Int)).bind fun y191 => (sched_Cost.l0 k2 l0 y191 (wrap64 (x5_2 + 1)) (mx x6_1 (rd y191 x18_1)) t182 (t182.length : Int) (wrap64 (x18_1 + 1)))) else (none)) = some r := H
                          have A33 := Aside0.mk A330
                          clear A330
                          by_cases c34 : x18_1 < (x4_1.length : Int)
                          · rw [if_pos c34] at H
                            have c34b0 : decide (x18_1 < (x4_1.length : Int)) = true := decide_eq_true c34
                            clear c34
                            obtain ⟨y191, hy191⟩ : ∃ y_ : List Int, y_ = (x4_1.set (x18_1 : Int).toNat (wrap64 (x5_2 + t190))) := ⟨_, rfl⟩
                            replace H : (sched_Cost.l0 k2 l0 y191 (wrap64 (x5_2 + 1)) (mx x6_1 (rd y191 x18_1)) t182 (t182.length : Int) (wrap64 (x18_1 + 1))) = some r := by first | (rw [hy191]; with_reducible exact H) | (have H2_ := (Option.bind_some _ _).symm.trans H; rw [hy191]; with_reducible exact H2_) | (have H2_ := (Option.bind_some _ _).symm.trans H; with_reducible exact H2_) | with_reducible exact H | (rw [hy191]; exact H) | exact H
                            have Ny191 := Aside0.mk hy191
                            clear hy191
                            obtain ⟨ji36, hji36⟩ : ∃ j_ : Int, (mx x6_1 (rd y191 x18_1)) = j_ := ⟨_, rfl⟩
                            replace H : (sched_Cost.l0 k2 l0 y191 (wrap64 (x5_2 + 1)) ji36 t182 (t182.length : Int) (wrap64 (x18_1 + 1))) = some r := by first | (rw [hji36] at H; exact H) | (simp only [hji36] at H ⊢; exact H)
                            (try rw [hji36] at A33)
                            have hji36_ : (if x6_1 < (rd y191 x18_1) then (rd y191 x18_1) else x6_1) = ji36 := hji36
                            have H' := Aside0.mk H
                            clear H
                            have p189 : 0 ≤ (x18_1 : Int) := of_decide_eq_true (by first | (with_reducible assumption) | assumption)
                            have q189 : x18_1 < (l0.length : Int) := of_decide_eq_true (by first | (with_reducible assumption) | assumption)
                            obtain ⟨ad189, A189_5, c189_5, e189, hx189_0, hx189_1, hx189_2, hx189_3, hx189_4, hx189_5, hl189_5, hi189_5⟩ := at_T37 HR0.out x18_1 p189 q189
                            cases e189
                            replace hx189_0 := (HB.out.cell (World.block_lt_of_cell? w _ hx189_0)).trans hx189_0
                            replace hx189_1 := (HB.out.cell (World.block_lt_of_cell? w _ hx189_1)).trans hx189_1
                            replace hx189_2 := (HB.out.cell (World.block_lt_of_cell? w _ hx189_2)).trans hx189_2
                            replace hx189_3 := (HB.out.cell (World.block_lt_of_cell? w _ hx189_3)).trans hx189_3
                            replace hx189_4 := (HB.out.cell (World.block_lt_of_cell? w _ hx189_4)).trans hx189_4
                            replace hx189_5 := (HB.out.cell (World.block_lt_of_cell? w _ hx189_5)).trans hx189_5
                            have HR189_5 := Aside0.mk hi189_5
                            have HC189_5 := Aside0.mk hl189_5
                            clear hi189_5 hl189_5
                            replace p189 := eq_true p189
                            replace q189 := eq_true q189
                            go_wp2_with (first | ((with_reducible refine gate_callee (f := 14) rfl ?_); refine goesL_ (some 53) rfl rfl Try.func14 (by kernel_rfl) rfl #[.agg #[.int .i64 ((rd_T37 l0 x18_1).f0), .int .i64 ((rd_T37 l0 x18_1).f1), .int .i64 ((rd_T37 l0 x18_1).f2), .int .i64 ((rd_T37 l0 x18_1).f3), .int .i64 ((rd_T37 l0 x18_1).f4), .slice A189_5 ((rd_T37 l0 x18_1).f5).length c189_5]] rfl (by (try simp only [List.map_toArray, List.map_cons, List.map_nil]); first | done | rfl | (simp only [List.length_drop, List.length_take]; rfl)) ?_; (with_reducible refine (sched_Latency.calls ((rd_T37 l0 x18_1).f0) ((rd_T37 l0 x18_1).f1) ((rd_T37 l0 x18_1).f2) ((rd_T37 l0 x18_1).f3) ((rd_T37 l0 x18_1).f4) _ _ ((rd_T37 l0 x18_1).f5) t190 _ ?side1 ?side2 A33.out).mono ?_); (case side1 => repeat (first | exact (Kd.C_below HR189_5.out HB.out) | (with_reducible refine Kd.C_alloc ?_ _) | (with_reducible refine Kd.C_drewN ?_ _) | (with_reducible refine Kd.C_drew ?_))); (case side2 => exact HC189_5.out); rintro e w37 ⟨rfl, hb⟩; refine ⟨_, rfl, ?_⟩; have n0_ := Aside0.mk (Kd.R_below (by (with_reducible repeat (first | apply Kd.R_alloc | apply Kd.R_drewN | apply Kd.R_drew)); exact HO_4.out) hb); have n1_ := Aside0.mk (Kd.S_below (by (with_reducible repeat (first | apply Kd.S_alloc | apply Kd.S_drewN | apply Kd.S_drew)); exact HO_16.out) hb); have n2_ := Aside0.mk (Kd.C_below (by repeat (first | (with_reducible exact HR188_0.out) | (with_reducible refine Kd.C_alloc ?_ _) | (with_reducible refine Kd.C_drewN ?_ _) | (with_reducible refine Kd.C_drew ?_) | exact HR188_0.out)) hb); have n3_ := Aside0.mk (below_step (by repeat (first | (with_reducible first | exact HB.out | apply below_alloc | apply pw_below_drewN | apply below_drew1) | exact HB.out)) hb); clear HO_4; clear HO_16; clear HR188_0; clear HB; have HO_4 := n0_; have HO_16 := n1_; have HR188_0 := n2_; have HB := n3_; clear n0_ n1_ n2_ n3_; (try clear hb); (try clear hb2); (try clear hk); (try clear hi); have p35 : 0 ≤ (x18_1 : Int) := of_decide_eq_true (by first | (with_reducible assumption) | assumption); have q35 : (x18_1 : Int) < ((x4_1.length : Int) : Int) := of_decide_eq_true (by first | (with_reducible assumption) | assumption); obtain ⟨go35, co35, eo35, gb35, gl35, cl35, HG35⟩ := Kd.R_form HO_4.out (by omega); (first | cases eo35 | (injection eo35 with ea_ en_ ec_; (first | subst ea_ | (injection ea_ with ea_; subst ea_)); subst ec_; clear en_)); have GB35 := Aside0.mk gb35; have GG35 := Aside0.mk HG35; clear gb35 gl35 HG35; obtain ⟨hx35_0, hf35_0⟩ := Kd.R_celln 0 HO_4.out (x18_1 : Int) p35 q35; replace p35 := eq_true p35; replace q35 := eq_true q35; obtain ⟨hy38_, hz38_⟩ := Kd.R_celln 0 HO_4.out (x18_1 : Int) (of_decide_eq_true (by first | (with_reducible assumption) | assumption)) (of_decide_eq_true (by first | (with_reducible assumption) | assumption)); have HP38 := Kd.R_putg HO_4.out (x18_1 : Int) (wrap64 (x5_2 + t190))) | ((with_reducible refine gate_store (t := 3) (p := 55) rfl ?_); refine store_event (t := 3) (p := 55) (v := ?vo_w39) (w1 := (w37.setCell ⟨go35, (x18_1 : Int).toNat, none⟩ (.int .i64 (wrap64 (x5_2 + t190))))) ?hg ?ho ?hn ?hr ?_; (case ho => rfl); (case hg => rfl); (case hn => rfl); (case hr => first | (go_simp; done) | (go_simp; rfl)); intro w39 hw; have hg : w37.grownBy w39 (some go35) := (by rw [hw]; exact HP38.2); have hp_ : Kd.R (Kd.int .i64) 3 w39 w.heap.size (fun _ => True) (.slice (some ⟨go35, 0, none⟩) x4_1.length co35) y191 := (by rw [hw, Ny191.out]; exact HP38.1); clear HP38; have n0_ := Aside0.mk (hp_); have n1_ := Aside0.mk (Kd.S_after (v := (.slice (some ⟨go35, 0, none⟩) x4_1.length co35)) (v1 := (.slice (some ⟨go35, 0, none⟩) x4_1.length co35)) (ok := (fun _ => True)) (by (with_reducible repeat (first | apply Kd.S_alloc | apply Kd.S_drewN | apply Kd.S_drew)); exact Kd.S_mono HO_16.out (fun _ hk => ⟨trivial, hk⟩)) hg (.inl rfl)); have n2_ := Aside0.mk ((by rw [hw]; exact below_set (HB.out) GB35.out : Below w.heap.size w w39)); clear HO_4; clear HO_16; clear HB; have HO_4 := n0_; have HO_16 := n1_; have HB := n2_; clear n0_ n1_ n2_; clear hg hw hp_; have p192 : 0 ≤ (x18_1 : Int) := of_decide_eq_true (by first | (with_reducible assumption) | assumption); have q192 : x18_1 < (y191.length : Int) := (by have h_ : (x18_1 : Int) < ((x4_1.length : Int) : Int) := of_decide_eq_true (by first | (with_reducible assumption) | assumption); first | (have e_ := (Kd.R_reads' HO_4.out).1; omega) | simpa only [Ny191.out, List.length_set] using h_); have ql192 : ((x18_1 : Int) < ((x4_1.length : Int) : Int)) = True := eq_true (of_decide_eq_true (by first | (with_reducible assumption) | assumption)); obtain ⟨ad192, e192, hx192_0⟩ := Kd.at_int (Kd.R_reads' HO_4.out).2.2 x18_1 p192 q192; obtain rfl : (⟨go35, 0, none⟩ : Addr) = ad192 := (by injection e192); (first | simp only [add_plain] at hx192_0 | simp only [add_at] at hx192_0 | simp only [Addr.add, Nat.zero_add] at hx192_0 | skip); replace p192 := eq_true p192; replace q192 := eq_true q192))
                            go_roundg k2
                            case measure => have := HK1.out; have := HK2.out; omega
                            case rel => exact ⟨(y191), (wrap64 (x5_2 + 1)), (ji36), (wrap64 (x18_1 + 1)), (by first | rfl | (simp; done) | (simp [*]; done)), (by first | rfl | (simp; done) | (simp only [← hji36] <;> (first | rfl | simp)) | (simp [*]; done)), (by first | rfl | (simp; done) | (simp [*]; done)), H', ⟨by have := HK1.out; have := HK2.out; omega⟩, ⟨by (with_reducible repeat (first | apply Kd.R_alloc | apply Kd.R_drewN | apply Kd.R_drew)); exact HO_4.out⟩, ⟨by (with_reducible repeat (first | apply Kd.S_alloc | apply Kd.S_drewN | apply Kd.S_drew)); exact Kd.S_mono HO_16.out (fun _ hk => hk.2)⟩, ⟨by repeat (first | (with_reducible first | exact HB.out | apply below_alloc | apply pw_below_drewN | apply below_drew1) | exact HB.out)⟩⟩
                          · rw [if_neg c34] at H
                            exact absurd H (by simp)
                        · rw [if_neg c32] at H
                          exact absurd H (by simp)
                      · rw [if_neg c31] at H
                        exact absurd H (by simp)
              · rw [if_neg c11] at H
                exact absurd H (by simp)
            · rw [if_neg c10] at H
              exact absurd H (by simp)
          · rw [if_neg c9] at H
            have c9b0 : decide (x18_1 < (t182.length : Int)) = false := decide_eq_false c9
            clear c9
            obtain rfl := Option.some.inj H
            go_wp2
            go_ret
            exact ⟨by first | rfl | (simp [errW_none, errW_some] <;> rfl) | (simp [*, errW_none, errW_some] <;> rfl), by repeat (first | (with_reducible first | exact HB.out | apply below_alloc | apply pw_below_drewN | apply below_drew1) | exact HB.out)⟩
    · rw [if_neg c4] at H
      exact absurd H (by simp)
  · rw [if_neg c3] at H
    exact absurd H (by simp)

end Go.Proofs.Ytphmlkbmnmicpaa.A

/- What the machine does at this function, and a plain Lean function that says the same: written by a program for this claim; Lean checks it. -/
namespace Go.Proofs.Ytphmlkbmnmicpaa.A
open Go.RowKit Go.Proofs.YtphmlkbmnmicpaaW.PrintWords Go.Proofs.YtphmlkbmnmicpaaW.PrintLast Go.Proofs.YtphmlkbmnmicpaaW.PrintMore
attribute [local go_sem] max2_int min2_int max_two min_two max_three min_three max_four min_four   -- for this text's walks alone
set_option linter.unusedVariables false
set_option linter.unusedSimpArgs false

/-! ### sched_Heights: function 20 -/
def sched_Heights.f (k : Nat) (l0 : List (S37)) : Option (List Int) := (sched_Deps.f k l0).bind fun t176 => ((sched_heights.f l0 t176).bind fun t179 => (some t179))
theorem sched_Heights.mono : ∀ a0 k, LeO (sched_Heights.f k a0) (sched_Heights.f (k + 1) a0) := by
  intro a0 k
  unfold sched_Heights.f
  repeat' first
      | (with_reducible exact sched_Deps.mono _ _)
      | (with_reducible exact LeO.refl _)
      | (with_reducible exact LeO.none _)
      | (with_reducible refine LeO.ite ?_ ?_)
      | (with_reducible refine LeO.bind ?_ (fun _ => ?_))
      | exact sched_Deps.mono _ _
      | exact LeO.none _
      | refine LeO.ite ?_ ?_
      | refine LeO.bind ?_ (fun _ => ?_)
set_option maxHeartbeats 8000000 in
set_option maxRecDepth 100000 in
theorem sched_Heights.calls (k : Nat) (A0 : Option Addr) (c0 : Nat) (l0 : List (S37)) (r : List Int) (w : World) (hr0 : Kd.C k37 w A0 l0.length l0) (hc0 : l0.length ≤ c0) (h : sched_Heights.f k l0 = some r) :
    Calls Try.prog 20 #[.slice A0 l0.length c0] w fun e w' => ∃ v0_ : Value, e = .returned (v0_) ∧ Kd.R (Kd.int .i64) 3 w' w.heap.size (fun _ => True) v0_ r ∧ Below w.heap.size w w' := by
  have HR0 := Aside0.mk hr0
  have HC0 := Aside0.mk hc0
  clear hr0 hc0
  have HB := Aside0.mk (Below.refl w.heap.size w)
  have H : ((sched_Deps.f k l0).bind fun t176 => ((sched_heights.f l0 t176).bind fun t179 => (some t179))) = some r := h
  clear h
  replace H := Option.bind_eq_some_iff.mp H
  obtain ⟨t176, A20, H⟩ := H
  replace H : ((sched_heights.f l0 t176).bind fun t179 => (some t179)) = some r := H
  have A2 := Aside0.mk A20
  clear A20
  replace H := Option.bind_eq_some_iff.mp H
  obtain ⟨t179, A30, H⟩ := H
  replace H : (some t179) = some r := H
  have A3 := Aside0.mk A30
  clear A30
  obtain rfl := Option.some.inj H
  go_enter Try.func20, Try.ntmps20
  go_wp2_with (first | ((with_reducible refine gate_callee (f := 17) rfl ?_); refine goesL_ (some 5) rfl rfl Try.func17 (by kernel_rfl) rfl #[.slice A0 l0.length c0] rfl (by (try simp only [List.map_toArray, List.map_cons, List.map_nil]); first | done | rfl | (simp only [List.length_drop, List.length_take]; rfl)) ?_; (with_reducible refine (sched_Deps.calls k _ _ l0 t176 _ ?side1 ?side2 A2.out).mono ?_); (case side1 => repeat (first | exact HR0.out | (with_reducible refine Kd.C_alloc ?_ _) | (with_reducible refine Kd.C_drewN ?_ _) | (with_reducible refine Kd.C_drew ?_))); (case side2 => exact HC0.out); rintro e w4 ⟨v177, rfl, ho0, hb⟩; refine ⟨_, rfl, ?_⟩; have n0_ := Aside0.mk (Kd.S_lower ho0 (below_size (by repeat (first | (with_reducible first | exact HB.out | apply below_alloc | apply pw_below_drewN | apply below_drew1) | exact HB.out)))); have n1_ := Aside0.mk (below_step (by repeat (first | (with_reducible first | exact HB.out | apply below_alloc | apply pw_below_drewN | apply below_drew1) | exact HB.out)) hb); clear HB; have HO178 := n0_; have HB := n1_; clear n0_ n1_; (try clear hb); (try clear hb2); (try clear hk); (try clear hi); (try clear ho0); obtain ⟨Ao5, co5, eo5⟩ := Kd.S_slice HO178.out; subst eo5) | ((with_reducible refine gate_callee (f := 34) rfl ?_); refine goesL_ (some 6) rfl rfl Try.func34 (by kernel_rfl) rfl #[.slice A0 l0.length c0, .slice Ao5 t176.length co5] rfl (by (try simp only [List.map_toArray, List.map_cons, List.map_nil]); first | done | rfl | (simp only [List.length_drop, List.length_take]; rfl)) ?_; (with_reducible refine (sched_heights.calls _ _ l0 _ _ t176 t179 _ ?side1 ?side2 ?side3 ?side4 A3.out).mono ?_); (case side1 => repeat (first | exact (Kd.C_below HR0.out HB.out) | (with_reducible refine Kd.C_alloc ?_ _) | (with_reducible refine Kd.C_drewN ?_ _) | (with_reducible refine Kd.C_drew ?_))); (case side2 => exact HC0.out); (case side3 => repeat (first | exact (Kd.S_reads' HO178.out).2.2 | (with_reducible refine Kd.C_alloc ?_ _) | (with_reducible refine Kd.C_drewN ?_ _) | (with_reducible refine Kd.C_drew ?_))); (case side4 => exact (Kd.S_reads' HO178.out).2.1); rintro e w6 ⟨v180, rfl, ho0, hb⟩; refine ⟨_, rfl, ?_⟩; have n0_ := Aside0.mk (Kd.S_elder' (by (with_reducible repeat (first | apply Kd.S_alloc | apply Kd.S_drewN | apply Kd.S_drew)); exact HO178.out) (Kd.R_base ho0) hb); have n1_ := Aside0.mk (Kd.R_lower ho0 (below_size (by repeat (first | (with_reducible first | exact HB.out | apply below_alloc | apply pw_below_drewN | apply below_drew1) | exact HB.out)))); have n2_ := Aside0.mk (below_step (by repeat (first | (with_reducible first | exact HB.out | apply below_alloc | apply pw_below_drewN | apply below_drew1) | exact HB.out)) hb); clear HO178; clear HB; have HO178 := n0_; have HO181 := n1_; have HB := n2_; clear n0_ n1_ n2_; (try clear hb); (try clear hb2); (try clear hk); (try clear hi); (try clear ho0)))
  go_ret
  exact ⟨_, by first | rfl | (simp [errW_none, errW_some] <;> rfl) | (simp [*, errW_none, errW_some] <;> rfl), by (with_reducible repeat (first | apply Kd.R_alloc | apply Kd.R_drewN | apply Kd.R_drew)); exact HO181.out, by repeat (first | (with_reducible first | exact HB.out | apply below_alloc | apply pw_below_drewN | apply below_drew1) | exact HB.out)⟩

end Go.Proofs.Ytphmlkbmnmicpaa.A

/- The small case at the head of each law of sched comes out right. -/
namespace Go.Proofs.Ytphmlkbmnmicpaa.A
open Go.RowKit Go.Proofs.YtphmlkbmnmicpaaW.PrintWords Go.Proofs.YtphmlkbmnmicpaaW.PrintLast Go.Shelf
set_option linter.unusedVariables false
set_option linter.unusedSimpArgs false

theorem R_new_lit {α : Type} (d : Kd α) (W : World) (base e : Nat) {xs : List α} {inner : List Value} {ok okp : Nat → Prop}
    (hrep : Reps (d.M W base okp) d.sz xs inner) (hok : ∀ k, okp k → ok k) (hfresh : ok W.heap.size) (hbase : base ≤ W.heap.size) (hm : xs.length ≤ 9223372036854775807) :
    d.R e (W.alloc (.cells inner.toArray e)) base ok (.slice (some ⟨W.heap.size, 0, none⟩) xs.length xs.length) xs := by
  refine ⟨fun k hk => ?_, inner, ?_, ?_⟩
  · have : W.heap.size = k := by simpa [Value.ownBlock] using hk
    subst this
    exact hfresh
  · have h2 := World.ownsRow_lit (base := base) (e := e) (size := d.sz) W inner.toArray xs.length hbase (by simpa [maxLen] using hm) (by simpa using hrep.1)
    simpa using h2
  · refine hrep.imp_ (fun p c hp => d.M_mono (fun k hk => ⟨hok k hk.1, fun he => ?_⟩) (Kd.M_below (d.M_bound hp) (below_alloc (Below.refl _ _) _)))
    have : W.heap.size = k := by simpa [Value.ownBlock] using he.symm
    have := hk.2.2.1
    omega

def L3 : List S37 := [⟨1, 1, 0, 0, 0, []⟩, ⟨4, 2, 3, 0, 0, []⟩, ⟨2, 4, 1, 2, 1, []⟩]
def L3o : List S37 := [⟨4, 2, 3, 0, 0, []⟩, ⟨1, 1, 0, 0, 0, []⟩, ⟨2, 4, 1, 2, 1, []⟩]

theorem some_c (W : World) : Calls Try.prog 30 #[] W fun e w' => ∃ A c, e = .returned (.slice A 3 c) ∧ Kd.C k37 w' A 3 L3 ∧ 3 ≤ c ∧ Below W.heap.size W w' :=
  (swagelaw27_some.calls _ W rfl).mono fun e w' ⟨v, he, hS, hb⟩ => by
    obtain ⟨A, c, rfl, h1, h2⟩ := Kd.S_reads hS
    exact ⟨A, c, he, h2, h1, hb⟩
theorem few3 : Few L3 := by decide
theorem order3 : sched_Order.f L3 = some [1, 0, 2] := by
  unfold sched_Order.f; rw [if_pos few3]; decide +kernel
theorem block3 : sched_Block.f L3 0 0 0 0 = some (L3o, 0, 0, 0, 0) := by
  unfold sched_Block.f; rw [if_pos few3, show orderOf L3 = [1, 0, 2] by decide +kernel]; rfl
theorem may3a : sched_May.f L3 [0, 1, 2] = some true := by
  unfold sched_May.f; rw [if_pos few3]; decide +kernel
theorem may3b : sched_May.f L3 [0, 2, 1] = some false := by
  unfold sched_May.f; rw [if_pos few3]; decide +kernel
theorem deps3 : depsOf L3 = [[], [], [0, 1]] := by decide +kernel
theorem heights3 : heightsOf L3 = [2, 4, 1] := by decide +kernel
theorem cost3 : sched_Cost.f 60 L3 = some 5 := by decide +kernel
theorem fheights3 : sched_Heights.f 60 L3 = some [2, 4, 1] := by decide +kernel
theorem ints3 (xs : List Int) (h : xs.length = 3) : ∃ k, swageref02_Ints.f k xs xs = some true := by
  rcases xs with _ | ⟨a, _ | ⟨b, _ | ⟨c, _ | ⟨d, xs⟩⟩⟩⟩ <;> simp at h
  exact ⟨10, by simp [swageref02_Ints.f, swageref02_Ints.l0, wrap64]⟩
theorem rows3 : swageref06_Rows.f 30 [[], [], [0, 1]] [[], [], [0, 1]] = some true := by decide +kernel

theorem block_c (A : Option Addr) (c : Nat) (W : World) (h : Kd.C k37 W A 3 L3) (hc : 3 ≤ c) : Calls Try.prog 11 #[.agg #[.slice A 3 c, .int .i64 0, .int .i64 0, .int .i64 0, .int .i64 0]] W fun e w' =>
    ∃ A c, e = .returned (.agg #[.slice A 3 c, .int .i64 0, .int .i64 0, .int .i64 0, .int .i64 0]) ∧ Kd.C k37 w' A 3 L3o ∧ 3 ≤ c ∧ Below W.heap.size W w' :=
  (sched_Block.calls A c L3 0 0 0 0 _ _ _ _ _ W h hc block3).mono fun e w' ⟨v, he, hS, hb⟩ => by
    obtain ⟨A, c, rfl, h1, h2⟩ := Kd.S_reads hS
    exact ⟨A, c, he, h2, h1, hb⟩
theorem order_c (A : Option Addr) (c : Nat) (W : World) (h : Kd.C k37 W A 3 L3) (hc : 3 ≤ c) : Calls Try.prog 22 #[.slice A 3 c] W fun e w' =>
    ∃ A c, e = .returned (.slice A 3 c) ∧ Kd.C (Kd.int .i64) w' A 3 [1, 0, 2] ∧ 3 ≤ c ∧ Below W.heap.size W w' :=
  (sched_Order.calls A c L3 _ W h hc order3).mono fun e w' ⟨v, he, hS, hb⟩ => by
    obtain ⟨A, c, rfl, h1, h2⟩ := Kd.R_reads hS
    exact ⟨A, c, he, h2, h1, hb⟩
theorem heights_c (A : Option Addr) (c : Nat) (W : World) (h : Kd.C k37 W A 3 L3) (hc : 3 ≤ c) : Calls Try.prog 20 #[.slice A 3 c] W fun e w' =>
    ∃ A c, e = .returned (.slice A 3 c) ∧ Kd.C (Kd.int .i64) w' A 3 [2, 4, 1] ∧ 3 ≤ c ∧ Below W.heap.size W w' :=
  (sched_Heights.calls 60 A c L3 _ W h hc fheights3).mono fun e w' ⟨v, he, hS, hb⟩ => by
    obtain ⟨A, c, rfl, h1, h2⟩ := Kd.R_reads hS
    exact ⟨A, c, he, h2, h1, hb⟩
theorem deps_c (A : Option Addr) (c : Nat) (W : World) (h : Kd.C k37 W A 3 L3) (hc : 3 ≤ c) : Calls Try.prog 17 #[.slice A 3 c] W fun e w' =>
    ∃ A c, e = .returned (.slice A 3 c) ∧ Kd.C (Kd.slice 3 (Kd.int .i64)) w' A 3 [[], [], [0, 1]] ∧ 3 ≤ c ∧ Below W.heap.size W w' :=
  (deps_calls L3 few3.1 few3.2 A c W h hc).mono fun e w' ⟨v, he, hS, hb⟩ => by
    obtain ⟨A, c, rfl, h1, h2⟩ := Kd.S_reads hS
    rw [deps3] at he h1 h2
    exact ⟨A, c, he, h2, h1, hb⟩
theorem ints_c (xs : List Int) (A B : Option Addr) (c b : Nat) (W : World) (h : Kd.C (Kd.int .i64) W A 3 xs) (hc : 3 ≤ c) (h' : Kd.C (Kd.int .i64) W B 3 xs) (hb : 3 ≤ b) : Calls Try.prog 19 #[.slice A 3 c, .slice B 3 b] W fun e w' =>
    e = .returned (.bool true) ∧ Drawn0 W w' := by
  have hl := Kd.C_len h
  obtain ⟨k, hk⟩ := ints3 xs hl
  have := swageref02_Ints.calls k A c xs B b xs true W (by rw [hl]; exact h) (by omega) (by rw [hl]; exact h') (by omega) hk
  rwa [hl] at this
theorem int_lit_c (a b c : Int) (W : World) : Kd.C (Kd.int .i64) (W.alloc (.cells #[.int .i64 a, .int .i64 b, .int .i64 c] 3)) (some ⟨W.heap.size, 0, none⟩) 3 [a, b, c] :=
  (Kd.R_reads' (R_new_lit (Kd.int .i64) W W.heap.size 3 (xs := [a, b, c]) (inner := [.int .i64 a, .int .i64 b, .int .i64 c]) (ok := fun _ => True) (okp := fun _ => True) (Kd.reps_scalar [a, b, c]) (fun _ h => h) trivial (Nat.le_refl _) (by simp))).2.2

theorem int_lit2 (a b : Int) (W : World) (base : Nat) (hb : base ≤ W.heap.size) : Kd.R (Kd.int .i64) 3 (W.alloc (.cells #[.int .i64 a, .int .i64 b] 3)) base (fun _ => True) (.slice (some ⟨W.heap.size, 0, none⟩) 2 2) [a, b] :=
  R_new_lit (Kd.int .i64) W base 3 (xs := [a, b]) (inner := [.int .i64 a, .int .i64 b]) (ok := fun _ => True) (okp := fun _ => True) (Kd.reps_scalar [a, b]) (fun _ h => h) trivial hb (by simp)
theorem rows_lit (W : World) : Kd.C (Kd.slice 3 (Kd.int .i64)) ((W.alloc (.cells #[.int .i64 0, .int .i64 1] 3)).alloc (.cells #[.slice none 0 0, .slice none 0 0, .slice (some ⟨W.heap.size, 0, none⟩) 2 2] 23)) (some ⟨W.heap.size + 1, 0, none⟩) 3 [[], [], [0, 1]] := by
  have h := (Kd.R_reads' (R_new_lit (Kd.slice 3 (Kd.int .i64)) (W.alloc (.cells #[.int .i64 0, .int .i64 1] 3)) W.heap.size 23 (xs := [[], [], [0, 1]]) (inner := [.slice none 0 0, .slice none 0 0, .slice (some ⟨W.heap.size, 0, none⟩) 2 2]) (ok := fun _ => True) (okp := fun _ => True)
    (Reps.one ⟨_, rfl, Kd.R_nil _ _ _ _ _⟩ (Reps.one ⟨_, rfl, Kd.R_nil _ _ _ _ _⟩ (Reps.one ⟨_, rfl, int_lit2 0 1 W _ (Nat.le_refl _)⟩ (Reps.none _ _)))) (fun _ h => h) trivial (by simp) (by simp))).2.2
  rw [World.size_alloc] at h
  exact h
theorem rows_c (A : Option Addr) (c : Nat) (W : World) (h : Kd.C (Kd.slice 3 (Kd.int .i64)) W A 3 [[], [], [0, 1]]) (hc : 3 ≤ c) :
    Calls Try.prog 16 #[.slice A 3 c, .slice (some ⟨W.heap.size + 1, 0, none⟩) 3 3] ((W.alloc (.cells #[.int .i64 0, .int .i64 1] 3)).alloc (.cells #[.slice none 0 0, .slice none 0 0, .slice (some ⟨W.heap.size, 0, none⟩) 2 2] 23)) fun e w' =>
      e = .returned (.bool true) ∧ Below W.heap.size W w' := by
  have hr := rows_lit W
  have hB : Below W.heap.size W ((W.alloc (.cells #[.int .i64 0, .int .i64 1] 3)).alloc (.cells #[.slice none 0 0, .slice none 0 0, .slice (some ⟨W.heap.size, 0, none⟩) 2 2] 23)) := below_alloc (below_alloc (Below.refl _ _) _) _
  replace h := Kd.C_below h hB
  generalize ((W.alloc (.cells #[.int .i64 0, .int .i64 1] 3)).alloc (.cells #[.slice none 0 0, .slice none 0 0, .slice (some ⟨W.heap.size, 0, none⟩) 2 2] 23)) = W1 at *
  exact (swageref06_Rows.calls 30 A c [[], [], [0, 1]] (some ⟨W.heap.size + 1, 0, none⟩) 3 [[], [], [0, 1]] true W1 h hc hr (Nat.le_refl _) rows3).mono fun e w' ⟨he, hD⟩ => ⟨he, below_then hB hB.size hD.below⟩

/-- what small keeps: the block with the box, its operations -/
structure SI (w : World) (g : Nat) (A : Option Addr) (c : Nat) (W : World) : Prop where
  hb : W.heap[g]? = some (.cells #[.slice A 3 c, .int .i64 0, .int .i64 0, .int .i64 0, .int .i64 0] 29 (0, 0))
  hC : Kd.C k37 W A 3 L3o
  hB : Below w.heap.size w W
theorem SI.below {w W W1 : World} {g : Nat} {A : Option Addr} {c : Nat} (h : SI w g A c W) (hb : Below W.heap.size W W1) : SI w g A c W1 :=
  ⟨(hb.block _ (blk_lt h.hb)).trans h.hb, Kd.C_below h.hC hb, below_then h.hB h.hB.size hb⟩
theorem SI.alloc {w W : World} {g : Nat} {A : Option Addr} {c : Nat} (h : SI w g A c W) (o : Obj) : SI w g A c (W.alloc o) := h.below (below_alloc (Below.refl _ _) o)
theorem SI.cell {w W : World} {g : Nat} {A : Option Addr} {c : Nat} (h : SI w g A c W) : W.cell? ⟨g, 0, none⟩ = some (.slice A 3 c) := (blk_cell h.hb 0).trans rfl
theorem C_alloc' {α : Type} {d : Kd α} {W : World} {A : Option Addr} {n : Nat} {xs : List α} (h : Kd.C d W A n xs) (o : Obj) : Kd.C d (W.alloc o) A n xs := Kd.C_below h (below_alloc (Below.refl _ _) o)
theorem may_c (o : List Int) (ho : o.length = 3) (b : Bool) (hm : sched_May.f L3 o = some b) (A B : Option Addr) (c c' : Nat) (W : World) (h : Kd.C k37 W A 3 L3) (hc : 3 ≤ c) (h' : Kd.C (Kd.int .i64) W B 3 o) (hc' : 3 ≤ c') : Calls Try.prog 24 #[.slice A 3 c, .slice B 3 c'] W fun e w' =>
    e = .returned (.bool b) ∧ Below W.heap.size W w' := by
  have := sched_May.calls A c L3 B c' o b W h hc (by rw [ho]; exact h') (by omega) hm
  rwa [ho] at this

set_option maxRecDepth 100000 in
set_option maxHeartbeats 4000000 in
theorem small_calls (w : World) : Calls Try.prog 8 #[] w fun e w' => e = .returned (.bool true) ∧ Below w.heap.size w w' := by
  have hu29 := Try.underlying29
  have hu37 := Try.underlying37
  go_enter Try.func8, Try.ntmps8
  go_wp2_with fail
  refine (some_c w).mono ?_
  rintro e w1 ⟨A1, c1, rfl, hC1, hl1, hB1⟩
  go_wp2_with fail
  refine (block_c A1 c1 w1 hC1 hl1).mono ?_
  rintro e w2 ⟨A2, c2, rfl, hC2, hl2, hB2⟩
  have hB2' := below_then hB1 hB1.size hB2
  clear hC1 hl1 hB1 hB2
  go_wp2_with fail
  have hI : SI w w2.heap.size A2 c2 (w2.alloc (.cells #[.slice A2 3 c2, .int .i64 0, .int .i64 0, .int .i64 0, .int .i64 0] 29)) := ⟨World.alloc_heap_new w2 _, C_alloc' hC2 _, below_alloc hB2' _⟩
  clear hC2 hl2 hB2'
  generalize w2.alloc (.cells #[.slice A2 3 c2, .int .i64 0, .int .i64 0, .int .i64 0, .int .i64 0] 29) = w3 at hI ⊢
  generalize w2.heap.size = g at hI ⊢
  refine (some_c w3).mono ?_
  rintro e w4 ⟨A4, c4, rfl, hC4, hl4, hB4⟩
  replace hI := hI.below hB4
  go_wp2_with fail
  refine (order_c A4 c4 w4 hC4 hl4).mono ?_
  rintro e w5 ⟨A5, c5, rfl, hC5, hl5, hB5⟩
  replace hI := hI.below hB5
  clear hC4 hB4 hB5
  go_wp2_with fail
  refine (ints_c [1, 0, 2] _ _ _ _ _ (C_alloc' hC5 _) hl5 (int_lit_c 1 0 2 w5) (by omega)).mono ?_
  rintro e w6 ⟨rfl, hD⟩
  replace hI := (hI.alloc _).below hD.below
  clear hC5 hD
  go_wp2_with fail
  refine (some_c w6).mono ?_
  rintro e w7 ⟨A7, c7, rfl, hC7, hl7, hB7⟩
  replace hI := hI.below hB7
  go_wp2_with fail
  refine (deps_c A7 c7 w7 hC7 hl7).mono ?_
  rintro e w8 ⟨A8, c8, rfl, hC8, hl8, hB8⟩
  replace hI := hI.below hB8
  clear hC7 hB7 hB8
  go_wp2_with fail
  refine (rows_c A8 c8 w8 hC8 hl8).mono ?_
  rintro e w9 ⟨rfl, hD⟩
  replace hI := hI.below hD
  clear hC8 hD
  go_wp2_with fail
  refine (some_c w9).mono ?_
  rintro e w10 ⟨A10, c10, rfl, hC10, hl10, hB10⟩
  replace hI := hI.below hB10
  go_wp2_with fail
  refine (heights_c A10 c10 w10 hC10 hl10).mono ?_
  rintro e w11 ⟨A11, c11, rfl, hC11, hl11, hB11⟩
  replace hI := hI.below hB11
  clear hC10 hB10 hB11
  go_wp2_with fail
  refine (ints_c [2, 4, 1] _ _ _ _ _ (C_alloc' hC11 _) hl11 (int_lit_c 2 4 1 w11) (by omega)).mono ?_
  rintro e w12 ⟨rfl, hD⟩
  replace hI := (hI.alloc _).below hD.below
  clear hC11 hD
  have hc := hI.cell
  obtain ⟨ld, A5', c5', e5, q0, q1, q2, q3, q4, q5, q6, q7⟩ := at_T37 hI.hC 0 (by omega) (by omega)
  subst e5
  rw [show ld.add ((0 : Int).toNat * 6) = ld by rfl] at q0
  replace q0 : w12.cell? ld = some (.int .i64 4) := q0
  clear q1 q2 q3 q4 q5 q6 q7
  go_wp2_with fail
  refine (some_c w12).mono ?_
  rintro e w13 ⟨A13, c13, rfl, hC13, hl13, hB13⟩
  clear hc q0
  replace hI := hI.below hB13
  go_wp2_with fail
  refine (may_c [0, 1, 2] rfl true may3a _ _ _ _ _ (C_alloc' hC13 _) hl13 (int_lit_c 0 1 2 w13) (by omega)).mono ?_
  rintro e w14 ⟨rfl, hB14⟩
  replace hI := (hI.alloc _).below hB14
  clear hC13 hB13 hB14
  go_wp2_with fail
  refine (some_c w14).mono ?_
  rintro e w15 ⟨A15, c15, rfl, hC15, hl15, hB15⟩
  replace hI := hI.below hB15
  go_wp2_with fail
  refine (may_c [0, 2, 1] rfl false may3b _ _ _ _ _ (C_alloc' hC15 _) hl15 (int_lit_c 0 2 1 w15) (by omega)).mono ?_
  rintro e w16 ⟨rfl, hB16⟩
  replace hI := (hI.alloc _).below hB16
  clear hC15 hB15 hB16
  go_wp2_with fail
  refine (some_c w16).mono ?_
  rintro e w17 ⟨A17, c17, rfl, hC17, hl17, hB17⟩
  replace hI := hI.below hB17
  go_wp2_with fail
  refine (sched_Cost.calls 60 A17 c17 L3 5 w17 hC17 hl17 cost3).mono ?_
  rintro e w18 ⟨rfl, hB18⟩
  replace hI := hI.below hB18
  clear hC17 hB17 hB18
  go_wp2_with fail
  refine (some_c w18).mono ?_
  rintro e w19 ⟨A19, c19, rfl, hC19, hl19, hB19⟩
  replace hI := hI.below hB19
  obtain ⟨le, A6', c6', e6, q0, q1, q2, q3, q4, q5, q6, q7⟩ := at_T37 hC19 1 (by omega) (by omega)
  subst e6
  have q0a : w19.cell? ⟨le.block, le.off + 6, none⟩ = some (.int .i64 4) := q0
  replace q0 : w19.cell? (le.add 6) = some (.int .i64 4) := q0
  replace q1 : w19.cell? ⟨le.block, le.off + 6 + 1, none⟩ = some (.int .i64 2) := q1
  replace q2 : w19.cell? ⟨le.block, le.off + 6 + 2, none⟩ = some (.int .i64 3) := q2
  replace q3 : w19.cell? ⟨le.block, le.off + 6 + 3, none⟩ = some (.int .i64 0) := q3
  replace q4 : w19.cell? ⟨le.block, le.off + 6 + 4, none⟩ = some (.int .i64 0) := q4
  replace q5 : w19.cell? ⟨le.block, le.off + 6 + 5, none⟩ = some (.slice A6' 0 c6') := q5
  go_wp2_with fail
  refine (lat_calls (rd_T37 L3 1) A6' c6' w19 q7 q6).mono ?_
  rintro e w20 ⟨rfl, hB20⟩
  replace hI := hI.below hB20
  rw [show latOf (rd_T37 L3 1) = 3 by rfl]
  clear q0 q1 q2 q3 q4 q5 q6 q7 hC19 hB19 hB20
  go_wp2_with fail
  go_ret
  exact ⟨rfl, hI.hB⟩
def swagelaw27_small.f : Option Bool := some true
theorem swagelaw27_small.calls (r : Bool) (w : World) (h : swagelaw27_small.f = some r) : Calls Try.prog 8 #[] w fun e w' => e = .returned (.bool r) ∧ Below w.heap.size w w' := by
  obtain rfl := Option.some.inj h
  exact small_calls w
#print axioms small_calls
end Go.Proofs.Ytphmlkbmnmicpaa.A

/- What the machine does at this function, and a plain Lean function that says the same: written by a program for this claim; Lean checks it. -/
namespace Go.Proofs.Ytphmlkbmnmicpaa.A
open Go.RowKit Go.Proofs.YtphmlkbmnmicpaaW.PrintWords Go.Proofs.YtphmlkbmnmicpaaW.PrintLast Go.Proofs.YtphmlkbmnmicpaaW.PrintMore
attribute [local go_sem] max2_int min2_int max_two min_two max_three min_three max_four min_four   -- for this text's walks alone
set_option linter.unusedVariables false
set_option linter.unusedSimpArgs false

/-! ### swagelaw27_few: function 9 -/
mutual
def swagelaw27_few.l0 : Nat → List (S37) → Int → Option (Bool)
  | 0, _, _ => none
  | k + 1, x0, x3 => if x3 < (x0.length : Int) then (swagelaw27_few.j1 k x0 x3 (decide (x3 < 100))) else (swagelaw27_few.j1 k x0 x3 false)
def swagelaw27_few.j1 : Nat → List (S37) → Int → Bool → Option (Bool)
  | 0, _, _, _ => none
  | k + 1, x0, x3, x11 => if x11 = true then (if 0 ≤ x3 then (if x3 < (x0.length : Int) then (if (((rd_T37 x0 x3).f5).length : Int) > 20 then (some false) else (swagelaw27_few.l0 k x0 (wrap64 (x3 + 1)))) else (none)) else (none)) else (some (decide ((x0.length : Int) ≤ 60)))
end
def swagelaw27_few.f (k : Nat) (l0 : List (S37)) : Option (Bool) := swagelaw27_few.l0 k l0 0
theorem swagelaw27_few.mono_l : ∀ k, (∀ y0 y1, LeO (swagelaw27_few.l0 k y0 y1) (swagelaw27_few.l0 (k + 1) y0 y1)) ∧ (∀ y0 y1 y2, LeO (swagelaw27_few.j1 k y0 y1 y2) (swagelaw27_few.j1 (k + 1) y0 y1 y2))
  | 0 => ⟨fun _ _ r h => by simp [swagelaw27_few.l0] at h, fun _ _ _ r h => by simp [swagelaw27_few.j1] at h⟩
  | k + 1 => by
    obtain ⟨ih0, ih1⟩ := swagelaw27_few.mono_l k
    refine ⟨?_, ?_⟩
    · intro y0 y1
      unfold swagelaw27_few.l0
      repeat' first
      | (with_reducible exact ih0 _ _)
      | (with_reducible exact ih1 _ _ _)
      | (with_reducible exact LeO.refl _)
      | (with_reducible exact LeO.none _)
      | (with_reducible refine LeO.ite ?_ ?_)
      | (with_reducible refine LeO.bind ?_ (fun _ => ?_))
      | exact ih0 _ _
      | exact ih1 _ _ _
      | exact LeO.none _
      | refine LeO.ite ?_ ?_
      | refine LeO.bind ?_ (fun _ => ?_)
    · intro y0 y1 y2
      unfold swagelaw27_few.j1
      repeat' first
      | (with_reducible exact ih0 _ _)
      | (with_reducible exact ih1 _ _ _)
      | (with_reducible exact LeO.refl _)
      | (with_reducible exact LeO.none _)
      | (with_reducible refine LeO.ite ?_ ?_)
      | (with_reducible refine LeO.bind ?_ (fun _ => ?_))
      | exact ih0 _ _
      | exact ih1 _ _ _
      | exact LeO.none _
      | refine LeO.ite ?_ ?_
      | refine LeO.bind ?_ (fun _ => ?_)
theorem swagelaw27_few.mono : ∀ a0 k, LeO (swagelaw27_few.f k a0) (swagelaw27_few.f (k + 1) a0) := by
  intro a0 k
  obtain ⟨ih0, ih1⟩ := swagelaw27_few.mono_l k
  unfold swagelaw27_few.f
  repeat' first
      | (with_reducible exact ih0 _ _)
      | (with_reducible exact ih1 _ _ _)
      | (with_reducible exact LeO.refl _)
      | (with_reducible exact LeO.none _)
      | (with_reducible refine LeO.ite ?_ ?_)
      | (with_reducible refine LeO.bind ?_ (fun _ => ?_))
      | exact ih0 _ _
      | exact ih1 _ _ _
      | exact LeO.none _
      | refine LeO.ite ?_ ?_
      | refine LeO.bind ?_ (fun _ => ?_)
set_option maxHeartbeats 8000000 in
set_option maxRecDepth 100000 in
theorem swagelaw27_few.calls (k : Nat) (A0 : Option Addr) (c0 : Nat) (l0 : List (S37)) (r : Bool) (w : World) (hr0 : Kd.C k37 w A0 l0.length l0) (hc0 : l0.length ≤ c0) (h : swagelaw27_few.f k l0 = some r) :
    Calls Try.prog 9 #[.slice A0 l0.length c0] w fun e w' => e = .returned (.bool r) ∧ Drawn0 w w' := by
  have HR0 := Aside0.mk hr0
  have HC0 := Aside0.mk hc0
  clear hr0 hc0
  have H : (swagelaw27_few.l0 k l0 0) = some r := h
  clear h
  have H' := Aside0.mk H
  clear H
  go_enter Try.func9, Try.ntmps9
  go_wp2
  go_loopg [3] k (fun kq v3 w' => ∃ (x3_1 : Int), v3 = .int .i64 x3_1 ∧ Aside0 (swagelaw27_few.l0 kq l0 x3_1 = some r) ∧ Aside0 (kq ≤ k) ∧ Drawn0 w w')
  case atStart => exact ⟨(0), (by first | rfl | (simp; done) | (simp [*]; done)), H', ⟨Nat.le_refl _⟩, by repeat (first | exact Drawn0.refl _ | apply Drawn0.step)⟩
  case round =>
    clear H'
    obtain ⟨x3_1, rfl, HA, HK1, ⟨m1, rfl⟩⟩ := hrel
    cases gk with
    | zero => exact absurd HA.out (by simp [swagelaw27_few.l0])
    | succ k1 =>
      have H := HA.out
      clear HA
      simp only [swagelaw27_few.l0] at H
      have HC2 := Aside0.mk H
      clear H
      go_upto_region 2 with (fail)
      go_cut [11] (fun v11 wc => ∃ (kq : Nat) (x11_1 : Bool), v11 = .bool x11_1 ∧ Aside0 (swagelaw27_few.j1 kq l0 x3_1 x11_1 = some r) ∧ Aside0 (kq ≤ k1) ∧ Drawn0 w wc)
      case first =>
        have H := HC2.out
        clear HC2
        by_cases c3 : x3_1 < (l0.length : Int)
        · rw [if_pos c3] at H
          have c3b0 : decide (x3_1 < (l0.length : Int)) = true := decide_eq_true c3
          clear c3
          (first | rw [c3b0] | (simp only [i64_w, i32_w]; rw [c3b0]) | skip)
          have H' := Aside0.mk H
          clear H
          go_wp2
          go_meet
          case rel => exact ⟨_, (decide (x3_1 < 100)), (by first | rfl | (simp; done) | (simp [*]; done)), H', ⟨by have := HK1.out; first | omega | exact Nat.le_refl _⟩, by repeat (first | exact Drawn0.refl _ | apply Drawn0.step)⟩
        · rw [if_neg c3] at H
          have c3b0 : decide (x3_1 < (l0.length : Int)) = false := decide_eq_false c3
          clear c3
          (first | rw [c3b0] | (simp only [i64_w, i32_w]; rw [c3b0]) | skip)
          have H' := Aside0.mk H
          clear H
          go_wp2
          go_meet
          case rel => exact ⟨_, (false), (by first | rfl | (simp; done) | (simp [*]; done)), H', ⟨by have := HK1.out; first | omega | exact Nat.le_refl _⟩, by repeat (first | exact Drawn0.refl _ | apply Drawn0.step)⟩
      case rest =>
        clear HC2
        try clear p2
        try clear c3
        try clear c3b0
        obtain ⟨kq, x11_1, rfl, HA, HJ1, ⟨mc1, rfl⟩⟩ := hcut
        cases kq with
        | zero => exact absurd HA.out (by simp [swagelaw27_few.j1])
        | succ kj1 =>
          have H := HA.out
          clear HA
          simp only [swagelaw27_few.j1] at H
          by_cases c4 : x11_1 = true
          · subst c4
            have H1 : (if 0 ≤ x3_1 then (if x3_1 < (l0.length : Int) then (if (((rd_T37 l0 x3_1).f5).length : Int) > 20 then (some false) else (swagelaw27_few.l0 kj1 l0 (wrap64 (x3_1 + 1)))) else (none)) else (none)) = some r := by rw [if_pos rfl] at H; exact H
            clear H
            have H := H1
            clear H1
            by_cases c5 : 0 ≤ x3_1
            · rw [if_pos c5] at H
              have c5b0 : decide (0 ≤ x3_1) = true := decide_eq_true c5
              clear c5
              by_cases c6 : x3_1 < (l0.length : Int)
              · rw [if_pos c6] at H
                have c6b0 : decide (x3_1 < (l0.length : Int)) = true := decide_eq_true c6
                clear c6
                by_cases c7 : (((rd_T37 l0 x3_1).f5).length : Int) > 20
                · rw [if_pos c7] at H
                  have c7b0 : decide (20 < (((rd_T37 l0 x3_1).f5).length : Int)) = true := decide_eq_true c7
                  have c7b1 : decide (20 < ((rd_T37 l0 x3_1).f5).length) = true := decide_eq_true (by omega)
                  clear c7
                  obtain rfl := Option.some.inj H
                  have p202 : 0 ≤ (x3_1 : Int) := of_decide_eq_true (by first | (with_reducible assumption) | assumption)
                  have q202 : x3_1 < (l0.length : Int) := of_decide_eq_true (by first | (with_reducible assumption) | assumption)
                  obtain ⟨ad202, A202_5, c202_5, e202, hx202_0, hx202_1, hx202_2, hx202_3, hx202_4, hx202_5, hl202_5, hi202_5⟩ := at_T37 HR0.out x3_1 p202 q202
                  cases e202
                  have HR202_5 := Aside0.mk hi202_5
                  have HC202_5 := Aside0.mk hl202_5
                  clear hi202_5 hl202_5
                  replace p202 := eq_true p202
                  replace q202 := eq_true q202
                  go_wp2
                  go_ret
                  exact ⟨by first | rfl | (simp; done) | (simp [*]; done), by repeat (first | exact Drawn0.refl _ | apply Drawn0.step)⟩
                · rw [if_neg c7] at H
                  have c7b0 : decide (20 < (((rd_T37 l0 x3_1).f5).length : Int)) = false := decide_eq_false c7
                  have c7b1 : decide (20 < ((rd_T37 l0 x3_1).f5).length) = false := decide_eq_false (by omega)
                  clear c7
                  have H' := Aside0.mk H
                  clear H
                  have p202 : 0 ≤ (x3_1 : Int) := of_decide_eq_true (by first | (with_reducible assumption) | assumption)
                  have q202 : x3_1 < (l0.length : Int) := of_decide_eq_true (by first | (with_reducible assumption) | assumption)
                  obtain ⟨ad202, A202_5, c202_5, e202, hx202_0, hx202_1, hx202_2, hx202_3, hx202_4, hx202_5, hl202_5, hi202_5⟩ := at_T37 HR0.out x3_1 p202 q202
                  cases e202
                  have HR202_5 := Aside0.mk hi202_5
                  have HC202_5 := Aside0.mk hl202_5
                  clear hi202_5 hl202_5
                  replace p202 := eq_true p202
                  replace q202 := eq_true q202
                  go_wp2
                  go_roundg kj1
                  case measure => have := HK1.out; have := HJ1.out; omega
                  case rel => exact ⟨(wrap64 (x3_1 + 1)), (by first | rfl | (simp; done) | (simp [*]; done)), H', ⟨by have := HK1.out; have := HJ1.out; omega⟩, by repeat (first | exact Drawn0.refl _ | apply Drawn0.step)⟩
              · rw [if_neg c6] at H
                exact absurd H (by simp)
            · rw [if_neg c5] at H
              exact absurd H (by simp)
          · replace c4 := Bool.eq_false_iff.mpr c4
            subst c4
            have H1 : (some (decide ((l0.length : Int) ≤ 60))) = some r := by rw [if_neg (show ¬ (false = true) by decide)] at H; exact H
            clear H
            have H := H1
            clear H1
            obtain rfl := Option.some.inj H
            go_wp2
            go_ret
            exact ⟨by first | rfl | (simp; done) | (simp [*]; done), by repeat (first | exact Drawn0.refl _ | apply Drawn0.step)⟩

end Go.Proofs.Ytphmlkbmnmicpaa.A

/- What the machine does at this function, and a plain Lean function that says the same: written by a program for this claim; Lean checks it. -/
namespace Go.Proofs.Ytphmlkbmnmicpaa.A
open Go.RowKit Go.Proofs.YtphmlkbmnmicpaaW.PrintWords Go.Proofs.YtphmlkbmnmicpaaW.PrintLast Go.Proofs.YtphmlkbmnmicpaaW.PrintMore
attribute [local go_sem] max2_int min2_int max_two min_two max_three min_three max_four min_four   -- for this text's walks alone
set_option linter.unusedVariables false
set_option linter.unusedSimpArgs false

/-! ### swageref14_SameOp: function 29 -/
def swageref14_SameOp.f (k : Nat) (a0_0 : Int) (a0_1 : Int) (a0_2 : Int) (a0_3 : Int) (a0_4 : Int) (l0_5 : List Int) (a1_0 : Int) (a1_1 : Int) (a1_2 : Int) (a1_3 : Int) (a1_4 : Int) (l1_5 : List Int) : Option (Bool) := (swageref02_Ints.f k l0_5 l1_5).bind fun t226 => (if t226 = true then (if a0_0 = a1_0 then (if a0_1 = a1_1 then (if a0_2 = a1_2 then (if a0_3 = a1_3 then (some (a0_4 == a1_4)) else (some false)) else (some false)) else (some false)) else (some false)) else (some false))
theorem swageref14_SameOp.mono : ∀ a0 a1 a2 a3 a4 a5 a6 a7 a8 a9 a10 a11 k, LeO (swageref14_SameOp.f k a0 a1 a2 a3 a4 a5 a6 a7 a8 a9 a10 a11) (swageref14_SameOp.f (k + 1) a0 a1 a2 a3 a4 a5 a6 a7 a8 a9 a10 a11) := by
  intro a0 a1 a2 a3 a4 a5 a6 a7 a8 a9 a10 a11 k
  unfold swageref14_SameOp.f
  repeat' first
      | (with_reducible exact swageref02_Ints.mono _ _ _)
      | (with_reducible exact LeO.refl _)
      | (with_reducible exact LeO.none _)
      | (with_reducible refine LeO.ite ?_ ?_)
      | (with_reducible refine LeO.bind ?_ (fun _ => ?_))
      | exact swageref02_Ints.mono _ _ _
      | exact LeO.none _
      | refine LeO.ite ?_ ?_
      | refine LeO.bind ?_ (fun _ => ?_)
set_option maxHeartbeats 8000000 in
set_option maxRecDepth 100000 in
theorem swageref14_SameOp.calls (k : Nat) (a0_0 : Int) (a0_1 : Int) (a0_2 : Int) (a0_3 : Int) (a0_4 : Int) (A0_5 : Option Addr) (c0_5 : Nat) (l0_5 : List Int) (a1_0 : Int) (a1_1 : Int) (a1_2 : Int) (a1_3 : Int) (a1_4 : Int) (A1_5 : Option Addr) (c1_5 : Nat) (l1_5 : List Int) (r : Bool) (w : World) (hr0_5 : Kd.C (Kd.int .i64) w A0_5 l0_5.length l0_5) (hc0_5 : l0_5.length ≤ c0_5) (hr1_5 : Kd.C (Kd.int .i64) w A1_5 l1_5.length l1_5) (hc1_5 : l1_5.length ≤ c1_5) (h : swageref14_SameOp.f k a0_0 a0_1 a0_2 a0_3 a0_4 l0_5 a1_0 a1_1 a1_2 a1_3 a1_4 l1_5 = some r) :
    Calls Try.prog 29 #[.agg #[.int .i64 a0_0, .int .i64 a0_1, .int .i64 a0_2, .int .i64 a0_3, .int .i64 a0_4, .slice A0_5 l0_5.length c0_5], .agg #[.int .i64 a1_0, .int .i64 a1_1, .int .i64 a1_2, .int .i64 a1_3, .int .i64 a1_4, .slice A1_5 l1_5.length c1_5]] w fun e w' => e = .returned (.bool r) ∧ Below w.heap.size w w' := by
  have hu37 := Try.underlying37
  have HR0_5 := Aside0.mk hr0_5
  have HC0_5 := Aside0.mk hc0_5
  clear hr0_5 hc0_5
  have HR1_5 := Aside0.mk hr1_5
  have HC1_5 := Aside0.mk hc1_5
  clear hr1_5 hc1_5
  have HB := Aside0.mk (Below.refl w.heap.size w)
  have H : ((swageref02_Ints.f k l0_5 l1_5).bind fun t226 => (if t226 = true then (if a0_0 = a1_0 then (if a0_1 = a1_1 then (if a0_2 = a1_2 then (if a0_3 = a1_3 then (some (a0_4 == a1_4)) else (some false)) else (some false)) else (some false)) else (some false)) else (some false))) = some r := h
  clear h
  replace H := Option.bind_eq_some_iff.mp H
  obtain ⟨t226, A30, H⟩ := H
  replace H : (if t226 = true then (if a0_0 = a1_0 then (if a0_1 = a1_1 then (if a0_2 = a1_2 then (if a0_3 = a1_3 then (some (a0_4 == a1_4)) else (some false)) else (some false)) else (some false)) else (some false)) else (some false)) = some r := H
  have A3 := Aside0.mk A30
  clear A30
  by_cases c4 : t226 = true
  · subst c4
    have H1 : (if a0_0 = a1_0 then (if a0_1 = a1_1 then (if a0_2 = a1_2 then (if a0_3 = a1_3 then (some (a0_4 == a1_4)) else (some false)) else (some false)) else (some false)) else (some false)) = some r := by rw [if_pos rfl] at H; exact H
    clear H
    have H := H1
    clear H1
    by_cases c5 : a0_0 = a1_0
    · rw [if_pos c5] at H
      have c5b0 : (a0_0 == a1_0) = true := beq_iff_eq.mpr c5
      have c5b1 : (a0_0 != a1_0) = false := bne_eq_false_iff_eq.mpr c5
      clear c5
      by_cases c6 : a0_1 = a1_1
      · rw [if_pos c6] at H
        have c6b0 : (a0_1 == a1_1) = true := beq_iff_eq.mpr c6
        have c6b1 : (a0_1 != a1_1) = false := bne_eq_false_iff_eq.mpr c6
        clear c6
        by_cases c7 : a0_2 = a1_2
        · rw [if_pos c7] at H
          have c7b0 : (a0_2 == a1_2) = true := beq_iff_eq.mpr c7
          have c7b1 : (a0_2 != a1_2) = false := bne_eq_false_iff_eq.mpr c7
          clear c7
          by_cases c8 : a0_3 = a1_3
          · rw [if_pos c8] at H
            have c8b0 : (a0_3 == a1_3) = true := beq_iff_eq.mpr c8
            have c8b1 : (a0_3 != a1_3) = false := bne_eq_false_iff_eq.mpr c8
            clear c8
            obtain rfl := Option.some.inj H
            go_enter Try.func29, Try.ntmps29
            go_wp2_with (first | ((with_reducible refine gate_dst (N := 2) rfl ?_); refine box_event ?hg (N := 2) ?hd (cs := #[.int .i64 a0_0, .int .i64 a0_1, .int .i64 a0_2, .int .i64 a0_3, .int .i64 a0_4, .slice A0_5 l0_5.length c0_5]) (t := 37) ?hr ?_; (case hd => rfl); (case hg => rfl); (case hr => first | (go_simp; done) | (go_simp; rfl)); intro gb224 hg w9 hbox hb; have n0_ := Aside0.mk (below_step (by repeat (first | (with_reducible first | exact HB.out | apply below_alloc | apply pw_below_drewN | apply below_drew1) | exact HB.out)) hb); have n1_ := Aside0.mk (hbox); have n2_ := Aside0.mk ((by rw [hg]; exact (below_size (by repeat (first | (with_reducible first | exact HB.out | apply below_alloc | apply pw_below_drewN | apply below_drew1) | exact HB.out))) : w.heap.size ≤ gb224)); have n3_ := Aside0.mk ((by rw [hg]; exact (below_size (by repeat (first | (with_reducible first | exact HB.out | apply below_alloc | apply pw_below_drewN | apply below_drew1) | exact HB.out))) : w.heap.size ≤ gb224)); clear HB; have HB := n0_; have BK224 := n1_; have GW224 := n2_; have GE224 := n3_; clear n0_ n1_ n2_ n3_; clear hb hbox hg) | ((with_reducible refine gate_dst (N := 3) rfl ?_); refine box_event ?hg (N := 3) ?hd (cs := #[.int .i64 a1_0, .int .i64 a1_1, .int .i64 a1_2, .int .i64 a1_3, .int .i64 a1_4, .slice A1_5 l1_5.length c1_5]) (t := 37) ?hr ?_; (case hd => rfl); (case hg => rfl); (case hr => first | (go_simp; done) | (go_simp; rfl)); intro gb225 hg w10 hbox hb; have n0_ := Aside0.mk (blk_below (g := gb224) (o := .cells #[.int .i64 a0_0, .int .i64 a0_1, .int .i64 a0_2, .int .i64 a0_3, .int .i64 a0_4, .slice A0_5 l0_5.length c0_5] 37 (0, 0)) (by (with_reducible repeat (first | refine blk_drewN ?_ _ | refine blk_drew ?_ | refine blk_alloc ?_ _)); exact BK224.out) hb); have n1_ := Aside0.mk (below_step (by repeat (first | (with_reducible first | exact HB.out | apply below_alloc | apply pw_below_drewN | apply below_drew1 | refine below_set ?_ GE224.out) | exact HB.out)) hb); have n2_ := Aside0.mk (hbox); have n3_ := Aside0.mk ((by rw [hg]; exact (below_size (by repeat (first | (with_reducible first | exact HB.out | apply below_alloc | apply pw_below_drewN | apply below_drew1 | refine below_set ?_ GE224.out) | exact HB.out))) : w.heap.size ≤ gb225)); have n4_ := Aside0.mk ((by rw [hg]; exact (below_size (by repeat (first | (with_reducible first | exact HB.out | apply below_alloc | apply pw_below_drewN | apply below_drew1 | refine below_set ?_ GE224.out) | exact HB.out))) : w.heap.size ≤ gb225)); have n5_ := Aside0.mk ((by rw [hg]; exact Nat.ne_of_lt (blk_lt (g := gb224) (o := .cells #[.int .i64 a0_0, .int .i64 a0_1, .int .i64 a0_2, .int .i64 a0_3, .int .i64 a0_4, .slice A0_5 l0_5.length c0_5] 37 (0, 0)) (by (with_reducible repeat (first | refine blk_drewN ?_ _ | refine blk_drew ?_ | refine blk_alloc ?_ _)); exact BK224.out)) : gb224 ≠ gb225)); have n6_ := Aside0.mk ((by rw [hg]; exact Nat.ne_of_gt (blk_lt (g := gb224) (o := .cells #[.int .i64 a0_0, .int .i64 a0_1, .int .i64 a0_2, .int .i64 a0_3, .int .i64 a0_4, .slice A0_5 l0_5.length c0_5] 37 (0, 0)) (by (with_reducible repeat (first | refine blk_drewN ?_ _ | refine blk_drew ?_ | refine blk_alloc ?_ _)); exact BK224.out)) : gb225 ≠ gb224)); clear BK224; clear HB; have BK224 := n0_; have HB := n1_; have BK225 := n2_; have GW225 := n3_; have GE225 := n4_; have NB224_225 := n5_; have NB225_224 := n6_; clear n0_ n1_ n2_ n3_ n4_ n5_ n6_; clear hb hbox hg; have hnb11 := NB224_225.out; have hnc11 := NB225_224.out; have hcz12_0 : w10.cell? ⟨gb224, 0, none⟩ = some (.int .i64 a0_0) := (blk_cell BK224.out 0).trans rfl; have hcz12_1 : w10.cell? ⟨gb224, 1, none⟩ = some (.int .i64 a0_1) := (blk_cell BK224.out 1).trans rfl; have hcz12_2 : w10.cell? ⟨gb224, 2, none⟩ = some (.int .i64 a0_2) := (blk_cell BK224.out 2).trans rfl; have hcz12_3 : w10.cell? ⟨gb224, 3, none⟩ = some (.int .i64 a0_3) := (blk_cell BK224.out 3).trans rfl; have hcz12_4 : w10.cell? ⟨gb224, 4, none⟩ = some (.int .i64 a0_4) := (blk_cell BK224.out 4).trans rfl; have hcz12_5 : w10.cell? ⟨gb224, 5, none⟩ = some (.slice A0_5 l0_5.length c0_5) := (blk_cell BK224.out 5).trans rfl; have hfz12_0 := blk_frozen BK224.out 0; have hfz12_1 := blk_frozen BK224.out 1; have hfz12_2 := blk_frozen BK224.out 2; have hfz12_3 := blk_frozen BK224.out 3; have hfz12_4 := blk_frozen BK224.out 4; have hfz12_5 := blk_frozen BK224.out 5; have hcz13_0 : w10.cell? ⟨gb225, 0, none⟩ = some (.int .i64 a1_0) := (blk_cell BK225.out 0).trans rfl; have hcz13_1 : w10.cell? ⟨gb225, 1, none⟩ = some (.int .i64 a1_1) := (blk_cell BK225.out 1).trans rfl; have hcz13_2 : w10.cell? ⟨gb225, 2, none⟩ = some (.int .i64 a1_2) := (blk_cell BK225.out 2).trans rfl; have hcz13_3 : w10.cell? ⟨gb225, 3, none⟩ = some (.int .i64 a1_3) := (blk_cell BK225.out 3).trans rfl; have hcz13_4 : w10.cell? ⟨gb225, 4, none⟩ = some (.int .i64 a1_4) := (blk_cell BK225.out 4).trans rfl; have hcz13_5 : w10.cell? ⟨gb225, 5, none⟩ = some (.slice A1_5 l1_5.length c1_5) := (blk_cell BK225.out 5).trans rfl; have hfz13_0 := blk_frozen BK225.out 0; have hfz13_1 := blk_frozen BK225.out 1; have hfz13_2 := blk_frozen BK225.out 2; have hfz13_3 := blk_frozen BK225.out 3; have hfz13_4 := blk_frozen BK225.out 4; have hfz13_5 := blk_frozen BK225.out 5) | ((with_reducible refine gate_callee (f := 19) rfl ?_); refine goesL_ (some 10) rfl rfl Try.func19 (by kernel_rfl) rfl #[.slice A0_5 l0_5.length c0_5, .slice A1_5 l1_5.length c1_5] rfl (by (try simp only [List.map_toArray, List.map_cons, List.map_nil]); first | done | rfl | (simp only [List.length_drop, List.length_take]; rfl)) ?_; (with_reducible refine (swageref02_Ints.calls k _ _ l0_5 _ _ l1_5 true _ ?side1 ?side2 ?side3 ?side4 A3.out).mono ?_); (case side1 => repeat (first | exact (Kd.C_below HR0_5.out HB.out) | (with_reducible refine Kd.C_alloc ?_ _) | (with_reducible refine Kd.C_drewN ?_ _) | (with_reducible refine Kd.C_drew ?_))); (case side2 => exact HC0_5.out); (case side3 => repeat (first | exact (Kd.C_below HR1_5.out HB.out) | (with_reducible refine Kd.C_alloc ?_ _) | (with_reducible refine Kd.C_drewN ?_ _) | (with_reducible refine Kd.C_drew ?_))); (case side4 => exact HC1_5.out); rintro e w' ⟨rfl, ⟨nd, rfl⟩⟩; refine ⟨_, rfl, ?_⟩))
            go_ret
            exact ⟨by first | rfl | (simp [errW_none, errW_some] <;> rfl) | (simp [*, errW_none, errW_some] <;> rfl), by repeat (first | (with_reducible first | exact HB.out | apply below_alloc | apply pw_below_drewN | apply below_drew1 | refine below_set ?_ GE224.out | refine below_set ?_ GE225.out) | exact HB.out)⟩
          · rw [if_neg c8] at H
            have c8b0 : (a0_3 == a1_3) = false := beq_eq_false_iff_ne.mpr c8
            have c8b1 : (a0_3 != a1_3) = true := bne_iff_ne.mpr c8
            obtain rfl := Option.some.inj H
            go_enter Try.func29, Try.ntmps29
            go_wp2_with (first | ((with_reducible refine gate_dst (N := 2) rfl ?_); refine box_event ?hg (N := 2) ?hd (cs := #[.int .i64 a0_0, .int .i64 a0_1, .int .i64 a0_2, .int .i64 a0_3, .int .i64 a0_4, .slice A0_5 l0_5.length c0_5]) (t := 37) ?hr ?_; (case hd => rfl); (case hg => rfl); (case hr => first | (go_simp; done) | (go_simp; rfl)); intro gb224 hg w14 hbox hb; have n0_ := Aside0.mk (below_step (by repeat (first | (with_reducible first | exact HB.out | apply below_alloc | apply pw_below_drewN | apply below_drew1) | exact HB.out)) hb); have n1_ := Aside0.mk (hbox); have n2_ := Aside0.mk ((by rw [hg]; exact (below_size (by repeat (first | (with_reducible first | exact HB.out | apply below_alloc | apply pw_below_drewN | apply below_drew1) | exact HB.out))) : w.heap.size ≤ gb224)); have n3_ := Aside0.mk ((by rw [hg]; exact (below_size (by repeat (first | (with_reducible first | exact HB.out | apply below_alloc | apply pw_below_drewN | apply below_drew1) | exact HB.out))) : w.heap.size ≤ gb224)); clear HB; have HB := n0_; have BK224 := n1_; have GW224 := n2_; have GE224 := n3_; clear n0_ n1_ n2_ n3_; clear hb hbox hg) | ((with_reducible refine gate_dst (N := 3) rfl ?_); refine box_event ?hg (N := 3) ?hd (cs := #[.int .i64 a1_0, .int .i64 a1_1, .int .i64 a1_2, .int .i64 a1_3, .int .i64 a1_4, .slice A1_5 l1_5.length c1_5]) (t := 37) ?hr ?_; (case hd => rfl); (case hg => rfl); (case hr => first | (go_simp; done) | (go_simp; rfl)); intro gb225 hg w15 hbox hb; have n0_ := Aside0.mk (blk_below (g := gb224) (o := .cells #[.int .i64 a0_0, .int .i64 a0_1, .int .i64 a0_2, .int .i64 a0_3, .int .i64 a0_4, .slice A0_5 l0_5.length c0_5] 37 (0, 0)) (by (with_reducible repeat (first | refine blk_drewN ?_ _ | refine blk_drew ?_ | refine blk_alloc ?_ _)); exact BK224.out) hb); have n1_ := Aside0.mk (below_step (by repeat (first | (with_reducible first | exact HB.out | apply below_alloc | apply pw_below_drewN | apply below_drew1 | refine below_set ?_ GE224.out) | exact HB.out)) hb); have n2_ := Aside0.mk (hbox); have n3_ := Aside0.mk ((by rw [hg]; exact (below_size (by repeat (first | (with_reducible first | exact HB.out | apply below_alloc | apply pw_below_drewN | apply below_drew1 | refine below_set ?_ GE224.out) | exact HB.out))) : w.heap.size ≤ gb225)); have n4_ := Aside0.mk ((by rw [hg]; exact (below_size (by repeat (first | (with_reducible first | exact HB.out | apply below_alloc | apply pw_below_drewN | apply below_drew1 | refine below_set ?_ GE224.out) | exact HB.out))) : w.heap.size ≤ gb225)); have n5_ := Aside0.mk ((by rw [hg]; exact Nat.ne_of_lt (blk_lt (g := gb224) (o := .cells #[.int .i64 a0_0, .int .i64 a0_1, .int .i64 a0_2, .int .i64 a0_3, .int .i64 a0_4, .slice A0_5 l0_5.length c0_5] 37 (0, 0)) (by (with_reducible repeat (first | refine blk_drewN ?_ _ | refine blk_drew ?_ | refine blk_alloc ?_ _)); exact BK224.out)) : gb224 ≠ gb225)); have n6_ := Aside0.mk ((by rw [hg]; exact Nat.ne_of_gt (blk_lt (g := gb224) (o := .cells #[.int .i64 a0_0, .int .i64 a0_1, .int .i64 a0_2, .int .i64 a0_3, .int .i64 a0_4, .slice A0_5 l0_5.length c0_5] 37 (0, 0)) (by (with_reducible repeat (first | refine blk_drewN ?_ _ | refine blk_drew ?_ | refine blk_alloc ?_ _)); exact BK224.out)) : gb225 ≠ gb224)); clear BK224; clear HB; have BK224 := n0_; have HB := n1_; have BK225 := n2_; have GW225 := n3_; have GE225 := n4_; have NB224_225 := n5_; have NB225_224 := n6_; clear n0_ n1_ n2_ n3_ n4_ n5_ n6_; clear hb hbox hg; have hnb16 := NB224_225.out; have hnc16 := NB225_224.out; have hcz17_0 : w15.cell? ⟨gb224, 0, none⟩ = some (.int .i64 a0_0) := (blk_cell BK224.out 0).trans rfl; have hcz17_1 : w15.cell? ⟨gb224, 1, none⟩ = some (.int .i64 a0_1) := (blk_cell BK224.out 1).trans rfl; have hcz17_2 : w15.cell? ⟨gb224, 2, none⟩ = some (.int .i64 a0_2) := (blk_cell BK224.out 2).trans rfl; have hcz17_3 : w15.cell? ⟨gb224, 3, none⟩ = some (.int .i64 a0_3) := (blk_cell BK224.out 3).trans rfl; have hcz17_4 : w15.cell? ⟨gb224, 4, none⟩ = some (.int .i64 a0_4) := (blk_cell BK224.out 4).trans rfl; have hcz17_5 : w15.cell? ⟨gb224, 5, none⟩ = some (.slice A0_5 l0_5.length c0_5) := (blk_cell BK224.out 5).trans rfl; have hfz17_0 := blk_frozen BK224.out 0; have hfz17_1 := blk_frozen BK224.out 1; have hfz17_2 := blk_frozen BK224.out 2; have hfz17_3 := blk_frozen BK224.out 3; have hfz17_4 := blk_frozen BK224.out 4; have hfz17_5 := blk_frozen BK224.out 5; have hcz18_0 : w15.cell? ⟨gb225, 0, none⟩ = some (.int .i64 a1_0) := (blk_cell BK225.out 0).trans rfl; have hcz18_1 : w15.cell? ⟨gb225, 1, none⟩ = some (.int .i64 a1_1) := (blk_cell BK225.out 1).trans rfl; have hcz18_2 : w15.cell? ⟨gb225, 2, none⟩ = some (.int .i64 a1_2) := (blk_cell BK225.out 2).trans rfl; have hcz18_3 : w15.cell? ⟨gb225, 3, none⟩ = some (.int .i64 a1_3) := (blk_cell BK225.out 3).trans rfl; have hcz18_4 : w15.cell? ⟨gb225, 4, none⟩ = some (.int .i64 a1_4) := (blk_cell BK225.out 4).trans rfl; have hcz18_5 : w15.cell? ⟨gb225, 5, none⟩ = some (.slice A1_5 l1_5.length c1_5) := (blk_cell BK225.out 5).trans rfl; have hfz18_0 := blk_frozen BK225.out 0; have hfz18_1 := blk_frozen BK225.out 1; have hfz18_2 := blk_frozen BK225.out 2; have hfz18_3 := blk_frozen BK225.out 3; have hfz18_4 := blk_frozen BK225.out 4; have hfz18_5 := blk_frozen BK225.out 5) | ((with_reducible refine gate_callee (f := 19) rfl ?_); refine goesL_ (some 10) rfl rfl Try.func19 (by kernel_rfl) rfl #[.slice A0_5 l0_5.length c0_5, .slice A1_5 l1_5.length c1_5] rfl (by (try simp only [List.map_toArray, List.map_cons, List.map_nil]); first | done | rfl | (simp only [List.length_drop, List.length_take]; rfl)) ?_; (with_reducible refine (swageref02_Ints.calls k _ _ l0_5 _ _ l1_5 true _ ?side1 ?side2 ?side3 ?side4 A3.out).mono ?_); (case side1 => repeat (first | exact (Kd.C_below HR0_5.out HB.out) | (with_reducible refine Kd.C_alloc ?_ _) | (with_reducible refine Kd.C_drewN ?_ _) | (with_reducible refine Kd.C_drew ?_))); (case side2 => exact HC0_5.out); (case side3 => repeat (first | exact (Kd.C_below HR1_5.out HB.out) | (with_reducible refine Kd.C_alloc ?_ _) | (with_reducible refine Kd.C_drewN ?_ _) | (with_reducible refine Kd.C_drew ?_))); (case side4 => exact HC1_5.out); rintro e w' ⟨rfl, ⟨nd, rfl⟩⟩; refine ⟨_, rfl, ?_⟩))
            go_ret
            exact ⟨by first | rfl | (simp [errW_none, errW_some] <;> rfl) | (simp [*, errW_none, errW_some] <;> rfl), by repeat (first | (with_reducible first | exact HB.out | apply below_alloc | apply pw_below_drewN | apply below_drew1 | refine below_set ?_ GE224.out | refine below_set ?_ GE225.out) | exact HB.out)⟩
        · rw [if_neg c7] at H
          have c7b0 : (a0_2 == a1_2) = false := beq_eq_false_iff_ne.mpr c7
          have c7b1 : (a0_2 != a1_2) = true := bne_iff_ne.mpr c7
          obtain rfl := Option.some.inj H
          go_enter Try.func29, Try.ntmps29
          go_wp2_with (first | ((with_reducible refine gate_dst (N := 2) rfl ?_); refine box_event ?hg (N := 2) ?hd (cs := #[.int .i64 a0_0, .int .i64 a0_1, .int .i64 a0_2, .int .i64 a0_3, .int .i64 a0_4, .slice A0_5 l0_5.length c0_5]) (t := 37) ?hr ?_; (case hd => rfl); (case hg => rfl); (case hr => first | (go_simp; done) | (go_simp; rfl)); intro gb224 hg w19 hbox hb; have n0_ := Aside0.mk (below_step (by repeat (first | (with_reducible first | exact HB.out | apply below_alloc | apply pw_below_drewN | apply below_drew1) | exact HB.out)) hb); have n1_ := Aside0.mk (hbox); have n2_ := Aside0.mk ((by rw [hg]; exact (below_size (by repeat (first | (with_reducible first | exact HB.out | apply below_alloc | apply pw_below_drewN | apply below_drew1) | exact HB.out))) : w.heap.size ≤ gb224)); have n3_ := Aside0.mk ((by rw [hg]; exact (below_size (by repeat (first | (with_reducible first | exact HB.out | apply below_alloc | apply pw_below_drewN | apply below_drew1) | exact HB.out))) : w.heap.size ≤ gb224)); clear HB; have HB := n0_; have BK224 := n1_; have GW224 := n2_; have GE224 := n3_; clear n0_ n1_ n2_ n3_; clear hb hbox hg) | ((with_reducible refine gate_dst (N := 3) rfl ?_); refine box_event ?hg (N := 3) ?hd (cs := #[.int .i64 a1_0, .int .i64 a1_1, .int .i64 a1_2, .int .i64 a1_3, .int .i64 a1_4, .slice A1_5 l1_5.length c1_5]) (t := 37) ?hr ?_; (case hd => rfl); (case hg => rfl); (case hr => first | (go_simp; done) | (go_simp; rfl)); intro gb225 hg w20 hbox hb; have n0_ := Aside0.mk (blk_below (g := gb224) (o := .cells #[.int .i64 a0_0, .int .i64 a0_1, .int .i64 a0_2, .int .i64 a0_3, .int .i64 a0_4, .slice A0_5 l0_5.length c0_5] 37 (0, 0)) (by (with_reducible repeat (first | refine blk_drewN ?_ _ | refine blk_drew ?_ | refine blk_alloc ?_ _)); exact BK224.out) hb); have n1_ := Aside0.mk (below_step (by repeat (first | (with_reducible first | exact HB.out | apply below_alloc | apply pw_below_drewN | apply below_drew1 | refine below_set ?_ GE224.out) | exact HB.out)) hb); have n2_ := Aside0.mk (hbox); have n3_ := Aside0.mk ((by rw [hg]; exact (below_size (by repeat (first | (with_reducible first | exact HB.out | apply below_alloc | apply pw_below_drewN | apply below_drew1 | refine below_set ?_ GE224.out) | exact HB.out))) : w.heap.size ≤ gb225)); have n4_ := Aside0.mk ((by rw [hg]; exact (below_size (by repeat (first | (with_reducible first | exact HB.out | apply below_alloc | apply pw_below_drewN | apply below_drew1 | refine below_set ?_ GE224.out) | exact HB.out))) : w.heap.size ≤ gb225)); have n5_ := Aside0.mk ((by rw [hg]; exact Nat.ne_of_lt (blk_lt (g := gb224) (o := .cells #[.int .i64 a0_0, .int .i64 a0_1, .int .i64 a0_2, .int .i64 a0_3, .int .i64 a0_4, .slice A0_5 l0_5.length c0_5] 37 (0, 0)) (by (with_reducible repeat (first | refine blk_drewN ?_ _ | refine blk_drew ?_ | refine blk_alloc ?_ _)); exact BK224.out)) : gb224 ≠ gb225)); have n6_ := Aside0.mk ((by rw [hg]; exact Nat.ne_of_gt (blk_lt (g := gb224) (o := .cells #[.int .i64 a0_0, .int .i64 a0_1, .int .i64 a0_2, .int .i64 a0_3, .int .i64 a0_4, .slice A0_5 l0_5.length c0_5] 37 (0, 0)) (by (with_reducible repeat (first | refine blk_drewN ?_ _ | refine blk_drew ?_ | refine blk_alloc ?_ _)); exact BK224.out)) : gb225 ≠ gb224)); clear BK224; clear HB; have BK224 := n0_; have HB := n1_; have BK225 := n2_; have GW225 := n3_; have GE225 := n4_; have NB224_225 := n5_; have NB225_224 := n6_; clear n0_ n1_ n2_ n3_ n4_ n5_ n6_; clear hb hbox hg; have hnb21 := NB224_225.out; have hnc21 := NB225_224.out; have hcz22_0 : w20.cell? ⟨gb224, 0, none⟩ = some (.int .i64 a0_0) := (blk_cell BK224.out 0).trans rfl; have hcz22_1 : w20.cell? ⟨gb224, 1, none⟩ = some (.int .i64 a0_1) := (blk_cell BK224.out 1).trans rfl; have hcz22_2 : w20.cell? ⟨gb224, 2, none⟩ = some (.int .i64 a0_2) := (blk_cell BK224.out 2).trans rfl; have hcz22_3 : w20.cell? ⟨gb224, 3, none⟩ = some (.int .i64 a0_3) := (blk_cell BK224.out 3).trans rfl; have hcz22_4 : w20.cell? ⟨gb224, 4, none⟩ = some (.int .i64 a0_4) := (blk_cell BK224.out 4).trans rfl; have hcz22_5 : w20.cell? ⟨gb224, 5, none⟩ = some (.slice A0_5 l0_5.length c0_5) := (blk_cell BK224.out 5).trans rfl; have hfz22_0 := blk_frozen BK224.out 0; have hfz22_1 := blk_frozen BK224.out 1; have hfz22_2 := blk_frozen BK224.out 2; have hfz22_3 := blk_frozen BK224.out 3; have hfz22_4 := blk_frozen BK224.out 4; have hfz22_5 := blk_frozen BK224.out 5; have hcz23_0 : w20.cell? ⟨gb225, 0, none⟩ = some (.int .i64 a1_0) := (blk_cell BK225.out 0).trans rfl; have hcz23_1 : w20.cell? ⟨gb225, 1, none⟩ = some (.int .i64 a1_1) := (blk_cell BK225.out 1).trans rfl; have hcz23_2 : w20.cell? ⟨gb225, 2, none⟩ = some (.int .i64 a1_2) := (blk_cell BK225.out 2).trans rfl; have hcz23_3 : w20.cell? ⟨gb225, 3, none⟩ = some (.int .i64 a1_3) := (blk_cell BK225.out 3).trans rfl; have hcz23_4 : w20.cell? ⟨gb225, 4, none⟩ = some (.int .i64 a1_4) := (blk_cell BK225.out 4).trans rfl; have hcz23_5 : w20.cell? ⟨gb225, 5, none⟩ = some (.slice A1_5 l1_5.length c1_5) := (blk_cell BK225.out 5).trans rfl; have hfz23_0 := blk_frozen BK225.out 0; have hfz23_1 := blk_frozen BK225.out 1; have hfz23_2 := blk_frozen BK225.out 2; have hfz23_3 := blk_frozen BK225.out 3; have hfz23_4 := blk_frozen BK225.out 4; have hfz23_5 := blk_frozen BK225.out 5) | ((with_reducible refine gate_callee (f := 19) rfl ?_); refine goesL_ (some 10) rfl rfl Try.func19 (by kernel_rfl) rfl #[.slice A0_5 l0_5.length c0_5, .slice A1_5 l1_5.length c1_5] rfl (by (try simp only [List.map_toArray, List.map_cons, List.map_nil]); first | done | rfl | (simp only [List.length_drop, List.length_take]; rfl)) ?_; (with_reducible refine (swageref02_Ints.calls k _ _ l0_5 _ _ l1_5 true _ ?side1 ?side2 ?side3 ?side4 A3.out).mono ?_); (case side1 => repeat (first | exact (Kd.C_below HR0_5.out HB.out) | (with_reducible refine Kd.C_alloc ?_ _) | (with_reducible refine Kd.C_drewN ?_ _) | (with_reducible refine Kd.C_drew ?_))); (case side2 => exact HC0_5.out); (case side3 => repeat (first | exact (Kd.C_below HR1_5.out HB.out) | (with_reducible refine Kd.C_alloc ?_ _) | (with_reducible refine Kd.C_drewN ?_ _) | (with_reducible refine Kd.C_drew ?_))); (case side4 => exact HC1_5.out); rintro e w' ⟨rfl, ⟨nd, rfl⟩⟩; refine ⟨_, rfl, ?_⟩))
          go_ret
          exact ⟨by first | rfl | (simp [errW_none, errW_some] <;> rfl) | (simp [*, errW_none, errW_some] <;> rfl), by repeat (first | (with_reducible first | exact HB.out | apply below_alloc | apply pw_below_drewN | apply below_drew1 | refine below_set ?_ GE224.out | refine below_set ?_ GE225.out) | exact HB.out)⟩
      · rw [if_neg c6] at H
        have c6b0 : (a0_1 == a1_1) = false := beq_eq_false_iff_ne.mpr c6
        have c6b1 : (a0_1 != a1_1) = true := bne_iff_ne.mpr c6
        obtain rfl := Option.some.inj H
        go_enter Try.func29, Try.ntmps29
        go_wp2_with (first | ((with_reducible refine gate_dst (N := 2) rfl ?_); refine box_event ?hg (N := 2) ?hd (cs := #[.int .i64 a0_0, .int .i64 a0_1, .int .i64 a0_2, .int .i64 a0_3, .int .i64 a0_4, .slice A0_5 l0_5.length c0_5]) (t := 37) ?hr ?_; (case hd => rfl); (case hg => rfl); (case hr => first | (go_simp; done) | (go_simp; rfl)); intro gb224 hg w24 hbox hb; have n0_ := Aside0.mk (below_step (by repeat (first | (with_reducible first | exact HB.out | apply below_alloc | apply pw_below_drewN | apply below_drew1) | exact HB.out)) hb); have n1_ := Aside0.mk (hbox); have n2_ := Aside0.mk ((by rw [hg]; exact (below_size (by repeat (first | (with_reducible first | exact HB.out | apply below_alloc | apply pw_below_drewN | apply below_drew1) | exact HB.out))) : w.heap.size ≤ gb224)); have n3_ := Aside0.mk ((by rw [hg]; exact (below_size (by repeat (first | (with_reducible first | exact HB.out | apply below_alloc | apply pw_below_drewN | apply below_drew1) | exact HB.out))) : w.heap.size ≤ gb224)); clear HB; have HB := n0_; have BK224 := n1_; have GW224 := n2_; have GE224 := n3_; clear n0_ n1_ n2_ n3_; clear hb hbox hg) | ((with_reducible refine gate_dst (N := 3) rfl ?_); refine box_event ?hg (N := 3) ?hd (cs := #[.int .i64 a1_0, .int .i64 a1_1, .int .i64 a1_2, .int .i64 a1_3, .int .i64 a1_4, .slice A1_5 l1_5.length c1_5]) (t := 37) ?hr ?_; (case hd => rfl); (case hg => rfl); (case hr => first | (go_simp; done) | (go_simp; rfl)); intro gb225 hg w25 hbox hb; have n0_ := Aside0.mk (blk_below (g := gb224) (o := .cells #[.int .i64 a0_0, .int .i64 a0_1, .int .i64 a0_2, .int .i64 a0_3, .int .i64 a0_4, .slice A0_5 l0_5.length c0_5] 37 (0, 0)) (by (with_reducible repeat (first | refine blk_drewN ?_ _ | refine blk_drew ?_ | refine blk_alloc ?_ _)); exact BK224.out) hb); have n1_ := Aside0.mk (below_step (by repeat (first | (with_reducible first | exact HB.out | apply below_alloc | apply pw_below_drewN | apply below_drew1 | refine below_set ?_ GE224.out) | exact HB.out)) hb); have n2_ := Aside0.mk (hbox); have n3_ := Aside0.mk ((by rw [hg]; exact (below_size (by repeat (first | (with_reducible first | exact HB.out | apply below_alloc | apply pw_below_drewN | apply below_drew1 | refine below_set ?_ GE224.out) | exact HB.out))) : w.heap.size ≤ gb225)); have n4_ := Aside0.mk ((by rw [hg]; exact (below_size (by repeat (first | (with_reducible first | exact HB.out | apply below_alloc | apply pw_below_drewN | apply below_drew1 | refine below_set ?_ GE224.out) | exact HB.out))) : w.heap.size ≤ gb225)); have n5_ := Aside0.mk ((by rw [hg]; exact Nat.ne_of_lt (blk_lt (g := gb224) (o := .cells #[.int .i64 a0_0, .int .i64 a0_1, .int .i64 a0_2, .int .i64 a0_3, .int .i64 a0_4, .slice A0_5 l0_5.length c0_5] 37 (0, 0)) (by (with_reducible repeat (first | refine blk_drewN ?_ _ | refine blk_drew ?_ | refine blk_alloc ?_ _)); exact BK224.out)) : gb224 ≠ gb225)); have n6_ := Aside0.mk ((by rw [hg]; exact Nat.ne_of_gt (blk_lt (g := gb224) (o := .cells #[.int .i64 a0_0, .int .i64 a0_1, .int .i64 a0_2, .int .i64 a0_3, .int .i64 a0_4, .slice A0_5 l0_5.length c0_5] 37 (0, 0)) (by (with_reducible repeat (first | refine blk_drewN ?_ _ | refine blk_drew ?_ | refine blk_alloc ?_ _)); exact BK224.out)) : gb225 ≠ gb224)); clear BK224; clear HB; have BK224 := n0_; have HB := n1_; have BK225 := n2_; have GW225 := n3_; have GE225 := n4_; have NB224_225 := n5_; have NB225_224 := n6_; clear n0_ n1_ n2_ n3_ n4_ n5_ n6_; clear hb hbox hg; have hnb26 := NB224_225.out; have hnc26 := NB225_224.out; have hcz27_0 : w25.cell? ⟨gb224, 0, none⟩ = some (.int .i64 a0_0) := (blk_cell BK224.out 0).trans rfl; have hcz27_1 : w25.cell? ⟨gb224, 1, none⟩ = some (.int .i64 a0_1) := (blk_cell BK224.out 1).trans rfl; have hcz27_2 : w25.cell? ⟨gb224, 2, none⟩ = some (.int .i64 a0_2) := (blk_cell BK224.out 2).trans rfl; have hcz27_3 : w25.cell? ⟨gb224, 3, none⟩ = some (.int .i64 a0_3) := (blk_cell BK224.out 3).trans rfl; have hcz27_4 : w25.cell? ⟨gb224, 4, none⟩ = some (.int .i64 a0_4) := (blk_cell BK224.out 4).trans rfl; have hcz27_5 : w25.cell? ⟨gb224, 5, none⟩ = some (.slice A0_5 l0_5.length c0_5) := (blk_cell BK224.out 5).trans rfl; have hfz27_0 := blk_frozen BK224.out 0; have hfz27_1 := blk_frozen BK224.out 1; have hfz27_2 := blk_frozen BK224.out 2; have hfz27_3 := blk_frozen BK224.out 3; have hfz27_4 := blk_frozen BK224.out 4; have hfz27_5 := blk_frozen BK224.out 5; have hcz28_0 : w25.cell? ⟨gb225, 0, none⟩ = some (.int .i64 a1_0) := (blk_cell BK225.out 0).trans rfl; have hcz28_1 : w25.cell? ⟨gb225, 1, none⟩ = some (.int .i64 a1_1) := (blk_cell BK225.out 1).trans rfl; have hcz28_2 : w25.cell? ⟨gb225, 2, none⟩ = some (.int .i64 a1_2) := (blk_cell BK225.out 2).trans rfl; have hcz28_3 : w25.cell? ⟨gb225, 3, none⟩ = some (.int .i64 a1_3) := (blk_cell BK225.out 3).trans rfl; have hcz28_4 : w25.cell? ⟨gb225, 4, none⟩ = some (.int .i64 a1_4) := (blk_cell BK225.out 4).trans rfl; have hcz28_5 : w25.cell? ⟨gb225, 5, none⟩ = some (.slice A1_5 l1_5.length c1_5) := (blk_cell BK225.out 5).trans rfl; have hfz28_0 := blk_frozen BK225.out 0; have hfz28_1 := blk_frozen BK225.out 1; have hfz28_2 := blk_frozen BK225.out 2; have hfz28_3 := blk_frozen BK225.out 3; have hfz28_4 := blk_frozen BK225.out 4; have hfz28_5 := blk_frozen BK225.out 5) | ((with_reducible refine gate_callee (f := 19) rfl ?_); refine goesL_ (some 10) rfl rfl Try.func19 (by kernel_rfl) rfl #[.slice A0_5 l0_5.length c0_5, .slice A1_5 l1_5.length c1_5] rfl (by (try simp only [List.map_toArray, List.map_cons, List.map_nil]); first | done | rfl | (simp only [List.length_drop, List.length_take]; rfl)) ?_; (with_reducible refine (swageref02_Ints.calls k _ _ l0_5 _ _ l1_5 true _ ?side1 ?side2 ?side3 ?side4 A3.out).mono ?_); (case side1 => repeat (first | exact (Kd.C_below HR0_5.out HB.out) | (with_reducible refine Kd.C_alloc ?_ _) | (with_reducible refine Kd.C_drewN ?_ _) | (with_reducible refine Kd.C_drew ?_))); (case side2 => exact HC0_5.out); (case side3 => repeat (first | exact (Kd.C_below HR1_5.out HB.out) | (with_reducible refine Kd.C_alloc ?_ _) | (with_reducible refine Kd.C_drewN ?_ _) | (with_reducible refine Kd.C_drew ?_))); (case side4 => exact HC1_5.out); rintro e w' ⟨rfl, ⟨nd, rfl⟩⟩; refine ⟨_, rfl, ?_⟩))
        go_ret
        exact ⟨by first | rfl | (simp [errW_none, errW_some] <;> rfl) | (simp [*, errW_none, errW_some] <;> rfl), by repeat (first | (with_reducible first | exact HB.out | apply below_alloc | apply pw_below_drewN | apply below_drew1 | refine below_set ?_ GE224.out | refine below_set ?_ GE225.out) | exact HB.out)⟩
    · rw [if_neg c5] at H
      have c5b0 : (a0_0 == a1_0) = false := beq_eq_false_iff_ne.mpr c5
      have c5b1 : (a0_0 != a1_0) = true := bne_iff_ne.mpr c5
      obtain rfl := Option.some.inj H
      go_enter Try.func29, Try.ntmps29
      go_wp2_with (first | ((with_reducible refine gate_dst (N := 2) rfl ?_); refine box_event ?hg (N := 2) ?hd (cs := #[.int .i64 a0_0, .int .i64 a0_1, .int .i64 a0_2, .int .i64 a0_3, .int .i64 a0_4, .slice A0_5 l0_5.length c0_5]) (t := 37) ?hr ?_; (case hd => rfl); (case hg => rfl); (case hr => first | (go_simp; done) | (go_simp; rfl)); intro gb224 hg w29 hbox hb; have n0_ := Aside0.mk (below_step (by repeat (first | (with_reducible first | exact HB.out | apply below_alloc | apply pw_below_drewN | apply below_drew1) | exact HB.out)) hb); have n1_ := Aside0.mk (hbox); have n2_ := Aside0.mk ((by rw [hg]; exact (below_size (by repeat (first | (with_reducible first | exact HB.out | apply below_alloc | apply pw_below_drewN | apply below_drew1) | exact HB.out))) : w.heap.size ≤ gb224)); have n3_ := Aside0.mk ((by rw [hg]; exact (below_size (by repeat (first | (with_reducible first | exact HB.out | apply below_alloc | apply pw_below_drewN | apply below_drew1) | exact HB.out))) : w.heap.size ≤ gb224)); clear HB; have HB := n0_; have BK224 := n1_; have GW224 := n2_; have GE224 := n3_; clear n0_ n1_ n2_ n3_; clear hb hbox hg) | ((with_reducible refine gate_dst (N := 3) rfl ?_); refine box_event ?hg (N := 3) ?hd (cs := #[.int .i64 a1_0, .int .i64 a1_1, .int .i64 a1_2, .int .i64 a1_3, .int .i64 a1_4, .slice A1_5 l1_5.length c1_5]) (t := 37) ?hr ?_; (case hd => rfl); (case hg => rfl); (case hr => first | (go_simp; done) | (go_simp; rfl)); intro gb225 hg w30 hbox hb; have n0_ := Aside0.mk (blk_below (g := gb224) (o := .cells #[.int .i64 a0_0, .int .i64 a0_1, .int .i64 a0_2, .int .i64 a0_3, .int .i64 a0_4, .slice A0_5 l0_5.length c0_5] 37 (0, 0)) (by (with_reducible repeat (first | refine blk_drewN ?_ _ | refine blk_drew ?_ | refine blk_alloc ?_ _)); exact BK224.out) hb); have n1_ := Aside0.mk (below_step (by repeat (first | (with_reducible first | exact HB.out | apply below_alloc | apply pw_below_drewN | apply below_drew1 | refine below_set ?_ GE224.out) | exact HB.out)) hb); have n2_ := Aside0.mk (hbox); have n3_ := Aside0.mk ((by rw [hg]; exact (below_size (by repeat (first | (with_reducible first | exact HB.out | apply below_alloc | apply pw_below_drewN | apply below_drew1 | refine below_set ?_ GE224.out) | exact HB.out))) : w.heap.size ≤ gb225)); have n4_ := Aside0.mk ((by rw [hg]; exact (below_size (by repeat (first | (with_reducible first | exact HB.out | apply below_alloc | apply pw_below_drewN | apply below_drew1 | refine below_set ?_ GE224.out) | exact HB.out))) : w.heap.size ≤ gb225)); have n5_ := Aside0.mk ((by rw [hg]; exact Nat.ne_of_lt (blk_lt (g := gb224) (o := .cells #[.int .i64 a0_0, .int .i64 a0_1, .int .i64 a0_2, .int .i64 a0_3, .int .i64 a0_4, .slice A0_5 l0_5.length c0_5] 37 (0, 0)) (by (with_reducible repeat (first | refine blk_drewN ?_ _ | refine blk_drew ?_ | refine blk_alloc ?_ _)); exact BK224.out)) : gb224 ≠ gb225)); have n6_ := Aside0.mk ((by rw [hg]; exact Nat.ne_of_gt (blk_lt (g := gb224) (o := .cells #[.int .i64 a0_0, .int .i64 a0_1, .int .i64 a0_2, .int .i64 a0_3, .int .i64 a0_4, .slice A0_5 l0_5.length c0_5] 37 (0, 0)) (by (with_reducible repeat (first | refine blk_drewN ?_ _ | refine blk_drew ?_ | refine blk_alloc ?_ _)); exact BK224.out)) : gb225 ≠ gb224)); clear BK224; clear HB; have BK224 := n0_; have HB := n1_; have BK225 := n2_; have GW225 := n3_; have GE225 := n4_; have NB224_225 := n5_; have NB225_224 := n6_; clear n0_ n1_ n2_ n3_ n4_ n5_ n6_; clear hb hbox hg; have hnb31 := NB224_225.out; have hnc31 := NB225_224.out; have hcz32_0 : w30.cell? ⟨gb224, 0, none⟩ = some (.int .i64 a0_0) := (blk_cell BK224.out 0).trans rfl; have hcz32_1 : w30.cell? ⟨gb224, 1, none⟩ = some (.int .i64 a0_1) := (blk_cell BK224.out 1).trans rfl; have hcz32_2 : w30.cell? ⟨gb224, 2, none⟩ = some (.int .i64 a0_2) := (blk_cell BK224.out 2).trans rfl; have hcz32_3 : w30.cell? ⟨gb224, 3, none⟩ = some (.int .i64 a0_3) := (blk_cell BK224.out 3).trans rfl; have hcz32_4 : w30.cell? ⟨gb224, 4, none⟩ = some (.int .i64 a0_4) := (blk_cell BK224.out 4).trans rfl; have hcz32_5 : w30.cell? ⟨gb224, 5, none⟩ = some (.slice A0_5 l0_5.length c0_5) := (blk_cell BK224.out 5).trans rfl; have hfz32_0 := blk_frozen BK224.out 0; have hfz32_1 := blk_frozen BK224.out 1; have hfz32_2 := blk_frozen BK224.out 2; have hfz32_3 := blk_frozen BK224.out 3; have hfz32_4 := blk_frozen BK224.out 4; have hfz32_5 := blk_frozen BK224.out 5; have hcz33_0 : w30.cell? ⟨gb225, 0, none⟩ = some (.int .i64 a1_0) := (blk_cell BK225.out 0).trans rfl; have hcz33_1 : w30.cell? ⟨gb225, 1, none⟩ = some (.int .i64 a1_1) := (blk_cell BK225.out 1).trans rfl; have hcz33_2 : w30.cell? ⟨gb225, 2, none⟩ = some (.int .i64 a1_2) := (blk_cell BK225.out 2).trans rfl; have hcz33_3 : w30.cell? ⟨gb225, 3, none⟩ = some (.int .i64 a1_3) := (blk_cell BK225.out 3).trans rfl; have hcz33_4 : w30.cell? ⟨gb225, 4, none⟩ = some (.int .i64 a1_4) := (blk_cell BK225.out 4).trans rfl; have hcz33_5 : w30.cell? ⟨gb225, 5, none⟩ = some (.slice A1_5 l1_5.length c1_5) := (blk_cell BK225.out 5).trans rfl; have hfz33_0 := blk_frozen BK225.out 0; have hfz33_1 := blk_frozen BK225.out 1; have hfz33_2 := blk_frozen BK225.out 2; have hfz33_3 := blk_frozen BK225.out 3; have hfz33_4 := blk_frozen BK225.out 4; have hfz33_5 := blk_frozen BK225.out 5) | ((with_reducible refine gate_callee (f := 19) rfl ?_); refine goesL_ (some 10) rfl rfl Try.func19 (by kernel_rfl) rfl #[.slice A0_5 l0_5.length c0_5, .slice A1_5 l1_5.length c1_5] rfl (by (try simp only [List.map_toArray, List.map_cons, List.map_nil]); first | done | rfl | (simp only [List.length_drop, List.length_take]; rfl)) ?_; (with_reducible refine (swageref02_Ints.calls k _ _ l0_5 _ _ l1_5 true _ ?side1 ?side2 ?side3 ?side4 A3.out).mono ?_); (case side1 => repeat (first | exact (Kd.C_below HR0_5.out HB.out) | (with_reducible refine Kd.C_alloc ?_ _) | (with_reducible refine Kd.C_drewN ?_ _) | (with_reducible refine Kd.C_drew ?_))); (case side2 => exact HC0_5.out); (case side3 => repeat (first | exact (Kd.C_below HR1_5.out HB.out) | (with_reducible refine Kd.C_alloc ?_ _) | (with_reducible refine Kd.C_drewN ?_ _) | (with_reducible refine Kd.C_drew ?_))); (case side4 => exact HC1_5.out); rintro e w' ⟨rfl, ⟨nd, rfl⟩⟩; refine ⟨_, rfl, ?_⟩))
      go_ret
      exact ⟨by first | rfl | (simp [errW_none, errW_some] <;> rfl) | (simp [*, errW_none, errW_some] <;> rfl), by repeat (first | (with_reducible first | exact HB.out | apply below_alloc | apply pw_below_drewN | apply below_drew1 | refine below_set ?_ GE224.out | refine below_set ?_ GE225.out) | exact HB.out)⟩
  · replace c4 := Bool.eq_false_iff.mpr c4
    subst c4
    have H1 : (some false) = some r := by rw [if_neg (show ¬ (false = true) by decide)] at H; exact H
    clear H
    have H := H1
    clear H1
    obtain rfl := Option.some.inj H
    go_enter Try.func29, Try.ntmps29
    go_wp2_with (first | ((with_reducible refine gate_dst (N := 2) rfl ?_); refine box_event ?hg (N := 2) ?hd (cs := #[.int .i64 a0_0, .int .i64 a0_1, .int .i64 a0_2, .int .i64 a0_3, .int .i64 a0_4, .slice A0_5 l0_5.length c0_5]) (t := 37) ?hr ?_; (case hd => rfl); (case hg => rfl); (case hr => first | (go_simp; done) | (go_simp; rfl)); intro gb224 hg w34 hbox hb; have n0_ := Aside0.mk (below_step (by repeat (first | (with_reducible first | exact HB.out | apply below_alloc | apply pw_below_drewN | apply below_drew1) | exact HB.out)) hb); have n1_ := Aside0.mk (hbox); have n2_ := Aside0.mk ((by rw [hg]; exact (below_size (by repeat (first | (with_reducible first | exact HB.out | apply below_alloc | apply pw_below_drewN | apply below_drew1) | exact HB.out))) : w.heap.size ≤ gb224)); have n3_ := Aside0.mk ((by rw [hg]; exact (below_size (by repeat (first | (with_reducible first | exact HB.out | apply below_alloc | apply pw_below_drewN | apply below_drew1) | exact HB.out))) : w.heap.size ≤ gb224)); clear HB; have HB := n0_; have BK224 := n1_; have GW224 := n2_; have GE224 := n3_; clear n0_ n1_ n2_ n3_; clear hb hbox hg) | ((with_reducible refine gate_dst (N := 3) rfl ?_); refine box_event ?hg (N := 3) ?hd (cs := #[.int .i64 a1_0, .int .i64 a1_1, .int .i64 a1_2, .int .i64 a1_3, .int .i64 a1_4, .slice A1_5 l1_5.length c1_5]) (t := 37) ?hr ?_; (case hd => rfl); (case hg => rfl); (case hr => first | (go_simp; done) | (go_simp; rfl)); intro gb225 hg w35 hbox hb; have n0_ := Aside0.mk (blk_below (g := gb224) (o := .cells #[.int .i64 a0_0, .int .i64 a0_1, .int .i64 a0_2, .int .i64 a0_3, .int .i64 a0_4, .slice A0_5 l0_5.length c0_5] 37 (0, 0)) (by (with_reducible repeat (first | refine blk_drewN ?_ _ | refine blk_drew ?_ | refine blk_alloc ?_ _)); exact BK224.out) hb); have n1_ := Aside0.mk (below_step (by repeat (first | (with_reducible first | exact HB.out | apply below_alloc | apply pw_below_drewN | apply below_drew1 | refine below_set ?_ GE224.out) | exact HB.out)) hb); have n2_ := Aside0.mk (hbox); have n3_ := Aside0.mk ((by rw [hg]; exact (below_size (by repeat (first | (with_reducible first | exact HB.out | apply below_alloc | apply pw_below_drewN | apply below_drew1 | refine below_set ?_ GE224.out) | exact HB.out))) : w.heap.size ≤ gb225)); have n4_ := Aside0.mk ((by rw [hg]; exact (below_size (by repeat (first | (with_reducible first | exact HB.out | apply below_alloc | apply pw_below_drewN | apply below_drew1 | refine below_set ?_ GE224.out) | exact HB.out))) : w.heap.size ≤ gb225)); have n5_ := Aside0.mk ((by rw [hg]; exact Nat.ne_of_lt (blk_lt (g := gb224) (o := .cells #[.int .i64 a0_0, .int .i64 a0_1, .int .i64 a0_2, .int .i64 a0_3, .int .i64 a0_4, .slice A0_5 l0_5.length c0_5] 37 (0, 0)) (by (with_reducible repeat (first | refine blk_drewN ?_ _ | refine blk_drew ?_ | refine blk_alloc ?_ _)); exact BK224.out)) : gb224 ≠ gb225)); have n6_ := Aside0.mk ((by rw [hg]; exact Nat.ne_of_gt (blk_lt (g := gb224) (o := .cells #[.int .i64 a0_0, .int .i64 a0_1, .int .i64 a0_2, .int .i64 a0_3, .int .i64 a0_4, .slice A0_5 l0_5.length c0_5] 37 (0, 0)) (by (with_reducible repeat (first | refine blk_drewN ?_ _ | refine blk_drew ?_ | refine blk_alloc ?_ _)); exact BK224.out)) : gb225 ≠ gb224)); clear BK224; clear HB; have BK224 := n0_; have HB := n1_; have BK225 := n2_; have GW225 := n3_; have GE225 := n4_; have NB224_225 := n5_; have NB225_224 := n6_; clear n0_ n1_ n2_ n3_ n4_ n5_ n6_; clear hb hbox hg; have hnb36 := NB224_225.out; have hnc36 := NB225_224.out; have hcz37_0 : w35.cell? ⟨gb224, 0, none⟩ = some (.int .i64 a0_0) := (blk_cell BK224.out 0).trans rfl; have hcz37_1 : w35.cell? ⟨gb224, 1, none⟩ = some (.int .i64 a0_1) := (blk_cell BK224.out 1).trans rfl; have hcz37_2 : w35.cell? ⟨gb224, 2, none⟩ = some (.int .i64 a0_2) := (blk_cell BK224.out 2).trans rfl; have hcz37_3 : w35.cell? ⟨gb224, 3, none⟩ = some (.int .i64 a0_3) := (blk_cell BK224.out 3).trans rfl; have hcz37_4 : w35.cell? ⟨gb224, 4, none⟩ = some (.int .i64 a0_4) := (blk_cell BK224.out 4).trans rfl; have hcz37_5 : w35.cell? ⟨gb224, 5, none⟩ = some (.slice A0_5 l0_5.length c0_5) := (blk_cell BK224.out 5).trans rfl; have hfz37_0 := blk_frozen BK224.out 0; have hfz37_1 := blk_frozen BK224.out 1; have hfz37_2 := blk_frozen BK224.out 2; have hfz37_3 := blk_frozen BK224.out 3; have hfz37_4 := blk_frozen BK224.out 4; have hfz37_5 := blk_frozen BK224.out 5; have hcz38_0 : w35.cell? ⟨gb225, 0, none⟩ = some (.int .i64 a1_0) := (blk_cell BK225.out 0).trans rfl; have hcz38_1 : w35.cell? ⟨gb225, 1, none⟩ = some (.int .i64 a1_1) := (blk_cell BK225.out 1).trans rfl; have hcz38_2 : w35.cell? ⟨gb225, 2, none⟩ = some (.int .i64 a1_2) := (blk_cell BK225.out 2).trans rfl; have hcz38_3 : w35.cell? ⟨gb225, 3, none⟩ = some (.int .i64 a1_3) := (blk_cell BK225.out 3).trans rfl; have hcz38_4 : w35.cell? ⟨gb225, 4, none⟩ = some (.int .i64 a1_4) := (blk_cell BK225.out 4).trans rfl; have hcz38_5 : w35.cell? ⟨gb225, 5, none⟩ = some (.slice A1_5 l1_5.length c1_5) := (blk_cell BK225.out 5).trans rfl; have hfz38_0 := blk_frozen BK225.out 0; have hfz38_1 := blk_frozen BK225.out 1; have hfz38_2 := blk_frozen BK225.out 2; have hfz38_3 := blk_frozen BK225.out 3; have hfz38_4 := blk_frozen BK225.out 4; have hfz38_5 := blk_frozen BK225.out 5) | ((with_reducible refine gate_callee (f := 19) rfl ?_); refine goesL_ (some 10) rfl rfl Try.func19 (by kernel_rfl) rfl #[.slice A0_5 l0_5.length c0_5, .slice A1_5 l1_5.length c1_5] rfl (by (try simp only [List.map_toArray, List.map_cons, List.map_nil]); first | done | rfl | (simp only [List.length_drop, List.length_take]; rfl)) ?_; (with_reducible refine (swageref02_Ints.calls k _ _ l0_5 _ _ l1_5 false _ ?side1 ?side2 ?side3 ?side4 A3.out).mono ?_); (case side1 => repeat (first | exact (Kd.C_below HR0_5.out HB.out) | (with_reducible refine Kd.C_alloc ?_ _) | (with_reducible refine Kd.C_drewN ?_ _) | (with_reducible refine Kd.C_drew ?_))); (case side2 => exact HC0_5.out); (case side3 => repeat (first | exact (Kd.C_below HR1_5.out HB.out) | (with_reducible refine Kd.C_alloc ?_ _) | (with_reducible refine Kd.C_drewN ?_ _) | (with_reducible refine Kd.C_drew ?_))); (case side4 => exact HC1_5.out); rintro e w' ⟨rfl, ⟨nd, rfl⟩⟩; refine ⟨_, rfl, ?_⟩))
    go_ret
    exact ⟨by first | rfl | (simp [errW_none, errW_some] <;> rfl) | (simp [*, errW_none, errW_some] <;> rfl), by repeat (first | (with_reducible first | exact HB.out | apply below_alloc | apply pw_below_drewN | apply below_drew1 | refine below_set ?_ GE224.out | refine below_set ?_ GE225.out) | exact HB.out)⟩

end Go.Proofs.Ytphmlkbmnmicpaa.A

/- few, SameOp and Pure: what they answer. -/
namespace Go.Proofs.Ytphmlkbmnmicpaa.A
open Go.RowKit Go.Proofs.YtphmlkbmnmicpaaW.PrintWords Go.Proofs.YtphmlkbmnmicpaaW.PrintLast Go.Shelf
set_option linter.unusedVariables false
set_option linter.unusedSimpArgs false

def fewB (l : List S37) : Bool := ((l.take 100).all fun x => decide (x.f5.length ≤ 20)) && decide (l.length ≤ 60)
theorem fewB_true (l : List S37) : fewB l = true → l.length ≤ 60 ∧ ∀ x ∈ l, x.f5.length ≤ 20 := by
  unfold fewB
  simp only [Bool.and_eq_true, List.all_eq_true, decide_eq_true_eq]
  rintro ⟨h1, h2⟩
  exact ⟨h2, fun x hx => h1 x (by rw [List.take_of_length_le (by omega)]; exact hx)⟩

theorem few_ev (l : List S37) : ∀ (d i : Nat), i ≤ min l.length 100 → min l.length 100 - i = d → Ev (fun k => swagelaw27_few.l0 k l (i : Int)) ((((l.take 100).drop i).all fun x => decide (x.f5.length ≤ 20)) && decide (l.length ≤ 60)) := by
  intro d
  induction d with
  | zero =>
    intro i hi hd
    refine ⟨2, fun k hk => ?_⟩
    obtain ⟨k, rfl⟩ : ∃ m, k = m + 2 := ⟨k - 2, by omega⟩
    have he : (l.take 100).drop i = [] := List.drop_eq_nil_of_le (by rw [List.length_take]; omega)
    rw [he]
    simp only [swagelaw27_few.l0, List.all_nil, Bool.true_and]
    by_cases h : (i : Int) < (l.length : Int)
    · rw [if_pos h, decide_eq_false (by omega)]
      simp only [swagelaw27_few.j1]
      rw [if_neg (by simp)]
      congr 1
      exact decide_eq_decide.2 (by omega)
    · rw [if_neg h]
      simp only [swagelaw27_few.j1]
      rw [if_neg (by simp)]
      congr 1
      exact decide_eq_decide.2 (by omega)
  | succ d ih =>
    intro i hi hd
    obtain ⟨K, hK⟩ := ih (i + 1) (by omega) (by omega)
    refine ⟨K + 2, fun k hk => ?_⟩
    obtain ⟨k, rfl⟩ : ∃ m, k = m + 2 := ⟨k - 2, by omega⟩
    have hK' := hK k (by omega)
    have hil : i < l.length := by omega
    have hit : i < (l.take 100).length := by rw [List.length_take]; omega
    rw [List.drop_eq_getElem_cons hit, List.getElem_take, List.all_cons]
    simp only [swagelaw27_few.l0]
    rw [if_pos (by omega), decide_eq_true (by omega)]
    simp only [swagelaw27_few.j1]
    rw [if_pos trivial, if_pos (by omega), if_pos (by omega)]
    have hr : rd_T37 l (i : Int) = l[i] := by unfold rd_T37; simp [hil]
    rw [hr, show wrap64 ((i : Int) + 1) = ((i + 1 : Nat) : Int) from by unfold wrap64; omega]
    by_cases h : ((l[i].f5.length : Nat) : Int) > 20
    · rw [if_pos h, decide_eq_false (by omega)]
      simp
    · rw [if_neg h, decide_eq_true (by omega), Bool.true_and]
      exact hK'

theorem few_calls (A : Option Addr) (c : Nat) (l : List S37) (w : World) (h : Kd.C k37 w A l.length l) (hc : l.length ≤ c) :
    Calls Try.prog 9 #[.slice A l.length c] w fun e w' => e = .returned (.bool (fewB l)) ∧ Drawn0 w w' := by
  obtain ⟨k, hk⟩ := (few_ev l _ 0 (Nat.zero_le _) rfl).rounds
  exact swagelaw27_few.calls k A c l _ w h hc hk

theorem pure_calls (x : S37) (A : Option Addr) (c : Nat) (w : World) (hx : Kd.C (Kd.int .i64) w A x.f5.length x.f5) (hc : x.f5.length ≤ c) :
    Calls Try.prog 28 #[.agg #[.int .i64 x.f0, .int .i64 x.f1, .int .i64 x.f2, .int .i64 x.f3, .int .i64 x.f4, .slice A x.f5.length c]] w fun e w' => e = .returned (.bool (pureOf x)) ∧ Below w.heap.size w w' :=
  code_Pure.calls 10 x.f0 x.f1 x.f2 x.f3 x.f4 A c x.f5 (pureOf x) w hx hc (pure_ev x 10 (by omega))

theorem ints_same (xs : List Int) (hl : xs.length ≤ 1000) : ∀ (d i : Nat), i ≤ xs.length → xs.length - i = d → Ev (fun k => swageref02_Ints.l0 k xs xs (i : Int)) true := by
  intro d
  induction d with
  | zero =>
    intro i hi hd
    refine ⟨1, fun k hk => ?_⟩
    obtain ⟨k, rfl⟩ : ∃ m, k = m + 1 := ⟨k - 1, by omega⟩
    simp only [swageref02_Ints.l0]
    rw [if_neg (by omega)]
  | succ d ih =>
    intro i hi hd
    obtain ⟨K, hK⟩ := ih (i + 1) (by omega) (by omega)
    refine ⟨K + 1, fun k hk => ?_⟩
    obtain ⟨k, rfl⟩ : ∃ m, k = m + 1 := ⟨k - 1, by omega⟩
    simp only [swageref02_Ints.l0]
    rw [if_pos (by omega), if_pos (by omega), if_pos (by omega), if_pos trivial, show wrap64 ((i : Int) + 1) = ((i + 1 : Nat) : Int) from by unfold wrap64; omega]
    exact hK k (by omega)
theorem same_calls' (x : S37) (A : Option Addr) (c : Nat) (B : Option Addr) (b : Nat) (w : World) (hx : Kd.C (Kd.int .i64) w A x.f5.length x.f5) (hc : x.f5.length ≤ c) (hy : Kd.C (Kd.int .i64) w B x.f5.length x.f5) (hb : x.f5.length ≤ b) (hl : x.f5.length ≤ 1000) :
    Calls Try.prog 29 #[.agg #[.int .i64 x.f0, .int .i64 x.f1, .int .i64 x.f2, .int .i64 x.f3, .int .i64 x.f4, .slice A x.f5.length c], .agg #[.int .i64 x.f0, .int .i64 x.f1, .int .i64 x.f2, .int .i64 x.f3, .int .i64 x.f4, .slice B x.f5.length b]] w fun e w' => e = .returned (.bool true) ∧ Below w.heap.size w w' := by
  obtain ⟨k, hk⟩ := (ints_same x.f5 hl _ 0 (Nat.zero_le _) rfl).rounds
  refine swageref14_SameOp.calls k _ _ _ _ _ A c x.f5 _ _ _ _ _ B b x.f5 true w hx hc hy hb ?_
  unfold swageref14_SameOp.f swageref02_Ints.f
  rw [if_pos rfl]
  have hk' : swageref02_Ints.l0 k x.f5 x.f5 0 = some true := hk
  rw [hk']
  simp
#print axioms few_calls
#print axioms same_calls'
end Go.Proofs.Ytphmlkbmnmicpaa.A

/- The law SchedMay: it returns true. -/
namespace Go.Proofs.Ytphmlkbmnmicpaa.A
open Go.RowKit Go.Proofs.YtphmlkbmnmicpaaW.PrintWords Go.Proofs.YtphmlkbmnmicpaaW.PrintLast Go.Shelf
set_option linter.unusedVariables false
set_option linter.unusedSimpArgs false

/-- what lies in memory in the first loop -/
structure MA (w : World) (A Ao : Option Addr) (n : Nat) (l : List S37) (O : List Int) (W : World) : Prop where
  hl : Kd.C k37 W A n l
  hO : Kd.C (Kd.int .i64) W Ao n O
  hB : Below w.heap.size w W
theorem MA.below {w : World} {A Ao : Option Addr} {n : Nat} {l : List S37} {O : List Int} {W W1 : World} (h : MA w A Ao n l O W) (hb : Below W.heap.size W W1) : MA w A Ao n l O W1 :=
  ⟨Kd.C_below h.hl hb, Kd.C_below h.hO hb, below_then h.hB h.hB.size hb⟩
/-- .. and in the second -/
structure MB (w : World) (A Ao : Option Addr) (n : Nat) (l : List S37) (O : List Int) (g8 g9 : Nat) (A8 A9 : Option Addr) (c8 c9 : Nat) (W : World) : Prop where
  ma : MA w A Ao n l O W
  h8 : W.heap[g8]? = some (.cells #[.slice A8 n c8, .int .i64 0, .int .i64 0, .int .i64 0, .int .i64 0] 29 (0, 0))
  h9 : W.heap[g9]? = some (.cells #[.slice A9 n c9, .int .i64 0, .int .i64 0, .int .i64 0, .int .i64 0] 29 (0, 0))
  hb : Kd.C k37 W A8 n (again l)
  hc : Kd.C k37 W A9 n (again l)
theorem MB.below {w : World} {A Ao : Option Addr} {n : Nat} {l : List S37} {O : List Int} {g8 g9 : Nat} {A8 A9 : Option Addr} {c8 c9 : Nat} {W W1 : World} (h : MB w A Ao n l O g8 g9 A8 A9 c8 c9 W) (hb : Below W.heap.size W W1) : MB w A Ao n l O g8 g9 A8 A9 c8 c9 W1 :=
  ⟨h.ma.below hb, (hb.block _ (blk_lt h.h8)).trans h.h8, (hb.block _ (blk_lt h.h9)).trans h.h9, Kd.C_below h.hb hb, Kd.C_below h.hc hb⟩

theorem block_c' (l : List S37) (hf : Few l) (A : Option Addr) (c : Nat) (W : World) (h : Kd.C k37 W A l.length l) (hc : l.length ≤ c) : Calls Try.prog 11 #[.agg #[.slice A l.length c, .int .i64 0, .int .i64 0, .int .i64 0, .int .i64 0]] W fun e w' =>
    ∃ A c, e = .returned (.agg #[.slice A l.length c, .int .i64 0, .int .i64 0, .int .i64 0, .int .i64 0]) ∧ Kd.C k37 w' A l.length (again l) ∧ l.length ≤ c ∧ Below W.heap.size W w' :=
  (sched_Block.calls A c l 0 0 0 0 (again l) 0 0 0 0 W h hc (by unfold sched_Block.f; rw [if_pos hf]; rfl)).mono fun e w' ⟨v, he, hS, hb⟩ => by
    obtain ⟨A, c, rfl, h1, h2⟩ := Kd.S_reads hS
    rw [again_length] at he h1 h2
    exact ⟨A, c, he, h2, h1, hb⟩

set_option maxRecDepth 100000 in
set_option maxHeartbeats 4000000 in
theorem law_may (A : Option Addr) (c : Nat) (l : List S37) (w : World) (h : Kd.C k37 w A l.length l) (hc : l.length ≤ c) :
    Calls Try.prog 4 #[.slice A l.length c] w fun e w' => e = .returned (.bool true) ∧ Below w.heap.size w w' := by
  have hu29 := Try.underlying29
  have hu37 := Try.underlying37
  have hfew := fun W h => few_calls A c l W h hc
  have hfb := fewB_true l
  generalize fewB l = fb at hfew hfb
  go_enter Try.func4, Try.ntmps4
  go_wp2_with fail
  refine (small_calls w).mono ?_
  rintro e w1 ⟨rfl, hB1⟩
  have h1 := Kd.C_below h hB1
  go_wp2_with fail
  refine (hfew w1 h1).mono ?_
  rintro e w2 ⟨rfl, hD2⟩
  have h2 := Kd.C_below h1 hD2.below
  have hB2 := below_then hB1 hB1.size hD2.below
  clear h1 hB1 hD2 hfew
  cases fb
  · go_wp2_with fail
    go_ret
    exact ⟨rfl, hB2⟩
  obtain ⟨h60, h20⟩ := hfb rfl
  clear hfb
  have hF : Few l := ⟨by omega, fun x hx => by have := h20 x hx; omega⟩
  have hol := orderOf_length l
  have hmay : sched_May.f l (orderOf l) = some true := by
    unfold sched_May.f; rw [if_pos hF, may_order, decide_eq_true hol]; rfl
  obtain ⟨ob, hp⟩ := places l
  have Hp := Aside0.mk hp
  have Hn := Aside0.mk (nonpure_order l hp)
  have Hag := Aside0.mk (fun i hi => again_get hp i hi)
  have Haa := Aside0.mk (again_again l (by omega))
  have Hal := Aside0.mk (again_length l)
  have H20 := Aside0.mk h20
  have HF := Aside0.mk hF
  have hordc : ∀ W, Kd.C k37 W A l.length l → Calls Try.prog 22 #[.slice A l.length c] W fun e w' => ∃ Ao co, e = .returned (.slice Ao l.length co) ∧ Kd.C (Kd.int .i64) w' Ao l.length (orderOf l) ∧ l.length ≤ co ∧ Below W.heap.size W w' := fun W hW =>
    (order_calls l hF.1 hF.2 A c W hW hc).mono fun e w' ⟨v, he, hv, hb⟩ => by
      obtain ⟨Ao, co, rfl, h1, h2⟩ := Kd.R_reads hv
      rw [hol] at he h1 h2
      exact ⟨Ao, co, he, h2, h1, hb⟩
  clear hp h20 hF
  go_wp2_with fail
  refine (hordc w2 h2).mono ?_
  rintro e w3 ⟨Ao, co, rfl, hO3, hco, hB3⟩
  have hA3 : MA w A Ao l.length l (orderOf l) w3 := ⟨Kd.C_below h2 hB3, hO3, below_then hB2 hB2.size hB3⟩
  have hmayc := sched_May.calls A c l Ao co (orderOf l) true w3 hA3.hl hc (by rw [hol]; exact hA3.hO) (by omega) hmay
  rw [hol] at hmayc
  clear h2 hB2 hO3 hB3 hordc hmay h
  have HO : Aside0 (∀ i : Nat, i < l.length → rd (orderOf l) (i : Int) = (ob i : Nat)) := ⟨fun i hi => by
    show (orderOf l).getD _ 0 = _
    rw [Int.toNat_natCast, List.getD_eq_getElem?_getD, Hp.out.get i hi]
    rfl⟩
  generalize orderOf l = O at hA3 hmayc HO hol
  go_wp2_with fail
  refine hmayc.mono ?_
  rintro e w4 ⟨rfl, hB4⟩
  have hA4 := Aside0.mk (hA3.below hB4)
  clear hA3 hB4 hmayc
  go_wp2_with fail
  go_loopw [6, 7] (fun s6 s7 wr => ∃ (m : Nat) (last : Int), m ≤ l.length ∧ s6 = .int .i64 last ∧ s7 = .int .i64 m ∧ Aside0 (∀ j, m ≤ j → j < l.length → pureOf (rd_T37 l (ob j : Nat)) = false → last ≤ (ob j : Nat)) ∧ Aside0 (MA w A Ao l.length l O wr))
    (fun _ s7 _ => l.length - (intOf s7).toNat)
  case atStart => exact ⟨0, -1, Nat.zero_le _, rfl, rfl, ⟨fun j _ _ _ => by omega⟩, hA4⟩
  case round =>
    clear hA4
    obtain ⟨m, last, hm, rfl, rfl, HL, hA⟩ := hrel
    by_cases hlt : m < l.length
    · have hmn : (m : Int) < (l.length : Int) := by omega
      obtain ⟨oad, hoe, ho1⟩ := Kd.at_int hA.out.hO (m : Int) (by omega) (by omega)
      subst hoe
      rw [Int.toNat_natCast, HO.out m hlt] at ho1
      have hbl := Hp.out.lt m hlt
      have hb1 : ¬ ((ob m : Nat) : Int) < 0 := by omega
      have hb2 : ((ob m : Nat) : Int) < (l.length : Int) := by omega
      have hb3 : (0 : Int) ≤ ((ob m : Nat) : Int) := by omega
      obtain ⟨ld, A5, c5, rfl, q0, q1, q2, q3, q4, q5, q6, q7⟩ := at_T37 hA.out.hl ((ob m : Nat) : Int) hb3 hb2
      rw [Int.toNat_natCast] at q0 q1 q2 q3 q4 q5
      have hpc := pure_calls (rd_T37 l (ob m : Nat)) A5 c5 wr q7 q6
      have HL1 := Aside0.mk (HL.out m (Nat.le_refl _) hlt)
      have HL2 : Aside0 (∀ j, m + 1 ≤ j → j < l.length → pureOf (rd_T37 l (ob j : Nat)) = false → last ≤ (ob j : Nat)) := ⟨fun j h1 h2 h3 => HL.out j (by omega) h2 h3⟩
      have HL3 := Aside0.mk (fun (h1 : pureOf (rd_T37 l (ob m : Nat)) = false) j (h2 : m + 1 ≤ j) (h3 : j < l.length) h4 => Int.le_of_lt (Int.ofNat_lt.2 (Hn.out m j h2 h3 h1 h4)))
      clear HL
      generalize hpp : pureOf (rd_T37 l (ob m : Nat)) = pb at hpc HL1 HL3
      clear hpp
      generalize rd_T37 l ((ob m : Nat) : Int) = x at q0 q1 q2 q3 q4 q5 q6 q7 hpc
      generalize ob m = b at *
      cases pb
      · have hlast := HL1.out rfl
        have hlast' : ¬ (b : Int) < last := by omega
        go_wp2_with fail
        refine hpc.mono ?_
        rintro e w' ⟨rfl, hb⟩
        have hA' := Aside0.mk (hA.out.below hb)
        have ho2 := pw_cell_below hb ho1
        clear hA q0 q1 q2 q3 q4 q5 q6 q7 ho1 hpc hb
        go_wp2_with fail
        go_roundw
        case rel => exact ⟨m + 1, b, by omega, rfl, by go_num, ⟨HL3.out trivial⟩, hA'⟩
        case measure => simp [intOf]; omega
      · go_wp2_with fail
        refine hpc.mono ?_
        rintro e w' ⟨rfl, hb⟩
        have hA' := Aside0.mk (hA.out.below hb)
        clear hA q0 q1 q2 q3 q4 q5 q6 q7 ho1 hpc hb
        go_wp2_with fail
        go_roundw
        case rel => exact ⟨m + 1, last, by omega, rfl, by go_num, HL2, hA'⟩
        case measure => simp [intOf]; omega
    · obtain rfl : m = l.length := by omega
      have hblk := block_c' l HF.out A c wr hA.out.hl hc
      go_wp2_with fail
      refine hblk.mono ?_
      rintro e w5 ⟨A8, c8, rfl, hC8, hc8, hB5⟩
      have hA5 := Aside0.mk (hA.out.below hB5)
      have hblk2 : ∀ W, Kd.C k37 W A8 l.length (again l) → Calls Try.prog 11 #[.agg #[.slice A8 l.length c8, .int .i64 0, .int .i64 0, .int .i64 0, .int .i64 0]] W fun e w' =>
          ∃ A c, e = .returned (.agg #[.slice A l.length c, .int .i64 0, .int .i64 0, .int .i64 0, .int .i64 0]) ∧ Kd.C k37 w' A l.length (again l) ∧ l.length ≤ c ∧ Below W.heap.size W w' := by
        intro W hW
        have := block_c' (again l) ⟨by rw [again_length]; omega, fun x hx => by
          unfold again at hx
          obtain ⟨k, hk, rfl⟩ := List.mem_map.1 hx
          have := orderOf_rng l k hk
          refine HF.out.2 _ ?_
          unfold rd_T37
          rw [List.getD_eq_getElem?_getD, List.getElem?_eq_getElem (show k.toNat < l.length by omega)]
          exact List.getElem_mem _⟩ A8 c8 W (by rw [again_length]; exact hW) (by rw [again_length]; exact hc8)
        rw [again_length, Haa.out] at this
        exact this
      clear hblk hA hB5
      go_wp2_with fail
      have g8h := World.alloc_heap_new w5 (.cells #[.slice A8 l.length c8, .int .i64 0, .int .i64 0, .int .i64 0, .int .i64 0] 29)
      have hb6 := below_alloc (Below.refl w5.heap.size w5) (.cells #[.slice A8 l.length c8, .int .i64 0, .int .i64 0, .int .i64 0, .int .i64 0] 29)
      have hA6 := Aside0.mk (hA5.out.below hb6)
      have hC86 := Kd.C_below hC8 hb6
      clear hA5 hC8 hb6
      generalize w5.alloc (.cells #[.slice A8 l.length c8, .int .i64 0, .int .i64 0, .int .i64 0, .int .i64 0] 29) = w6 at g8h hA6 hC86 ⊢
      generalize w5.heap.size = g8 at g8h ⊢
      refine (hblk2 w6 hC86).mono ?_
      rintro e w7 ⟨A9, c9, rfl, hC9, hc9, hB7⟩
      have hA7 := Aside0.mk (hA6.out.below hB7)
      have hC87 := Kd.C_below hC86 hB7
      have g8h7 := (hB7.block _ (blk_lt g8h)).trans g8h
      clear hA6 hC86 g8h hB7 hblk2
      have g9h := World.alloc_heap_new w7 (.cells #[.slice A9 l.length c9, .int .i64 0, .int .i64 0, .int .i64 0, .int .i64 0] 29)
      have hb8 := below_alloc (Below.refl w7.heap.size w7) (.cells #[.slice A9 l.length c9, .int .i64 0, .int .i64 0, .int .i64 0, .int .i64 0] 29)
      have hM : MB w A Ao l.length l O g8 w7.heap.size A8 A9 c8 c9 (w7.alloc (.cells #[.slice A9 l.length c9, .int .i64 0, .int .i64 0, .int .i64 0, .int .i64 0] 29)) :=
        ⟨hA7.out.below hb8, (hb8.block _ (blk_lt g8h7)).trans g8h7, g9h, Kd.C_below hC87 hb8, Kd.C_below hC9 hb8⟩
      clear hA7 hC87 g8h7 hC9 g9h hb8
      have k8 : (w7.alloc (.cells #[.slice A9 l.length c9, .int .i64 0, .int .i64 0, .int .i64 0, .int .i64 0] 29)).cell? ⟨g8, 0, none⟩ = some (.slice A8 l.length c8) := (blk_cell hM.h8 0).trans rfl
      have k9 : (w7.alloc (.cells #[.slice A9 l.length c9, .int .i64 0, .int .i64 0, .int .i64 0, .int .i64 0] 29)).cell? ⟨w7.heap.size, 0, none⟩ = some (.slice A9 l.length c9) := (blk_cell hM.h9 0).trans rfl
      have hM' := Aside0.mk hM
      clear hM
      go_wp2_with fail
      generalize w7.alloc (.cells #[.slice A9 l.length c9, .int .i64 0, .int .i64 0, .int .i64 0, .int .i64 0] 29) = w8 at hM' k8 k9 ⊢
      generalize w7.heap.size = g9 at hM' k8 k9 ⊢
      clear k8 k9
      go_loopw [10] (fun s wr => ∃ (m : Nat), m ≤ l.length ∧ s = .int .i64 m ∧ Aside0 (MB w A Ao l.length l O g8 g9 A8 A9 c8 c9 wr))
        (fun s _ => l.length - (intOf s).toNat)
      case atStart => exact ⟨0, Nat.zero_le _, rfl, hM'⟩
      case round =>
        clear hM'
        obtain ⟨m, hm, rfl, hM⟩ := hrel
        by_cases hlt : m < l.length
        · have hmn : (m : Int) < (l.length : Int) := by omega
          have hm0 : (0 : Int) ≤ (m : Int) := by omega
          obtain ⟨do_, hoe, ho⟩ := Kd.at_int hM.out.ma.hO (m : Int) hm0 hmn
          subst hoe
          rw [Int.toNat_natCast, HO.out m hlt] at ho
          have hbl := Hp.out.lt m hlt
          have hb1 : (0 : Int) ≤ ((ob m : Nat) : Int) := by omega
          have hb2 : ((ob m : Nat) : Int) < (l.length : Int) := by omega
          have hx5 := Aside0.mk (show (rd_T37 l (ob m : Nat)).f5.length ≤ 1000 from HF.out.2 _ (by
            unfold rd_T37
            rw [Int.toNat_natCast, List.getD_eq_getElem?_getD, List.getElem?_eq_getElem hbl]
            exact List.getElem_mem _))
          obtain ⟨dl, Al, cl, rfl, l0, l1, l2, l3, l4, l5, ll, ql⟩ := at_T37 hM.out.ma.hl ((ob m : Nat) : Int) hb1 hb2
          obtain ⟨db, Ab, cb, rfl, b0, b1, b2, b3, b4, b5, lb, qb⟩ := at_T37 hM.out.hb (m : Int) hm0 hmn
          obtain ⟨dc, Ac, cc, rfl, c0, c1, c2, c3, c4, c5, lc, qc⟩ := at_T37 hM.out.hc (m : Int) hm0 hmn
          have hxa := Hag.out m hlt
          rw [hxa] at b0 b1 b2 b3 b4 b5 lb qb c0 c1 c2 c3 c4 c5 lc qc
          rw [Int.toNat_natCast] at l0 l1 l2 l3 l4 l5 b0 b1 b2 b3 b4 b5 c0 c1 c2 c3 c4 c5
          have h8 : wr.cell? ⟨g8, 0, none⟩ = some (.slice (some db) l.length c8) := (blk_cell hM.out.h8 0).trans rfl
          have h9 : wr.cell? ⟨g9, 0, none⟩ = some (.slice (some dc) l.length c9) := (blk_cell hM.out.h9 0).trans rfl
          clear hxa
          generalize rd_T37 l ((ob m : Nat) : Int) = x at l0 l1 l2 l3 l4 l5 b0 b1 b2 b3 b4 b5 c0 c1 c2 c3 c4 c5 ll lb lc ql qb qc hx5
          generalize ob m = b at l0 l1 l2 l3 l4 l5 ho hb1 hb2
          clear hbl
          go_wp2_with fail
          refine start_ (n := 28) (S := fun w' => w'.cell? ⟨g8, 0, none⟩ = some (.slice (some db) l.length c8) ∧ w'.cell? ⟨g9, 0, none⟩ = some (.slice (some dc) l.length c9) ∧ w'.cell? (do_.add m) = some (.int .i64 (b : Nat)) ∧ w'.cell? (dl.add (b * 6)) = some (.int .i64 x.f0) ∧ w'.cell? ⟨(dl.add (b * 6)).block, (dl.add (b * 6)).off + 1, none⟩ = some (.int .i64 x.f1) ∧ w'.cell? ⟨(dl.add (b * 6)).block, (dl.add (b * 6)).off + 2, none⟩ = some (.int .i64 x.f2) ∧ w'.cell? ⟨(dl.add (b * 6)).block, (dl.add (b * 6)).off + 3, none⟩ = some (.int .i64 x.f3) ∧ w'.cell? ⟨(dl.add (b * 6)).block, (dl.add (b * 6)).off + 4, none⟩ = some (.int .i64 x.f4) ∧ w'.cell? ⟨(dl.add (b * 6)).block, (dl.add (b * 6)).off + 5, none⟩ = some (.slice Al x.f5.length cl) ∧ w'.cell? (db.add (m * 6)) = some (.int .i64 x.f0) ∧ w'.cell? ⟨(db.add (m * 6)).block, (db.add (m * 6)).off + 1, none⟩ = some (.int .i64 x.f1) ∧ w'.cell? ⟨(db.add (m * 6)).block, (db.add (m * 6)).off + 2, none⟩ = some (.int .i64 x.f2) ∧ w'.cell? ⟨(db.add (m * 6)).block, (db.add (m * 6)).off + 3, none⟩ = some (.int .i64 x.f3) ∧ w'.cell? ⟨(db.add (m * 6)).block, (db.add (m * 6)).off + 4, none⟩ = some (.int .i64 x.f4) ∧ w'.cell? ⟨(db.add (m * 6)).block, (db.add (m * 6)).off + 5, none⟩ = some (.slice Ab x.f5.length cb) ∧ w'.cell? (dc.add (m * 6)) = some (.int .i64 x.f0) ∧ w'.cell? ⟨(dc.add (m * 6)).block, (dc.add (m * 6)).off + 1, none⟩ = some (.int .i64 x.f1) ∧ w'.cell? ⟨(dc.add (m * 6)).block, (dc.add (m * 6)).off + 2, none⟩ = some (.int .i64 x.f2) ∧ w'.cell? ⟨(dc.add (m * 6)).block, (dc.add (m * 6)).off + 3, none⟩ = some (.int .i64 x.f3) ∧ w'.cell? ⟨(dc.add (m * 6)).block, (dc.add (m * 6)).off + 4, none⟩ = some (.int .i64 x.f4) ∧ w'.cell? ⟨(dc.add (m * 6)).block, (dc.add (m * 6)).off + 5, none⟩ = some (.slice Ac x.f5.length cc)) (ds := []) #[false, false, false, false, false, false, false, false, false, false, false, false, false, false, false, false, false, false, false, false, false, false, false, false, false, false, false, false] (by kernel_rfl) rfl rfl ⟨h8, h9, ho, l0, l1, l2, l3, l4, l5, b0, b1, b2, b3, b4, b5, c0, c1, c2, c3, c4, c5⟩ (fun hHeld => ?_)
          have hd1 := pw_below_drewN (Below.refl wr.heap.size wr) 1
          have hJ := Aside0.mk (hM.out.below hd1)
          replace ql := Aside0.mk (Kd.C_below ql hd1)
          replace qb := Aside0.mk (Kd.C_below qb hd1)
          replace qc := Aside0.mk (Kd.C_below qc hd1)
          change Aside0 (MB _ _ _ _ _ _ _ _ _ _ _ _ wr.drew) at hJ
          change Aside0 (Kd.C _ wr.drew _ _ _) at ql
          change Aside0 (Kd.C _ wr.drew _ _ _) at qb
          change Aside0 (Kd.C _ wr.drew _ _ _) at qc
          clear hM hd1 h8 h9 ho l0 l1 l2 l3 l4 l5 b0 b1 b2 b3 b4 b5 c0 c1 c2 c3 c4 c5
          generalize wr.drew = W1 at hJ ql qb qc hHeld ⊢
          refine pure_ (i := 0) (N := some 94) (v := ?_) (a' := ?_) #[true, false, false, false, false, false, false, false, false, false, false, false, false, false, false, false, false, false, false, false, false, false, false, false, false, false, false, false] rfl rfl (by kernel_rfl) (fun _ _ _ h => h) (Or.inl ⟨by rfl, ?_⟩) ?_ ?_
          rotate_left
          · intro w'
            go_simp
            try with_reducible rfl
          rotate_left
          · simp only [Act.put, List.setIfInBounds_toArray, List.set_cons_zero, List.set_cons_succ, i64_w, i32_w]
            rfl
          refine pure_ (i := 2) (N := some 96) (v := ?_) (a' := ?_) #[true, false, true, false, false, false, false, false, false, false, false, false, false, false, false, false, false, false, false, false, false, false, false, false, false, false, false, false] rfl rfl (by kernel_rfl) (fun _ _ _ h => h) (Or.inl ⟨by rfl, ?_⟩) ?_ ?_
          rotate_left
          · intro w'
            go_simp
            try with_reducible rfl
          rotate_left
          · simp only [Act.put, List.setIfInBounds_toArray, List.set_cons_zero, List.set_cons_succ, i64_w, i32_w]
            rfl
          refine pure_ (i := 5) (N := some 99) (v := ?_) (a' := ?_) #[true, false, true, false, false, true, false, false, false, false, false, false, false, false, false, false, false, false, false, false, false, false, false, false, false, false, false, false] rfl rfl (by kernel_rfl) (fun _ _ _ h => h) (Or.inl ⟨by rfl, ?_⟩) ?_ ?_
          rotate_left
          · intro w'
            go_simp
            try with_reducible rfl
          rotate_left
          · simp only [Act.put, List.setIfInBounds_toArray, List.set_cons_zero, List.set_cons_succ, i64_w, i32_w]
            rfl
          refine pure_ (i := 6) (N := some 100) (v := ?_) (a' := ?_) #[true, false, true, false, false, true, true, false, false, false, false, false, false, false, false, false, false, false, false, false, false, false, false, false, false, false, false, false] rfl rfl (by kernel_rfl) (fun _ _ _ h => h) (Or.inl ⟨by rfl, ?_⟩) ?_ ?_
          rotate_left
          · intro w'
            go_simp
            try with_reducible rfl
          rotate_left
          · simp only [Act.put, List.setIfInBounds_toArray, List.set_cons_zero, List.set_cons_succ, i64_w, i32_w]
            rfl
          refine pure_ (i := 7) (N := some 101) (v := ?_) (a' := ?_) #[true, false, true, false, false, true, true, true, false, false, false, false, false, false, false, false, false, false, false, false, false, false, false, false, false, false, false, false] rfl rfl (by kernel_rfl) (fun _ _ _ h => h) (Or.inl ⟨by rfl, ?_⟩) ?_ ?_
          rotate_left
          · intro w'
            go_simp
            try with_reducible rfl
          rotate_left
          · simp only [Act.put, List.setIfInBounds_toArray, List.set_cons_zero, List.set_cons_succ, i64_w, i32_w]
            rfl
          refine take_ (i := 1) (N := some 95) (v := ?_) (a' := ?_) #[true, true, true, false, false, true, true, true, false, false, false, false, false, false, false, false, false, false, false, false, false, false, false, false, false, false, false, false] rfl rfl (by kernel_rfl) (fun _ _ _ h => h) (Or.inl ⟨by rfl, ?_⟩) hHeld ?_ ?_
          rotate_left
          · rintro w' ⟨s0, s1, s2, s3, s4, s5, s6, s7, s8, s9, s10, s11, s12, s13, s14, s15, s16, s17, s18, s19, s20⟩
            go_simp
            try with_reducible rfl
          rotate_left
          · simp only [Act.put, List.setIfInBounds_toArray, List.set_cons_zero, List.set_cons_succ, i64_w, i32_w]
            rfl
          refine pure_ (i := 3) (N := some 97) (v := ?_) (a' := ?_) #[true, true, true, true, false, true, true, true, false, false, false, false, false, false, false, false, false, false, false, false, false, false, false, false, false, false, false, false] rfl rfl (by kernel_rfl) (fun _ _ _ h => h) (Or.inl ⟨by rfl, ?_⟩) ?_ ?_
          rotate_left
          · intro w'
            go_simp
            try with_reducible rfl
          rotate_left
          · simp only [Act.put, List.setIfInBounds_toArray, List.set_cons_zero, List.set_cons_succ, i64_w, i32_w]
            rfl
          refine take_ (i := 4) (N := some 98) (v := ?_) (a' := ?_) #[true, true, true, true, true, true, true, true, false, false, false, false, false, false, false, false, false, false, false, false, false, false, false, false, false, false, false, false] rfl rfl (by kernel_rfl) (fun _ _ _ h => h) (Or.inl ⟨by rfl, ?_⟩) hHeld ?_ ?_
          rotate_left
          · rintro w' ⟨s0, s1, s2, s3, s4, s5, s6, s7, s8, s9, s10, s11, s12, s13, s14, s15, s16, s17, s18, s19, s20⟩
            go_simp
            try with_reducible rfl
          rotate_left
          · simp only [Act.put, List.setIfInBounds_toArray, List.set_cons_zero, List.set_cons_succ, i64_w, i32_w]
            rfl
          refine pure_ (i := 8) (N := some 102) (v := ?_) (a' := ?_) #[true, true, true, true, true, true, true, true, true, false, false, false, false, false, false, false, false, false, false, false, false, false, false, false, false, false, false, false] rfl rfl (by kernel_rfl) (fun _ _ _ h => h) (Or.inl ⟨by rfl, ?_⟩) ?_ ?_
          rotate_left
          · intro w'
            go_simp
            try with_reducible rfl
          rotate_left
          · simp only [Act.put, List.setIfInBounds_toArray, List.set_cons_zero, List.set_cons_succ, i64_w, i32_w]
            rfl
          refine take_ (i := 9) (N := some 103) (v := ?_) (a' := ?_) #[true, true, true, true, true, true, true, true, true, true, false, false, false, false, false, false, false, false, false, false, false, false, false, false, false, false, false, false] rfl rfl (by kernel_rfl) (fun _ _ _ h => h) (Or.inl ⟨by rfl, ?_⟩) hHeld ?_ ?_
          rotate_left
          · rintro w' ⟨s0, s1, s2, s3, s4, s5, s6, s7, s8, s9, s10, s11, s12, s13, s14, s15, s16, s17, s18, s19, s20⟩
            go_simp
            try with_reducible rfl
          rotate_left
          · simp only [Act.put, List.setIfInBounds_toArray, List.set_cons_zero, List.set_cons_succ, i64_w, i32_w]
            rfl
          refine pure_ (i := 10) (N := some 104) (v := ?_) (a' := ?_) #[true, true, true, true, true, true, true, true, true, true, true, false, false, false, false, false, false, false, false, false, false, false, false, false, false, false, false, false] rfl rfl (by kernel_rfl) (fun _ _ _ h => h) (Or.inl ⟨by rfl, ?_⟩) ?_ ?_
          rotate_left
          · intro w'
            go_simp
            try with_reducible rfl
          rotate_left
          · simp only [Act.put, List.setIfInBounds_toArray, List.set_cons_zero, List.set_cons_succ, i64_w, i32_w]
            rfl
          refine take_ (i := 11) (N := some 105) (v := ?_) (a' := ?_) #[true, true, true, true, true, true, true, true, true, true, true, true, false, false, false, false, false, false, false, false, false, false, false, false, false, false, false, false] rfl rfl (by kernel_rfl) (fun _ _ _ h => h) (Or.inl ⟨by rfl, ?_⟩) hHeld ?_ ?_
          rotate_left
          · rintro w' ⟨s0, s1, s2, s3, s4, s5, s6, s7, s8, s9, s10, s11, s12, s13, s14, s15, s16, s17, s18, s19, s20⟩
            go_simp
            try with_reducible rfl
          rotate_left
          · simp only [Act.put, List.setIfInBounds_toArray, List.set_cons_zero, List.set_cons_succ, i64_w, i32_w]
            rfl
          refine one_ (i := 12) (N := some 106) #[true, true, true, true, true, true, true, true, true, true, true, true, true, false, false, false, false, false, false, false, false, false, false, false, false, false, false, false] rfl rfl (by kernel_rfl) (by decide) (fun K hK => ?_)
          refine call_ 29 _ (by rfl) rfl (by go_simp; rfl) ?_
          refine (same_calls' x Ab cb Al cl _ (qb.out) lb (ql.out) ll hx5.out).mono ?_
          rintro e w2 ⟨rfl, hb2⟩
          refine ⟨_, rfl, ?_⟩
          have hJ2 := Aside0.mk (hJ.out.below hb2)
          have ql2 := Aside0.mk (Kd.C_below ql.out hb2)
          have qb2 := Aside0.mk (Kd.C_below qb.out hb2)
          have qc2 := Aside0.mk (Kd.C_below qc.out hb2)
          refine hK.out _ _ ⟨pw_cell_below hb2 hHeld.1, pw_cell_below hb2 hHeld.2.1, pw_cell_below hb2 hHeld.2.2.1, pw_cell_below hb2 hHeld.2.2.2.1, pw_cell_below hb2 hHeld.2.2.2.2.1, pw_cell_below hb2 hHeld.2.2.2.2.2.1, pw_cell_below hb2 hHeld.2.2.2.2.2.2.1, pw_cell_below hb2 hHeld.2.2.2.2.2.2.2.1, pw_cell_below hb2 hHeld.2.2.2.2.2.2.2.2.1, pw_cell_below hb2 hHeld.2.2.2.2.2.2.2.2.2.1, pw_cell_below hb2 hHeld.2.2.2.2.2.2.2.2.2.2.1, pw_cell_below hb2 hHeld.2.2.2.2.2.2.2.2.2.2.2.1, pw_cell_below hb2 hHeld.2.2.2.2.2.2.2.2.2.2.2.2.1, pw_cell_below hb2 hHeld.2.2.2.2.2.2.2.2.2.2.2.2.2.1, pw_cell_below hb2 hHeld.2.2.2.2.2.2.2.2.2.2.2.2.2.2.1, pw_cell_below hb2 hHeld.2.2.2.2.2.2.2.2.2.2.2.2.2.2.2.1, pw_cell_below hb2 hHeld.2.2.2.2.2.2.2.2.2.2.2.2.2.2.2.2.1, pw_cell_below hb2 hHeld.2.2.2.2.2.2.2.2.2.2.2.2.2.2.2.2.2.1, pw_cell_below hb2 hHeld.2.2.2.2.2.2.2.2.2.2.2.2.2.2.2.2.2.2.1, pw_cell_below hb2 hHeld.2.2.2.2.2.2.2.2.2.2.2.2.2.2.2.2.2.2.2.1, pw_cell_below hb2 hHeld.2.2.2.2.2.2.2.2.2.2.2.2.2.2.2.2.2.2.2.2⟩ (fun hHeld => ?_)
          clear hJ ql qb qc
          have hJ := hJ2
          have ql := ql2
          have qb := qb2
          have qc := qc2
          clear hJ2 ql2 qb2 qc2 hb2
          clear hK K
          refine norm_ (a' := ?_) ?_ ?_
          rotate_left
          · show Act.put _ (some 106) _ = _
            simp only [Act.put, List.setIfInBounds_toArray, List.set_cons_zero, List.set_cons_succ, i64_w, i32_w]
            rfl
          refine pure_ (i := 13) (N := some 107) (v := ?_) (a' := ?_) #[true, true, true, true, true, true, true, true, true, true, true, true, true, true, false, false, false, false, false, false, false, false, false, false, false, false, false, false] rfl rfl (by kernel_rfl) (fun _ _ _ h => h) (Or.inl ⟨by rfl, ?_⟩) ?_ ?_
          rotate_left
          · intro w'
            go_simp
            try with_reducible rfl
          rotate_left
          · simp only [Act.put, List.setIfInBounds_toArray, List.set_cons_zero, List.set_cons_succ, i64_w, i32_w]
            rfl
          refine pure_ (i := 14) (N := some 108) (v := ?_) (a' := ?_) #[true, true, true, true, true, true, true, true, true, true, true, true, true, true, true, false, false, false, false, false, false, false, false, false, false, false, false, false] rfl rfl (by kernel_rfl) (fun _ _ _ h => h) (Or.inl ⟨by rfl, ?_⟩) ?_ ?_
          rotate_left
          · intro w'
            go_simp
            try with_reducible rfl
          rotate_left
          · simp only [Act.put, List.setIfInBounds_toArray, List.set_cons_zero, List.set_cons_succ, i64_w, i32_w]
            rfl
          refine pure_ (i := 15) (N := some 109) (v := ?_) (a' := ?_) #[true, true, true, true, true, true, true, true, true, true, true, true, true, true, true, true, false, false, false, false, false, false, false, false, false, false, false, false] rfl rfl (by kernel_rfl) (fun _ _ _ h => h) (Or.inl ⟨by rfl, ?_⟩) ?_ ?_
          rotate_left
          · intro w'
            go_simp
            try with_reducible rfl
          rotate_left
          · simp only [Act.put, List.setIfInBounds_toArray, List.set_cons_zero, List.set_cons_succ, i64_w, i32_w]
            rfl
          refine pure_ (i := 17) (N := some 111) (v := ?_) (a' := ?_) #[true, true, true, true, true, true, true, true, true, true, true, true, true, true, true, true, false, true, false, false, false, false, false, false, false, false, false, false] rfl rfl (by kernel_rfl) (fun _ _ _ h => h) (Or.inl ⟨by rfl, ?_⟩) ?_ ?_
          rotate_left
          · intro w'
            go_simp
            try with_reducible rfl
          rotate_left
          · simp only [Act.put, List.setIfInBounds_toArray, List.set_cons_zero, List.set_cons_succ, i64_w, i32_w]
            rfl
          refine pure_ (i := 20) (N := some 114) (v := ?_) (a' := ?_) #[true, true, true, true, true, true, true, true, true, true, true, true, true, true, true, true, false, true, false, false, true, false, false, false, false, false, false, false] rfl rfl (by kernel_rfl) (fun _ _ _ h => h) (Or.inl ⟨by rfl, ?_⟩) ?_ ?_
          rotate_left
          · intro w'
            go_simp
            try with_reducible rfl
          rotate_left
          · simp only [Act.put, List.setIfInBounds_toArray, List.set_cons_zero, List.set_cons_succ, i64_w, i32_w]
            rfl
          refine pure_ (i := 22) (N := some 116) (v := ?_) (a' := ?_) #[true, true, true, true, true, true, true, true, true, true, true, true, true, true, true, true, false, true, false, false, true, false, true, false, false, false, false, false] rfl rfl (by kernel_rfl) (fun _ _ _ h => h) (Or.inl ⟨by rfl, ?_⟩) ?_ ?_
          rotate_left
          · intro w'
            go_simp
            try with_reducible rfl
          rotate_left
          · simp only [Act.put, List.setIfInBounds_toArray, List.set_cons_zero, List.set_cons_succ, i64_w, i32_w]
            rfl
          refine take_ (i := 16) (N := some 110) (v := ?_) (a' := ?_) #[true, true, true, true, true, true, true, true, true, true, true, true, true, true, true, true, true, true, false, false, true, false, true, false, false, false, false, false] rfl rfl (by kernel_rfl) (fun _ _ _ h => h) (Or.inl ⟨by rfl, ?_⟩) hHeld ?_ ?_
          rotate_left
          · rintro w' ⟨s0, s1, s2, s3, s4, s5, s6, s7, s8, s9, s10, s11, s12, s13, s14, s15, s16, s17, s18, s19, s20⟩
            go_simp
            try with_reducible rfl
          rotate_left
          · simp only [Act.put, List.setIfInBounds_toArray, List.set_cons_zero, List.set_cons_succ, i64_w, i32_w]
            rfl
          refine take_ (i := 21) (N := some 115) (v := ?_) (a' := ?_) #[true, true, true, true, true, true, true, true, true, true, true, true, true, true, true, true, true, true, false, false, true, true, true, false, false, false, false, false] rfl rfl (by kernel_rfl) (fun _ _ _ h => h) (Or.inl ⟨by rfl, ?_⟩) hHeld ?_ ?_
          rotate_left
          · rintro w' ⟨s0, s1, s2, s3, s4, s5, s6, s7, s8, s9, s10, s11, s12, s13, s14, s15, s16, s17, s18, s19, s20⟩
            go_simp
            try with_reducible rfl
          rotate_left
          · simp only [Act.put, List.setIfInBounds_toArray, List.set_cons_zero, List.set_cons_succ, i64_w, i32_w]
            rfl
          refine pure_ (i := 18) (N := some 112) (v := ?_) (a' := ?_) #[true, true, true, true, true, true, true, true, true, true, true, true, true, true, true, true, true, true, true, false, true, true, true, false, false, false, false, false] rfl rfl (by kernel_rfl) (fun _ _ _ h => h) (Or.inl ⟨by rfl, ?_⟩) ?_ ?_
          rotate_left
          · intro w'
            go_simp
            try with_reducible rfl
          rotate_left
          · simp only [Act.put, List.setIfInBounds_toArray, List.set_cons_zero, List.set_cons_succ, i64_w, i32_w]
            rfl
          refine pure_ (i := 23) (N := some 117) (v := ?_) (a' := ?_) #[true, true, true, true, true, true, true, true, true, true, true, true, true, true, true, true, true, true, true, false, true, true, true, true, false, false, false, false] rfl rfl (by kernel_rfl) (fun _ _ _ h => h) (Or.inl ⟨by rfl, ?_⟩) ?_ ?_
          rotate_left
          · intro w'
            go_simp
            try with_reducible rfl
          rotate_left
          · simp only [Act.put, List.setIfInBounds_toArray, List.set_cons_zero, List.set_cons_succ, i64_w, i32_w]
            rfl
          refine take_ (i := 19) (N := some 113) (v := ?_) (a' := ?_) #[true, true, true, true, true, true, true, true, true, true, true, true, true, true, true, true, true, true, true, true, true, true, true, true, false, false, false, false] rfl rfl (by kernel_rfl) (fun _ _ _ h => h) (Or.inl ⟨by rfl, ?_⟩) hHeld ?_ ?_
          rotate_left
          · rintro w' ⟨s0, s1, s2, s3, s4, s5, s6, s7, s8, s9, s10, s11, s12, s13, s14, s15, s16, s17, s18, s19, s20⟩
            go_simp
            try with_reducible rfl
          rotate_left
          · simp only [Act.put, List.setIfInBounds_toArray, List.set_cons_zero, List.set_cons_succ, i64_w, i32_w]
            rfl
          refine take_ (i := 24) (N := some 118) (v := ?_) (a' := ?_) #[true, true, true, true, true, true, true, true, true, true, true, true, true, true, true, true, true, true, true, true, true, true, true, true, true, false, false, false] rfl rfl (by kernel_rfl) (fun _ _ _ h => h) (Or.inl ⟨by rfl, ?_⟩) hHeld ?_ ?_
          rotate_left
          · rintro w' ⟨s0, s1, s2, s3, s4, s5, s6, s7, s8, s9, s10, s11, s12, s13, s14, s15, s16, s17, s18, s19, s20⟩
            go_simp
            try with_reducible rfl
          rotate_left
          · simp only [Act.put, List.setIfInBounds_toArray, List.set_cons_zero, List.set_cons_succ, i64_w, i32_w]
            rfl
          refine one_ (i := 25) (N := some 119) #[true, true, true, true, true, true, true, true, true, true, true, true, true, true, true, true, true, true, true, true, true, true, true, true, true, true, false, false] rfl rfl (by kernel_rfl) (by decide) (fun K hK => ?_)
          refine call_ 29 _ (by rfl) rfl (by go_simp; rfl) ?_
          refine (same_calls' x Ac cc Ab cb _ (qc.out) lc (qb.out) lb hx5.out).mono ?_
          rintro e w2 ⟨rfl, hb2⟩
          refine ⟨_, rfl, ?_⟩
          have hJ2 := Aside0.mk (hJ.out.below hb2)
          have ql2 := Aside0.mk (Kd.C_below ql.out hb2)
          have qb2 := Aside0.mk (Kd.C_below qb.out hb2)
          have qc2 := Aside0.mk (Kd.C_below qc.out hb2)
          refine hK.out _ _ ⟨pw_cell_below hb2 hHeld.1, pw_cell_below hb2 hHeld.2.1, pw_cell_below hb2 hHeld.2.2.1, pw_cell_below hb2 hHeld.2.2.2.1, pw_cell_below hb2 hHeld.2.2.2.2.1, pw_cell_below hb2 hHeld.2.2.2.2.2.1, pw_cell_below hb2 hHeld.2.2.2.2.2.2.1, pw_cell_below hb2 hHeld.2.2.2.2.2.2.2.1, pw_cell_below hb2 hHeld.2.2.2.2.2.2.2.2.1, pw_cell_below hb2 hHeld.2.2.2.2.2.2.2.2.2.1, pw_cell_below hb2 hHeld.2.2.2.2.2.2.2.2.2.2.1, pw_cell_below hb2 hHeld.2.2.2.2.2.2.2.2.2.2.2.1, pw_cell_below hb2 hHeld.2.2.2.2.2.2.2.2.2.2.2.2.1, pw_cell_below hb2 hHeld.2.2.2.2.2.2.2.2.2.2.2.2.2.1, pw_cell_below hb2 hHeld.2.2.2.2.2.2.2.2.2.2.2.2.2.2.1, pw_cell_below hb2 hHeld.2.2.2.2.2.2.2.2.2.2.2.2.2.2.2.1, pw_cell_below hb2 hHeld.2.2.2.2.2.2.2.2.2.2.2.2.2.2.2.2.1, pw_cell_below hb2 hHeld.2.2.2.2.2.2.2.2.2.2.2.2.2.2.2.2.2.1, pw_cell_below hb2 hHeld.2.2.2.2.2.2.2.2.2.2.2.2.2.2.2.2.2.2.1, pw_cell_below hb2 hHeld.2.2.2.2.2.2.2.2.2.2.2.2.2.2.2.2.2.2.2.1, pw_cell_below hb2 hHeld.2.2.2.2.2.2.2.2.2.2.2.2.2.2.2.2.2.2.2.2⟩ (fun hHeld => ?_)
          clear hJ ql qb qc
          have hJ := hJ2
          have ql := ql2
          have qb := qb2
          have qc := qc2
          clear hJ2 ql2 qb2 qc2 hb2
          clear hK K
          refine norm_ (a' := ?_) ?_ ?_
          rotate_left
          · show Act.put _ (some 119) _ = _
            simp only [Act.put, List.setIfInBounds_toArray, List.set_cons_zero, List.set_cons_succ, i64_w, i32_w]
            rfl
          refine pure_ (i := 26) (N := some 120) (v := ?_) (a' := ?_) #[true, true, true, true, true, true, true, true, true, true, true, true, true, true, true, true, true, true, true, true, true, true, true, true, true, true, true, false] rfl rfl (by kernel_rfl) (fun _ _ _ h => h) (Or.inl ⟨by rfl, ?_⟩) ?_ ?_
          rotate_left
          · intro w'
            go_simp
            try with_reducible rfl
          rotate_left
          · simp only [Act.put, List.setIfInBounds_toArray, List.set_cons_zero, List.set_cons_succ, i64_w, i32_w]
            rfl
          refine pure_ (i := 27) (N := some 121) (v := ?_) (a' := ?_) #[true, true, true, true, true, true, true, true, true, true, true, true, true, true, true, true, true, true, true, true, true, true, true, true, true, true, true, true] rfl rfl (by kernel_rfl) (fun _ _ _ h => h) (Or.inl ⟨by rfl, ?_⟩) ?_ ?_
          rotate_left
          · intro w'
            go_simp
            try with_reducible rfl
          rotate_left
          · simp only [Act.put, List.setIfInBounds_toArray, List.set_cons_zero, List.set_cons_succ, i64_w, i32_w]
            rfl
          refine done_ (by kernel_rfl) ?_
          try go_wp2
          go_roundw
          case rel => exact ⟨m + 1, by omega, by go_num, hJ⟩
          case measure => simp [intOf]; omega
        · obtain rfl : m = l.length := by omega
          have hB := Aside0.mk hM.out.ma.hB
          clear hM
          go_wp2_with fail
          go_ret
          exact ⟨rfl, hB.out⟩
#print axioms law_may
end Go.Proofs.Ytphmlkbmnmicpaa.A

/- What comes in, opened: a datum that is trodden at a type is a value of the kind. -/
namespace Go.Proofs.Ytphmlkbmnmicpaa.A
open Go.Deep Go.RowKit Go.Proofs.YtphmlkbmnmicpaaW.PrintWords Go.Proofs.YtphmlkbmnmicpaaW.PrintLast
set_option linter.unusedVariables false
set_option linter.unusedSimpArgs false

section
variable {H : Type} {enc : TypeId × Value → H} {P : Program} {w : World} {base : Nat} {α : Type} [Inhabited α]

def Opens (enc : TypeId × Value → H) (P : Program) (w : World) (base : Nat) (t : TypeId) (d : Kd α) (p : α → Prop) : Prop :=
  ∀ fuel cs x, DataW.trod enc P w base (fun _ => true) true fuel t cs = some x → ∃ y, d.K w y cs ∧ p y

theorem opens_int {t : TypeId} {k : IntKind} (ht : P.underlying t = some (.int k)) : Opens enc P w base t (Kd.int k) (fun n => (Lit.int k n).wf = true) := by
  intro fuel cs x h
  obtain ⟨n, rfl, _, hw⟩ := DataW.trod_int ht h
  exact ⟨n, rfl, hw⟩

theorem opens_slice {t e : TypeId} {d : Kd α} {p : α → Prop} (ht : P.underlying t = some (.slice e)) (hc : P.cellsOf e = d.sz) (ho : Opens enc P w base e d p) : Opens enc P w base t (Kd.slice e d) (fun xs => ∀ x ∈ xs, p x) := by
  intro fuel cs x h
  rcases open_slice ht h with ⟨rfl, _⟩ | ⟨a, len, cap, m, n, D, Pl, rfl, hb, hl, hm, hmm, _, hx⟩
  · exact ⟨[], ⟨none, 0, rfl, Nat.le_refl _, rfl, by simp, fun h => by simp at h⟩, fun x hx => by simp at hx⟩
  · simp only [if_true] at hmm
    obtain ⟨Y, hY⟩ := choose_lt (α := α) (n := len) (p := fun i y => p y ∧ ∃ c, d.K w y c ∧ ∀ j u, c[j]? = some u → w.cell? (a.add (i * d.sz + j)) = some u) (fun i hi => by
      obtain ⟨cs', h1, h2⟩ := hx i (by omega)
      obtain ⟨y, hy, hp⟩ := ho _ _ _ h2
      obtain ⟨_, hlen, hcell⟩ := World.cells?_some h1
      refine ⟨y, hp, cs', hy, fun j u hj => ?_⟩
      have hj' : j < cs'.length := (List.getElem?_eq_some_iff.1 hj).1
      have := hcell j (by omega)
      rw [hj, hc] at this
      rwa [Addr.add_add] at this)
    have hlen : ((List.range len).map Y).length = len := by simp
    refine ⟨(List.range len).map Y, ⟨some a, cap, by rw [hlen], by rw [hlen]; exact hl, hlen.trans hlen.symm, by rw [hlen]; unfold maxLen at hm; omega, fun _ => ⟨a, rfl, fun j y hj => ?_⟩⟩, fun y hy => ?_⟩
    · have hjl : j < len := by have := (List.getElem?_eq_some_iff.1 hj).1; omega
      rw [List.getElem?_map, List.getElem?_range hjl] at hj
      obtain rfl := Option.some.inj hj
      obtain ⟨_, c, hk, hcell⟩ := hY j hjl
      exact ⟨c, d.K_len hk, hk, hcell⟩
    · obtain ⟨i, hi, rfl⟩ := List.mem_map.1 hy
      exact (hY i (List.mem_range.1 hi)).1
omit [Inhabited α] in
/-- of a parameter: a slice -/
theorem opens_param {t e : TypeId} {d : Kd α} {p : List α → Prop} (ho : Opens enc P w base t (Kd.slice e d) p) {A : Option Addr} {len cap : Nat} {x : DataW H} {ps : List MemPlace} (h : DataW.Trod enc P w base (fun _ => true) true t (.slice A len cap) x ps) :
    ∃ xs : List α, len = xs.length ∧ xs.length ≤ cap ∧ d.C w A xs.length xs ∧ p xs := by
  obtain ⟨fuel, hf⟩ := h
  obtain ⟨xs, ⟨A', c', he, hl, hC⟩, hp⟩ := ho _ _ _ hf
  simp [Value.cells] at he
  obtain ⟨rfl, rfl, rfl⟩ := he
  exact ⟨xs, rfl, hl, hC, hp⟩
end

instance : Inhabited S37 := ⟨z37⟩
theorem opens_op {H : Type} {enc : TypeId × Value → H} {w : World} {base : Nat} : Opens enc Try.prog w base 37 k37 (fun _ => True) := by
  intro fuel cs x h
  obtain ⟨xs, n, _, _, hl, hlen, hf⟩ := DataW.trod_struct Try.underlying37 h
  have hl' : cs.length = 6 := hl.trans (by kernel_rfl)
  match cs, hl' with
  | [c0, c1, c2, c3, c4, c5], _ =>
    have int_ : ∀ (i : Nat) (c : Value), DataW.trod enc Try.prog w base (fun _ => true) true n 3 [c] = xs[i]? → i < 6 → ∃ m, c = .int .i64 m := by
      intro i c h hi
      have : i < xs.length := by rw [hlen]; exact hi
      rw [List.getElem?_eq_getElem this] at h
      obtain ⟨m, hm, _, _⟩ := DataW.trod_int Try.underlying3 h
      exact ⟨m, by simpa using hm⟩
    have h0 : DataW.trod enc Try.prog w base (fun _ => true) true n 3 (([c0, c1, c2, c3, c4, c5].drop 0).take (Try.prog.cellsOf 3)) = xs[0]? := hf 0 _ rfl
    have h1 : DataW.trod enc Try.prog w base (fun _ => true) true n 3 (([c0, c1, c2, c3, c4, c5].drop 1).take (Try.prog.cellsOf 3)) = xs[1]? := hf 1 _ rfl
    have h2 : DataW.trod enc Try.prog w base (fun _ => true) true n 3 (([c0, c1, c2, c3, c4, c5].drop 2).take (Try.prog.cellsOf 3)) = xs[2]? := hf 2 _ rfl
    have h3 : DataW.trod enc Try.prog w base (fun _ => true) true n 3 (([c0, c1, c2, c3, c4, c5].drop 3).take (Try.prog.cellsOf 3)) = xs[3]? := hf 3 _ rfl
    have h4 : DataW.trod enc Try.prog w base (fun _ => true) true n 3 (([c0, c1, c2, c3, c4, c5].drop 4).take (Try.prog.cellsOf 3)) = xs[4]? := hf 4 _ rfl
    have h5 : DataW.trod enc Try.prog w base (fun _ => true) true n 23 (([c0, c1, c2, c3, c4, c5].drop 5).take (Try.prog.cellsOf 23)) = xs[5]? := hf 5 _ rfl
    rw [show Try.prog.cellsOf 3 = 1 by kernel_rfl] at h0 h1 h2 h3 h4
    rw [show Try.prog.cellsOf 23 = 1 by kernel_rfl] at h5
    obtain ⟨m0, rfl⟩ := int_ 0 c0 h0 (by omega)
    obtain ⟨m1, rfl⟩ := int_ 1 c1 h1 (by omega)
    obtain ⟨m2, rfl⟩ := int_ 2 c2 h2 (by omega)
    obtain ⟨m3, rfl⟩ := int_ 3 c3 h3 (by omega)
    obtain ⟨m4, rfl⟩ := int_ 4 c4 h4 (by omega)
    have h5' : 5 < xs.length := by rw [hlen]; decide
    rw [List.getElem?_eq_getElem h5'] at h5
    obtain ⟨ys, ⟨A, c, he, hl5, hC⟩, _⟩ := opens_slice (d := Kd.int .i64) Try.underlying23 (by kernel_rfl) (opens_int Try.underlying3) _ _ _ h5
    have he' : c5 = .slice A ys.length c := by simpa using he
    subst he'
    exact ⟨⟨m0, m1, m2, m3, m4, ys⟩, k37_mk w ⟨m0, m1, m2, m3, m4, ys⟩ hl5 hC, trivial⟩
theorem opens_ops {H : Type} {enc : TypeId × Value → H} {w : World} {base : Nat} : Opens enc Try.prog w base 22 (Kd.slice 37 k37) (fun xs => ∀ x ∈ xs, True) := opens_slice Try.underlying22 (by kernel_rfl) opens_op
theorem opens_ints {H : Type} {enc : TypeId × Value → H} {w : World} {base : Nat} : Opens enc Try.prog w base 23 (Kd.slice 3 (Kd.int .i64)) (fun xs => ∀ x ∈ xs, (Lit.int .i64 x).wf = true) := opens_slice Try.underlying23 (by kernel_rfl) (opens_int Try.underlying3)
#print axioms opens_ops
end Go.Proofs.Ytphmlkbmnmicpaa.A
