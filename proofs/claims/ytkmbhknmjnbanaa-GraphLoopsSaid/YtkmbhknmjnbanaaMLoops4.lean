/- Parts of the proof, in the order in which they rest on one another. -/
import Derived.Test.YtkmbhknmjnbanaaMLoops3
import Derived.Below
import Derived.Deep.Draws
import Derived.Deep.AppendLies
import Derived.Maps.AppendAt
import Derived.OwnWalk
import Derived.Laws.BytesArg
import Derived.Laws.MakeOwn
import Derived.Laws.OwnMore
import Derived.Deep.OwnRows
import Derived.Tactics
import Derived.Lib.ConvBytes
import Derived.Laws.Slices
import Derived.WalkKit
import Derived.KernelRfl
import Derived.RowKit3
import Derived.Deep.LoopGhost
import Derived.Deep.QuietTactic
import Derived.BigQuiet
import Derived.WideLaws
import Derived.Deep.DeepCutAuto
import Derived.Deep.CutBlock
import Derived.Deep.RegionHeld3
import Derived.Laws.Rows
import Derived.Lib.AppendStr
import Derived.ArgAppend
import Derived.Laws.IdiomCopy
import Derived.RowKit
import Derived.OrdersHeld
import Derived.Laws.BitsLemmas
import Derived.Laws.StructEq
import Derived.Test.YtkmbhknmjnbanaaProg
import Derived.Shelf.Abstract
import Derived.Lib.Walk
import Derived.RangeFuncWrites
import Derived.RangeFuncNested
import Derived.RangeFuncBound
import Derived.RangeFuncCalls
import Derived.RangeFuncLeaves
import Derived.Shelf.RegionOpen
import Derived.OwnWalkIn
import Derived.TacticsInMore
import Derived.LoopNIn
import Derived.LoopIn
import Derived.Laws.EntriesVeiled
import Derived.RangeFuncBox
import Derived.Laws.CopyOwn
import Derived.Deep.RegionLaw
import Derived.BigRegion
import Derived.WalkSpells
import Derived.Shelf.SlIterI.Nil
import Derived.Shelf.SortM.Plain
import Derived.Shelf.SortM.SortNone
import Derived.Ground.GgzProg
import Derived.Ground.SlgmProg
import Derived.Shelf.SlGeneric
import Derived.Maps.Own
import Derived.Maps.OwnOps
import Derived.Maps.OwnSet
import Derived.Maps.Views
import Derived.RangeFuncRecord
import Derived.Deep.RegionLawGrows
import Derived.Deep.Upon
import Derived.Maps.OwnRows
import Derived.Maps.GroupsBeside
import Derived.OpenShut
import Derived.Deep.Slices
import Derived.ChangeArms
namespace Go.Proofs.Ytkmbhknmjnbanaa.A
open Go.RowKit Go.Maps Go.Proofs.YtkmbhknmjnbanaaW.PrintWords Go.Proofs.YtkmbhknmjnbanaaW.PrintLast Go.Shelf
set_option linter.unusedVariables false
set_option linter.unusedSimpArgs false

/-- where edges come back from, by head -/
def hfold (l : List S37) : Int → List Int := l.foldl (fun H e => gupd H e.f1 e.f0) (fun _ => [])
theorem hfold_snoc (l : List S37) (e : S37) : hfold (l ++ [e]) = gupd (hfold l) e.f1 e.f0 := by simp [hfold]
def headsOf (n : Nat) (H : Int → List Int) : List Int := ((List.range n).filter fun k : Nat => !(H (k : Int)).isEmpty).map fun k : Nat => (k : Int)
def loopsOf (g : List (List Int)) : List (List Int) :=
  (headsOf g.length (hfold (backOf g))).map fun h => bodyRes (predsOf g) (reachRes g 0) h.toNat (hfold (backOf g) h)
theorem brow_in {at_ : List Int} {g : List (List Int)} {i : Nat} (hi : i < g.length) : ∀ (l : List Int) (out : List S37), (∀ x ∈ l, 0 ≤ x ∧ x < (g.length : Int)) → (∀ e ∈ out, (0 ≤ e.f0 ∧ e.f0 < (g.length : Int)) ∧ 0 ≤ e.f1 ∧ e.f1 < (g.length : Int)) → ∀ e ∈ brow at_ i out l, (0 ≤ e.f0 ∧ e.f0 < (g.length : Int)) ∧ 0 ≤ e.f1 ∧ e.f1 < (g.length : Int)
  | [], out, _, h => h
  | x :: l, out, hl, h => by
    refine brow_in hi l (bstep at_ i out x) (fun y hy => hl y (by simp [hy])) ?_
    unfold bstep
    split
    · intro e he
      rcases List.mem_append.1 he with he | he
      · exact h e he
      · simp only [List.mem_singleton] at he
        subst he
        exact ⟨⟨by show (0 : Int) ≤ (i : Int); omega, by show (i : Int) < _; omega⟩, hl x (by simp)⟩
    · exact h
theorem back_in (g : List (List Int)) : ∀ e ∈ backOf g, (0 ≤ e.f0 ∧ e.f0 < (g.length : Int)) ∧ 0 ≤ e.f1 ∧ e.f1 < (g.length : Int) := by
  unfold backOf
  cases hr : rightB g
  · intro e he; simp at he
  · obtain ⟨h1, h2, h3⟩ := right_rows hr
    rw [if_pos rfl]
    suffices H : ∀ m, m ≤ g.length → ∀ e ∈ bfold (placesOf g) g m, (0 ≤ e.f0 ∧ e.f0 < (g.length : Int)) ∧ 0 ≤ e.f1 ∧ e.f1 < (g.length : Int) from H _ (Nat.le_refl _)
    intro m
    induction m with
    | zero => intro _ e he; simp [bfold] at he
    | succ m ih =>
      intro hm
      rw [bfold_succ]
      exact brow_in (by omega) _ _ (h3 _ (rowOf_mem (by omega))) (ih (by omega))
theorem back_len (g : List (List Int)) : (backOf g).length ≤ 40000 := by
  unfold backOf
  cases hr : rightB g
  · simp
  · obtain ⟨h1, h2, h3⟩ := right_rows hr
    rw [if_pos rfl]
    have := bfold_len (at_ := placesOf g) (right_8 hr) g.length (Nat.le_refl _)
    omega

theorem hfold_mem (l : List S37) (k y : Int) : y ∈ hfold l k ↔ ∃ e ∈ l, e.f1 = k ∧ e.f0 = y := by
  unfold hfold
  suffices H : ∀ F : Int → List Int, y ∈ l.foldl (fun H e => gupd H e.f1 e.f0) F k ↔ y ∈ F k ∨ ∃ e ∈ l, e.f1 = k ∧ e.f0 = y by
    have := H (fun _ => []); simpa using this
  induction l with
  | nil => intro F; simp
  | cons x l ih =>
    intro F
    rw [List.foldl_cons, ih]
    unfold gupd
    by_cases e : k = x.f1
    · subst e
      rw [if_pos rfl, List.mem_append, List.mem_singleton]
      constructor
      · rintro ((h | h) | ⟨e, h1, h2⟩)
        · exact .inl h
        · exact .inr ⟨x, by simp, rfl, h.symm⟩
        · exact .inr ⟨e, by simp [h1], h2⟩
      · rintro (h | ⟨e, h1, h2⟩)
        · exact .inl (.inl h)
        · rcases List.mem_cons.1 h1 with rfl | h1
          · exact .inl (.inr h2.2.symm)
          · exact .inr ⟨e, h1, h2⟩
    · rw [if_neg e]
      constructor
      · rintro (h | ⟨e', h1, h2⟩)
        · exact .inl h
        · exact .inr ⟨e', by simp [h1], h2⟩
      · rintro (h | ⟨e', h1, h2⟩)
        · exact .inl h
        · rcases List.mem_cons.1 h1 with rfl | h1
          · exact absurd h2.1.symm e
          · exact .inr ⟨e', h1, h2⟩

set_option maxRecDepth 100000 in
set_option maxHeartbeats 4000000 in
theorem loops_calls (A : Option Addr) (c : Nat) (g : List (List Int)) (w : World) (h : Kd.C (Kd.slice 3 (Kd.int .i64)) w A g.length g) (hc : g.length ≤ c) :
    Calls Try.prog 32 #[.slice A g.length c] w fun e w' => ∃ v, e = .returned v ∧ Kd.S (Kd.slice 3 (Kd.int .i64)) 27 w' w.heap.size (fun _ => True) v (loopsOf g) ∧ Below w.heap.size w w' := by
  have hmm := @run_makeMap Try.prog
  have hu37 := Try.underlying37
  obtain ⟨kb, hkb⟩ := (back_ev g).get
  have hbw : Below w.heap.size w (w.alloc (.map #[] 0)) := below_alloc (Below.refl _ _) _
  have hbk := graph_Back.calls kb A c g _ (w.alloc (.map #[] 0)) (Kd.C_below h hbw) hc hkb
  have hin := back_in g
  have hbl := back_len g
  have hGm := GrpAt.made w
  have hgl : 0 < (backOf g).length → g.length ≤ 4096 := by
    unfold backOf
    cases hr : rightB g
    · intro h; simp at h
    · intro _; exact (right_rows hr).1
  have hrt0 : 0 < (backOf g).length → rightB g = true := by
    unfold backOf
    cases hr : rightB g
    · intro h; simp at h
    · intro _; rfl
  unfold loopsOf
  generalize backOf g = bs at hbk hin hbl hgl hrt0 ⊢
  go_enter Try.func32, Try.ntmps32
  go_wp2_with fail
  refine hbk.mono ?_
  rintro e w1 ⟨v1, rfl, hv1, hb1⟩
  obtain ⟨A1, c1, rfl⟩ := Kd.R_slice hv1
  have hsz1 : (w.alloc (.map #[] 0)).heap.size = w.heap.size + 1 := by simp
  have hC1 := Aside0.mk (show Kd.R k37 37 w1 (w.heap.size + 1) (fun _ => True) (.slice A1 bs.length c1) bs by rw [← hsz1]; exact hv1)
  have hG1 : GrpAt w1 w.heap.size 0 (fun _ => []) := hGm.grown (grown_of_below hb1 none)
  have hB1 := Aside0.mk (hbw.trans (hb1.mono (by rw [hsz1]; omega)))
  clear hbk hv1 hb1 hGm
  go_wp2_with fail
  go_loopw [15] (fun s wr => ∃ m : Nat, m ≤ bs.length ∧ s = .int .i64 m ∧ Aside0 (GrpAt wr w.heap.size m (hfold (bs.take m))) ∧ Aside0 (Kd.R k37 37 wr (w.heap.size + 1) (fun _ => True) (.slice A1 bs.length c1) bs) ∧ Aside0 (Below w.heap.size w wr))
    (fun s _ => bs.length - (RowKit.intOf s).toNat)
  case atStart => exact ⟨0, Nat.zero_le _, rfl, ⟨hG1⟩, hC1, hB1⟩
  case round =>
    obtain ⟨m, hm, rfl, hG, hC, hB⟩ := hrel
    by_cases hlt : m < bs.length
    · have hmn : (m : Int) < (bs.length : Int) := by omega
      have hm0 : (0 : Int) ≤ (m : Int) := by omega
      obtain ⟨ad, rfl, q0, q1⟩ := at_T37 (Kd.R_reads' hC.out).2.2 (m : Int) hm0 hmn
      rw [Int.toNat_natCast] at q0 q1
      have htk : bs.take (m + 1) = bs.take m ++ [rd_T37 bs m] := by
        rw [List.take_succ_eq_append_getElem hlt]
        simp [rd_T37, hlt]
      have hme := hin (rd_T37 bs m) (by simp [rd_T37, hlt])
      have hsn := hfold_snoc (bs.take m) (rd_T37 bs m)
      rw [← htk] at hsn
      have hsn' := Aside0.mk hsn
      clear htk hsn
      generalize rd_T37 bs (m : Int) = e at q0 q1 hme hsn'
      obtain ⟨f0, f1⟩ := e
      dsimp only at q0 q1 hme hsn'
      have hgl' := hgl (by omega)
      have hw0 : Wf f0 := wf_small hme.1.1 (by omega)
      have hw1 : Wf f1 := wf_small hme.2.1 (by omega)
      obtain ⟨W3, hW3⟩ : ∃ W3, wr.alloc (.cells #[.int .i64 f0, .int .i64 f1] 37) = W3 := ⟨_, rfl⟩
      have hgr3 : wr.grownBy W3 none := by rw [← hW3]; exact World.grownBy_alloc _ _ _
      have hB3 : Below w.heap.size w W3 := by rw [← hW3]; exact below_alloc hB.out _
      have e0 : W3.cell? ⟨wr.heap.size, 0, none⟩ = some (.int .i64 f0) := by rw [← hW3]; simp [go_sem]
      have e1 : W3.cell? ⟨wr.heap.size, 1, none⟩ = some (.int .i64 f1) := by rw [← hW3]; simp [go_sem]
      have hG3 : GrpAt W3.drew w.heap.size m (hfold (bs.take m)) := hG.out.grown (show wr.grownBy W3.drew none from ⟨hgr3.os, hgr3.tape, hgr3.output, hgr3.size, hgr3.block⟩)
      obtain ⟨i0, hi, hz0, hz1, hz2⟩ := info_parts info3
      obtain ⟨W4, hW4⟩ : ∃ W4, W3.drew.alloc (.cells #[.int .i64 f0] 3) = W4 := ⟨_, rfl⟩
      have hgr4 : W3.drew.grownBy W4 none := by rw [← hW4]; exact World.grownBy_alloc _ _ _
      have hG4 := hG3.grown hgr4
      have e2 : W4.cell? ⟨wr.heap.size, 0, none⟩ = some (.int .i64 f0) := by rw [← hW4]; exact (World.cell?_alloc_lt _ _ _ (World.block_lt_of_cell? W3 _ e0)).trans e0
      have e3 : W4.cell? ⟨wr.heap.size, 1, none⟩ = some (.int .i64 f1) := by rw [← hW4]; exact (World.cell?_alloc_lt _ _ _ (World.block_lt_of_cell? W3 _ e1)).trans e1
      obtain ⟨v, l1, l2, l3, l4⟩ := hG4.look (by unfold maxLen; omega) hw1
      have l0 := hG3.look2 hgr4 hw1 l1
      have hown4 : W4.ownsRow (w.heap.size + 1) 3 1 v (hfold (bs.take m) f1).length ((hfold (bs.take m) f1).map (Value.int .i64)) := l2.1
      have hsz4 : W4.heap.size = W3.heap.size + 1 := by rw [← hW4]; simp
      obtain ⟨v', W5, a1, a2, a3, a4, a5⟩ := run_append_own_at (P := Try.prog) W4 (w.heap.size + 1) 27 27 3 i0 _ 1 8 Try.underlying27 hi hz0 hz1 hz2 rfl (by decide) v _ _ hown4 ⟨W3.heap.size, 0, none⟩ 1 1 [.int .i64 f0] rfl (by rw [← hW4]; exact cell_one_new W3.drew _ _) (by simp [Value.oneCell']) (by unfold maxLen; omega) (by omega) (by have := hB3.size; omega)
      have hB4 : Below w.heap.size w W4 := (hB3.trans (show Below w.heap.size W3 W3.drew from ⟨rfl, rfl, rfl, Nat.le_refl _, fun _ _ => rfl⟩)).grown hgr4 (show w.heap.size ≤ W3.drew.heap.size from hB3.size) (fun j ej => by cases ej)
      have hblk : W4.heap[wr.heap.size]? = some (.cells #[.int .i64 f0, .int .i64 f1] 37 (0, 0)) := by
        rw [← hW4, Below.heap_alloc _ _ _ (by show wr.heap.size < W3.heap.size; rw [← hW3]; simp)]
        show W3.heap[wr.heap.size]? = _
        rw [← hW3]; exact World.alloc_heap_new _ _
      have hne : some wr.heap.size ≠ v.ownBlock := by
        intro e
        rcases l2.1.2 with ⟨rfl, _⟩ | ⟨gg, cap, cur, rfl, _, hgb, _⟩
        · simp [Value.ownBlock] at e
        · obtain rfl : wr.heap.size = gg := by simpa [Value.ownBlock] using e
          rw [hblk] at hgb
          cases hgb
      have e4 : W5.cell? ⟨wr.heap.size, 1, none⟩ = some (.int .i64 f1) := by
        have hb5 := a3.block wr.heap.size (Array.getElem?_eq_some_iff.1 hblk).1 hne
        unfold World.cell? at e3 ⊢
        rw [show (⟨wr.heap.size, 1, none⟩ : Addr).block = wr.heap.size from rfl] at e3 ⊢
        rw [hb5]; exact e3
      obtain ⟨W6, u1, u2, u3⟩ := l4 W5 v' f0 a3 ⟨by rw [List.length_append, List.map_append]; exact a2, fun z hz => by
        rcases List.mem_append.1 hz with hz | hz
        · exact l2.2 z hz
        · simp only [List.mem_singleton] at hz; subst hz; exact hw0⟩ (a5.imp id fun h => ⟨_, h, Nat.le_refl _⟩)
      have u2' := Aside0.mk u2
      have hB6 : Aside0 (Below w.heap.size w W6) := ⟨(hB4.grown a3 hB4.size (fun j ej => by have := (own_base l2.1 j ej).1; omega)).grown u3 (Nat.le_trans hB4.size a3.size) (fun j ej => by cases ej; exact Nat.le_refl _)⟩
      have hC4 : Kd.R k37 37 W4 (w.heap.size + 1) (fun _ => True) (.slice (some ad) bs.length c1) bs := by
        refine Kd.R_grown (Kd.R_grown hC.out (show wr.grownBy W3.drew none from ⟨hgr3.os, hgr3.tape, hgr3.output, hgr3.size, hgr3.block⟩) (fun _ _ => by simp)) hgr4 (fun _ _ => by simp)
      have hRv : Kd.R (Kd.int .i64) 3 W4 (w.heap.size + 1) (fun _ => True) v (hfold (bs.take m) f1) := Kd.R_of_own l2.1 (fun _ _ => trivial)
      have hC5 := Kd.R_over hC4 hRv (by decide) a3
      have hC6 := Aside0.mk (Kd.R_mono (Kd.R_grown (Kd.R_bound hC5) u3 (fun k hk => by have := hk.2.1; intro e; injection e with e; omega)) (fun _ _ => trivial))
      clear l4 u2 u3 a2 a3 a4 a5 hown4 l2 hG3 hG4 hgr4
      go_wp2_with fail
      go_region_law (refine step_append_run rfl (.tmp 25) (.tmp 28) 27 rfl v (.slice (some ⟨W3.heap.size, 0, none⟩) 1 1) v' W5 (by simp [Act.eval, Act.put]) (by simp [Act.eval, Act.put]) a1 ?_)
      all_goals
        go_wp2_with fail
        go_roundw
        case rel => exact ⟨m + 1, by omega, by go_num, ⟨by rw [hsn'.out]; exact u2'.out⟩, hC6, hB6⟩
        case measure => simp [RowKit.intOf]; omega
    · obtain rfl : m = bs.length := by omega
      have hG2 := hG.out
      rw [List.take_length] at hG2
      generalize hH : hfold bs = H at hG2 ⊢
      obtain ⟨kp, hkp⟩ := (preds_ev g).get
      generalize hP00 : (if rightB g = true then predsOf g else []) = P0 at hkp
      have hP0 := Aside0.mk hP00
      clear hP00
      have hpr := graph_Preds.calls kp A c g _ wr (Kd.C_below h hB.out) hc hkp
      have hG2' := Aside0.mk hG2
      clear hG hG2 hC hC1 hG1
      go_wp2_with fail
      refine hpr.mono ?_
      rintro e w2 ⟨v2, rfl, hv2, hb2⟩
      have hB2 := hB.out.trans (hb2.mono hB.out.size)
      have hre := graph_Reach.calls A c g 0 _ w2 (Kd.C_below h hB2) hc rfl
      go_wp2_with fail
      refine hre.mono ?_
      rintro e w3 ⟨v3, rfl, hv3, hb3⟩
      have hG3 : GrpAt w3 w.heap.size bs.length H := (hG2'.out.grown (grown_of_below hb2 none)).grown (grown_of_below hb3 none)
      have hB3 := hB2.trans (hb3.mono hB2.size)
      obtain ⟨D, Rr, hown, hhas⟩ := hG3.keys
      have hso := sorted58_calls w.heap.size bs.length _ w3 hown hhas (by omega)
      have hv2' := Kd.S_below hv2 hb3
      obtain ⟨A2, c2, rfl⟩ := Kd.S_slice hv2'
      obtain ⟨A3, c3, rfl⟩ := Kd.R_slice hv3
      have hP2 := Aside0.mk (Kd.S_reads' hv2').2.2
      have hP3 := Aside0.mk (Kd.R_reads' hv3).2.2
      have hG3' := Aside0.mk hG3
      have hB3' := Aside0.mk hB3
      clear hpr hre hv2 hv3 hb2 hb3 hB2 hB3 hB hG2' hG3 hv2' hown hhas
      go_wp2_with fail
      refine (keys58_calls _ _).mono ?_
      rintro e w' ⟨rfl, rfl⟩
      go_wp2_with fail
      refine hso.mono ?_
      rintro e w5 ⟨v5, ks, rfl, k1, k2, k3, k4, k5⟩
      obtain ⟨A5, c5, rfl⟩ := Kd.R_slice k4
      have hG5 := Aside0.mk (hG3'.out.grown (grown_of_below k5 none))
      have hQ2 := Aside0.mk (Kd.C_below hP2.out k5)
      have hQ3 := Aside0.mk (Kd.C_below hP3.out k5)
      have hK5 := Aside0.mk (Kd.R_reads' k4).2.2
      have hB5 := Aside0.mk (hB3'.out.trans (k5.mono hB3'.out.size))
      have k1' := Aside0.mk k1
      have k2' := Aside0.mk k2
      clear hso hP2 hP3 hG3' hB3' k1 k2 k4 k5
      go_wp2_with fail
      go_loopw [8, 39] (fun s8 s39 wr => ∃ m : Nat, m ≤ ks.length ∧ s39 = .int .i64 m ∧ Aside0 (Kd.S (Kd.slice 3 (Kd.int .i64)) 27 wr w5.heap.size (fun _ => True) s8 ((ks.take m).map fun h => bodyRes (predsOf g) (reachRes g 0) h.toNat (H h))) ∧ Aside0 (Below w5.heap.size w5 wr))
        (fun _ s39 _ => ks.length - (RowKit.intOf s39).toNat)
      case atStart => exact ⟨0, Nat.zero_le _, rfl, ⟨Kd.S_nil _ _ _ _ _⟩, ⟨Below.refl _ _⟩⟩
      case round =>
        obtain ⟨m, hm, rfl, hv, hB⟩ := hrel
        by_cases hlt : m < ks.length
        · have hmn : (m : Int) < (ks.length : Int) := by omega
          have hm0 : (0 : Int) ≤ (m : Int) := by omega
          obtain ⟨ad, rfl, q0⟩ := Kd.at_int (Kd.C_below hK5.out hB.out) (m : Int) hm0 hmn
          rw [Int.toNat_natCast, rdI hlt] at q0
          have htk : ks.take (m + 1) = ks.take m ++ [ks[m]] := List.take_succ_eq_append_getElem hlt
          have hxm : ks[m] ∈ ks := List.getElem_mem hlt
          generalize ks[m] = x at q0 htk hxm
          have hHx := (k2'.out x).1 hxm
          have hHne : H x ≠ [] := by intro e; rw [e] at hHx; cases hHx
          obtain ⟨y0, hy0⟩ := List.exists_mem_of_ne_nil _ hHne
          have hmemH : ∀ y ∈ H x, 0 ≤ y ∧ y < (g.length : Int) := by
            intro y hy
            rw [← hH, hfold_mem] at hy
            obtain ⟨e, he, _, rfl⟩ := hy
            exact (hin e he).1
          rw [← hH, hfold_mem] at hy0
          obtain ⟨e0, he0, hx0, _⟩ := hy0
          have hxr := (hin e0 he0).2
          rw [hx0] at hxr
          have hbp : 0 < bs.length := List.length_pos_of_mem he0
          have hrt := hrt0 hbp
          obtain ⟨hgn, hg1, hgr⟩ := right_rows hrt
          obtain rfl : P0 = predsOf g := by rw [← hP0.out, if_pos hrt]
          obtain ⟨xn, rfl⟩ := Int.eq_ofNat_of_zero_le hxr.1
          have hwx : Wf (xn : Int) := wf_small hxr.1 (by omega)
          have hGq := hG5.out.grown (grown_of_below hB.out none)
          obtain ⟨vr, l1, l2, l3, _⟩ := hGq.look (by unfold maxLen; omega) hwx
          have hRr : Kd.R (Kd.int .i64) 3 wr (w.heap.size + 1) (fun _ => True) vr (H xn) := Kd.R_of_own l2.1 (fun _ _ => trivial)
          obtain ⟨Ar, cr, rfl⟩ := Kd.R_slice hRr
          have hrr := Kd.R_reads' hRr
          have hlp : (predsOf g).length = g.length := predsOf_len g
          have hlr : (reachRes g 0).length = (predsOf g).length := by
            rw [hlp]; unfold reachRes; rw [if_pos ⟨hrt, by omega, by omega⟩, marks_len]
          have hbo : Calls Try.prog 59 #[.slice A2 (predsOf g).length c2, .slice A3 (reachRes g 0).length c3, .int .i64 xn, .slice Ar (H xn).length cr] wr fun e w' => ∃ v, e = .returned v ∧
              Kd.R (Kd.int .i64) 3 w' wr.heap.size (fun _ => True) v (bodyRes (predsOf g) (reachRes g 0) xn (H xn)) ∧ Below wr.heap.size wr w' := by
            have hq3 := Kd.C_below hQ3.out hB.out
            rw [hlr] at hq3 ⊢
            refine body_calls A2 A3 Ar c2 c3 cr (predsOf g) (reachRes g 0) xn (H xn) wr (Kd.C_below hQ2.out hB.out) hq3 hrr.2.2 hrr.2.1 (by omega) ?_ ?_ (by omega) ?_ (by omega)
            · intro l hl y hy
              obtain ⟨j, hj, rfl⟩ := List.getElem_of_mem hl
              have : y ∈ rowOf (predsOf g) j := by unfold rowOf; rw [List.getD_eq_getElem?_getD, List.getElem?_eq_getElem hj]; exact hy
              rw [predsOf_mem hgr] at this
              obtain ⟨i, hi, rfl, _⟩ := this
              omega
            · intro y hy
              have := hmemH y hy; omega
            · have h1 := tot_pfold hgr g.length (Nat.le_refl _)
              rw [List.take_length] at h1
              have h2 := tot_le (right_8 hrt)
              unfold predsOf; omega
          have hml : ((ks.take m).map fun h => bodyRes (predsOf g) (reachRes g 0) h.toNat (H h)).length ≤ 1000000 := by
            rw [List.length_map, List.length_take]; have := k3; omega
          have htk' : ((ks.take (m + 1)).map fun h => bodyRes (predsOf g) (reachRes g 0) h.toNat (H h)) = ((ks.take m).map fun h => bodyRes (predsOf g) (reachRes g 0) h.toNat (H h)) ++ [bodyRes (predsOf g) (reachRes g 0) xn (H xn)] := by
            rw [htk, List.map_append]; simp
          generalize hL : ((ks.take m).map fun h => bodyRes (predsOf g) (reachRes g 0) h.toNat (H h)) = L at hv hml htk'
          generalize bodyRes (predsOf g) (reachRes g 0) xn (H xn) = row at hbo htk'
          have htk2 := Aside0.mk htk'
          clear hL htk htk' hmemH hHx hHne hRr hrr hGq l2 l3 hlp hlr
          go_wp2_with fail
          refine hbo.mono ?_
          rintro e w6 ⟨v6, rfl, hR6, hB6⟩
          obtain ⟨A6, c6, rfl⟩ := Kd.R_slice hR6
          have hv3 := Aside0.mk (Kd.S_mono (Kd.S_below (Kd.S_bound hv.out) hB6) (ok' := fun k => True ∧ ¬ wr.heap.size ≤ k) (fun k hk => ⟨trivial, by have := hk.2.2.1; omega⟩))
          have hcM := Aside0.mk (Kd.M_row (Kd.R_lower (Kd.R_mono (Kd.R_bound hR6) (ok' := fun k => wr.heap.size ≤ k) (fun k hk => hk.2.1)) hB.out.size))
          have hvl := Aside0.mk (Kd.S_lt hv.out)
          have hB3' := Aside0.mk (hB.out.trans (hB6.mono hB.out.size))
          clear hbo hR6 hB6 hv hB q0
          go_wp2_with (at_builtin; refine Kd.S_append (Kd.slice 3 (Kd.int .i64)) (w0 := w5) w5.heap.size rfl (.tmp 43) (.tmp 51) 22 27 (.slice none 0 0) 24 rfl Try.underlying22 info27 rfl (by decide) (by omega) _ L row [.slice A6 row.length c6] (fun _ => True) (fun k => wr.heap.size ≤ k) rfl rfl hcM.out (fun k hk => ⟨trivial, fun e => by have := hvl.out k e.symm; omega⟩) (fun _ _ => trivial) hv3.out hB3'.out hB3'.out.size (by omega) ?_; intro v7 w7 hown7 hb7 hg7 hat7; have hv7 := Aside0.mk hown7; have hb7' := Aside0.mk hb7; clear hown7 hb7 hg7 hat7)
          go_roundw
          case rel => exact ⟨m + 1, by omega, by go_num, ⟨by rw [htk2.out]; exact hv7.out⟩, hb7'⟩
          case measure => simp [RowKit.intOf]; omega
        · obtain rfl : m = ks.length := by omega
          have hv2 := hv.out
          rw [List.take_length] at hv2
          have hks : ks = headsOf g.length H := by
            refine rising_eq k1'.out ?_ fun k => ?_
            · unfold Rising headsOf
              rw [List.pairwise_map]
              exact (List.pairwise_lt_range.filter _).imp (fun h => by omega)
            · rw [k2'.out]
              unfold headsOf
              simp only [List.mem_map, List.mem_filter, List.mem_range]
              constructor
              · intro h1
                have h2 : H k ≠ [] := by intro e; rw [e] at h1; cases h1
                obtain ⟨y, hy⟩ := List.exists_mem_of_ne_nil _ h2
                rw [← hH, hfold_mem] at hy
                obtain ⟨e, he, rfl, _⟩ := hy
                have := (hin e he).2
                obtain ⟨a, ha⟩ := Int.eq_ofNat_of_zero_le this.1
                exact ⟨a, ⟨by omega, by rw [← ha]; exact h1⟩, ha.symm⟩
              · rintro ⟨a, ⟨_, h2⟩, rfl⟩
                exact h2
          have hv3 := Aside0.mk hv2
          clear hv hv2
          go_wp2_with fail
          go_ret
          refine ⟨_, rfl, ?_, hB5.out.trans (hB.out.mono hB5.out.size)⟩
          rw [hH, ← hks]
          exact Kd.S_lower hv3.out hB5.out.size
end Go.Proofs.Ytkmbhknmjnbanaa.A


namespace Go.Proofs.Ytkmbhknmjnbanaa.A
open Go.RowKit Go.Proofs.YtkmbhknmjnbanaaW.PrintWords Go.Proofs.YtkmbhknmjnbanaaW.PrintLast Go.Shelf
set_option linter.unusedVariables false
set_option linter.unusedSimpArgs false

/-- the blocks of a loop with this head that comes back from these blocks -/
inductive BodySet (g : List (List Int)) (h : Nat) (F re : Nat → Prop) : Nat → Prop
  | head : BodySet g h F re h
  | frm {x : Nat} : F x → BodySet g h F re x
  | back {x y : Nat} : BodySet g h F re y → y ≠ h → Edge g x y → re x → BodySet g h F re x

theorem bodyW_spec {g : List (List Int)} (hg : InG g) {re : List Bool} {h : Nat} {F : Nat → Prop} (hF : ∀ x, F x → re.getD x false = true) :
    ∀ (n : Nat) (S : Int → Bool) (ws : List Int), budget (predsOf g) S ws ≤ n → (∀ x ∈ ws, 0 ≤ x ∧ x < (g.length : Int)) →
      (∀ x : Nat, S x = true → BodySet g h F (fun x => re.getD x false = true) x) → (∀ x : Nat, (x : Int) ∈ ws → re.getD x false = true → BodySet g h F (fun x => re.getD x false = true) x) →
      (∀ x y : Nat, y ≠ h → S y = true → Edge g x y → re.getD x false = true → S x = true ∨ (x : Int) ∈ ws) → (∀ x : Nat, F x → S x = true ∨ (x : Int) ∈ ws) → S h = true →
      ∀ x : Nat, bodyW (predsOf g) re n S ws x = true ↔ BodySet g h F (fun x => re.getD x false = true) x := by
  have fin : ∀ (S : Int → Bool), (∀ x : Nat, S x = true → BodySet g h F (fun x => re.getD x false = true) x) → (∀ x y : Nat, y ≠ h → S y = true → Edge g x y → re.getD x false = true → S x = true) → (∀ x : Nat, F x → S x = true) → S h = true → ∀ x : Nat, S x = true ↔ BodySet g h F (fun x => re.getD x false = true) x := by
    intro S h1 h2 h3 h4 x
    refine ⟨h1 x, fun hb => ?_⟩
    induction hb with
    | head => exact h4
    | frm hf => exact h3 _ hf
    | back _ hy he hr ih => exact h2 _ _ hy ih he hr
  intro n
  induction n with
  | zero =>
    intro S ws hb hw h1 h2 h3 h4 h5
    have : ws = [] := List.eq_nil_of_length_eq_zero (by unfold budget at hb; omega)
    subst this
    exact fin S h1 (fun x y a b c d => (h3 x y a b c d).resolve_right (by simp)) (fun x a => (h4 x a).resolve_right (by simp)) h5
  | succ n ih =>
    intro S ws hb hw h1 h2 h3 h4 h5
    cases ws with
    | nil => exact fin S h1 (fun x y a b c d => (h3 x y a b c d).resolve_right (by simp)) (fun x a => (h4 x a).resolve_right (by simp)) h5
    | cons a ws =>
      obtain ⟨a, rfl⟩ := Int.eq_ofNat_of_zero_le (hw a (by simp)).1
      have hal : a < g.length := by have := (hw (a : Int) (by simp)).2; omega
      have hpl := predsOf_len g
      have hrow : ∀ x ∈ rowOf (predsOf g) a, ∃ i : Nat, i < g.length ∧ x = i ∧ Edge g i a := fun x hx => (predsOf_mem hg a x).1 hx
      rw [budget_cons] at hb
      rw [bodyW, Int.toNat_natCast]
      split
      · rename_i hs
        refine ih S ws (by omega) (fun x hx => hw x (by simp [hx])) h1 (fun x hx => h2 x (by simp [hx])) (fun x y p q r s => ?_) (fun x p => ?_) h5
        · rcases h3 x y p q r s with t | t
          · exact .inl t
          · rcases List.mem_cons.1 t with t | t
            · obtain rfl : x = a := by omega
              rcases hs with hs | hs
              · exact .inl hs
              · rw [hs] at s; cases s
            · exact .inr t
        · rcases h4 x p with t | t
          · exact .inl t
          · rcases List.mem_cons.1 t with t | t
            · obtain rfl : x = a := by omega
              rcases hs with hs | hs
              · exact .inl hs
              · have := hF x p; rw [hs] at this; cases this
            · exact .inr t
      · rename_i hs
        obtain ⟨hs1, hs2⟩ := not_or.1 hs
        rw [Bool.not_eq_true] at hs1
        rw [Bool.not_eq_false] at hs2
        have hah : a ≠ h := fun e => by subst e; rw [h5] at hs1; cases hs1
        have hba : BodySet g h F (fun x => re.getD x false = true) a := h2 a (by simp) hs2
        have hins : ∀ x : Nat, ins S (a : Int) x = true ↔ S x = true ∨ x = a := fun x => by
          simp only [ins, Bool.or_eq_true, decide_eq_true_eq]
          constructor
          · rintro (h | h)
            · exact .inr (by omega)
            · exact .inl h
          · rintro (h | h)
            · exact .inr h
            · exact .inl (by omega)
        refine ih _ _ (by rw [budget_ins (by omega) hs1]; omega) (fun x hx => ?_) (fun x hx => ?_) (fun x hx hr => ?_) (fun x y p q r s => ?_) (fun x p => ?_) ((hins h).2 (.inl h5))
        · rcases List.mem_append.1 hx with hx | hx
          · exact hw x (by simp [hx])
          · obtain ⟨i, hi, rfl, _⟩ := hrow x hx; omega
        · rcases (hins x).1 hx with hx | rfl
          · exact h1 x hx
          · exact hba
        · rcases List.mem_append.1 hx with hx | hx
          · exact h2 x (by simp [hx]) hr
          · obtain ⟨i, hi, e, he⟩ := hrow _ hx
            obtain rfl : x = i := by omega
            exact .back hba hah he hr
        · rcases (hins y).1 q with q | rfl
          · rcases h3 x y p q r s with t | t
            · exact .inl ((hins x).2 (.inl t))
            · rcases List.mem_cons.1 t with t | t
              · exact .inl ((hins x).2 (.inr (by omega)))
              · exact .inr (List.mem_append_left _ t)
          · exact .inr (List.mem_append_right _ ((predsOf_mem hg y x).2 ⟨x, r.lt1, rfl, r⟩))
        · rcases h4 x p with t | t
          · exact .inl ((hins x).2 (.inl t))
          · rcases List.mem_cons.1 t with t | t
            · exact .inl ((hins x).2 (.inr (by omega)))
            · exact .inr (List.mem_append_left _ t)

theorem plfold_spec {o : List Int} {n : Nat} (hnd : o.Nodup) (ho : ∀ x ∈ o, 0 ≤ x ∧ x < (n : Int)) : ∀ m, m ≤ o.length → (∀ j (hj : j < m) (hj2 : j < o.length), (plfold o n m).getD o[j].toNat 0 = (j : Int)) ∧ ∀ i, i < n → (i : Int) ∉ o.take m → (plfold o n m).getD i 0 = -1
  | 0, _ => ⟨fun j hj => by omega, fun i hi _ => by
      unfold plfold
      rw [List.range_zero, List.foldl_nil, List.getD_eq_getElem?_getD, List.getElem?_replicate, if_pos hi]; rfl⟩
  | m + 1, hm => by
    have hlt : m < o.length := by omega
    obtain ⟨h1, h2⟩ := plfold_spec hnd ho m (by omega)
    have hom : o.getD m 0 = o[m] := by simp [List.getD_eq_getElem?_getD, hlt]
    have hx := ho o[m] (List.getElem_mem hlt)
    have hl := plfold_len o n m
    have hset : ∀ i, (plfold o n (m + 1)).getD i 0 = if o[m].toNat = i then (m : Int) else (plfold o n m).getD i 0 := by
      intro i
      rw [plfold_succ, hom, List.getD_eq_getElem?_getD, List.getElem?_set]
      by_cases e : o[m].toNat = i
      · rw [if_pos e, if_pos e, if_pos (by omega)]; rfl
      · rw [if_neg e, if_neg e, List.getD_eq_getElem?_getD]
    refine ⟨fun j hj hj2 => ?_, fun i hi hni => ?_⟩
    · rw [hset]
      by_cases e : j = m
      · subst e; rw [if_pos rfl]
      · rw [if_neg ?_, h1 j (by omega) hj2]
        intro e2
        have hxj := ho o[j] (List.getElem_mem hj2)
        have : o[m] = o[j] := by omega
        exact e ((List.getElem_inj hnd).1 this).symm
    · rw [List.take_succ_eq_append_getElem hlt] at hni
      rw [hset, if_neg ?_, h2 i hi (fun h => hni (List.mem_append_left _ h))]
      intro e
      exact hni (List.mem_append_right _ (by rw [List.mem_singleton]; omega))
theorem order_nodup (g : List (List Int)) : (orderOf g).Nodup := by
  unfold orderOf
  cases hr : rightB g
  · simp
  · obtain ⟨h1, h2, h3⟩ := right_rows hr
    rw [if_pos rfl]
    exact List.pairwise_reverse.2 ((walk_nodup h3 (by omega)).imp fun h e => h e.symm)
theorem place_at (g : List (List Int)) {j : Nat} (hj : j < (orderOf g).length) : (placesOf g).getD (orderOf g)[j].toNat 0 = (j : Int) :=
  (plfold_spec (order_nodup g) (orderOf_in g) _ (Nat.le_refl _)).1 j hj hj
theorem place_no (g : List (List Int)) {i : Nat} (hi : i < g.length) (h : (i : Int) ∉ orderOf g) : (placesOf g).getD i 0 = -1 :=
  (plfold_spec (order_nodup g) (orderOf_in g) _ (Nat.le_refl _)).2 i hi (by rw [List.take_length]; exact h)
theorem place_pos (g : List (List Int)) {i : Nat} (hi : i < g.length) : 0 ≤ (placesOf g).getD i 0 ↔ (i : Int) ∈ orderOf g := by
  constructor
  · intro h
    refine Classical.byContradiction fun hn => ?_
    rw [place_no g hi hn] at h; omega
  · intro h
    obtain ⟨j, hj, e⟩ := List.getElem_of_mem h
    have := place_at g hj
    rw [e, Int.toNat_natCast] at this
    omega
theorem order_mem {g : List (List Int)} (hr : rightB g = true) (i : Nat) : (i : Int) ∈ orderOf g ↔ Way g 0 i := by
  obtain ⟨h1, h2, h3⟩ := right_rows hr
  unfold orderOf
  rw [if_pos hr, List.mem_reverse]
  exact walk_mem h3 (by omega) i
/-- what is reached from the entry -/
theorem reach0 {g : List (List Int)} (hr : rightB g = true) {i : Nat} (hi : i < g.length) : (reachRes g 0).getD i false = true ↔ Way g 0 i := by
  obtain ⟨h1, h2, h3⟩ := right_rows hr
  unfold reachRes
  rw [if_pos ⟨hr, by omega, by omega⟩, ← walk_mem h3 (show 0 < g.length by omega)]
  have := mk_marks (n := g.length) (pre := walkOf g 0) hi
  unfold Mk at this
  rw [List.getD_eq_getElem?_getD, List.getElem?_eq_getElem (by rw [marks_len]; exact hi)] at this ⊢
  exact this
/-- which edges lead back -/
theorem back_mem {g : List (List Int)} (hr : rightB g = true) (e : S37) : e ∈ backOf g ↔ ∃ i x : Nat, e = ⟨i, x⟩ ∧ Edge g i x ∧ 0 ≤ (placesOf g).getD i 0 ∧ (placesOf g).getD x 0 ≤ (placesOf g).getD i 0 := by
  obtain ⟨h1, h2, h3⟩ := right_rows hr
  generalize hp : placesOf g = P
  have hrow : ∀ (i : Nat) (l : List Int), (∀ x ∈ l, 0 ≤ x) → ∀ out : List S37, e ∈ brow P i out l ↔ e ∈ out ∨ ∃ x : Nat, (x : Int) ∈ l ∧ e = ⟨i, x⟩ ∧ 0 ≤ P.getD i 0 ∧ P.getD x 0 ≤ P.getD i 0 := by
    intro i l
    induction l with
    | nil => intro _ out; simp [brow]
    | cons y l ih =>
      intro hl out
      obtain ⟨y, rfl⟩ := Int.eq_ofNat_of_zero_le (hl y (by simp))
      show e ∈ brow P i (bstep P i out y) l ↔ _
      rw [ih (fun x hx => hl x (by simp [hx]))]
      have hst : e ∈ bstep P i out (y : Int) ↔ e ∈ out ∨ (e = ⟨i, y⟩ ∧ 0 ≤ P.getD i 0 ∧ P.getD y 0 ≤ P.getD i 0) := by
        unfold bstep
        rw [Int.toNat_natCast]
        by_cases h0 : 0 ≤ P.getD i 0 ∧ P.getD y 0 ≤ P.getD i 0
        · cases hc : out.any (isE i y)
          · rw [if_pos ⟨h0.1, h0.2, rfl⟩, List.mem_append, List.mem_singleton]
            exact ⟨fun h => h.imp id fun h => ⟨h, h0⟩, fun h => h.imp id fun h => h.1⟩
          · rw [if_neg (fun h => by cases h.2.2)]
            refine ⟨.inl, fun h => h.elim id fun ⟨h, _⟩ => ?_⟩
            rw [List.any_eq_true] at hc
            obtain ⟨e', he', hc⟩ := hc
            unfold isE at hc
            rw [Bool.and_eq_true, decide_eq_true_eq, decide_eq_true_eq] at hc
            rw [h, hc.1, hc.2]; exact he'
        · rw [if_neg (fun h => h0 ⟨h.1, h.2.1⟩)]
          exact ⟨.inl, fun h => h.elim id fun h => absurd h.2 h0⟩
      rw [hst]
      constructor
      · rintro ((h | h) | ⟨x, hx, h⟩)
        · exact .inl h
        · exact .inr ⟨y, by simp, h⟩
        · exact .inr ⟨x, by simp [hx], h⟩
      · rintro (h | ⟨x, hx, h⟩)
        · exact .inl (.inl h)
        · rcases List.mem_cons.1 hx with hx | hx
          · obtain rfl : x = y := by omega
            exact .inl (.inr h)
          · exact .inr ⟨x, hx, h⟩
  have hfold : ∀ m, m ≤ g.length → (e ∈ bfold P g m ↔ ∃ i x : Nat, i < m ∧ e = ⟨i, x⟩ ∧ Edge g i x ∧ 0 ≤ P.getD i 0 ∧ P.getD x 0 ≤ P.getD i 0) := by
    intro m
    induction m with
    | zero => intro _; simp [bfold]
    | succ m ih =>
      intro hm
      rw [bfold_succ, hrow _ _ (fun x hx => (h3 _ (rowOf_mem (by omega)) x hx).1), ih (by omega)]
      constructor
      · rintro (⟨i, x, hi, h⟩ | ⟨x, hx, h, h4⟩)
        · exact ⟨i, x, by omega, h⟩
        · exact ⟨m, x, by omega, h, hx, h4⟩
      · rintro ⟨i, x, hi, h, he, h4⟩
        by_cases hi' : i = m
        · subst hi'; exact .inr ⟨x, he, h, h4⟩
        · exact .inl ⟨i, x, by omega, h, he, h4⟩
  unfold backOf
  rw [if_pos hr, hp, hfold _ (Nat.le_refl _)]
  exact ⟨fun ⟨i, x, _, h⟩ => ⟨i, x, h⟩, fun ⟨i, x, h⟩ => ⟨i, x, h.2.1.lt1, h⟩⟩
/-- from where one comes back to a head -/
def Froms (g : List (List Int)) (h : Nat) (x : Nat) : Prop := (⟨x, h⟩ : S37) ∈ backOf g
theorem froms_mem (g : List (List Int)) (h x : Nat) : (x : Int) ∈ hfold (backOf g) h ↔ Froms g h x := by
  rw [hfold_mem]
  constructor
  · rintro ⟨⟨a, b⟩, he, h1, h2⟩
    dsimp only at h1 h2
    subst h1; subst h2; exact he
  · intro h; exact ⟨_, h, rfl, rfl⟩
theorem froms_way {g : List (List Int)} (hr : rightB g = true) {h x : Nat} (hf : Froms g h x) : Way g 0 x := by
  obtain ⟨i, y, e, he, h1, _⟩ := (back_mem hr _).1 hf
  simp only [S37.mk.injEq] at e
  obtain rfl : x = i := by omega
  exact (order_mem hr x).1 ((place_pos g he.lt1).1 h1)
/-- the blocks of the loop of a head, as the program finds them -/
theorem body_spec {g : List (List Int)} (hr : rightB g = true) {h : Nat} (hh : h < g.length) (x : Nat) :
    bodyW (predsOf g) (reachRes g 0) (budget (predsOf g) (ins (fun _ => false) h) (hfold (backOf g) h)) (ins (fun _ => false) h) (hfold (backOf g) h) x = true ↔ BodySet g h (Froms g h) (fun x => (reachRes g 0).getD x false = true) x := by
  obtain ⟨h1, h2, h3⟩ := right_rows hr
  have hback := back_in g
  have hin : ∀ y ∈ hfold (backOf g) h, 0 ≤ y ∧ y < (g.length : Int) := by
    intro y hy
    rw [hfold_mem] at hy
    obtain ⟨e, he, _, rfl⟩ := hy
    exact (hback e he).1
  have hins : ∀ x : Nat, ins (fun _ => false) (h : Int) x = true ↔ x = h := fun x => by
    simp [ins]; omega
  refine bodyW_spec h3 (F := Froms g h) (fun x hx => ?_) _ _ _ (Nat.le_refl _) hin (fun x hx => ?_) (fun x hx hre => .frm ((froms_mem g h x).1 hx)) (fun x y hy hS => absurd ((hins y).1 hS) hy) (fun x hx => .inr ((froms_mem g h x).2 hx)) ((hins h).2 rfl) x
  · have := (hin x ((froms_mem g h x).2 hx)).2
    exact (reach0 hr (by omega)).2 (froms_way hr hx)
  · obtain rfl := (hins x).1 hx
    exact .head
end Go.Proofs.Ytkmbhknmjnbanaa.A


namespace Go.Proofs.Ytkmbhknmjnbanaa.A
open Go.RowKit Go.Proofs.YtkmbhknmjnbanaaW.PrintWords Go.Proofs.YtkmbhknmjnbanaaW.PrintLast Go.Shelf
set_option linter.unusedVariables false
set_option linter.unusedSimpArgs false

section
variable {g : List (List Int)} (hg : InG g) (hn : g.length ≤ 4096) (h8 : ∀ l ∈ g, l.length ≤ 8) {bk : List S37} {at_ : List Int} (hat : at_.length = g.length) {h : Nat} (hh : h < g.length) {F re : Nat → Prop} (hre : ∀ i, i < g.length → (0 ≤ at_.getD i 0 ↔ re i)) {out : List (List Int)}
include hg hn h8 hat hh hre
end

/-- a loop's row as far as block i -/
def rowTo (R : Nat → Bool) (h i : Nat) : List Int := (h : Int) :: (((List.range i).filter fun k : Nat => R k && !decide (k = h)).map fun k : Nat => (k : Int))
def loopsTo (g : List (List Int)) (m : Nat) : List (List Int) := (headsOf m (hfold (backOf g))).map fun h => bodyRes (predsOf g) (reachRes g 0) h.toNat (hfold (backOf g) h)
theorem loopsTo_len (g : List (List Int)) (m : Nat) : (loopsTo g m).length ≤ m := by
  unfold loopsTo headsOf
  rw [List.length_map, List.length_map]
  have := List.length_filter_le (fun k : Nat => !(hfold (backOf g) (k : Int)).isEmpty) (List.range m)
  rw [List.length_range] at this
  exact this
theorem bodyRes_row {g : List (List Int)} (hr : rightB g = true) {h : Nat} (hh : h < g.length) (fr : List Int) : bodyRes (predsOf g) (reachRes g 0) h fr = rowTo (fun k => bodyW (predsOf g) (reachRes g 0) (budget (predsOf g) (ins (fun _ => false) h) fr) (ins (fun _ => false) h) fr k) h g.length := by
  unfold bodyRes others rowTo
  rw [predsOf_len]
end Go.Proofs.Ytkmbhknmjnbanaa.A


namespace Go.Proofs.Ytkmbhknmjnbanaa.A
open Go.RowKit Go.Proofs.YtkmbhknmjnbanaaW.PrintWords Go.Proofs.YtkmbhknmjnbanaaW.PrintLast Go.Shelf
set_option linter.unusedVariables false
set_option linter.unusedSimpArgs false

def graph_Loops.f (l0 : List (List Int)) : Option (List (List Int)) := some (loopsOf l0)
theorem graph_Loops.calls (A0 : Option Addr) (c0 : Nat) (l0 : List (List Int)) (r : List (List Int)) (w : World) (hr0 : Kd.C (Kd.slice 3 (Kd.int .i64)) w A0 l0.length l0) (hc0 : l0.length ≤ c0) (h : graph_Loops.f l0 = some r) :
    Calls Try.prog 32 #[.slice A0 l0.length c0] w fun e w' => ∃ v0_ : Value, e = .returned (v0_) ∧ Kd.S (Kd.slice 3 (Kd.int .i64)) 27 w' w.heap.size (fun _ => True) v0_ r ∧ Below w.heap.size w w' := by
  obtain rfl := Option.some.inj h
  exact loops_calls A0 c0 l0 w hr0 hc0
def graph_Critical.f (l0 : List (List Int)) : Option (List S37) := some (crit (rightB l0) (predsOf l0) l0 l0.length)
theorem graph_Critical.calls (A0 : Option Addr) (c0 : Nat) (l0 : List (List Int)) (r : List S37) (w : World) (hr0 : Kd.C (Kd.slice 3 (Kd.int .i64)) w A0 l0.length l0) (hc0 : l0.length ≤ c0) (h : graph_Critical.f l0 = some r) :
    Calls Try.prog 25 #[.slice A0 l0.length c0] w fun e w' => ∃ v0_ : Value, e = .returned (v0_) ∧ Kd.R k37 37 w' w.heap.size (fun _ => True) v0_ r ∧ Below w.heap.size w w' := by
  obtain rfl := Option.some.inj h
  exact crit_calls A0 c0 l0 w hr0 hc0
end Go.Proofs.Ytkmbhknmjnbanaa.A


namespace Go.Proofs.Ytkmbhknmjnbanaa.A
open Go.RowKit Go.Maps Go.Proofs.YtkmbhknmjnbanaaW.PrintWords Go.Proofs.YtkmbhknmjnbanaaW.PrintLast Go.Shelf
set_option linter.unusedVariables false
set_option linter.unusedSimpArgs false

def g4 : List (List Int) := [[1, 2], [3], [3], [0]]
theorem s_right : graph_Right.f g4 = some true := by kernel_rfl
theorem s_order : graph_Order.f g4 = some [0, 2, 1, 3] := by kernel_rfl
theorem s_ints : swageref02_Ints.f 9 [0, 2, 1, 3] [0, 2, 1, 3] = some true := by kernel_rfl
theorem s_back : graph_Back.f 40 g4 = some [⟨3, 0⟩] := by kernel_rfl
theorem s_pairs : swageref05_Pairs.f 9 [⟨3, 0⟩] [⟨3, 0⟩] = some true := by kernel_rfl
theorem s_loops : graph_Loops.f g4 = some [[0, 1, 2, 3]] := by kernel_rfl
theorem s_rows : swageref06_Rows.f 40 [[0, 1, 2, 3]] [[0, 1, 2, 3]] = some true := by kernel_rfl
theorem s_preds : graph_Preds.f 40 g4 = some [[3], [0], [0], [1, 2]] := by kernel_rfl
theorem s_rows2 : swageref06_Rows.f 40 [[3], [0], [0], [1, 2]] [[3], [0], [0], [1, 2]] = some true := by kernel_rfl
theorem s_crit : graph_Critical.f g4 = some [] := by kernel_rfl
theorem s_reach : graph_Reach.f g4 1 = some [true, true, true, true] := by kernel_rfl

/-- a literal row of numbers -/
abbrev cellsI (l : List Int) : Obj := .cells (l.map (Value.int .i64)).toArray 3
theorem reps_ints {W : World} {base : Nat} {ok : Nat → Prop} (l : List Int) : Reps ((Kd.int .i64).M W base ok) (Kd.int .i64).sz l (l.map (Value.int .i64)) := by
  refine ⟨by rw [List.length_map]; show _ = l.length * 1; omega, fun j p hj => ?_⟩
  obtain ⟨h, rfl⟩ := List.getElem?_eq_some_iff.1 hj
  show ((l.map (Value.int .i64)).drop (j * 1)).take 1 = [Value.int .i64 l[j]]
  rw [Nat.mul_one, List.take_one, List.head?_drop, List.getElem?_map, hj]
  rfl
theorem lit_row (W : World) (l : List Int) (hl : l.length ≤ 1000) : Kd.R (Kd.int .i64) 3 (W.alloc (cellsI l)) W.heap.size (fun _ => True) (.slice (some ⟨W.heap.size, 0, none⟩) l.length l.length) l :=
  R_new_lit (Kd.int .i64) W W.heap.size 3 (ok := fun _ => True) (okp := fun _ => True) (reps_ints l) (fun _ h => h) trivial (Nat.le_refl _) (by omega)
inductive RowsR (W : World) (base : Nat) (ok : Nat → Prop) : List (List Int) → List Value → Prop
  | nil : RowsR W base ok [] []
  | cons {l : List Int} {v : Value} {ls : List (List Int)} {vs : List Value} : Kd.R (Kd.int .i64) 3 W base ok v l → RowsR W base ok ls vs → RowsR W base ok (l :: ls) (v :: vs)
theorem reps_rows {W : World} {base : Nat} {ok : Nat → Prop} : ∀ {ls : List (List Int)} {vs : List Value}, RowsR W base ok ls vs → Reps ((Kd.slice 3 (Kd.int .i64)).M W base ok) (Kd.slice 3 (Kd.int .i64)).sz ls vs := by
  intro ls vs h
  refine ⟨?_, ?_⟩
  · have : vs.length = ls.length := by induction h <;> simp_all
    rw [this]; show _ = ls.length * 1; omega
  · intro j p hj
    show (Kd.slice 3 (Kd.int .i64)).M W base ok p ((vs.drop (j * 1)).take 1)
    rw [Nat.mul_one]
    induction h generalizing j with
    | nil => simp at hj
    | cons h1 h2 ih =>
      cases j with
      | zero => simp at hj; subst hj; exact Kd.M_row h1
      | succ j => simp at hj; simpa using ih j hj
theorem lit_rows1 (W : World) (a : List Int) (ha : a.length ≤ 1000) : Kd.C (Kd.slice 3 (Kd.int .i64)) ((W.alloc (cellsI a)).alloc (.cells #[.slice (some ⟨W.heap.size, 0, none⟩) a.length a.length] 27)) (some ⟨W.heap.size + 1, 0, none⟩) 1 [a] := by
  have h1 := lit_row W a ha
  have h2 := R_new_lit (Kd.slice 3 (Kd.int .i64)) (W.alloc (cellsI a)) W.heap.size 27 (xs := [a]) (inner := [.slice (some ⟨W.heap.size, 0, none⟩) a.length a.length]) (ok := fun _ => True) (okp := fun _ => True) (reps_rows (.cons h1 .nil)) (fun _ h => h) trivial (by simp) (by simp)
  rw [World.size_alloc] at h2
  exact (Kd.R_reads' h2).2.2
theorem lit_rows4 (W : World) (a b c d : List Int) (ha : a.length ≤ 1000) (hb : b.length ≤ 1000) (hc : c.length ≤ 1000) (hd : d.length ≤ 1000) :
    Kd.C (Kd.slice 3 (Kd.int .i64)) (((((W.alloc (cellsI a)).alloc (cellsI b)).alloc (cellsI c)).alloc (cellsI d)).alloc (.cells #[.slice (some ⟨W.heap.size, 0, none⟩) a.length a.length, .slice (some ⟨W.heap.size + 1, 0, none⟩) b.length b.length, .slice (some ⟨W.heap.size + 2, 0, none⟩) c.length c.length, .slice (some ⟨W.heap.size + 3, 0, none⟩) d.length d.length] 27)) (some ⟨W.heap.size + 4, 0, none⟩) 4 [a, b, c, d] := by
  have al : ∀ (w : World) (o : Obj), Below w.heap.size w (w.alloc o) := fun w o => below_alloc (Below.refl _ _) _
  have h1 := Kd.R_below (Kd.R_below (Kd.R_below (lit_row W a ha) (al _ (cellsI b))) (al _ (cellsI c))) (al _ (cellsI d))
  have h2 := Kd.R_lower (Kd.R_below (Kd.R_below (lit_row (W.alloc (cellsI a)) b hb) (al _ (cellsI c))) (al _ (cellsI d))) (base' := W.heap.size) (by simp)
  have h3 := Kd.R_lower (Kd.R_below (lit_row ((W.alloc (cellsI a)).alloc (cellsI b)) c hc) (al _ (cellsI d))) (base' := W.heap.size) (by simp; omega)
  have h4 := Kd.R_lower (lit_row (((W.alloc (cellsI a)).alloc (cellsI b)).alloc (cellsI c)) d hd) (base' := W.heap.size) (by simp; omega)
  simp only [World.size_alloc, Nat.add_assoc, Nat.reduceAdd] at h2 h3 h4
  have h5 := R_new_lit (Kd.slice 3 (Kd.int .i64)) ((((W.alloc (cellsI a)).alloc (cellsI b)).alloc (cellsI c)).alloc (cellsI d)) W.heap.size 27 (xs := [a, b, c, d]) (ok := fun _ => True) (okp := fun _ => True) (reps_rows (.cons h1 (.cons h2 (.cons h3 (.cons h4 .nil))))) (fun _ h => h) trivial (by simp; omega) (by simp)
  simp only [World.size_alloc, Nat.add_assoc, Nat.reduceAdd] at h5
  exact (Kd.R_reads' h5).2.2
theorem lit_pair (W : World) (x y : Int) : Kd.C k37 (W.alloc (.cells #[.int .i64 x, .int .i64 y] 37)) (some ⟨W.heap.size, 0, none⟩) 1 [⟨x, y⟩] := by
  have h := R_new_lit k37 W W.heap.size 37 (xs := [(⟨x, y⟩ : S37)]) (inner := [.int .i64 x, .int .i64 y]) (ok := fun _ => True) (okp := fun _ => True) ⟨rfl, fun j p hj => by
    match j, hj with
    | 0, hj => simp at hj; subst hj; exact k37_mkM _ _ _ _
    | j + 1, hj => simp at hj⟩ (fun _ h => h) trivial (Nat.le_refl _) (by simp)
  exact (Kd.R_reads' h).2.2

set_option maxRecDepth 100000 in
set_option maxHeartbeats 2000000 in
theorem small_calls (w : World) : Calls Try.prog 13 #[] w fun e w' => e = .returned (.bool true) ∧ Below w.heap.size w w' := by
  have hu37 := Try.underlying37
  go_enter Try.func13, Try.ntmps13
  go_wp2_with fail
  have hC0 : Kd.C (Kd.slice 3 (Kd.int .i64)) (((((w.alloc (.cells #[.int .i64 1, .int .i64 2] 3)).alloc (.cells #[.int .i64 3] 3)).alloc (.cells #[.int .i64 3] 3)).alloc (.cells #[.int .i64 0] 3)).alloc (.cells #[.slice (some ⟨w.heap.size, 0, none⟩) 2 2, .slice (some ⟨w.heap.size + 1, 0, none⟩) 1 1, .slice (some ⟨w.heap.size + 1 + 1, 0, none⟩) 1 1, .slice (some ⟨w.heap.size + 1 + 1 + 1, 0, none⟩) 1 1] 27)) (some ⟨w.heap.size + 1 + 1 + 1 + 1, 0, none⟩) 4 g4 := lit_rows4 w [1, 2] [3] [3] [0] (by decide) (by decide) (by decide) (by decide)
  have hB0 : Below w.heap.size w (((((w.alloc (.cells #[.int .i64 1, .int .i64 2] 3)).alloc (.cells #[.int .i64 3] 3)).alloc (.cells #[.int .i64 3] 3)).alloc (.cells #[.int .i64 0] 3)).alloc (.cells #[.slice (some ⟨w.heap.size, 0, none⟩) 2 2, .slice (some ⟨w.heap.size + 1, 0, none⟩) 1 1, .slice (some ⟨w.heap.size + 1 + 1, 0, none⟩) 1 1, .slice (some ⟨w.heap.size + 1 + 1 + 1, 0, none⟩) 1 1] 27)) := below_alloc (below_alloc (below_alloc (below_alloc (below_alloc (Below.refl _ _) _) _) _) _) _
  generalize (((((w.alloc (.cells #[.int .i64 1, .int .i64 2] 3)).alloc (.cells #[.int .i64 3] 3)).alloc (.cells #[.int .i64 3] 3)).alloc (.cells #[.int .i64 0] 3)).alloc (.cells #[.slice (some ⟨w.heap.size, 0, none⟩) 2 2, .slice (some ⟨w.heap.size + 1, 0, none⟩) 1 1, .slice (some ⟨w.heap.size + 1 + 1, 0, none⟩) 1 1, .slice (some ⟨w.heap.size + 1 + 1 + 1, 0, none⟩) 1 1] 27)) = W0 at hC0 hB0 ⊢
  generalize w.heap.size + 1 + 1 + 1 + 1 = b0 at hC0 ⊢
  have hc1 : Calls Try.prog 19 #[.slice (some ⟨b0, 0, none⟩) 4 4] W0 fun e w' => e = .returned (.bool true) ∧ Below W0.heap.size W0 w' := graph_Right.calls (some ⟨b0, 0, none⟩) 4 g4 true W0 hC0 (by decide) s_right
  refine hc1.mono ?_
  rintro e w1 ⟨rfl, hb1⟩
  have hC1 := Aside0.mk (Kd.C_below hC0 hb1)
  have hB1 := Aside0.mk (below_step hB0 hb1)
  clear hc1 hC0 hB0 hb1
  go_wp2_with fail
  have ho : Calls Try.prog 28 #[.slice (some ⟨b0, 0, none⟩) 4 4] w1 fun e w' => ∃ A c, e = .returned (.slice A 4 c) ∧ 4 ≤ c ∧ Kd.C (Kd.int .i64) w' A 4 [0, 2, 1, 3] ∧ Below w1.heap.size w1 w' :=
    (graph_Order.calls (some ⟨b0, 0, none⟩) 4 g4 [0, 2, 1, 3] w1 hC1.out (by decide) s_order).mono fun e w' ⟨v, he, hR, hB⟩ => by
      obtain ⟨A, c, rfl, h1, h2⟩ := Kd.R_reads hR
      exact ⟨A, c, he, h1, h2, hB⟩
  refine ho.mono ?_
  rintro e w2 ⟨A2, c2, rfl, h2, hC2, hb2⟩
  have hC2' := Aside0.mk (Kd.C_below hC1.out hb2)
  have hB2 := Aside0.mk (below_step hB1.out hb2)
  have hi2 : Calls Try.prog 27 #[.slice A2 4 c2, .slice (some ⟨w2.heap.size, 0, none⟩) 4 4] (w2.alloc (.cells #[.int .i64 0, .int .i64 2, .int .i64 1, .int .i64 3] 3)) fun e w' => e = .returned (.bool true) ∧ Drawn0 (w2.alloc (.cells #[.int .i64 0, .int .i64 2, .int .i64 1, .int .i64 3] 3)) w' := swageref02_Ints.calls 9 A2 c2 [0, 2, 1, 3] (some ⟨w2.heap.size, 0, none⟩) 4 [0, 2, 1, 3] true _ (Kd.C_alloc hC2 (cellsI [0, 2, 1, 3])) h2 (Kd.R_reads' (lit_row w2 [0, 2, 1, 3] (by decide))).2.2 (by decide) s_ints
  have hC3 := Aside0.mk (Kd.C_alloc hC2'.out (cellsI [0, 2, 1, 3]))
  have hB3 := Aside0.mk (below_alloc hB2.out (cellsI [0, 2, 1, 3]))
  clear ho h2 hC2 hb2 hC1 hB1 hC2' hB2
  go_wp2_with fail
  refine hi2.mono ?_
  rintro e w3 ⟨rfl, hd3⟩
  have hC4 := Aside0.mk (Kd.C_below hC3.out hd3.below)
  have hB4 := Aside0.mk (below_step hB3.out hd3.below)
  clear hi2 hd3 hC3 hB3
  go_wp2_with fail
  -- Back
  have hbk : Calls Try.prog 30 #[.slice (some ⟨b0, 0, none⟩) 4 4] w3 fun e w' => ∃ A c, e = .returned (.slice A 1 c) ∧ 1 ≤ c ∧ Kd.C k37 w' A 1 [⟨3, 0⟩] ∧ Below w3.heap.size w3 w' :=
    (graph_Back.calls 40 (some ⟨b0, 0, none⟩) 4 g4 [⟨3, 0⟩] w3 hC4.out (by decide) s_back).mono fun e w' ⟨v, he, hR, hB⟩ => by
      obtain ⟨A, c, rfl, h1, h2⟩ := Kd.R_reads hR
      exact ⟨A, c, he, h1, h2, hB⟩
  refine hbk.mono ?_
  rintro e w4 ⟨A4, c4, rfl, h4, hC5, hb4⟩
  have hC6 := Aside0.mk (Kd.C_below hC4.out hb4)
  have hB6 := Aside0.mk (below_step hB4.out hb4)
  have hp : Calls Try.prog 24 #[.slice A4 1 c4, .slice (some ⟨w4.heap.size, 0, none⟩) 1 1] (w4.alloc (.cells #[.int .i64 3, .int .i64 0] 37)) fun e w' => e = .returned (.bool true) ∧ Drawn0 (w4.alloc (.cells #[.int .i64 3, .int .i64 0] 37)) w' := swageref05_Pairs.calls 9 A4 c4 [⟨3, 0⟩] (some ⟨w4.heap.size, 0, none⟩) 1 [⟨3, 0⟩] true _ (Kd.C_alloc hC5 _) h4 (lit_pair w4 3 0) (by decide) s_pairs
  have hC7 := Aside0.mk (Kd.C_alloc hC6.out (.cells #[.int .i64 3, .int .i64 0] 37))
  have hB7 := Aside0.mk (below_alloc hB6.out (.cells #[.int .i64 3, .int .i64 0] 37))
  clear hbk h4 hC5 hb4 hC4 hB4 hC6 hB6
  go_wp2_with fail
  refine hp.mono ?_
  rintro e w5 ⟨rfl, hd5⟩
  have hC8 := Aside0.mk (Kd.C_below hC7.out hd5.below)
  have hB8 := Aside0.mk (below_step hB7.out hd5.below)
  clear hp hd5 hC7 hB7
  go_wp2_with fail
  -- Loops
  have hlo : Calls Try.prog 32 #[.slice (some ⟨b0, 0, none⟩) 4 4] w5 fun e w' => ∃ A c, e = .returned (.slice A 1 c) ∧ 1 ≤ c ∧ Kd.C (Kd.slice 3 (Kd.int .i64)) w' A 1 [[0, 1, 2, 3]] ∧ Below w5.heap.size w5 w' :=
    (graph_Loops.calls (some ⟨b0, 0, none⟩) 4 g4 [[0, 1, 2, 3]] w5 hC8.out (by decide) s_loops).mono fun e w' ⟨v, he, hR, hB⟩ => by
      obtain ⟨A, c, rfl, h1, h2⟩ := Kd.S_reads hR
      exact ⟨A, c, he, h1, h2, hB⟩
  refine hlo.mono ?_
  rintro e w6 ⟨A6, c6, rfl, h6, hC9, hb6⟩
  have hC10 := Aside0.mk (Kd.C_below hC8.out hb6)
  have hB10 := Aside0.mk (below_step hB8.out hb6)
  have hr6 : Calls Try.prog 17 #[.slice A6 1 c6, .slice (some ⟨w6.heap.size + 1, 0, none⟩) 1 1] ((w6.alloc (.cells #[.int .i64 0, .int .i64 1, .int .i64 2, .int .i64 3] 3)).alloc (.cells #[.slice (some ⟨w6.heap.size, 0, none⟩) 4 4] 27)) fun e w' => e = .returned (.bool true) ∧ Drawn0 ((w6.alloc (.cells #[.int .i64 0, .int .i64 1, .int .i64 2, .int .i64 3] 3)).alloc (.cells #[.slice (some ⟨w6.heap.size, 0, none⟩) 4 4] 27)) w' :=
    swageref06_Rows.calls 40 A6 c6 [[0, 1, 2, 3]] (some ⟨w6.heap.size + 1, 0, none⟩) 1 [[0, 1, 2, 3]] true _ (Kd.C_alloc (Kd.C_alloc hC9 _) _) h6 (lit_rows1 w6 [0, 1, 2, 3] (by decide)) (by decide) s_rows
  have hC11 := Aside0.mk (Kd.C_alloc (Kd.C_alloc hC10.out (cellsI [0, 1, 2, 3])) (.cells #[.slice (some ⟨w6.heap.size, 0, none⟩) 4 4] 27))
  have hB11 := Aside0.mk (below_alloc (below_alloc hB10.out (cellsI [0, 1, 2, 3])) (.cells #[.slice (some ⟨w6.heap.size, 0, none⟩) 4 4] 27))
  clear hlo h6 hC9 hb6 hC8 hB8 hC10 hB10
  go_wp2_with fail
  refine hr6.mono ?_
  rintro e w7 ⟨rfl, hd7⟩
  have hC12 := Aside0.mk (Kd.C_below hC11.out hd7.below)
  have hB12 := Aside0.mk (below_step hB11.out hd7.below)
  clear hr6 hd7 hC11 hB11
  go_wp2_with fail
  -- Preds
  have hpr : Calls Try.prog 16 #[.slice (some ⟨b0, 0, none⟩) 4 4] w7 fun e w' => ∃ A c, e = .returned (.slice A 4 c) ∧ 4 ≤ c ∧ Kd.C (Kd.slice 3 (Kd.int .i64)) w' A 4 [[3], [0], [0], [1, 2]] ∧ Below w7.heap.size w7 w' :=
    (graph_Preds.calls 40 (some ⟨b0, 0, none⟩) 4 g4 [[3], [0], [0], [1, 2]] w7 hC12.out (by decide) s_preds).mono fun e w' ⟨v, he, hR, hB⟩ => by
      obtain ⟨A, c, rfl, h1, h2⟩ := Kd.S_reads hR
      exact ⟨A, c, he, h1, h2, hB⟩
  refine hpr.mono ?_
  rintro e w8 ⟨A8, c8, rfl, h8, hC13, hb8⟩
  have hC14 := Aside0.mk (Kd.C_below hC12.out hb8)
  have hB14 := Aside0.mk (below_step hB12.out hb8)
  have hr8 : Calls Try.prog 17 #[.slice A8 4 c8, .slice (some ⟨w8.heap.size + 1 + 1 + 1 + 1, 0, none⟩) 4 4] (((((w8.alloc (.cells #[.int .i64 3] 3)).alloc (.cells #[.int .i64 0] 3)).alloc (.cells #[.int .i64 0] 3)).alloc (.cells #[.int .i64 1, .int .i64 2] 3)).alloc (.cells #[.slice (some ⟨w8.heap.size, 0, none⟩) 1 1, .slice (some ⟨w8.heap.size + 1, 0, none⟩) 1 1, .slice (some ⟨w8.heap.size + 1 + 1, 0, none⟩) 1 1, .slice (some ⟨w8.heap.size + 1 + 1 + 1, 0, none⟩) 2 2] 27)) fun e w' => e = .returned (.bool true) ∧ Drawn0 (((((w8.alloc (.cells #[.int .i64 3] 3)).alloc (.cells #[.int .i64 0] 3)).alloc (.cells #[.int .i64 0] 3)).alloc (.cells #[.int .i64 1, .int .i64 2] 3)).alloc (.cells #[.slice (some ⟨w8.heap.size, 0, none⟩) 1 1, .slice (some ⟨w8.heap.size + 1, 0, none⟩) 1 1, .slice (some ⟨w8.heap.size + 1 + 1, 0, none⟩) 1 1, .slice (some ⟨w8.heap.size + 1 + 1 + 1, 0, none⟩) 2 2] 27)) w' :=
    swageref06_Rows.calls 40 A8 c8 [[3], [0], [0], [1, 2]] (some ⟨w8.heap.size + 1 + 1 + 1 + 1, 0, none⟩) 4 [[3], [0], [0], [1, 2]] true _ (Kd.C_alloc (Kd.C_alloc (Kd.C_alloc (Kd.C_alloc (Kd.C_alloc hC13 _) _) _) _) _) h8 (lit_rows4 w8 [3] [0] [0] [1, 2] (by decide) (by decide) (by decide) (by decide)) (by decide) s_rows2
  have hC15 : Aside0 (Kd.C (Kd.slice 3 (Kd.int .i64)) (((((w8.alloc (.cells #[.int .i64 3] 3)).alloc (.cells #[.int .i64 0] 3)).alloc (.cells #[.int .i64 0] 3)).alloc (.cells #[.int .i64 1, .int .i64 2] 3)).alloc (.cells #[.slice (some ⟨w8.heap.size, 0, none⟩) 1 1, .slice (some ⟨w8.heap.size + 1, 0, none⟩) 1 1, .slice (some ⟨w8.heap.size + 1 + 1, 0, none⟩) 1 1, .slice (some ⟨w8.heap.size + 1 + 1 + 1, 0, none⟩) 2 2] 27)) (some ⟨b0, 0, none⟩) 4 g4) := ⟨Kd.C_alloc (Kd.C_alloc (Kd.C_alloc (Kd.C_alloc (Kd.C_alloc hC14.out _) _) _) _) _⟩
  have hB15 : Aside0 (Below w.heap.size w (((((w8.alloc (.cells #[.int .i64 3] 3)).alloc (.cells #[.int .i64 0] 3)).alloc (.cells #[.int .i64 0] 3)).alloc (.cells #[.int .i64 1, .int .i64 2] 3)).alloc (.cells #[.slice (some ⟨w8.heap.size, 0, none⟩) 1 1, .slice (some ⟨w8.heap.size + 1, 0, none⟩) 1 1, .slice (some ⟨w8.heap.size + 1 + 1, 0, none⟩) 1 1, .slice (some ⟨w8.heap.size + 1 + 1 + 1, 0, none⟩) 2 2] 27))) := ⟨below_alloc (below_alloc (below_alloc (below_alloc (below_alloc hB14.out _) _) _) _) _⟩
  clear hpr h8 hC13 hb8 hC12 hB12 hC14 hB14
  go_wp2_with fail
  refine hr8.mono ?_
  rintro e w9 ⟨rfl, hd9⟩
  have hC16 := Aside0.mk (Kd.C_below hC15.out hd9.below)
  have hB16 := Aside0.mk (below_step hB15.out hd9.below)
  clear hr8 hd9 hC15 hB15
  go_wp2_with fail
  -- Critical
  have hcr : Calls Try.prog 25 #[.slice (some ⟨b0, 0, none⟩) 4 4] w9 fun e w' => ∃ A c, e = .returned (.slice A 0 c) ∧ Below w9.heap.size w9 w' :=
    (graph_Critical.calls (some ⟨b0, 0, none⟩) 4 g4 [] w9 hC16.out (by decide) s_crit).mono fun e w' ⟨v, he, hR, hB⟩ => by
      obtain ⟨A, c, rfl, h1, h2⟩ := Kd.R_reads hR
      exact ⟨A, c, he, hB⟩
  refine hcr.mono ?_
  rintro e w10 ⟨A10, c10, rfl, hb10⟩
  have hC17 := Aside0.mk (Kd.C_below hC16.out hb10)
  have hB17 := Aside0.mk (below_step hB16.out hb10)
  clear hcr hb10 hC16 hB16
  go_wp2_with fail
  -- Reach
  have hre : Calls Try.prog 22 #[.slice (some ⟨b0, 0, none⟩) 4 4, .int .i64 1] w10 fun e w' => ∃ A c, e = .returned (.slice A 4 c) ∧ Below w10.heap.size w10 w' :=
    (graph_Reach.calls (some ⟨b0, 0, none⟩) 4 g4 1 [true, true, true, true] w10 hC17.out (by decide) s_reach).mono fun e w' ⟨v, he, hR, hB⟩ => by
      obtain ⟨A, c, rfl, h1, h2⟩ := Kd.R_reads hR
      exact ⟨A, c, he, hB⟩
  refine hre.mono ?_
  rintro e w11 ⟨A11, c11, rfl, hb11⟩
  have hB18 := Aside0.mk (below_step hB17.out hb11)
  clear hre hb11 hC17 hB17
  go_wp2_with fail
  go_ret
  exact ⟨rfl, hB18.out⟩
def swagelaw06_small.f : Option Bool := some true
theorem swagelaw06_small.calls (r : Bool) (w : World) (h : swagelaw06_small.f = some r) : Calls Try.prog 13 #[] w fun e w' => e = .returned (.bool r) ∧ Below w.heap.size w w' := by
  obtain rfl := Option.some.inj h
  exact small_calls w
end Go.Proofs.Ytkmbhknmjnbanaa.A


namespace Go.Proofs.Ytkmbhknmjnbanaa.A
open Go.RowKit Go.Proofs.YtkmbhknmjnbanaaW.PrintWords Go.Proofs.YtkmbhknmjnbanaaW.PrintLast Go.Shelf
set_option linter.unusedVariables false
set_option linter.unusedSimpArgs false

theorem bodyRes_len {g : List (List Int)} (h : Nat) (fr : List Int) : (bodyRes (predsOf g) (reachRes g 0) h fr).length ≤ g.length + 1 := by
  unfold bodyRes others
  rw [List.length_cons, List.length_map, predsOf_len]
  have := List.length_filter_le (fun k : Nat => bodyW (predsOf g) (reachRes g 0) (budget (predsOf g) (ins (fun _ => false) h) fr) (ins (fun _ => false) h) fr k && !decide (k = h)) (List.range g.length)
  rw [List.length_range] at this
  omega
theorem loopsOf_rows {g : List (List Int)} : ∀ l ∈ loopsOf g, l.length ≤ g.length + 1 := by
  intro l hl
  unfold loopsOf at hl
  obtain ⟨h, _, rfl⟩ := List.mem_map.1 hl
  exact bodyRes_len _ _
end Go.Proofs.Ytkmbhknmjnbanaa.A


namespace Go.Proofs.Ytkmbhknmjnbanaa.A
open Go.RowKit Go.Proofs.YtkmbhknmjnbanaaW.PrintWords Go.Proofs.YtkmbhknmjnbanaaW.PrintLast Go.Proofs.YtkmbhknmjnbanaaW.PrintMore
attribute [local go_sem] max2_int min2_int max_two min_two max_three min_three max_four min_four   -- for this text's walks alone
set_option linter.unusedVariables false
set_option linter.unusedSimpArgs false

mutual
def swagelaw06_GraphLoops.j0 : Nat → List (List Int) → Bool → Bool → Option (Bool)
  | 0, _, _, _ => none
  | k + 1, x0, x3, x28 => if x28 = true then (some x3) else ((graph_Loops.f x0).bind fun t521 => ((graph_Back.f k x0).bind fun t524 => (if (((t521.length : Int) == 0) != ((t524.length : Int) == 0)) = true then (swagelaw06_GraphLoops.j1 k x0 x3 t521 true) else (swagelaw06_GraphLoops.j1 k x0 x3 t521 (decide ((t521.length : Int) > (t524.length : Int)))))))
def swagelaw06_GraphLoops.j1 : Nat → List (List Int) → Bool → List (List Int) → Bool → Option (Bool)
  | 0, _, _, _, _ => none
  | k + 1, x0, x3, x5, x47 => if x47 = true then (some false) else (swagelaw06_GraphLoops.l0 k x0 x3 x5 0)
def swagelaw06_GraphLoops.l0 : Nat → List (List Int) → Bool → List (List Int) → Int → Option (Bool)
  | 0, _, _, _, _ => none
  | k + 1, x0, x3, x5, x7 => if x7 < (x5.length : Int) then (if 0 ≤ (x0.length : Int) then (if ((x0.length : Int) : Int).toNat ≤ 281474976710656 then (swagelaw06_GraphLoops.l1 k x0 x3 x5 x7 (List.replicate ((x0.length : Int) : Int).toNat false) 0) else (none)) else (none)) else ((graph_Preds.f k x0).bind fun t542 => (swagelaw06_GraphLoops.l4 k x0 x3 t542 0 0))
def swagelaw06_GraphLoops.l1 : Nat → List (List Int) → Bool → List (List Int) → Int → List Bool → Int → Option (Bool)
  | 0, _, _, _, _, _, _ => none
  | k + 1, x0, x3, x5, x7, x8, x9 => if 0 ≤ x7 then (if x7 < (x5.length : Int) then (if x9 < ((rd_L1 x5 x7).length : Int) then (if 0 ≤ x9 then (if (rd (rd_L1 x5 x7) x9) < 0 then (some false) else (if (rd (rd_L1 x5 x7) x9) ≥ (x0.length : Int) then (some false) else (if 0 ≤ (rd (rd_L1 x5 x7) x9) then (if (rd (rd_L1 x5 x7) x9) < (x8.length : Int) then (if rdOf false x8 (rd (rd_L1 x5 x7) x9) = true then (some false) else (swagelaw06_GraphLoops.l1 k x0 x3 x5 x7 (x8.set ((rd (rd_L1 x5 x7) x9) : Int).toNat true) (wrap64 (x9 + 1)))) else (none)) else (none)))) else (none)) else (swagelaw06_GraphLoops.l2 k x0 x3 x5 x7 x8 0)) else (none)) else (none)
def swagelaw06_GraphLoops.l2 : Nat → List (List Int) → Bool → List (List Int) → Int → List Bool → Int → Option (Bool)
  | 0, _, _, _, _, _, _ => none
  | k + 1, x0, x3, x5, x7, x8, x11 => if 0 ≤ x7 then (if x7 < (x5.length : Int) then (if x11 < ((rd_L1 x5 x7).length : Int) then (if 0 ≤ x11 then (swagelaw06_GraphLoops.l3 k x0 x3 x5 x7 x8 x11 (rd (rd_L1 x5 x7) x11) false 0) else (none)) else (swagelaw06_GraphLoops.l0 k x0 x3 x5 (wrap64 (x7 + 1)))) else (none)) else (none)
def swagelaw06_GraphLoops.l3 : Nat → List (List Int) → Bool → List (List Int) → Int → List Bool → Int → Int → Bool → Int → Option (Bool)
  | 0, _, _, _, _, _, _, _, _, _ => none
  | k + 1, x0, x3, x5, x7, x8, x11, x12, x13, x14 => if 0 ≤ x12 then (if x12 < (x0.length : Int) then (if x14 < ((rd_L1 x0 x12).length : Int) then (if x13 = true then (swagelaw06_GraphLoops.l3 k x0 x3 x5 x7 x8 x11 x12 true (wrap64 (x14 + 1))) else (if 0 ≤ x14 then (if 0 ≤ (rd (rd_L1 x0 x12) x14) then (if (rd (rd_L1 x0 x12) x14) < (x8.length : Int) then (swagelaw06_GraphLoops.l3 k x0 x3 x5 x7 x8 x11 x12 (rdOf false x8 (rd (rd_L1 x0 x12) x14)) (wrap64 (x14 + 1))) else (none)) else (none)) else (none))) else (if x13 = true then (swagelaw06_GraphLoops.l2 k x0 x3 x5 x7 x8 (wrap64 (x11 + 1))) else (some false))) else (none)) else (none)
def swagelaw06_GraphLoops.l4 : Nat → List (List Int) → Bool → List (List Int) → Int → Int → Option (Bool)
  | 0, _, _, _, _, _ => none
  | k + 1, x0, x3, x15, x16, x17 => if x17 < (x0.length : Int) then (if 0 ≤ x17 then (swagelaw06_GraphLoops.l4 k x0 x3 x15 (wrap64 (x16 + ((rd_L1 x0 x17).length : Int))) (wrap64 (x17 + 1))) else (none)) else (swagelaw06_GraphLoops.l5 k x0 x3 x15 x16 0)
def swagelaw06_GraphLoops.l5 : Nat → List (List Int) → Bool → List (List Int) → Int → Int → Option (Bool)
  | 0, _, _, _, _, _ => none
  | k + 1, x0, x3, x15, x16, x18 => if x18 < (x15.length : Int) then (if 0 ≤ x18 then (swagelaw06_GraphLoops.l5 k x0 x3 x15 (wrap64 (x16 - ((rd_L1 x15 x18).length : Int))) (wrap64 (x18 + 1))) else (none)) else (if x3 = true then (if x16 = 0 then (some ((x15.length : Int) == (x0.length : Int))) else (some false)) else (some false))
end
def swagelaw06_GraphLoops.f (k : Nat) (l0 : List (List Int)) : Option (Bool) := (swagelaw06_small.f).bind fun t518 => ((swagelaw06_Few.f k l0).bind fun t519 => (if t519 = true then ((graph_Right.f l0).bind fun t520 => (swagelaw06_GraphLoops.j0 k l0 t518 (!t520))) else (swagelaw06_GraphLoops.j0 k l0 t518 true)))
set_option maxHeartbeats 8000000 in
set_option maxRecDepth 100000 in
theorem swagelaw06_GraphLoops.calls (k : Nat) (A0 : Option Addr) (c0 : Nat) (l0 : List (List Int)) (r : Bool) (w : World) (hr0 : Kd.C (Kd.slice 3 (Kd.int .i64)) w A0 l0.length l0) (hc0 : l0.length ≤ c0) (h : swagelaw06_GraphLoops.f k l0 = some r) :
    Calls Try.prog 6 #[.slice A0 l0.length c0] w fun e w' => e = .returned (.bool r) ∧ Below w.heap.size w w' := by
  have HR0 := Aside0.mk hr0
  have HC0 := Aside0.mk hc0
  clear hr0 hc0
  have HB := Aside0.mk (Below.refl w.heap.size w)
  have H : ((swagelaw06_small.f).bind fun t518 => ((swagelaw06_Few.f k l0).bind fun t519 => (if t519 = true then ((graph_Right.f l0).bind fun t520 => (swagelaw06_GraphLoops.j0 k l0 t518 (!t520))) else (swagelaw06_GraphLoops.j0 k l0 t518 true)))) = some r := h
  clear h
  replace H := Option.bind_eq_some_iff.mp H
  obtain ⟨t518, A20, H⟩ := H
  replace H : ((swagelaw06_Few.f k l0).bind fun t519 => (if t519 = true then ((graph_Right.f l0).bind fun t520 => (swagelaw06_GraphLoops.j0 k l0 t518 (!t520))) else (swagelaw06_GraphLoops.j0 k l0 t518 true))) = some r := H
  have A2 := Aside0.mk A20
  clear A20
  replace H := Option.bind_eq_some_iff.mp H
  obtain ⟨t519, A30, H⟩ := H
  replace H : (if t519 = true then ((graph_Right.f l0).bind fun t520 => (swagelaw06_GraphLoops.j0 k l0 t518 (!t520))) else (swagelaw06_GraphLoops.j0 k l0 t518 true)) = some r := H
  have A3 := Aside0.mk A30
  clear A30
  have HC4 := Aside0.mk H
  clear H
  go_enter Try.func6, Try.ntmps6
  go_upto_region 3 with (first | ((with_reducible refine gate_callee (f := 13) rfl ?_); refine goesL_ (some 19) rfl rfl Try.func13 (by kernel_rfl) rfl #[] rfl (by (try simp only [List.map_toArray, List.map_cons, List.map_nil]); first | done | rfl | (simp only [List.length_drop, List.length_take]; rfl)) ?_; (with_reducible refine (swagelaw06_small.calls  t518 _ A2.out).mono ?_); rintro e w5 ⟨rfl, hb⟩; refine ⟨_, rfl, ?_⟩; have n0_ := Aside0.mk (below_step (by repeat (first | (with_reducible first | exact HB.out | apply below_alloc | apply pw_below_drewN | apply below_drew1) | exact HB.out)) hb); clear HB; have HB := n0_; clear n0_; (try clear hb); (try clear hb2); (try clear hk); (try clear hi)) | ((with_reducible refine gate_callee (f := 14) rfl ?_); refine goesL_ (some 21) rfl rfl Try.func14 (by kernel_rfl) rfl #[.slice A0 l0.length c0] rfl (by (try simp only [List.map_toArray, List.map_cons, List.map_nil]); first | done | rfl | (simp only [List.length_drop, List.length_take]; rfl)) ?_; (with_reducible refine (swagelaw06_Few.calls k _ _ l0 t519 _ ?side1 ?side2 A3.out).mono ?_); (case side1 => repeat (first | exact (Kd.C_below HR0.out HB.out) | (with_reducible refine Kd.C_alloc ?_ _) | (with_reducible refine Kd.C_drewN ?_ _) | (with_reducible refine Kd.C_drew ?_))); (case side2 => exact HC0.out); rintro e w' ⟨rfl, ⟨nd, rfl⟩⟩; refine ⟨_, rfl, ?_⟩))
  (try simp only [Act.put, List.setIfInBounds_toArray, List.set_cons_zero, List.set_cons_succ])
  go_cut [28] (fun v28 wc => ∃ (kq : Nat) (x28_3 : Bool), v28 = .bool x28_3 ∧ Aside0 (swagelaw06_GraphLoops.j0 kq l0 t518 x28_3 = some r) ∧ Aside0 (kq ≤ k) ∧ Aside0 (Below w.heap.size w wc))
  case first =>
    have H := HC4.out
    clear HC4
    by_cases c6 : t519 = true
    · subst c6
      have H1 : ((graph_Right.f l0).bind fun t520 => (swagelaw06_GraphLoops.j0 k l0 t518 (!t520))) = some r := by rw [if_pos rfl] at H; exact H
      clear H
      have H := H1
      clear H1
      replace H := Option.bind_eq_some_iff.mp H
      obtain ⟨t520, A70, H⟩ := H
      replace H : (swagelaw06_GraphLoops.j0 k l0 t518 (!t520)) = some r := H
      have A7 := Aside0.mk A70
      clear A70
      have H' := Aside0.mk H
      clear H
      go_wp2_with (first | (go_at_call 19; (with_reducible refine (graph_Right.calls _ _ l0 t520 _ ?side1 ?side2 A7.out).mono ?_); (case side1 => repeat (first | exact (Kd.C_below HR0.out HB.out) | (with_reducible refine Kd.C_alloc ?_ _) | (with_reducible refine Kd.C_drewN ?_ _) | (with_reducible refine Kd.C_drew ?_))); (case side2 => exact HC0.out); rintro e w8 ⟨rfl, hb⟩; have n0_ := Aside0.mk (below_step (by repeat (first | (with_reducible first | exact HB.out | apply below_alloc | apply pw_below_drewN | apply below_drew1) | exact HB.out)) hb); clear HB; have HB := n0_; clear n0_; (try clear hb); (try clear hb2); (try clear hk); (try clear hi)))
      go_meet
      case rel => exact ⟨_, (!t520), (by first | rfl | (simp; done) | (simp [*]; done)), H', ⟨by first | omega | exact Nat.le_refl _⟩, ⟨by repeat (first | (with_reducible first | exact HB.out | apply below_alloc | apply pw_below_drewN | apply below_drew1) | exact HB.out)⟩⟩
    · replace c6 := Bool.eq_false_iff.mpr c6
      subst c6
      have H1 : (swagelaw06_GraphLoops.j0 k l0 t518 true) = some r := by rw [if_neg (show ¬ (false = true) by decide)] at H; exact H
      clear H
      have H := H1
      clear H1
      have H' := Aside0.mk H
      clear H
      go_wp2
      go_meet
      case rel => exact ⟨_, (true), (by first | rfl | (simp; done) | (simp [*]; done)), H', ⟨by first | omega | exact Nat.le_refl _⟩, ⟨by repeat (first | (with_reducible first | exact HB.out | apply below_alloc | apply pw_below_drewN | apply below_drew1) | exact HB.out)⟩⟩
  case rest =>
    clear HC4
    try clear c1
    try clear p2
    try clear c6
    obtain ⟨kq, x28_3, rfl, HA, HJ3, HB⟩ := hcut
    cases kq with
    | zero => exact absurd HA.out (by simp [swagelaw06_GraphLoops.j0])
    | succ kj3 =>
      have H := HA.out
      clear HA
      simp only [swagelaw06_GraphLoops.j0] at H
      by_cases c9 : x28_3 = true
      · subst c9
        have H1 : (some t518) = some r := by rw [if_pos rfl] at H; exact H
        clear H
        have H := H1
        clear H1
        obtain rfl := Option.some.inj H
        go_wp2
        go_ret
        exact ⟨by first | rfl | (simp [errW_none, errW_some] <;> rfl) | (simp [*, errW_none, errW_some] <;> rfl), by repeat (first | (with_reducible first | exact HB.out | apply below_alloc | apply pw_below_drewN | apply below_drew1) | exact HB.out)⟩
      · replace c9 := Bool.eq_false_iff.mpr c9
        subst c9
        have H1 : ((graph_Loops.f l0).bind fun t521 => ((graph_Back.f kj3 l0).bind fun t524 => (if (((t521.length : Int) == 0) != ((t524.length : Int) == 0)) = true then (swagelaw06_GraphLoops.j1 kj3 l0 t518 t521 true) else (swagelaw06_GraphLoops.j1 kj3 l0 t518 t521 (decide ((t521.length : Int) > (t524.length : Int))))))) = some r := by rw [if_neg (show ¬ (false = true) by decide)] at H; exact H
        clear H
        have H := H1
        clear H1
        replace H := Option.bind_eq_some_iff.mp H
        obtain ⟨t521, A100, H⟩ := H
        replace H : ((graph_Back.f kj3 l0).bind fun t524 => (if (((t521.length : Int) == 0) != ((t524.length : Int) == 0)) = true then (swagelaw06_GraphLoops.j1 kj3 l0 t518 t521 true) else (swagelaw06_GraphLoops.j1 kj3 l0 t518 t521 (decide ((t521.length : Int) > (t524.length : Int)))))) = some r := H
        have A10 := Aside0.mk A100
        clear A100
        replace H := Option.bind_eq_some_iff.mp H
        obtain ⟨t524, A110, H⟩ := H
        replace H : (if (((t521.length : Int) == 0) != ((t524.length : Int) == 0)) = true then (swagelaw06_GraphLoops.j1 kj3 l0 t518 t521 true) else (swagelaw06_GraphLoops.j1 kj3 l0 t518 t521 (decide ((t521.length : Int) > (t524.length : Int))))) = some r := H
        have A11 := Aside0.mk A110
        clear A110
        have HC12 := Aside0.mk H
        clear H
        go_upto_region 7 with (first | ((with_reducible refine gate_callee (f := 32) rfl ?_); refine goesL_ (some 31) rfl rfl Try.func32 (by kernel_rfl) rfl #[.slice A0 l0.length c0] rfl (by (try simp only [List.map_toArray, List.map_cons, List.map_nil]); first | done | rfl | (simp only [List.length_drop, List.length_take]; rfl)) ?_; (with_reducible refine (graph_Loops.calls _ _ l0 t521 _ ?side1 ?side2 A10.out).mono ?_); (case side1 => repeat (first | exact (Kd.C_below HR0.out HB.out) | (with_reducible refine Kd.C_alloc ?_ _) | (with_reducible refine Kd.C_drewN ?_ _) | (with_reducible refine Kd.C_drew ?_))); (case side2 => exact HC0.out); rintro e w13 ⟨v522, rfl, ho0, hb⟩; refine ⟨_, rfl, ?_⟩; have n0_ := Aside0.mk (Kd.S_lower ho0 (below_size (by repeat (first | (with_reducible first | exact HB.out | apply below_alloc | apply pw_below_drewN | apply below_drew1) | exact HB.out)))); have n1_ := Aside0.mk (below_step (by repeat (first | (with_reducible first | exact HB.out | apply below_alloc | apply pw_below_drewN | apply below_drew1) | exact HB.out)) hb); clear HB; have HO523 := n0_; have HB := n1_; clear n0_ n1_; (try clear hb); (try clear hb2); (try clear hk); (try clear hi); (try clear ho0)) | ((with_reducible refine gate_callee (f := 30) rfl ?_); refine goesL_ (some 33) rfl rfl Try.func30 (by kernel_rfl) rfl #[.slice A0 l0.length c0] rfl (by (try simp only [List.map_toArray, List.map_cons, List.map_nil]); first | done | rfl | (simp only [List.length_drop, List.length_take]; rfl)) ?_; (with_reducible refine (graph_Back.calls kj3 _ _ l0 t524 _ ?side1 ?side2 A11.out).mono ?_); (case side1 => repeat (first | exact (Kd.C_below HR0.out HB.out) | (with_reducible refine Kd.C_alloc ?_ _) | (with_reducible refine Kd.C_drewN ?_ _) | (with_reducible refine Kd.C_drew ?_))); (case side2 => exact HC0.out); rintro e w14 ⟨v525, rfl, ho0, hb⟩; refine ⟨_, rfl, ?_⟩; have n0_ := Aside0.mk (Kd.S_below (by (with_reducible repeat (first | apply Kd.S_alloc | apply Kd.S_drewN | apply Kd.S_drew)); exact HO523.out) hb); have n1_ := Aside0.mk (Kd.R_lower ho0 (below_size (by repeat (first | (with_reducible first | exact HB.out | apply below_alloc | apply pw_below_drewN | apply below_drew1) | exact HB.out)))); have n2_ := Aside0.mk (below_step (by repeat (first | (with_reducible first | exact HB.out | apply below_alloc | apply pw_below_drewN | apply below_drew1) | exact HB.out)) hb); clear HO523; clear HB; have HO523 := n0_; have HO526 := n1_; have HB := n2_; clear n0_ n1_ n2_; (try clear hb); (try clear hb2); (try clear hk); (try clear hi); (try clear ho0)))
        (try simp only [Act.put, List.setIfInBounds_toArray, List.set_cons_zero, List.set_cons_succ])
        go_cut [47] (fun v47 wc => ∃ (kq : Nat) (x47_11 : Bool), v47 = .bool x47_11 ∧ Aside0 (swagelaw06_GraphLoops.j1 kq l0 t518 t521 x47_11 = some r) ∧ Aside0 (kq ≤ kj3) ∧ Aside0 (Kd.S (Kd.slice 3 (Kd.int .i64)) 27 wc w.heap.size (fun _ => True) v522 t521) ∧ Aside0 (Below w.heap.size w wc))
        case first =>
          have H := HC12.out
          clear HC12
          by_cases c15 : (((t521.length : Int) == 0) != ((t524.length : Int) == 0)) = true
          · rw [if_pos c15] at H
            have c15b0 : (((t521.length : Int) == 0) != ((t524.length : Int) == 0)) = true := c15
            (try (have c15b1 : decide (((t521.length : Int) == 0) = ((t524.length : Int) == 0)) = false := by simpa using c15))
            (try (have c15b2 : (((t521.length : Int) == 0) == ((t524.length : Int) == 0)) = false := by simpa using c15))
            (try (have c15b3 : ¬ (((t521.length : Int) == 0) = ((t524.length : Int) == 0)) := by simpa using c15))
            clear c15
            (first | rw [c15b0] | (simp only [i64_w, i32_w]; rw [c15b0]) | skip)
            have H' := Aside0.mk H
            clear H
            obtain ⟨Ao16, co16, eo16⟩ := Kd.S_slice HO523.out
            subst eo16
            obtain ⟨Ao17, co17, eo17⟩ := Kd.R_slice HO526.out
            subst eo17
            go_wp2
            go_meet
            case rel => exact ⟨_, (true), (by first | rfl | (simp; done) | (simp [*]; done)), H', ⟨by have := HJ3.out; first | omega | exact Nat.le_refl _⟩, ⟨by (with_reducible repeat (first | apply Kd.S_alloc | apply Kd.S_drewN | apply Kd.S_drew)); exact HO523.out⟩, ⟨by repeat (first | (with_reducible first | exact HB.out | apply below_alloc | apply pw_below_drewN | apply below_drew1) | exact HB.out)⟩⟩
          · rw [if_neg c15] at H
            have c15b0 : (((t521.length : Int) == 0) != ((t524.length : Int) == 0)) = false := by simpa using c15
            (try (have c15b1 : decide (((t521.length : Int) == 0) = ((t524.length : Int) == 0)) = true := by simpa using c15))
            (try (have c15b2 : (((t521.length : Int) == 0) == ((t524.length : Int) == 0)) = true := by simpa using c15))
            clear c15
            (first | rw [c15b0] | (simp only [i64_w, i32_w]; rw [c15b0]) | skip)
            have H' := Aside0.mk H
            clear H
            obtain ⟨Ao18, co18, eo18⟩ := Kd.S_slice HO523.out
            subst eo18
            obtain ⟨Ao19, co19, eo19⟩ := Kd.R_slice HO526.out
            subst eo19
            go_wp2
            go_meet
            case rel => exact ⟨_, (decide ((t521.length : Int) > (t524.length : Int))), (by first | rfl | (simp; done) | (simp [*]; done)), H', ⟨by have := HJ3.out; first | omega | exact Nat.le_refl _⟩, ⟨by (with_reducible repeat (first | apply Kd.S_alloc | apply Kd.S_drewN | apply Kd.S_drew)); exact HO523.out⟩, ⟨by repeat (first | (with_reducible first | exact HB.out | apply below_alloc | apply pw_below_drewN | apply below_drew1) | exact HB.out)⟩⟩
        case rest =>
          clear HC12
          try clear c1
          try clear p2
          try clear c3
          try clear c6
          try clear c9
          try clear c13
          try clear c14
          try clear c15
          try clear c15b0
          try clear c15b1
          try clear c15b2
          try clear p2
          obtain ⟨kq, x47_11, rfl, HA, HJ11, HO_5, HB⟩ := hcut
          cases kq with
          | zero => exact absurd HA.out (by simp [swagelaw06_GraphLoops.j1])
          | succ kj11 =>
            have H := HA.out
            clear HA
            simp only [swagelaw06_GraphLoops.j1] at H
            by_cases c20 : x47_11 = true
            · subst c20
              have H1 : (some false) = some r := by rw [if_pos rfl] at H; exact H
              clear H
              have H := H1
              clear H1
              obtain rfl := Option.some.inj H
              go_wp2
              go_ret
              exact ⟨by first | rfl | (simp [errW_none, errW_some] <;> rfl) | (simp [*, errW_none, errW_some] <;> rfl), by repeat (first | (with_reducible first | exact HB.out | apply below_alloc | apply pw_below_drewN | apply below_drew1) | exact HB.out)⟩
            · replace c20 := Bool.eq_false_iff.mpr c20
              subst c20
              have H1 : (swagelaw06_GraphLoops.l0 kj11 l0 t518 t521 0) = some r := by rw [if_neg (show ¬ (false = true) by decide)] at H; exact H
              clear H
              have H := H1
              clear H1
              have H' := Aside0.mk H
              clear H
              go_wp2
              go_loopg [7] kj11 (fun kq v7 w' => ∃ (x7_3 : Int), v7 = .int .i64 x7_3 ∧ Aside0 (swagelaw06_GraphLoops.l0 kq l0 t518 t521 x7_3 = some r) ∧ Aside0 (kq ≤ kj11) ∧ Aside0 (Kd.S (Kd.slice 3 (Kd.int .i64)) 27 w' w.heap.size (fun _ => True) v522 t521) ∧ Aside0 (Below w.heap.size w w'))
              case atStart => exact ⟨(0), (by first | rfl | (simp; done) | (simp [*]; done)), H', ⟨Nat.le_refl _⟩, ⟨by (with_reducible repeat (first | apply Kd.S_alloc | apply Kd.S_drewN | apply Kd.S_drew)); exact HO_5.out⟩, ⟨by repeat (first | (with_reducible first | exact HB.out | apply below_alloc | apply pw_below_drewN | apply below_drew1) | exact HB.out)⟩⟩
              case round =>
                clear H'
                try clear c1
                try clear c2
                try clear p2
                try clear c3
                try clear c6
                try clear c9
                try clear c13
                try clear c14
                try clear c15
                try clear c15b0
                try clear c15b1
                try clear c15b2
                try clear c20
                try clear p2
                obtain ⟨x7_3, rfl, HA, HK3, HO_5, HB⟩ := hrel
                cases gk with
                | zero => exact absurd HA.out (by simp [swagelaw06_GraphLoops.l0])
                | succ k3 =>
                  have H := HA.out
                  clear HA
                  simp only [swagelaw06_GraphLoops.l0] at H
                  by_cases c21 : x7_3 < (t521.length : Int)
                  · rw [if_pos c21] at H
                    have c21b0 : decide (x7_3 < (t521.length : Int)) = true := decide_eq_true c21
                    clear c21
                    by_cases c22 : 0 ≤ (l0.length : Int)
                    · rw [if_pos c22] at H
                      have c22b0 := eq_true c22
                      have c22b1 : decide (0 ≤ (l0.length : Int)) = true := decide_eq_true c22
                      clear c22
                      by_cases c23 : ((l0.length : Int) : Int).toNat ≤ 281474976710656
                      · rw [if_pos c23] at H
                        have c23b0 := eq_true c23
                        have c23b1 : decide (((l0.length : Int) : Int).toNat ≤ 281474976710656) = true := decide_eq_true c23
                        clear c23
                        obtain ⟨y527, hy527⟩ : ∃ y_ : List Bool, y_ = (List.replicate ((l0.length : Int) : Int).toNat false) := ⟨_, rfl⟩
                        replace H : (swagelaw06_GraphLoops.l1 k3 l0 t518 t521 x7_3 y527 0) = some r := by first | (rw [hy527]; with_reducible exact H) | (have H2_ := (Option.bind_some _ _).symm.trans H; rw [hy527]; with_reducible exact H2_) | (have H2_ := (Option.bind_some _ _).symm.trans H; with_reducible exact H2_) | with_reducible exact H | (rw [hy527]; exact H) | exact H
                        have Ny527 := Aside0.mk hy527
                        clear hy527
                        have H' := Aside0.mk H
                        clear H
                        obtain ⟨Ao24, co24, eo24⟩ := Kd.S_slice HO_5.out
                        subst eo24
                        go_wp2_with (first | ((with_reducible refine gate_dst (N := 56) rfl ?_); (try (refine gate_guard (by rfl) ?_; dsimp only)); refine Kd.R_make Kd.bool _ 4 rfl (N := 56) rfl 29 _ _ rfl (l0.length : Int) rfl rfl Try.underlying29 (.bool false) 1 info4 rfl (by decide) (by omega) false (ok := fun _ => True) (okp := fun _ => True) rfl (fun _ hk => hk) trivial (of_decide_eq_true (by first | (with_reducible assumption) | assumption)) (Nat.le_trans (Nat.mul_le_mul_right _ (of_decide_eq_true (by first | (with_reducible assumption) | assumption) : (l0.length : Int).toNat ≤ 281474976710656)) (by omega)) (Below.refl _ _) (Nat.le_refl _) ?_; intro v528 w25 ho26 hb hg_ hnew_; clear hg_ hnew_; (first | rw [← Ny527.out] at ho26 | (simp only [Int.reduceToNat] at ho26; rw [← Ny527.out] at ho26)); have n0_ := Aside0.mk (Kd.S_below (by (with_reducible repeat (first | apply Kd.S_alloc | apply Kd.S_drewN | apply Kd.S_drew)); exact HO_5.out) hb); have n1_ := Aside0.mk (Kd.R_lower ho26 (below_size (by repeat (first | (with_reducible first | exact HB.out | apply below_alloc | apply pw_below_drewN | apply below_drew1) | exact HB.out)))); have n2_ := Aside0.mk (below_step (by repeat (first | (with_reducible first | exact HB.out | apply below_alloc | apply pw_below_drewN | apply below_drew1) | exact HB.out)) hb); clear HO_5; clear HB; have HO_5 := n0_; have HO529 := n1_; have HB := n2_; clear n0_ n1_ n2_; clear hb ho26))
                        go_loopg [9] k3 (fun kq v9 w' => ∃ (x8_4 : List Bool) (x9_4 : Int), v9 = .int .i64 x9_4 ∧ Aside0 (swagelaw06_GraphLoops.l1 kq l0 t518 t521 x7_3 x8_4 x9_4 = some r) ∧ Aside0 (kq ≤ k3) ∧ Aside0 (Kd.S (Kd.slice 3 (Kd.int .i64)) 27 w' w.heap.size (fun _ => True) (.slice Ao24 t521.length co24) t521) ∧ Aside0 (Kd.R Kd.bool 4 w' w.heap.size (fun _ => True) v528 x8_4) ∧ Aside0 (Below w.heap.size w w'))
                        case atStart => exact ⟨(y527), (0), (by first | rfl | (simp; done) | (simp [*]; done)), H', ⟨Nat.le_refl _⟩, ⟨by (with_reducible repeat (first | apply Kd.S_alloc | apply Kd.S_drewN | apply Kd.S_drew)); exact HO_5.out⟩, ⟨by (with_reducible repeat (first | apply Kd.R_alloc | apply Kd.R_drewN | apply Kd.R_drew)); exact HO529.out⟩, ⟨by repeat (first | (with_reducible first | exact HB.out | apply below_alloc | apply pw_below_drewN | apply below_drew1) | exact HB.out)⟩⟩
                        case round =>
                          clear H'
                          try clear c1
                          try clear c2
                          try clear p2
                          try clear c3
                          try clear c6
                          try clear c9
                          try clear c13
                          try clear c14
                          try clear c15
                          try clear c15b0
                          try clear c15b1
                          try clear c15b2
                          try clear c20
                          try clear c21
                          try clear c21b0
                          try clear c22
                          try clear c22b0
                          try clear c22b1
                          try clear c23
                          try clear c23b0
                          try clear c23b1
                          try clear p2
                          obtain ⟨x8_4, x9_4, rfl, HA, HK4, HO_5, HO_8, HB⟩ := hrel
                          cases gk with
                          | zero => exact absurd HA.out (by simp [swagelaw06_GraphLoops.l1])
                          | succ k4 =>
                            have H := HA.out
                            clear HA
                            simp only [swagelaw06_GraphLoops.l1] at H
                            by_cases c27 : 0 ≤ x7_3
                            · rw [if_pos c27] at H
                              have c27b0 : decide (0 ≤ x7_3) = true := decide_eq_true c27
                              clear c27
                              by_cases c28 : x7_3 < (t521.length : Int)
                              · rw [if_pos c28] at H
                                have c28b0 : decide (x7_3 < (t521.length : Int)) = true := decide_eq_true c28
                                clear c28
                                by_cases c29 : x9_4 < ((rd_L1 t521 x7_3).length : Int)
                                · rw [if_pos c29] at H
                                  have c29b0 : decide (x9_4 < ((rd_L1 t521 x7_3).length : Int)) = true := decide_eq_true c29
                                  clear c29
                                  by_cases c30 : 0 ≤ x9_4
                                  · rw [if_pos c30] at H
                                    have c30b0 : decide (0 ≤ x9_4) = true := decide_eq_true c30
                                    clear c30
                                    by_cases c31 : (rd (rd_L1 t521 x7_3) x9_4) < 0
                                    · rw [if_pos c31] at H
                                      have c31b0 : decide ((rd (rd_L1 t521 x7_3) x9_4) < 0) = true := decide_eq_true c31
                                      clear c31
                                      obtain rfl := Option.some.inj H
                                      have p530 : 0 ≤ (x7_3 : Int) := of_decide_eq_true (by first | (with_reducible assumption) | assumption)
                                      have q530 : x7_3 < (t521.length : Int) := of_decide_eq_true (by first | (with_reducible assumption) | assumption)
                                      obtain ⟨ad530, A530_0, c530_0, e530, hx530_0, hl530_0, hi530_0⟩ := at_L1 (Kd.S_reads' HO_5.out).2.2 x7_3 p530 q530
                                      cases e530
                                      obtain ⟨ce530, hce530, hMe530, hcc530⟩ := Kd.S_get HO_5.out [] x7_3 p530 (by first | exact q530 | exact of_decide_eq_true (by first | (with_reducible assumption) | assumption) | (have e_ := (Kd.S_reads' HO_5.out).1; omega))
                                      obtain ⟨ve530_0, rfl, ge530_0⟩ := hMe530
                                      have hv530_0 := hcc530 0 _ rfl
                                      rw [Nat.add_zero, show ((Kd.slice 3 (Kd.int .i64))).sz = 1 from rfl, Nat.mul_one] at hv530_0
                                      replace hv530_0 := Option.some.inj (hv530_0.symm.trans hx530_0)
                                      rw [hv530_0] at ge530_0
                                      have HL530_0 := Aside0.mk (show Kd.R (Kd.int .i64) 3 _ _ _ _ (rd_L1 t521 x7_3) from ge530_0)
                                      clear hv530_0 ge530_0
                                      clear hcc530 hce530
                                      have HR530_0 := Aside0.mk hi530_0
                                      have HC530_0 := Aside0.mk hl530_0
                                      clear hi530_0 hl530_0
                                      replace p530 := eq_true p530
                                      replace q530 := eq_true q530
                                      have p531 : 0 ≤ (x7_3 : Int) := of_decide_eq_true (by first | (with_reducible assumption) | assumption)
                                      have q531 : x7_3 < (t521.length : Int) := of_decide_eq_true (by first | (with_reducible assumption) | assumption)
                                      obtain ⟨ad531, A531_0, c531_0, e531, hx531_0, hl531_0, hi531_0⟩ := at_L1 (Kd.S_reads' HO_5.out).2.2 x7_3 p531 q531
                                      obtain rfl : ad530 = ad531 := (by injection e531)
                                      obtain ⟨ce531, hce531, hMe531, hcc531⟩ := Kd.S_get HO_5.out [] x7_3 p531 (by first | exact q531 | exact of_decide_eq_true (by first | (with_reducible assumption) | assumption) | (have e_ := (Kd.S_reads' HO_5.out).1; omega))
                                      obtain ⟨ve531_0, rfl, ge531_0⟩ := hMe531
                                      have hv531_0 := hcc531 0 _ rfl
                                      rw [Nat.add_zero, show ((Kd.slice 3 (Kd.int .i64))).sz = 1 from rfl, Nat.mul_one] at hv531_0
                                      replace hv531_0 := Option.some.inj (hv531_0.symm.trans hx531_0)
                                      rw [hv531_0] at ge531_0
                                      have HL531_0 := Aside0.mk (show Kd.R (Kd.int .i64) 3 _ _ _ _ (rd_L1 t521 x7_3) from ge531_0)
                                      clear hv531_0 ge531_0
                                      clear hcc531 hce531
                                      have HR531_0 := Aside0.mk hi531_0
                                      have HC531_0 := Aside0.mk hl531_0
                                      clear hi531_0 hl531_0
                                      replace p531 := eq_true p531
                                      replace q531 := eq_true q531
                                      have ea_ := Option.some.inj (hx530_0.symm.trans hx531_0)
                                      injection ea_ with ea_ en_ ec_
                                      subst ea_
                                      subst ec_
                                      clear en_
                                      have p532 : 0 ≤ (x9_4 : Int) := of_decide_eq_true (by first | (with_reducible assumption) | assumption)
                                      have q532 : x9_4 < ((rd_L1 t521 x7_3).length : Int) := of_decide_eq_true (by first | (with_reducible assumption) | assumption)
                                      obtain ⟨ad532, e532, hx532_0⟩ := Kd.at_int (by repeat (first | (with_reducible exact HR531_0.out) | (with_reducible refine Kd.C_alloc ?_ _) | (with_reducible refine Kd.C_drewN ?_ _) | (with_reducible refine Kd.C_drew ?_) | exact HR531_0.out)) x9_4 p532 q532
                                      cases e532
                                      replace p532 := eq_true p532
                                      replace q532 := eq_true q532
                                      go_wp2
                                      go_ret
                                      exact ⟨by first | rfl | (simp [errW_none, errW_some] <;> rfl) | (simp [*, errW_none, errW_some] <;> rfl), by repeat (first | (with_reducible first | exact HB.out | apply below_alloc | apply pw_below_drewN | apply below_drew1) | exact HB.out)⟩
                                    · rw [if_neg c31] at H
                                      have c31b0 : decide ((rd (rd_L1 t521 x7_3) x9_4) < 0) = false := decide_eq_false c31
                                      clear c31
                                      by_cases c32 : (rd (rd_L1 t521 x7_3) x9_4) ≥ (l0.length : Int)
                                      · rw [if_pos c32] at H
                                        have c32b0 : decide ((l0.length : Int) ≤ (rd (rd_L1 t521 x7_3) x9_4)) = true := decide_eq_true c32
                                        clear c32
                                        obtain rfl := Option.some.inj H
                                        have p530 : 0 ≤ (x7_3 : Int) := of_decide_eq_true (by first | (with_reducible assumption) | assumption)
                                        have q530 : x7_3 < (t521.length : Int) := of_decide_eq_true (by first | (with_reducible assumption) | assumption)
                                        obtain ⟨ad530, A530_0, c530_0, e530, hx530_0, hl530_0, hi530_0⟩ := at_L1 (Kd.S_reads' HO_5.out).2.2 x7_3 p530 q530
                                        cases e530
                                        obtain ⟨ce530, hce530, hMe530, hcc530⟩ := Kd.S_get HO_5.out [] x7_3 p530 (by first | exact q530 | exact of_decide_eq_true (by first | (with_reducible assumption) | assumption) | (have e_ := (Kd.S_reads' HO_5.out).1; omega))
                                        obtain ⟨ve530_0, rfl, ge530_0⟩ := hMe530
                                        have hv530_0 := hcc530 0 _ rfl
                                        rw [Nat.add_zero, show ((Kd.slice 3 (Kd.int .i64))).sz = 1 from rfl, Nat.mul_one] at hv530_0
                                        replace hv530_0 := Option.some.inj (hv530_0.symm.trans hx530_0)
                                        rw [hv530_0] at ge530_0
                                        have HL530_0 := Aside0.mk (show Kd.R (Kd.int .i64) 3 _ _ _ _ (rd_L1 t521 x7_3) from ge530_0)
                                        clear hv530_0 ge530_0
                                        clear hcc530 hce530
                                        have HR530_0 := Aside0.mk hi530_0
                                        have HC530_0 := Aside0.mk hl530_0
                                        clear hi530_0 hl530_0
                                        replace p530 := eq_true p530
                                        replace q530 := eq_true q530
                                        have p531 : 0 ≤ (x7_3 : Int) := of_decide_eq_true (by first | (with_reducible assumption) | assumption)
                                        have q531 : x7_3 < (t521.length : Int) := of_decide_eq_true (by first | (with_reducible assumption) | assumption)
                                        obtain ⟨ad531, A531_0, c531_0, e531, hx531_0, hl531_0, hi531_0⟩ := at_L1 (Kd.S_reads' HO_5.out).2.2 x7_3 p531 q531
                                        obtain rfl : ad530 = ad531 := (by injection e531)
                                        obtain ⟨ce531, hce531, hMe531, hcc531⟩ := Kd.S_get HO_5.out [] x7_3 p531 (by first | exact q531 | exact of_decide_eq_true (by first | (with_reducible assumption) | assumption) | (have e_ := (Kd.S_reads' HO_5.out).1; omega))
                                        obtain ⟨ve531_0, rfl, ge531_0⟩ := hMe531
                                        have hv531_0 := hcc531 0 _ rfl
                                        rw [Nat.add_zero, show ((Kd.slice 3 (Kd.int .i64))).sz = 1 from rfl, Nat.mul_one] at hv531_0
                                        replace hv531_0 := Option.some.inj (hv531_0.symm.trans hx531_0)
                                        rw [hv531_0] at ge531_0
                                        have HL531_0 := Aside0.mk (show Kd.R (Kd.int .i64) 3 _ _ _ _ (rd_L1 t521 x7_3) from ge531_0)
                                        clear hv531_0 ge531_0
                                        clear hcc531 hce531
                                        have HR531_0 := Aside0.mk hi531_0
                                        have HC531_0 := Aside0.mk hl531_0
                                        clear hi531_0 hl531_0
                                        replace p531 := eq_true p531
                                        replace q531 := eq_true q531
                                        have ea_ := Option.some.inj (hx530_0.symm.trans hx531_0)
                                        injection ea_ with ea_ en_ ec_
                                        subst ea_
                                        subst ec_
                                        clear en_
                                        have p532 : 0 ≤ (x9_4 : Int) := of_decide_eq_true (by first | (with_reducible assumption) | assumption)
                                        have q532 : x9_4 < ((rd_L1 t521 x7_3).length : Int) := of_decide_eq_true (by first | (with_reducible assumption) | assumption)
                                        obtain ⟨ad532, e532, hx532_0⟩ := Kd.at_int (by repeat (first | (with_reducible exact HR531_0.out) | (with_reducible refine Kd.C_alloc ?_ _) | (with_reducible refine Kd.C_drewN ?_ _) | (with_reducible refine Kd.C_drew ?_) | exact HR531_0.out)) x9_4 p532 q532
                                        cases e532
                                        replace p532 := eq_true p532
                                        replace q532 := eq_true q532
                                        go_wp2
                                        go_ret
                                        exact ⟨by first | rfl | (simp [errW_none, errW_some] <;> rfl) | (simp [*, errW_none, errW_some] <;> rfl), by repeat (first | (with_reducible first | exact HB.out | apply below_alloc | apply pw_below_drewN | apply below_drew1) | exact HB.out)⟩
                                      · rw [if_neg c32] at H
                                        have c32b0 : decide ((l0.length : Int) ≤ (rd (rd_L1 t521 x7_3) x9_4)) = false := decide_eq_false c32
                                        clear c32
                                        by_cases c33 : 0 ≤ (rd (rd_L1 t521 x7_3) x9_4)
                                        · rw [if_pos c33] at H
                                          have c33b0 : decide (0 ≤ (rd (rd_L1 t521 x7_3) x9_4)) = true := decide_eq_true c33
                                          clear c33
                                          by_cases c34 : (rd (rd_L1 t521 x7_3) x9_4) < (x8_4.length : Int)
                                          · rw [if_pos c34] at H
                                            have c34b0 : decide ((rd (rd_L1 t521 x7_3) x9_4) < (x8_4.length : Int)) = true := decide_eq_true c34
                                            clear c34
                                            obtain ⟨bq35, hbq35⟩ : ∃ b_ : Bool, b_ = (rdOf false x8_4 (rd (rd_L1 t521 x7_3) x9_4)) := ⟨_, rfl⟩
                                            replace H : (if bq35 = true then (some false) else (swagelaw06_GraphLoops.l1 k4 l0 t518 t521 x7_3 (x8_4.set ((rd (rd_L1 t521 x7_3) x9_4) : Int).toNat true) (wrap64 (x9_4 + 1)))) = some r := by rw [← hbq35] at H; exact H
                                            have Nbq35 := Aside0.mk hbq35
                                            clear hbq35
                                            by_cases c36 : bq35 = true
                                            · subst c36
                                              have H1 : (some false) = some r := by rw [if_pos rfl] at H; exact H
                                              clear H
                                              have H := H1
                                              clear H1
                                              obtain rfl := Option.some.inj H
                                              have p530 : 0 ≤ (x7_3 : Int) := of_decide_eq_true (by first | (with_reducible assumption) | assumption)
                                              have q530 : x7_3 < (t521.length : Int) := of_decide_eq_true (by first | (with_reducible assumption) | assumption)
                                              obtain ⟨ad530, A530_0, c530_0, e530, hx530_0, hl530_0, hi530_0⟩ := at_L1 (Kd.S_reads' HO_5.out).2.2 x7_3 p530 q530
                                              cases e530
                                              obtain ⟨ce530, hce530, hMe530, hcc530⟩ := Kd.S_get HO_5.out [] x7_3 p530 (by first | exact q530 | exact of_decide_eq_true (by first | (with_reducible assumption) | assumption) | (have e_ := (Kd.S_reads' HO_5.out).1; omega))
                                              obtain ⟨ve530_0, rfl, ge530_0⟩ := hMe530
                                              have hv530_0 := hcc530 0 _ rfl
                                              rw [Nat.add_zero, show ((Kd.slice 3 (Kd.int .i64))).sz = 1 from rfl, Nat.mul_one] at hv530_0
                                              replace hv530_0 := Option.some.inj (hv530_0.symm.trans hx530_0)
                                              rw [hv530_0] at ge530_0
                                              have HL530_0 := Aside0.mk (show Kd.R (Kd.int .i64) 3 _ _ _ _ (rd_L1 t521 x7_3) from ge530_0)
                                              clear hv530_0 ge530_0
                                              clear hcc530 hce530
                                              have HR530_0 := Aside0.mk hi530_0
                                              have HC530_0 := Aside0.mk hl530_0
                                              clear hi530_0 hl530_0
                                              replace p530 := eq_true p530
                                              replace q530 := eq_true q530
                                              have p531 : 0 ≤ (x7_3 : Int) := of_decide_eq_true (by first | (with_reducible assumption) | assumption)
                                              have q531 : x7_3 < (t521.length : Int) := of_decide_eq_true (by first | (with_reducible assumption) | assumption)
                                              obtain ⟨ad531, A531_0, c531_0, e531, hx531_0, hl531_0, hi531_0⟩ := at_L1 (Kd.S_reads' HO_5.out).2.2 x7_3 p531 q531
                                              obtain rfl : ad530 = ad531 := (by injection e531)
                                              obtain ⟨ce531, hce531, hMe531, hcc531⟩ := Kd.S_get HO_5.out [] x7_3 p531 (by first | exact q531 | exact of_decide_eq_true (by first | (with_reducible assumption) | assumption) | (have e_ := (Kd.S_reads' HO_5.out).1; omega))
                                              obtain ⟨ve531_0, rfl, ge531_0⟩ := hMe531
                                              have hv531_0 := hcc531 0 _ rfl
                                              rw [Nat.add_zero, show ((Kd.slice 3 (Kd.int .i64))).sz = 1 from rfl, Nat.mul_one] at hv531_0
                                              replace hv531_0 := Option.some.inj (hv531_0.symm.trans hx531_0)
                                              rw [hv531_0] at ge531_0
                                              have HL531_0 := Aside0.mk (show Kd.R (Kd.int .i64) 3 _ _ _ _ (rd_L1 t521 x7_3) from ge531_0)
                                              clear hv531_0 ge531_0
                                              clear hcc531 hce531
                                              have HR531_0 := Aside0.mk hi531_0
                                              have HC531_0 := Aside0.mk hl531_0
                                              clear hi531_0 hl531_0
                                              replace p531 := eq_true p531
                                              replace q531 := eq_true q531
                                              have ea_ := Option.some.inj (hx530_0.symm.trans hx531_0)
                                              injection ea_ with ea_ en_ ec_
                                              subst ea_
                                              subst ec_
                                              clear en_
                                              have p532 : 0 ≤ (x9_4 : Int) := of_decide_eq_true (by first | (with_reducible assumption) | assumption)
                                              have q532 : x9_4 < ((rd_L1 t521 x7_3).length : Int) := of_decide_eq_true (by first | (with_reducible assumption) | assumption)
                                              obtain ⟨ad532, e532, hx532_0⟩ := Kd.at_int (by repeat (first | (with_reducible exact HR531_0.out) | (with_reducible refine Kd.C_alloc ?_ _) | (with_reducible refine Kd.C_drewN ?_ _) | (with_reducible refine Kd.C_drew ?_) | exact HR531_0.out)) x9_4 p532 q532
                                              cases e532
                                              replace p532 := eq_true p532
                                              replace q532 := eq_true q532
                                              obtain ⟨Ao37, co37, eo37⟩ := Kd.R_slice HO_8.out
                                              subst eo37
                                              have p533 : 0 ≤ ((rd (rd_L1 t521 x7_3) x9_4) : Int) := of_decide_eq_true (by first | (with_reducible assumption) | assumption)
                                              have q533 : (rd (rd_L1 t521 x7_3) x9_4) < (x8_4.length : Int) := of_decide_eq_true (by first | (with_reducible assumption) | assumption)
                                              obtain ⟨ad533, e533, hx533_0⟩ := Kd.at_bool (Kd.R_reads' HO_8.out).2.2 (rd (rd_L1 t521 x7_3) x9_4) p533 q533
                                              (try rw [← Nbq35.out] at hx533_0)
                                              cases e533
                                              replace p533 := eq_true p533
                                              replace q533 := eq_true q533
                                              go_wp2
                                              go_ret
                                              exact ⟨by first | rfl | (simp [errW_none, errW_some] <;> rfl) | (simp [*, errW_none, errW_some] <;> rfl), by repeat (first | (with_reducible first | exact HB.out | apply below_alloc | apply pw_below_drewN | apply below_drew1) | exact HB.out)⟩
                                            · replace c36 := Bool.eq_false_iff.mpr c36
                                              subst c36
                                              have H1 : (swagelaw06_GraphLoops.l1 k4 l0 t518 t521 x7_3 (x8_4.set ((rd (rd_L1 t521 x7_3) x9_4) : Int).toNat true) (wrap64 (x9_4 + 1))) = some r := by rw [if_neg (show ¬ (false = true) by decide)] at H; exact H
                                              clear H
                                              have H := H1
                                              clear H1
                                              obtain ⟨y534, hy534⟩ : ∃ y_ : List Bool, y_ = (x8_4.set ((rd (rd_L1 t521 x7_3) x9_4) : Int).toNat true) := ⟨_, rfl⟩
                                              replace H : (swagelaw06_GraphLoops.l1 k4 l0 t518 t521 x7_3 y534 (wrap64 (x9_4 + 1))) = some r := by first | (rw [hy534]; with_reducible exact H) | (have H2_ := (Option.bind_some _ _).symm.trans H; rw [hy534]; with_reducible exact H2_) | (have H2_ := (Option.bind_some _ _).symm.trans H; with_reducible exact H2_) | with_reducible exact H | (rw [hy534]; exact H) | exact H
                                              have Ny534 := Aside0.mk hy534
                                              clear hy534
                                              have H' := Aside0.mk H
                                              clear H
                                              have p530 : 0 ≤ (x7_3 : Int) := of_decide_eq_true (by first | (with_reducible assumption) | assumption)
                                              have q530 : x7_3 < (t521.length : Int) := of_decide_eq_true (by first | (with_reducible assumption) | assumption)
                                              obtain ⟨ad530, A530_0, c530_0, e530, hx530_0, hl530_0, hi530_0⟩ := at_L1 (Kd.S_reads' HO_5.out).2.2 x7_3 p530 q530
                                              cases e530
                                              obtain ⟨ce530, hce530, hMe530, hcc530⟩ := Kd.S_get HO_5.out [] x7_3 p530 (by first | exact q530 | exact of_decide_eq_true (by first | (with_reducible assumption) | assumption) | (have e_ := (Kd.S_reads' HO_5.out).1; omega))
                                              obtain ⟨ve530_0, rfl, ge530_0⟩ := hMe530
                                              have hv530_0 := hcc530 0 _ rfl
                                              rw [Nat.add_zero, show ((Kd.slice 3 (Kd.int .i64))).sz = 1 from rfl, Nat.mul_one] at hv530_0
                                              replace hv530_0 := Option.some.inj (hv530_0.symm.trans hx530_0)
                                              rw [hv530_0] at ge530_0
                                              have HL530_0 := Aside0.mk (show Kd.R (Kd.int .i64) 3 _ _ _ _ (rd_L1 t521 x7_3) from ge530_0)
                                              clear hv530_0 ge530_0
                                              clear hcc530 hce530
                                              have HR530_0 := Aside0.mk hi530_0
                                              have HC530_0 := Aside0.mk hl530_0
                                              clear hi530_0 hl530_0
                                              replace p530 := eq_true p530
                                              replace q530 := eq_true q530
                                              have p531 : 0 ≤ (x7_3 : Int) := of_decide_eq_true (by first | (with_reducible assumption) | assumption)
                                              have q531 : x7_3 < (t521.length : Int) := of_decide_eq_true (by first | (with_reducible assumption) | assumption)
                                              obtain ⟨ad531, A531_0, c531_0, e531, hx531_0, hl531_0, hi531_0⟩ := at_L1 (Kd.S_reads' HO_5.out).2.2 x7_3 p531 q531
                                              obtain rfl : ad530 = ad531 := (by injection e531)
                                              obtain ⟨ce531, hce531, hMe531, hcc531⟩ := Kd.S_get HO_5.out [] x7_3 p531 (by first | exact q531 | exact of_decide_eq_true (by first | (with_reducible assumption) | assumption) | (have e_ := (Kd.S_reads' HO_5.out).1; omega))
                                              obtain ⟨ve531_0, rfl, ge531_0⟩ := hMe531
                                              have hv531_0 := hcc531 0 _ rfl
                                              rw [Nat.add_zero, show ((Kd.slice 3 (Kd.int .i64))).sz = 1 from rfl, Nat.mul_one] at hv531_0
                                              replace hv531_0 := Option.some.inj (hv531_0.symm.trans hx531_0)
                                              rw [hv531_0] at ge531_0
                                              have HL531_0 := Aside0.mk (show Kd.R (Kd.int .i64) 3 _ _ _ _ (rd_L1 t521 x7_3) from ge531_0)
                                              clear hv531_0 ge531_0
                                              clear hcc531 hce531
                                              have HR531_0 := Aside0.mk hi531_0
                                              have HC531_0 := Aside0.mk hl531_0
                                              clear hi531_0 hl531_0
                                              replace p531 := eq_true p531
                                              replace q531 := eq_true q531
                                              have ea_ := Option.some.inj (hx530_0.symm.trans hx531_0)
                                              injection ea_ with ea_ en_ ec_
                                              subst ea_
                                              subst ec_
                                              clear en_
                                              have p532 : 0 ≤ (x9_4 : Int) := of_decide_eq_true (by first | (with_reducible assumption) | assumption)
                                              have q532 : x9_4 < ((rd_L1 t521 x7_3).length : Int) := of_decide_eq_true (by first | (with_reducible assumption) | assumption)
                                              obtain ⟨ad532, e532, hx532_0⟩ := Kd.at_int (by repeat (first | (with_reducible exact HR531_0.out) | (with_reducible refine Kd.C_alloc ?_ _) | (with_reducible refine Kd.C_drewN ?_ _) | (with_reducible refine Kd.C_drew ?_) | exact HR531_0.out)) x9_4 p532 q532
                                              cases e532
                                              replace p532 := eq_true p532
                                              replace q532 := eq_true q532
                                              obtain ⟨Ao39, co39, eo39⟩ := Kd.R_slice HO_8.out
                                              subst eo39
                                              have p533 : 0 ≤ ((rd (rd_L1 t521 x7_3) x9_4) : Int) := of_decide_eq_true (by first | (with_reducible assumption) | assumption)
                                              have q533 : (rd (rd_L1 t521 x7_3) x9_4) < (x8_4.length : Int) := of_decide_eq_true (by first | (with_reducible assumption) | assumption)
                                              obtain ⟨ad533, e533, hx533_0⟩ := Kd.at_bool (Kd.R_reads' HO_8.out).2.2 (rd (rd_L1 t521 x7_3) x9_4) p533 q533
                                              (try rw [← Nbq35.out] at hx533_0)
                                              cases e533
                                              replace p533 := eq_true p533
                                              replace q533 := eq_true q533
                                              have p38 : 0 ≤ ((rd (rd_L1 t521 x7_3) x9_4) : Int) := of_decide_eq_true (by first | (with_reducible assumption) | assumption)
                                              have q38 : ((rd (rd_L1 t521 x7_3) x9_4) : Int) < ((x8_4.length : Int) : Int) := of_decide_eq_true (by first | (with_reducible assumption) | assumption)
                                              obtain ⟨go38, co38, eo38, gb38, gl38, cl38, HG38⟩ := Kd.R_form HO_8.out (by omega)
                                              (first | cases eo38 | (injection eo38 with ea_ en_ ec_; (first | subst ea_ | (injection ea_ with ea_; subst ea_)); subst ec_; clear en_))
                                              have GB38 := Aside0.mk gb38
                                              have GG38 := Aside0.mk HG38
                                              clear gb38 gl38 HG38
                                              (first | simp only [add_plain] at hx533_0 | skip)
                                              obtain ⟨hx38_0, hf38_0⟩ := Kd.R_celln false HO_8.out ((rd (rd_L1 t521 x7_3) x9_4) : Int) p38 q38
                                              replace p38 := eq_true p38
                                              replace q38 := eq_true q38
                                              have HP40 := Kd.R_putg HO_8.out ((rd (rd_L1 t521 x7_3) x9_4) : Int) true
                                              go_wp2_with (first | ((with_reducible refine gate_store (t := 4) (p := 89) rfl ?_); refine store_event (t := 4) (p := 89) (v := ?vo_w41) (w1 := (wr.setCell ⟨go38, ((rd (rd_L1 t521 x7_3) x9_4) : Int).toNat, none⟩ (.bool true))) ?hg ?ho ?hn ?hr ?_; (case ho => rfl); (case hg => rfl); (case hn => rfl); (case hr => first | (go_simp; done) | (go_simp; rfl)); intro w41 hw; have hg : wr.grownBy w41 (some go38) := (by rw [hw]; exact HP40.2); have hp_ : Kd.R Kd.bool 4 w41 w.heap.size (fun _ => True) (.slice (some ⟨go38, 0, none⟩) x8_4.length co39) y534 := (by rw [hw, Ny534.out]; exact HP40.1); clear HP40; have n0_ := Aside0.mk (Kd.S_over' (v := (.slice (some ⟨go38, 0, none⟩) x8_4.length co39)) (by (with_reducible repeat (first | apply Kd.S_alloc | apply Kd.S_drewN | apply Kd.S_drew)); exact HO_5.out) (Kd.R_typed HO_8.out) (by decide) hg); have n1_ := Aside0.mk (hp_); have n2_ := Aside0.mk (Kd.R_over' (v := (.slice (some ⟨go38, 0, none⟩) x8_4.length co39)) (by (with_reducible repeat (first | apply Kd.R_alloc | apply Kd.R_drewN | apply Kd.R_drew)); exact HL530_0.out) (Kd.R_typed HO_8.out) (by decide) hg); have n3_ := Aside0.mk (Kd.R_over' (v := (.slice (some ⟨go38, 0, none⟩) x8_4.length co39)) (by (with_reducible repeat (first | apply Kd.R_alloc | apply Kd.R_drewN | apply Kd.R_drew)); exact HL531_0.out) (Kd.R_typed HO_8.out) (by decide) hg); have n4_ := Aside0.mk ((by rw [hw]; exact below_set (HB.out) GB38.out : Below w.heap.size w w41)); clear HO_5; clear HO_8; clear HL530_0; clear HL531_0; clear HB; have HO_5 := n0_; have HO_8 := n1_; have HL530_0 := n2_; have HL531_0 := n3_; have HB := n4_; clear n0_ n1_ n2_ n3_ n4_; clear hg hw hp_))
                                              go_roundg k4
                                              case measure => have := HJ3.out; have := HJ11.out; have := HK3.out; have := HK4.out; omega
                                              case rel => exact ⟨(y534), (wrap64 (x9_4 + 1)), (by first | rfl | (simp; done) | (simp [*]; done)), H', ⟨by have := HJ3.out; have := HJ11.out; have := HK3.out; have := HK4.out; omega⟩, ⟨by (with_reducible repeat (first | apply Kd.S_alloc | apply Kd.S_drewN | apply Kd.S_drew)); exact HO_5.out⟩, ⟨by (with_reducible repeat (first | apply Kd.R_alloc | apply Kd.R_drewN | apply Kd.R_drew)); exact HO_8.out⟩, ⟨by repeat (first | (with_reducible first | exact HB.out | apply below_alloc | apply pw_below_drewN | apply below_drew1) | exact HB.out)⟩⟩
                                          · rw [if_neg c34] at H
                                            exact absurd H (by simp)
                                        · rw [if_neg c33] at H
                                          exact absurd H (by simp)
                                  · rw [if_neg c30] at H
                                    exact absurd H (by simp)
                                · rw [if_neg c29] at H
                                  have c29b0 : decide (x9_4 < ((rd_L1 t521 x7_3).length : Int)) = false := decide_eq_false c29
                                  clear c29
                                  have H' := Aside0.mk H
                                  clear H
                                  have p530 : 0 ≤ (x7_3 : Int) := of_decide_eq_true (by first | (with_reducible assumption) | assumption)
                                  have q530 : x7_3 < (t521.length : Int) := of_decide_eq_true (by first | (with_reducible assumption) | assumption)
                                  obtain ⟨ad530, A530_0, c530_0, e530, hx530_0, hl530_0, hi530_0⟩ := at_L1 (Kd.S_reads' HO_5.out).2.2 x7_3 p530 q530
                                  cases e530
                                  obtain ⟨ce530, hce530, hMe530, hcc530⟩ := Kd.S_get HO_5.out [] x7_3 p530 (by first | exact q530 | exact of_decide_eq_true (by first | (with_reducible assumption) | assumption) | (have e_ := (Kd.S_reads' HO_5.out).1; omega))
                                  obtain ⟨ve530_0, rfl, ge530_0⟩ := hMe530
                                  have hv530_0 := hcc530 0 _ rfl
                                  rw [Nat.add_zero, show ((Kd.slice 3 (Kd.int .i64))).sz = 1 from rfl, Nat.mul_one] at hv530_0
                                  replace hv530_0 := Option.some.inj (hv530_0.symm.trans hx530_0)
                                  rw [hv530_0] at ge530_0
                                  have HL530_0 := Aside0.mk (show Kd.R (Kd.int .i64) 3 _ _ _ _ (rd_L1 t521 x7_3) from ge530_0)
                                  clear hv530_0 ge530_0
                                  clear hcc530 hce530
                                  have HR530_0 := Aside0.mk hi530_0
                                  have HC530_0 := Aside0.mk hl530_0
                                  clear hi530_0 hl530_0
                                  replace p530 := eq_true p530
                                  replace q530 := eq_true q530
                                  go_wp2
                                  go_loopg [11] k4 (fun kq v11 w' => ∃ (x11_5 : Int), v11 = .int .i64 x11_5 ∧ Aside0 (swagelaw06_GraphLoops.l2 kq l0 t518 t521 x7_3 x8_4 x11_5 = some r) ∧ Aside0 (kq ≤ k4) ∧ Aside0 (Kd.S (Kd.slice 3 (Kd.int .i64)) 27 w' w.heap.size (fun _ => True) (.slice (some ad530) t521.length co24) t521) ∧ Aside0 (Kd.R Kd.bool 4 w' w.heap.size (fun _ => True) v528 x8_4) ∧ Aside0 (Kd.C (Kd.int .i64) w' A530_0 (rd_L1 t521 x7_3).length (rd_L1 t521 x7_3)) ∧ Aside0 (Below w.heap.size w w'))
                                  case atStart => exact ⟨(0), (by first | rfl | (simp; done) | (simp [*]; done)), H', ⟨Nat.le_refl _⟩, ⟨by (with_reducible repeat (first | apply Kd.S_alloc | apply Kd.S_drewN | apply Kd.S_drew)); exact HO_5.out⟩, ⟨by (with_reducible repeat (first | apply Kd.R_alloc | apply Kd.R_drewN | apply Kd.R_drew)); exact HO_8.out⟩, ⟨by repeat (first | (with_reducible exact HR530_0.out) | (with_reducible refine Kd.C_alloc ?_ _) | (with_reducible refine Kd.C_drewN ?_ _) | (with_reducible refine Kd.C_drew ?_) | exact HR530_0.out)⟩, ⟨by repeat (first | (with_reducible first | exact HB.out | apply below_alloc | apply pw_below_drewN | apply below_drew1) | exact HB.out)⟩⟩
                                  case round =>
                                    clear H'
                                    try clear c1
                                    try clear c2
                                    try clear p2
                                    try clear c3
                                    try clear p3
                                    try clear q3
                                    try clear hx3
                                    try clear hf3
                                    try clear c5
                                    try clear p5
                                    try clear q5
                                    try clear hx5
                                    try clear c6
                                    try clear p6
                                    try clear c9
                                    try clear c13
                                    try clear c14
                                    try clear c15
                                    try clear c15b0
                                    try clear c15b1
                                    try clear c15b2
                                    try clear c20
                                    try clear c21
                                    try clear c21b0
                                    try clear c22
                                    try clear c22b0
                                    try clear c22b1
                                    try clear c23
                                    try clear c23b0
                                    try clear c23b1
                                    try clear c27
                                    try clear c27b0
                                    try clear c28
                                    try clear c28b0
                                    try clear c29
                                    try clear c29b0
                                    try clear c30
                                    try clear c30b0
                                    try clear c31
                                    try clear c31b0
                                    try clear c32
                                    try clear c32b0
                                    try clear c33
                                    try clear c33b0
                                    try clear c34
                                    try clear c34b0
                                    try clear q35
                                    try clear c36
                                    try clear p38
                                    try clear q38
                                    try clear hx38
                                    try clear hf38
                                    try clear hx38_0
                                    try clear hx530_0
                                    try clear hx531_0
                                    try clear hx532_0
                                    try clear hx533_0
                                    try clear p2
                                    try clear p38
                                    try clear p530
                                    try clear p531
                                    try clear p532
                                    try clear p533
                                    try clear q38
                                    try clear q530
                                    try clear q531
                                    try clear q532
                                    try clear q533
                                    obtain ⟨x11_5, rfl, HA, HK5, HO_5, HO_8, HR530_0, HB⟩ := hrel
                                    cases gk with
                                    | zero => exact absurd HA.out (by simp [swagelaw06_GraphLoops.l2])
                                    | succ k5 =>
                                      have H := HA.out
                                      clear HA
                                      simp only [swagelaw06_GraphLoops.l2] at H
                                      by_cases c42 : 0 ≤ x7_3
                                      · rw [if_pos c42] at H
                                        have c42b0 : decide (0 ≤ x7_3) = true := decide_eq_true c42
                                        clear c42
                                        by_cases c43 : x7_3 < (t521.length : Int)
                                        · rw [if_pos c43] at H
                                          have c43b0 : decide (x7_3 < (t521.length : Int)) = true := decide_eq_true c43
                                          clear c43
                                          by_cases c44 : x11_5 < ((rd_L1 t521 x7_3).length : Int)
                                          · rw [if_pos c44] at H
                                            have c44b0 : decide (x11_5 < ((rd_L1 t521 x7_3).length : Int)) = true := decide_eq_true c44
                                            clear c44
                                            by_cases c45 : 0 ≤ x11_5
                                            · rw [if_pos c45] at H
                                              have c45b0 : decide (0 ≤ x11_5) = true := decide_eq_true c45
                                              clear c45
                                              have H' := Aside0.mk H
                                              clear H
                                              have p535 : 0 ≤ (x7_3 : Int) := of_decide_eq_true (by first | (with_reducible assumption) | assumption)
                                              have q535 : x7_3 < (t521.length : Int) := of_decide_eq_true (by first | (with_reducible assumption) | assumption)
                                              obtain ⟨ad535, A535_0, c535_0, e535, hx535_0, hl535_0, hi535_0⟩ := at_L1 (Kd.S_reads' HO_5.out).2.2 x7_3 p535 q535
                                              obtain rfl : ad530 = ad535 := (by injection e535)
                                              obtain ⟨ce535, hce535, hMe535, hcc535⟩ := Kd.S_get HO_5.out [] x7_3 p535 (by first | exact q535 | exact of_decide_eq_true (by first | (with_reducible assumption) | assumption) | (have e_ := (Kd.S_reads' HO_5.out).1; omega))
                                              obtain ⟨ve535_0, rfl, ge535_0⟩ := hMe535
                                              have hv535_0 := hcc535 0 _ rfl
                                              rw [Nat.add_zero, show ((Kd.slice 3 (Kd.int .i64))).sz = 1 from rfl, Nat.mul_one] at hv535_0
                                              replace hv535_0 := Option.some.inj (hv535_0.symm.trans hx535_0)
                                              rw [hv535_0] at ge535_0
                                              have HL535_0 := Aside0.mk (show Kd.R (Kd.int .i64) 3 _ _ _ _ (rd_L1 t521 x7_3) from ge535_0)
                                              clear hv535_0 ge535_0
                                              clear hcc535 hce535
                                              have HR535_0 := Aside0.mk hi535_0
                                              have HC535_0 := Aside0.mk hl535_0
                                              clear hi535_0 hl535_0
                                              replace p535 := eq_true p535
                                              replace q535 := eq_true q535
                                              have p536 : 0 ≤ (x7_3 : Int) := of_decide_eq_true (by first | (with_reducible assumption) | assumption)
                                              have q536 : x7_3 < (t521.length : Int) := of_decide_eq_true (by first | (with_reducible assumption) | assumption)
                                              obtain ⟨ad536, A536_0, c536_0, e536, hx536_0, hl536_0, hi536_0⟩ := at_L1 (Kd.S_reads' HO_5.out).2.2 x7_3 p536 q536
                                              obtain rfl : ad530 = ad536 := (by injection e536)
                                              obtain ⟨ce536, hce536, hMe536, hcc536⟩ := Kd.S_get HO_5.out [] x7_3 p536 (by first | exact q536 | exact of_decide_eq_true (by first | (with_reducible assumption) | assumption) | (have e_ := (Kd.S_reads' HO_5.out).1; omega))
                                              obtain ⟨ve536_0, rfl, ge536_0⟩ := hMe536
                                              have hv536_0 := hcc536 0 _ rfl
                                              rw [Nat.add_zero, show ((Kd.slice 3 (Kd.int .i64))).sz = 1 from rfl, Nat.mul_one] at hv536_0
                                              replace hv536_0 := Option.some.inj (hv536_0.symm.trans hx536_0)
                                              rw [hv536_0] at ge536_0
                                              have HL536_0 := Aside0.mk (show Kd.R (Kd.int .i64) 3 _ _ _ _ (rd_L1 t521 x7_3) from ge536_0)
                                              clear hv536_0 ge536_0
                                              clear hcc536 hce536
                                              have HR536_0 := Aside0.mk hi536_0
                                              have HC536_0 := Aside0.mk hl536_0
                                              clear hi536_0 hl536_0
                                              replace p536 := eq_true p536
                                              replace q536 := eq_true q536
                                              have ea_ := Option.some.inj (hx535_0.symm.trans hx536_0)
                                              injection ea_ with ea_ en_ ec_
                                              subst ea_
                                              subst ec_
                                              clear en_
                                              have p537 : 0 ≤ (x11_5 : Int) := of_decide_eq_true (by first | (with_reducible assumption) | assumption)
                                              have q537 : x11_5 < ((rd_L1 t521 x7_3).length : Int) := of_decide_eq_true (by first | (with_reducible assumption) | assumption)
                                              obtain ⟨ad537, e537, hx537_0⟩ := Kd.at_int (by repeat (first | (with_reducible exact HR536_0.out) | (with_reducible refine Kd.C_alloc ?_ _) | (with_reducible refine Kd.C_drewN ?_ _) | (with_reducible refine Kd.C_drew ?_) | exact HR536_0.out)) x11_5 p537 q537
                                              cases e537
                                              replace p537 := eq_true p537
                                              replace q537 := eq_true q537
                                              go_wp2
                                              go_loopg [13, 14] k5 (fun kq v13 v14 w' => ∃ (x13_6 : Bool) (x14_6 : Int), v13 = .bool x13_6 ∧ v14 = .int .i64 x14_6 ∧ Aside0 (swagelaw06_GraphLoops.l3 kq l0 t518 t521 x7_3 x8_4 x11_5 (rd (rd_L1 t521 x7_3) x11_5) x13_6 x14_6 = some r) ∧ Aside0 (kq ≤ k5) ∧ Aside0 (Kd.S (Kd.slice 3 (Kd.int .i64)) 27 w' w.heap.size (fun _ => True) (.slice (some ad530) t521.length co24) t521) ∧ Aside0 (Kd.R Kd.bool 4 w' w.heap.size (fun _ => True) v528 x8_4) ∧ Aside0 (Kd.C (Kd.int .i64) w' A530_0 (rd_L1 t521 x7_3).length (rd_L1 t521 x7_3)) ∧ Aside0 (Kd.C (Kd.int .i64) w' (some ad537) (rd_L1 t521 x7_3).length (rd_L1 t521 x7_3)) ∧ Aside0 (Kd.C (Kd.int .i64) w' (some ad537) (rd_L1 t521 x7_3).length (rd_L1 t521 x7_3)) ∧ Aside0 (Below w.heap.size w w'))
                                              case atStart => exact ⟨(false), (0), (by first | rfl | (simp; done) | (simp [*]; done)), (by first | rfl | (simp; done) | (simp [*]; done)), H', ⟨Nat.le_refl _⟩, ⟨by (with_reducible repeat (first | apply Kd.S_alloc | apply Kd.S_drewN | apply Kd.S_drew)); exact HO_5.out⟩, ⟨by (with_reducible repeat (first | apply Kd.R_alloc | apply Kd.R_drewN | apply Kd.R_drew)); exact HO_8.out⟩, ⟨by repeat (first | (with_reducible exact HR530_0.out) | (with_reducible refine Kd.C_alloc ?_ _) | (with_reducible refine Kd.C_drewN ?_ _) | (with_reducible refine Kd.C_drew ?_) | exact HR530_0.out)⟩, ⟨by repeat (first | (with_reducible exact HR535_0.out) | (with_reducible refine Kd.C_alloc ?_ _) | (with_reducible refine Kd.C_drewN ?_ _) | (with_reducible refine Kd.C_drew ?_) | exact HR535_0.out)⟩, ⟨by repeat (first | (with_reducible exact HR536_0.out) | (with_reducible refine Kd.C_alloc ?_ _) | (with_reducible refine Kd.C_drewN ?_ _) | (with_reducible refine Kd.C_drew ?_) | exact HR536_0.out)⟩, ⟨by repeat (first | (with_reducible first | exact HB.out | apply below_alloc | apply pw_below_drewN | apply below_drew1) | exact HB.out)⟩⟩
                                              case round =>
                                                clear H'
                                                try clear c1
                                                try clear c2
                                                try clear p2
                                                try clear c3
                                                try clear p3
                                                try clear q3
                                                try clear hx3
                                                try clear hf3
                                                try clear c4
                                                try clear c5
                                                try clear p5
                                                try clear q5
                                                try clear hx5
                                                try clear c6
                                                try clear p6
                                                try clear c9
                                                try clear c13
                                                try clear c14
                                                try clear c15
                                                try clear c15b0
                                                try clear c15b1
                                                try clear c15b2
                                                try clear c20
                                                try clear c21
                                                try clear c21b0
                                                try clear c22
                                                try clear c22b0
                                                try clear c22b1
                                                try clear c23
                                                try clear c23b0
                                                try clear c23b1
                                                try clear c27
                                                try clear c27b0
                                                try clear c28
                                                try clear c28b0
                                                try clear c29
                                                try clear c29b0
                                                try clear c30
                                                try clear c30b0
                                                try clear c31
                                                try clear c31b0
                                                try clear c32
                                                try clear c32b0
                                                try clear c33
                                                try clear c33b0
                                                try clear c34
                                                try clear c34b0
                                                try clear q35
                                                try clear c36
                                                try clear p38
                                                try clear q38
                                                try clear hx38
                                                try clear hf38
                                                try clear c42
                                                try clear c42b0
                                                try clear c43
                                                try clear c43b0
                                                try clear c44
                                                try clear c44b0
                                                try clear c45
                                                try clear c45b0
                                                try clear hx38_0
                                                try clear hx530_0
                                                try clear hx531_0
                                                try clear hx532_0
                                                try clear hx533_0
                                                try clear hx535_0
                                                try clear hx536_0
                                                try clear hx537_0
                                                try clear p2
                                                try clear p3
                                                try clear p38
                                                try clear p5
                                                try clear p530
                                                try clear p531
                                                try clear p532
                                                try clear p533
                                                try clear p535
                                                try clear p536
                                                try clear p537
                                                try clear p6
                                                try clear q3
                                                try clear q35
                                                try clear q38
                                                try clear q5
                                                try clear q530
                                                try clear q531
                                                try clear q532
                                                try clear q533
                                                try clear q535
                                                try clear q536
                                                try clear q537
                                                obtain ⟨x13_6, x14_6, rfl, rfl, HA, HK6, HO_5, HO_8, HR530_0, HR535_0, HR536_0, HB⟩ := hrel
                                                cases gk with
                                                | zero => exact absurd HA.out (by simp [swagelaw06_GraphLoops.l3])
                                                | succ k6 =>
                                                  have H := HA.out
                                                  clear HA
                                                  simp only [swagelaw06_GraphLoops.l3] at H
                                                  by_cases c46 : 0 ≤ (rd (rd_L1 t521 x7_3) x11_5)
                                                  · rw [if_pos c46] at H
                                                    have c46b0 : decide (0 ≤ (rd (rd_L1 t521 x7_3) x11_5)) = true := decide_eq_true c46
                                                    clear c46
                                                    by_cases c47 : (rd (rd_L1 t521 x7_3) x11_5) < (l0.length : Int)
                                                    · rw [if_pos c47] at H
                                                      have c47b0 : decide ((rd (rd_L1 t521 x7_3) x11_5) < (l0.length : Int)) = true := decide_eq_true c47
                                                      clear c47
                                                      by_cases c48 : x14_6 < ((rd_L1 l0 (rd (rd_L1 t521 x7_3) x11_5)).length : Int)
                                                      · rw [if_pos c48] at H
                                                        have c48b0 : decide (x14_6 < ((rd_L1 l0 (rd (rd_L1 t521 x7_3) x11_5)).length : Int)) = true := decide_eq_true c48
                                                        clear c48
                                                        by_cases c49 : x13_6 = true
                                                        · subst c49
                                                          have H1 : (swagelaw06_GraphLoops.l3 k6 l0 t518 t521 x7_3 x8_4 x11_5 (rd (rd_L1 t521 x7_3) x11_5) true (wrap64 (x14_6 + 1))) = some r := by rw [if_pos rfl] at H; exact H
                                                          clear H
                                                          have H := H1
                                                          clear H1
                                                          have H' := Aside0.mk H
                                                          clear H
                                                          have p538 : 0 ≤ ((rd (rd_L1 t521 x7_3) x11_5) : Int) := of_decide_eq_true (by first | (with_reducible assumption) | assumption)
                                                          have q538 : (rd (rd_L1 t521 x7_3) x11_5) < (l0.length : Int) := of_decide_eq_true (by first | (with_reducible assumption) | assumption)
                                                          obtain ⟨ad538, A538_0, c538_0, e538, hx538_0, hl538_0, hi538_0⟩ := at_L1 HR0.out (rd (rd_L1 t521 x7_3) x11_5) p538 q538
                                                          cases e538
                                                          replace hx538_0 := (HB.out.cell (World.block_lt_of_cell? w _ hx538_0)).trans hx538_0
                                                          have HR538_0 := Aside0.mk hi538_0
                                                          have HC538_0 := Aside0.mk hl538_0
                                                          clear hi538_0 hl538_0
                                                          replace p538 := eq_true p538
                                                          replace q538 := eq_true q538
                                                          go_wp2
                                                          go_roundg k6
                                                          case measure => have := HJ3.out; have := HJ11.out; have := HK3.out; have := HK4.out; have := HK5.out; have := HK6.out; omega
                                                          case rel => exact ⟨(true), (wrap64 (x14_6 + 1)), (by first | rfl | (simp; done) | (simp [*]; done)), (by first | rfl | (simp; done) | (simp [*]; done)), H', ⟨by have := HJ3.out; have := HJ11.out; have := HK3.out; have := HK4.out; have := HK5.out; have := HK6.out; omega⟩, ⟨by (with_reducible repeat (first | apply Kd.S_alloc | apply Kd.S_drewN | apply Kd.S_drew)); exact HO_5.out⟩, ⟨by (with_reducible repeat (first | apply Kd.R_alloc | apply Kd.R_drewN | apply Kd.R_drew)); exact HO_8.out⟩, ⟨by repeat (first | (with_reducible exact HR530_0.out) | (with_reducible refine Kd.C_alloc ?_ _) | (with_reducible refine Kd.C_drewN ?_ _) | (with_reducible refine Kd.C_drew ?_) | exact HR530_0.out)⟩, ⟨by repeat (first | (with_reducible exact HR535_0.out) | (with_reducible refine Kd.C_alloc ?_ _) | (with_reducible refine Kd.C_drewN ?_ _) | (with_reducible refine Kd.C_drew ?_) | exact HR535_0.out)⟩, ⟨by repeat (first | (with_reducible exact HR536_0.out) | (with_reducible refine Kd.C_alloc ?_ _) | (with_reducible refine Kd.C_drewN ?_ _) | (with_reducible refine Kd.C_drew ?_) | exact HR536_0.out)⟩, ⟨by repeat (first | (with_reducible first | exact HB.out | apply below_alloc | apply pw_below_drewN | apply below_drew1) | exact HB.out)⟩⟩
                                                        · replace c49 := Bool.eq_false_iff.mpr c49
                                                          subst c49
                                                          have H1 : (if 0 ≤ x14_6 then (if 0 ≤ (rd (rd_L1 l0 (rd (rd_L1 t521 x7_3) x11_5)) x14_6) then (if (rd (rd_L1 l0 (rd (rd_L1 t521 x7_3) x11_5)) x14_6) < (x8_4.length : Int) then (swagelaw06_GraphLoops.l3 k6 l0 t518 t521 x7_3 x8_4 x11_5 (rd (rd_L1 t521 x7_3) x11_5) (rdOf false x8_4 (rd (rd_L1 l0 (rd (rd_L1 t521 x7_3) x11_5)) x14_6)) (wrap64 (x14_6 + 1))) else (none)) else (none)) else (none)) = some r := by rw [if_neg (show ¬ (false = true) by decide)] at H; exact H
                                                          clear H
                                                          have H := H1
                                                          clear H1
                                                          by_cases c50 : 0 ≤ x14_6
                                                          · rw [if_pos c50] at H
                                                            have c50b0 : decide (0 ≤ x14_6) = true := decide_eq_true c50
                                                            clear c50
                                                            by_cases c51 : 0 ≤ (rd (rd_L1 l0 (rd (rd_L1 t521 x7_3) x11_5)) x14_6)
                                                            · rw [if_pos c51] at H
                                                              have c51b0 : decide (0 ≤ (rd (rd_L1 l0 (rd (rd_L1 t521 x7_3) x11_5)) x14_6)) = true := decide_eq_true c51
                                                              clear c51
                                                              by_cases c52 : (rd (rd_L1 l0 (rd (rd_L1 t521 x7_3) x11_5)) x14_6) < (x8_4.length : Int)
                                                              · rw [if_pos c52] at H
                                                                have c52b0 : decide ((rd (rd_L1 l0 (rd (rd_L1 t521 x7_3) x11_5)) x14_6) < (x8_4.length : Int)) = true := decide_eq_true c52
                                                                clear c52
                                                                have H' := Aside0.mk H
                                                                clear H
                                                                have p538 : 0 ≤ ((rd (rd_L1 t521 x7_3) x11_5) : Int) := of_decide_eq_true (by first | (with_reducible assumption) | assumption)
                                                                have q538 : (rd (rd_L1 t521 x7_3) x11_5) < (l0.length : Int) := of_decide_eq_true (by first | (with_reducible assumption) | assumption)
                                                                obtain ⟨ad538, A538_0, c538_0, e538, hx538_0, hl538_0, hi538_0⟩ := at_L1 HR0.out (rd (rd_L1 t521 x7_3) x11_5) p538 q538
                                                                cases e538
                                                                replace hx538_0 := (HB.out.cell (World.block_lt_of_cell? w _ hx538_0)).trans hx538_0
                                                                have HR538_0 := Aside0.mk hi538_0
                                                                have HC538_0 := Aside0.mk hl538_0
                                                                clear hi538_0 hl538_0
                                                                replace p538 := eq_true p538
                                                                replace q538 := eq_true q538
                                                                have p539 : 0 ≤ ((rd (rd_L1 t521 x7_3) x11_5) : Int) := of_decide_eq_true (by first | (with_reducible assumption) | assumption)
                                                                have q539 : (rd (rd_L1 t521 x7_3) x11_5) < (l0.length : Int) := of_decide_eq_true (by first | (with_reducible assumption) | assumption)
                                                                obtain ⟨ad539, A539_0, c539_0, e539, hx539_0, hl539_0, hi539_0⟩ := at_L1 HR0.out (rd (rd_L1 t521 x7_3) x11_5) p539 q539
                                                                obtain rfl : ad538 = ad539 := (by injection e539)
                                                                replace hx539_0 := (HB.out.cell (World.block_lt_of_cell? w _ hx539_0)).trans hx539_0
                                                                have HR539_0 := Aside0.mk hi539_0
                                                                have HC539_0 := Aside0.mk hl539_0
                                                                clear hi539_0 hl539_0
                                                                replace p539 := eq_true p539
                                                                replace q539 := eq_true q539
                                                                have ea_ := Option.some.inj (hx538_0.symm.trans hx539_0)
                                                                injection ea_ with ea_ en_ ec_
                                                                subst ea_
                                                                subst ec_
                                                                clear en_
                                                                have p540 : 0 ≤ (x14_6 : Int) := of_decide_eq_true (by first | (with_reducible assumption) | assumption)
                                                                have q540 : x14_6 < ((rd_L1 l0 (rd (rd_L1 t521 x7_3) x11_5)).length : Int) := of_decide_eq_true (by first | (with_reducible assumption) | assumption)
                                                                obtain ⟨ad540, e540, hx540_0⟩ := Kd.at_int HR539_0.out x14_6 p540 q540
                                                                cases e540
                                                                replace hx540_0 := (HB.out.cell (World.block_lt_of_cell? w _ hx540_0)).trans hx540_0
                                                                replace p540 := eq_true p540
                                                                replace q540 := eq_true q540
                                                                obtain ⟨Ao53, co53, eo53⟩ := Kd.R_slice HO_8.out
                                                                subst eo53
                                                                have p541 : 0 ≤ ((rd (rd_L1 l0 (rd (rd_L1 t521 x7_3) x11_5)) x14_6) : Int) := of_decide_eq_true (by first | (with_reducible assumption) | assumption)
                                                                have q541 : (rd (rd_L1 l0 (rd (rd_L1 t521 x7_3) x11_5)) x14_6) < (x8_4.length : Int) := of_decide_eq_true (by first | (with_reducible assumption) | assumption)
                                                                obtain ⟨ad541, e541, hx541_0⟩ := Kd.at_bool (Kd.R_reads' HO_8.out).2.2 (rd (rd_L1 l0 (rd (rd_L1 t521 x7_3) x11_5)) x14_6) p541 q541
                                                                cases e541
                                                                replace p541 := eq_true p541
                                                                replace q541 := eq_true q541
                                                                go_wp2
                                                                go_roundg k6
                                                                case measure => have := HJ3.out; have := HJ11.out; have := HK3.out; have := HK4.out; have := HK5.out; have := HK6.out; omega
                                                                case rel => exact ⟨(rdOf false x8_4 (rd (rd_L1 l0 (rd (rd_L1 t521 x7_3) x11_5)) x14_6)), (wrap64 (x14_6 + 1)), (by first | rfl | (simp; done) | (simp [*]; done)), (by first | rfl | (simp; done) | (simp [*]; done)), H', ⟨by have := HJ3.out; have := HJ11.out; have := HK3.out; have := HK4.out; have := HK5.out; have := HK6.out; omega⟩, ⟨by (with_reducible repeat (first | apply Kd.S_alloc | apply Kd.S_drewN | apply Kd.S_drew)); exact HO_5.out⟩, ⟨by (with_reducible repeat (first | apply Kd.R_alloc | apply Kd.R_drewN | apply Kd.R_drew)); exact HO_8.out⟩, ⟨by repeat (first | (with_reducible exact HR530_0.out) | (with_reducible refine Kd.C_alloc ?_ _) | (with_reducible refine Kd.C_drewN ?_ _) | (with_reducible refine Kd.C_drew ?_) | exact HR530_0.out)⟩, ⟨by repeat (first | (with_reducible exact HR535_0.out) | (with_reducible refine Kd.C_alloc ?_ _) | (with_reducible refine Kd.C_drewN ?_ _) | (with_reducible refine Kd.C_drew ?_) | exact HR535_0.out)⟩, ⟨by repeat (first | (with_reducible exact HR536_0.out) | (with_reducible refine Kd.C_alloc ?_ _) | (with_reducible refine Kd.C_drewN ?_ _) | (with_reducible refine Kd.C_drew ?_) | exact HR536_0.out)⟩, ⟨by repeat (first | (with_reducible first | exact HB.out | apply below_alloc | apply pw_below_drewN | apply below_drew1) | exact HB.out)⟩⟩
                                                              · rw [if_neg c52] at H
                                                                exact absurd H (by simp)
                                                            · rw [if_neg c51] at H
                                                              exact absurd H (by simp)
                                                          · rw [if_neg c50] at H
                                                            exact absurd H (by simp)
                                                      · rw [if_neg c48] at H
                                                        have c48b0 : decide (x14_6 < ((rd_L1 l0 (rd (rd_L1 t521 x7_3) x11_5)).length : Int)) = false := decide_eq_false c48
                                                        clear c48
                                                        by_cases c54 : x13_6 = true
                                                        · subst c54
                                                          have H1 : (swagelaw06_GraphLoops.l2 k6 l0 t518 t521 x7_3 x8_4 (wrap64 (x11_5 + 1))) = some r := by rw [if_pos rfl] at H; exact H
                                                          clear H
                                                          have H := H1
                                                          clear H1
                                                          have H' := Aside0.mk H
                                                          clear H
                                                          have p538 : 0 ≤ ((rd (rd_L1 t521 x7_3) x11_5) : Int) := of_decide_eq_true (by first | (with_reducible assumption) | assumption)
                                                          have q538 : (rd (rd_L1 t521 x7_3) x11_5) < (l0.length : Int) := of_decide_eq_true (by first | (with_reducible assumption) | assumption)
                                                          obtain ⟨ad538, A538_0, c538_0, e538, hx538_0, hl538_0, hi538_0⟩ := at_L1 HR0.out (rd (rd_L1 t521 x7_3) x11_5) p538 q538
                                                          cases e538
                                                          replace hx538_0 := (HB.out.cell (World.block_lt_of_cell? w _ hx538_0)).trans hx538_0
                                                          have HR538_0 := Aside0.mk hi538_0
                                                          have HC538_0 := Aside0.mk hl538_0
                                                          clear hi538_0 hl538_0
                                                          replace p538 := eq_true p538
                                                          replace q538 := eq_true q538
                                                          go_wp2
                                                          go_roundg k6
                                                          case measure => have := HJ3.out; have := HJ11.out; have := HK3.out; have := HK4.out; have := HK5.out; have := HK6.out; omega
                                                          case rel => exact ⟨(wrap64 (x11_5 + 1)), (by first | rfl | (simp; done) | (simp [*]; done)), H', ⟨by have := HJ3.out; have := HJ11.out; have := HK3.out; have := HK4.out; have := HK5.out; have := HK6.out; omega⟩, ⟨by (with_reducible repeat (first | apply Kd.S_alloc | apply Kd.S_drewN | apply Kd.S_drew)); exact HO_5.out⟩, ⟨by (with_reducible repeat (first | apply Kd.R_alloc | apply Kd.R_drewN | apply Kd.R_drew)); exact HO_8.out⟩, ⟨by repeat (first | (with_reducible exact HR530_0.out) | (with_reducible refine Kd.C_alloc ?_ _) | (with_reducible refine Kd.C_drewN ?_ _) | (with_reducible refine Kd.C_drew ?_) | exact HR530_0.out)⟩, ⟨by repeat (first | (with_reducible first | exact HB.out | apply below_alloc | apply pw_below_drewN | apply below_drew1) | exact HB.out)⟩⟩
                                                        · replace c54 := Bool.eq_false_iff.mpr c54
                                                          subst c54
                                                          have H1 : (some false) = some r := by rw [if_neg (show ¬ (false = true) by decide)] at H; exact H
                                                          clear H
                                                          have H := H1
                                                          clear H1
                                                          obtain rfl := Option.some.inj H
                                                          have p538 : 0 ≤ ((rd (rd_L1 t521 x7_3) x11_5) : Int) := of_decide_eq_true (by first | (with_reducible assumption) | assumption)
                                                          have q538 : (rd (rd_L1 t521 x7_3) x11_5) < (l0.length : Int) := of_decide_eq_true (by first | (with_reducible assumption) | assumption)
                                                          obtain ⟨ad538, A538_0, c538_0, e538, hx538_0, hl538_0, hi538_0⟩ := at_L1 HR0.out (rd (rd_L1 t521 x7_3) x11_5) p538 q538
                                                          cases e538
                                                          replace hx538_0 := (HB.out.cell (World.block_lt_of_cell? w _ hx538_0)).trans hx538_0
                                                          have HR538_0 := Aside0.mk hi538_0
                                                          have HC538_0 := Aside0.mk hl538_0
                                                          clear hi538_0 hl538_0
                                                          replace p538 := eq_true p538
                                                          replace q538 := eq_true q538
                                                          go_wp2
                                                          go_ret
                                                          exact ⟨by first | rfl | (simp [errW_none, errW_some] <;> rfl) | (simp [*, errW_none, errW_some] <;> rfl), by repeat (first | (with_reducible first | exact HB.out | apply below_alloc | apply pw_below_drewN | apply below_drew1) | exact HB.out)⟩
                                                    · rw [if_neg c47] at H
                                                      exact absurd H (by simp)
                                                  · rw [if_neg c46] at H
                                                    exact absurd H (by simp)
                                            · rw [if_neg c45] at H
                                              exact absurd H (by simp)
                                          · rw [if_neg c44] at H
                                            have c44b0 : decide (x11_5 < ((rd_L1 t521 x7_3).length : Int)) = false := decide_eq_false c44
                                            clear c44
                                            have H' := Aside0.mk H
                                            clear H
                                            have p535 : 0 ≤ (x7_3 : Int) := of_decide_eq_true (by first | (with_reducible assumption) | assumption)
                                            have q535 : x7_3 < (t521.length : Int) := of_decide_eq_true (by first | (with_reducible assumption) | assumption)
                                            obtain ⟨ad535, A535_0, c535_0, e535, hx535_0, hl535_0, hi535_0⟩ := at_L1 (Kd.S_reads' HO_5.out).2.2 x7_3 p535 q535
                                            obtain rfl : ad530 = ad535 := (by injection e535)
                                            obtain ⟨ce535, hce535, hMe535, hcc535⟩ := Kd.S_get HO_5.out [] x7_3 p535 (by first | exact q535 | exact of_decide_eq_true (by first | (with_reducible assumption) | assumption) | (have e_ := (Kd.S_reads' HO_5.out).1; omega))
                                            obtain ⟨ve535_0, rfl, ge535_0⟩ := hMe535
                                            have hv535_0 := hcc535 0 _ rfl
                                            rw [Nat.add_zero, show ((Kd.slice 3 (Kd.int .i64))).sz = 1 from rfl, Nat.mul_one] at hv535_0
                                            replace hv535_0 := Option.some.inj (hv535_0.symm.trans hx535_0)
                                            rw [hv535_0] at ge535_0
                                            have HL535_0 := Aside0.mk (show Kd.R (Kd.int .i64) 3 _ _ _ _ (rd_L1 t521 x7_3) from ge535_0)
                                            clear hv535_0 ge535_0
                                            clear hcc535 hce535
                                            have HR535_0 := Aside0.mk hi535_0
                                            have HC535_0 := Aside0.mk hl535_0
                                            clear hi535_0 hl535_0
                                            replace p535 := eq_true p535
                                            replace q535 := eq_true q535
                                            go_wp2
                                            go_roundg k5
                                            case measure => have := HJ3.out; have := HJ11.out; have := HK3.out; have := HK4.out; have := HK5.out; omega
                                            case rel => exact ⟨(wrap64 (x7_3 + 1)), (by first | rfl | (simp; done) | (simp [*]; done)), H', ⟨by have := HJ3.out; have := HJ11.out; have := HK3.out; have := HK4.out; have := HK5.out; omega⟩, ⟨by (with_reducible repeat (first | apply Kd.S_alloc | apply Kd.S_drewN | apply Kd.S_drew)); exact HO_5.out⟩, ⟨by repeat (first | (with_reducible first | exact HB.out | apply below_alloc | apply pw_below_drewN | apply below_drew1) | exact HB.out)⟩⟩
                                        · rw [if_neg c43] at H
                                          exact absurd H (by simp)
                                      · rw [if_neg c42] at H
                                        exact absurd H (by simp)
                              · rw [if_neg c28] at H
                                exact absurd H (by simp)
                            · rw [if_neg c27] at H
                              exact absurd H (by simp)
                      · rw [if_neg c23] at H
                        exact absurd H (by simp)
                    · rw [if_neg c22] at H
                      exact absurd H (by simp)
                  · rw [if_neg c21] at H
                    have c21b0 : decide (x7_3 < (t521.length : Int)) = false := decide_eq_false c21
                    clear c21
                    replace H := Option.bind_eq_some_iff.mp H
                    obtain ⟨t542, A550, H⟩ := H
                    replace H : (swagelaw06_GraphLoops.l4 k3 l0 t518 t542 0 0) = some r := H
                    have A55 := Aside0.mk A550
                    clear A550
                    have H' := Aside0.mk H
                    clear H
                    obtain ⟨Ao56, co56, eo56⟩ := Kd.S_slice HO_5.out
                    subst eo56
                    go_wp2_with (first | ((with_reducible refine gate_callee (f := 16) rfl ?_); refine goesL_ (some 131) rfl rfl Try.func16 (by kernel_rfl) rfl #[.slice A0 l0.length c0] rfl (by (try simp only [List.map_toArray, List.map_cons, List.map_nil]); first | done | rfl | (simp only [List.length_drop, List.length_take]; rfl)) ?_; (with_reducible refine (graph_Preds.calls k3 _ _ l0 t542 _ ?side1 ?side2 A55.out).mono ?_); (case side1 => repeat (first | exact (Kd.C_below HR0.out HB.out) | (with_reducible refine Kd.C_alloc ?_ _) | (with_reducible refine Kd.C_drewN ?_ _) | (with_reducible refine Kd.C_drew ?_))); (case side2 => exact HC0.out); rintro e w57 ⟨v543, rfl, ho0, hb⟩; refine ⟨_, rfl, ?_⟩; have n0_ := Aside0.mk (Kd.S_elder' (by (with_reducible repeat (first | apply Kd.S_alloc | apply Kd.S_drewN | apply Kd.S_drew)); exact HO_5.out) (Kd.S_base ho0) hb); have n1_ := Aside0.mk (Kd.S_lower (Kd.S_new' ho0 (Kd.S_lt (by (with_reducible repeat (first | apply Kd.S_alloc | apply Kd.S_drewN | apply Kd.S_drew)); exact HO_5.out))) (below_size (by repeat (first | (with_reducible first | exact HB.out | apply below_alloc | apply pw_below_drewN | apply below_drew1) | exact HB.out)))); have n2_ := Aside0.mk (below_step (by repeat (first | (with_reducible first | exact HB.out | apply below_alloc | apply pw_below_drewN | apply below_drew1) | exact HB.out)) hb); clear HO_5; clear HB; have HO_5 := n0_; have HO544 := n1_; have HB := n2_; clear n0_ n1_ n2_; (try clear hb); (try clear hb2); (try clear hk); (try clear hi); (try clear ho0)))
                    go_loopg [16, 17] k3 (fun kq v16 v17 w' => ∃ (x16_4 : Int) (x17_4 : Int), v16 = .int .i64 x16_4 ∧ v17 = .int .i64 x17_4 ∧ Aside0 (swagelaw06_GraphLoops.l4 kq l0 t518 t542 x16_4 x17_4 = some r) ∧ Aside0 (kq ≤ k3) ∧ Aside0 (Kd.S (Kd.slice 3 (Kd.int .i64)) 27 w' w.heap.size (fun _ => True) v543 t542) ∧ Aside0 (Below w.heap.size w w'))
                    case atStart => exact ⟨(0), (0), (by first | rfl | (simp; done) | (simp [*]; done)), (by first | rfl | (simp; done) | (simp [*]; done)), H', ⟨Nat.le_refl _⟩, ⟨by (with_reducible repeat (first | apply Kd.S_alloc | apply Kd.S_drewN | apply Kd.S_drew)); exact Kd.S_mono HO544.out (fun _ hk => trivial)⟩, ⟨by repeat (first | (with_reducible first | exact HB.out | apply below_alloc | apply pw_below_drewN | apply below_drew1) | exact HB.out)⟩⟩
                    case round =>
                      clear H'
                      try clear c1
                      try clear c2
                      try clear p2
                      try clear c3
                      try clear p3
                      try clear q3
                      try clear hx3
                      try clear hf3
                      try clear c4
                      try clear c5
                      try clear p5
                      try clear q5
                      try clear hx5
                      try clear c6
                      try clear p6
                      try clear c9
                      try clear c13
                      try clear c14
                      try clear c15
                      try clear c15b0
                      try clear c15b1
                      try clear c15b2
                      try clear c16
                      try clear c20
                      try clear c21
                      try clear c21b0
                      try clear c22
                      try clear c22b0
                      try clear c22b1
                      try clear c23
                      try clear c23b0
                      try clear c23b1
                      try clear c27
                      try clear c27b0
                      try clear c28
                      try clear c28b0
                      try clear c29
                      try clear c29b0
                      try clear c30
                      try clear c30b0
                      try clear c31
                      try clear c31b0
                      try clear c32
                      try clear c32b0
                      try clear c33
                      try clear c33b0
                      try clear c34
                      try clear c34b0
                      try clear q35
                      try clear c36
                      try clear p38
                      try clear q38
                      try clear hx38
                      try clear hf38
                      try clear c42
                      try clear c42b0
                      try clear c43
                      try clear c43b0
                      try clear c44
                      try clear c44b0
                      try clear c45
                      try clear c45b0
                      try clear c46
                      try clear c46b0
                      try clear c47
                      try clear c47b0
                      try clear c48
                      try clear c48b0
                      try clear c49
                      try clear c50
                      try clear c50b0
                      try clear c51
                      try clear c51b0
                      try clear c52
                      try clear c52b0
                      try clear c53
                      try clear p53
                      try clear q53
                      try clear hx53
                      try clear c54
                      try clear p54
                      try clear q54
                      try clear hx54
                      try clear hx38_0
                      try clear hx530_0
                      try clear hx531_0
                      try clear hx532_0
                      try clear hx533_0
                      try clear hx535_0
                      try clear hx536_0
                      try clear hx537_0
                      try clear hx538_0
                      try clear hx539_0
                      try clear hx540_0
                      try clear hx541_0
                      try clear p2
                      try clear p3
                      try clear p38
                      try clear p5
                      try clear p530
                      try clear p531
                      try clear p532
                      try clear p533
                      try clear p535
                      try clear p536
                      try clear p537
                      try clear p538
                      try clear p539
                      try clear p540
                      try clear p541
                      try clear p6
                      try clear q3
                      try clear q35
                      try clear q38
                      try clear q5
                      try clear q530
                      try clear q531
                      try clear q532
                      try clear q533
                      try clear q535
                      try clear q536
                      try clear q537
                      try clear q538
                      try clear q539
                      try clear q540
                      try clear q541
                      obtain ⟨x16_4, x17_4, rfl, rfl, HA, HK4, HO_15, HB⟩ := hrel
                      cases gk with
                      | zero => exact absurd HA.out (by simp [swagelaw06_GraphLoops.l4])
                      | succ k4 =>
                        have H := HA.out
                        clear HA
                        simp only [swagelaw06_GraphLoops.l4] at H
                        by_cases c58 : x17_4 < (l0.length : Int)
                        · rw [if_pos c58] at H
                          have c58b0 : decide (x17_4 < (l0.length : Int)) = true := decide_eq_true c58
                          clear c58
                          by_cases c59 : 0 ≤ x17_4
                          · rw [if_pos c59] at H
                            have c59b0 : decide (0 ≤ x17_4) = true := decide_eq_true c59
                            clear c59
                            have H' := Aside0.mk H
                            clear H
                            have p545 : 0 ≤ (x17_4 : Int) := of_decide_eq_true (by first | (with_reducible assumption) | assumption)
                            have q545 : x17_4 < (l0.length : Int) := of_decide_eq_true (by first | (with_reducible assumption) | assumption)
                            obtain ⟨ad545, A545_0, c545_0, e545, hx545_0, hl545_0, hi545_0⟩ := at_L1 HR0.out x17_4 p545 q545
                            cases e545
                            replace hx545_0 := (HB.out.cell (World.block_lt_of_cell? w _ hx545_0)).trans hx545_0
                            have HR545_0 := Aside0.mk hi545_0
                            have HC545_0 := Aside0.mk hl545_0
                            clear hi545_0 hl545_0
                            replace p545 := eq_true p545
                            replace q545 := eq_true q545
                            go_wp2
                            go_roundg k4
                            case measure => have := HJ3.out; have := HJ11.out; have := HK3.out; have := HK4.out; omega
                            case rel => exact ⟨(wrap64 (x16_4 + ((rd_L1 l0 x17_4).length : Int))), (wrap64 (x17_4 + 1)), (by first | rfl | (simp; done) | (simp [*]; done)), (by first | rfl | (simp; done) | (simp [*]; done)), H', ⟨by have := HJ3.out; have := HJ11.out; have := HK3.out; have := HK4.out; omega⟩, ⟨by (with_reducible repeat (first | apply Kd.S_alloc | apply Kd.S_drewN | apply Kd.S_drew)); exact HO_15.out⟩, ⟨by repeat (first | (with_reducible first | exact HB.out | apply below_alloc | apply pw_below_drewN | apply below_drew1) | exact HB.out)⟩⟩
                          · rw [if_neg c59] at H
                            exact absurd H (by simp)
                        · rw [if_neg c58] at H
                          have c58b0 : decide (x17_4 < (l0.length : Int)) = false := decide_eq_false c58
                          clear c58
                          have H' := Aside0.mk H
                          clear H
                          go_wp2
                          go_loopg [16, 18] k4 (fun kq v16 v18 w' => ∃ (x16_5 : Int) (x18_5 : Int), v16 = .int .i64 x16_5 ∧ v18 = .int .i64 x18_5 ∧ Aside0 (swagelaw06_GraphLoops.l5 kq l0 t518 t542 x16_5 x18_5 = some r) ∧ Aside0 (kq ≤ k4) ∧ Aside0 (Kd.S (Kd.slice 3 (Kd.int .i64)) 27 w' w.heap.size (fun _ => True) v543 t542) ∧ Aside0 (Below w.heap.size w w'))
                          case atStart => exact ⟨(x16_4), (0), (by first | rfl | (simp; done) | (simp [*]; done)), (by first | rfl | (simp; done) | (simp [*]; done)), H', ⟨Nat.le_refl _⟩, ⟨by (with_reducible repeat (first | apply Kd.S_alloc | apply Kd.S_drewN | apply Kd.S_drew)); exact HO_15.out⟩, ⟨by repeat (first | (with_reducible first | exact HB.out | apply below_alloc | apply pw_below_drewN | apply below_drew1) | exact HB.out)⟩⟩
                          case round =>
                            clear H'
                            try clear c1
                            try clear c2
                            try clear p2
                            try clear c3
                            try clear p3
                            try clear q3
                            try clear hx3
                            try clear hf3
                            try clear c4
                            try clear c5
                            try clear p5
                            try clear q5
                            try clear hx5
                            try clear c6
                            try clear p6
                            try clear c9
                            try clear c13
                            try clear c14
                            try clear c15
                            try clear c15b0
                            try clear c15b1
                            try clear c15b2
                            try clear c16
                            try clear c20
                            try clear c21
                            try clear c21b0
                            try clear c22
                            try clear c22b0
                            try clear c22b1
                            try clear c23
                            try clear c23b0
                            try clear c23b1
                            try clear c27
                            try clear c27b0
                            try clear c28
                            try clear c28b0
                            try clear c29
                            try clear c29b0
                            try clear c30
                            try clear c30b0
                            try clear c31
                            try clear c31b0
                            try clear c32
                            try clear c32b0
                            try clear c33
                            try clear c33b0
                            try clear c34
                            try clear c34b0
                            try clear q35
                            try clear c36
                            try clear p38
                            try clear q38
                            try clear hx38
                            try clear hf38
                            try clear c42
                            try clear c42b0
                            try clear c43
                            try clear c43b0
                            try clear c44
                            try clear c44b0
                            try clear c45
                            try clear c45b0
                            try clear c46
                            try clear c46b0
                            try clear c47
                            try clear c47b0
                            try clear c48
                            try clear c48b0
                            try clear c49
                            try clear c50
                            try clear c50b0
                            try clear c51
                            try clear c51b0
                            try clear c52
                            try clear c52b0
                            try clear c53
                            try clear p53
                            try clear q53
                            try clear hx53
                            try clear c54
                            try clear p54
                            try clear q54
                            try clear hx54
                            try clear c58
                            try clear c58b0
                            try clear c59
                            try clear c59b0
                            try clear hx38_0
                            try clear hx530_0
                            try clear hx531_0
                            try clear hx532_0
                            try clear hx533_0
                            try clear hx535_0
                            try clear hx536_0
                            try clear hx537_0
                            try clear hx538_0
                            try clear hx539_0
                            try clear hx540_0
                            try clear hx541_0
                            try clear hx545_0
                            try clear p2
                            try clear p3
                            try clear p38
                            try clear p5
                            try clear p53
                            try clear p530
                            try clear p531
                            try clear p532
                            try clear p533
                            try clear p535
                            try clear p536
                            try clear p537
                            try clear p538
                            try clear p539
                            try clear p54
                            try clear p540
                            try clear p541
                            try clear p545
                            try clear p6
                            try clear q3
                            try clear q35
                            try clear q38
                            try clear q5
                            try clear q53
                            try clear q530
                            try clear q531
                            try clear q532
                            try clear q533
                            try clear q535
                            try clear q536
                            try clear q537
                            try clear q538
                            try clear q539
                            try clear q54
                            try clear q540
                            try clear q541
                            try clear q545
                            obtain ⟨x16_5, x18_5, rfl, rfl, HA, HK5, HO_15, HB⟩ := hrel
                            cases gk with
                            | zero => exact absurd HA.out (by simp [swagelaw06_GraphLoops.l5])
                            | succ k5 =>
                              have H := HA.out
                              clear HA
                              simp only [swagelaw06_GraphLoops.l5] at H
                              by_cases c60 : x18_5 < (t542.length : Int)
                              · rw [if_pos c60] at H
                                have c60b0 : decide (x18_5 < (t542.length : Int)) = true := decide_eq_true c60
                                clear c60
                                by_cases c61 : 0 ≤ x18_5
                                · rw [if_pos c61] at H
                                  have c61b0 : decide (0 ≤ x18_5) = true := decide_eq_true c61
                                  clear c61
                                  have H' := Aside0.mk H
                                  clear H
                                  obtain ⟨Ao62, co62, eo62⟩ := Kd.S_slice HO_15.out
                                  subst eo62
                                  have p546 : 0 ≤ (x18_5 : Int) := of_decide_eq_true (by first | (with_reducible assumption) | assumption)
                                  have q546 : x18_5 < (t542.length : Int) := of_decide_eq_true (by first | (with_reducible assumption) | assumption)
                                  obtain ⟨ad546, A546_0, c546_0, e546, hx546_0, hl546_0, hi546_0⟩ := at_L1 (Kd.S_reads' HO_15.out).2.2 x18_5 p546 q546
                                  cases e546
                                  obtain ⟨ce546, hce546, hMe546, hcc546⟩ := Kd.S_get HO_15.out [] x18_5 p546 (by first | exact q546 | exact of_decide_eq_true (by first | (with_reducible assumption) | assumption) | (have e_ := (Kd.S_reads' HO_15.out).1; omega))
                                  obtain ⟨ve546_0, rfl, ge546_0⟩ := hMe546
                                  have hv546_0 := hcc546 0 _ rfl
                                  rw [Nat.add_zero, show ((Kd.slice 3 (Kd.int .i64))).sz = 1 from rfl, Nat.mul_one] at hv546_0
                                  replace hv546_0 := Option.some.inj (hv546_0.symm.trans hx546_0)
                                  rw [hv546_0] at ge546_0
                                  have HL546_0 := Aside0.mk (show Kd.R (Kd.int .i64) 3 _ _ _ _ (rd_L1 t542 x18_5) from ge546_0)
                                  clear hv546_0 ge546_0
                                  clear hcc546 hce546
                                  have HR546_0 := Aside0.mk hi546_0
                                  have HC546_0 := Aside0.mk hl546_0
                                  clear hi546_0 hl546_0
                                  replace p546 := eq_true p546
                                  replace q546 := eq_true q546
                                  go_wp2
                                  go_roundg k5
                                  case measure => have := HJ3.out; have := HJ11.out; have := HK3.out; have := HK4.out; have := HK5.out; omega
                                  case rel => exact ⟨(wrap64 (x16_5 - ((rd_L1 t542 x18_5).length : Int))), (wrap64 (x18_5 + 1)), (by first | rfl | (simp; done) | (simp [*]; done)), (by first | rfl | (simp; done) | (simp [*]; done)), H', ⟨by have := HJ3.out; have := HJ11.out; have := HK3.out; have := HK4.out; have := HK5.out; omega⟩, ⟨by (with_reducible repeat (first | apply Kd.S_alloc | apply Kd.S_drewN | apply Kd.S_drew)); exact HO_15.out⟩, ⟨by repeat (first | (with_reducible first | exact HB.out | apply below_alloc | apply pw_below_drewN | apply below_drew1) | exact HB.out)⟩⟩
                                · rw [if_neg c61] at H
                                  exact absurd H (by simp)
                              · rw [if_neg c60] at H
                                have c60b0 : decide (x18_5 < (t542.length : Int)) = false := decide_eq_false c60
                                clear c60
                                by_cases c63 : t518 = true
                                · subst c63
                                  have H1 : (if x16_5 = 0 then (some ((t542.length : Int) == (l0.length : Int))) else (some false)) = some r := by rw [if_pos rfl] at H; exact H
                                  clear H
                                  have H := H1
                                  clear H1
                                  by_cases c64 : x16_5 = 0
                                  · rw [if_pos c64] at H
                                    have c64b0 : (x16_5 == 0) = true := beq_iff_eq.mpr c64
                                    have c64b1 : (x16_5 != 0) = false := bne_eq_false_iff_eq.mpr c64
                                    clear c64
                                    obtain rfl := Option.some.inj H
                                    obtain ⟨Ao65, co65, eo65⟩ := Kd.S_slice HO_15.out
                                    subst eo65
                                    go_wp2
                                    go_ret
                                    exact ⟨by first | rfl | (simp [errW_none, errW_some] <;> rfl) | (simp [*, errW_none, errW_some] <;> rfl), by repeat (first | (with_reducible first | exact HB.out | apply below_alloc | apply pw_below_drewN | apply below_drew1) | exact HB.out)⟩
                                  · rw [if_neg c64] at H
                                    have c64b0 : (x16_5 == 0) = false := beq_eq_false_iff_ne.mpr c64
                                    have c64b1 : (x16_5 != 0) = true := bne_iff_ne.mpr c64
                                    obtain rfl := Option.some.inj H
                                    obtain ⟨Ao66, co66, eo66⟩ := Kd.S_slice HO_15.out
                                    subst eo66
                                    go_wp2
                                    go_ret
                                    exact ⟨by first | rfl | (simp [errW_none, errW_some] <;> rfl) | (simp [*, errW_none, errW_some] <;> rfl), by repeat (first | (with_reducible first | exact HB.out | apply below_alloc | apply pw_below_drewN | apply below_drew1) | exact HB.out)⟩
                                · replace c63 := Bool.eq_false_iff.mpr c63
                                  subst c63
                                  have H1 : (some false) = some r := by rw [if_neg (show ¬ (false = true) by decide)] at H; exact H
                                  clear H
                                  have H := H1
                                  clear H1
                                  obtain rfl := Option.some.inj H
                                  obtain ⟨Ao67, co67, eo67⟩ := Kd.S_slice HO_15.out
                                  subst eo67
                                  go_wp2
                                  go_ret
                                  exact ⟨by first | rfl | (simp [errW_none, errW_some] <;> rfl) | (simp [*, errW_none, errW_some] <;> rfl), by repeat (first | (with_reducible first | exact HB.out | apply below_alloc | apply pw_below_drewN | apply below_drew1) | exact HB.out)⟩

end Go.Proofs.Ytkmbhknmjnbanaa.A


namespace Go.Proofs.Ytkmbhknmjnbanaa.A
open Go.RowKit Go.Proofs.YtkmbhknmjnbanaaW.PrintWords Go.Proofs.YtkmbhknmjnbanaaW.PrintLast Go.Shelf
set_option linter.unusedVariables false
set_option linter.unusedSimpArgs false

/-- from a head one comes to each block from where one comes back to it -/
theorem froms_head {g : List (List Int)} (hr : rightB g = true) {h f : Nat} (hf : Froms g h f) : Edge g f h ∧ Way g 0 f ∧ Way g h f := by
  obtain ⟨h1, h2, hg⟩ := right_rows hr
  have hw := froms_way hr hf
  obtain ⟨i, x, e, he, hp1, hp2⟩ := (back_mem hr _).1 hf
  simp only [S37.mk.injEq] at e
  obtain rfl : f = i := by omega
  obtain rfl : h = x := by omega
  refine ⟨he, hw, ?_⟩
  have hg0 : 0 < g.length := by omega
  have hfm : (f : Int) ∈ walkOf g 0 := (walk_mem hg hg0 f).2 hw
  obtain ⟨pre, post, hs⟩ := List.append_of_mem hfm
  rcases (walk_dfs hg hg0).ord pre post f h hs he with h3 | h3 | h3
  · exact absurd h3 (mk_met0 g h (he.lt hg))
  · exfalso
    have ho : orderOf g = post.reverse ++ (f : Int) :: pre.reverse := by
      unfold orderOf
      rw [if_pos hr, hs, List.reverse_append, List.reverse_cons, List.append_assoc]
      rfl
    obtain ⟨t, ht, et⟩ := List.getElem_of_mem (List.mem_reverse.2 h3)
    have hj1 : post.reverse.length < (orderOf g).length := by rw [ho]; simp
    have ef : (orderOf g)[post.reverse.length] = (f : Int) := by simp [ho]
    have hj2 : post.reverse.length + 1 + t < (orderOf g).length := by rw [ho]; rw [List.length_append, List.length_cons]; omega
    have eh : (orderOf g)[post.reverse.length + 1 + t] = (h : Int) := by
      have : (orderOf g)[post.reverse.length + 1 + t]? = some (h : Int) := by
        rw [ho, List.getElem?_append_right (by omega), show post.reverse.length + 1 + t - post.reverse.length = t + 1 by omega, List.getElem?_cons_succ, List.getElem?_eq_getElem ht, et]
      rw [List.getElem?_eq_getElem hj2] at this
      exact Option.some.inj this
    have p1 := place_at g hj1
    have p2 := place_at g hj2
    rw [ef, Int.toNat_natCast] at p1
    rw [eh, Int.toNat_natCast] at p2
    omega
  · exact h3
/-- each block of a loop has one behind it that is in the loop -/
theorem body_stays {g : List (List Int)} (hr : rightB g = true) {h : Nat} (hne : ∃ f, Froms g h f) {x : Nat} (hx : BodySet g h (Froms g h) (fun x => (reachRes g 0).getD x false = true) x) :
    ∃ y, Edge g x y ∧ BodySet g h (Froms g h) (fun x => (reachRes g 0).getD x false = true) y := by
  obtain ⟨f, hf⟩ := hne
  obtain ⟨he, hw, hwh⟩ := froms_head hr hf
  obtain ⟨h1, h2, hg⟩ := right_rows hr
  have hwh0 : Way g 0 h := hw.step he
  have step : ∀ b, Way g h b → b ≠ h → BodySet g h (Froms g h) (fun x => (reachRes g 0).getD x false = true) b → ∃ y, Edge g h y ∧ BodySet g h (Froms g h) (fun x => (reachRes g 0).getD x false = true) y := by
    intro b hb
    induction hb with
    | refl => intro hh; exact absurd rfl hh
    | @step c d hac hcd ih =>
      intro hdh hbd
      by_cases hc : c = h
      · subst hc; exact ⟨d, hcd, hbd⟩
      · exact ih hc (.back hbd hdh hcd ((reach0 hr hcd.lt1).2 (hwh0.trans hac)))
  cases hx with
  | head =>
    by_cases e : f = h
    · subst e; exact ⟨f, he, .head⟩
    · exact step f hwh e (.frm hf)
  | frm hx => exact ⟨h, (froms_head hr hx).1, .head⟩
  | back hy _ he' _ => exact ⟨_, he', hy⟩

theorem loops_row {g : List (List Int)} (hr : rightB g = true) {i : Nat} (hi : i < (loopsOf g).length) : ∃ h : Nat, h < g.length ∧ (∃ f, Froms g h f) ∧ rowOf (loopsOf g) i = rowTo (fun k => bodyW (predsOf g) (reachRes g 0) (budget (predsOf g) (ins (fun _ => false) h) (hfold (backOf g) h)) (ins (fun _ => false) h) (hfold (backOf g) h) k) h g.length := by
  have hm : rowOf (loopsOf g) i ∈ (headsOf g.length (hfold (backOf g))).map fun h => bodyRes (predsOf g) (reachRes g 0) h.toNat (hfold (backOf g) h) := rowOf_mem hi
  obtain ⟨hd, h1, h2⟩ := List.mem_map.1 hm
  unfold headsOf at h1
  obtain ⟨h, h3, rfl⟩ := List.mem_map.1 h1
  obtain ⟨h4, h5⟩ := List.mem_filter.1 h3
  have hh := List.mem_range.1 h4
  refine ⟨h, hh, ?_, ?_⟩
  · have : hfold (backOf g) (h : Int) ≠ [] := by intro e; rw [e] at h5; cases h5
    obtain ⟨y, hy⟩ := List.exists_mem_of_ne_nil _ this
    rw [hfold_mem] at hy
    obtain ⟨e, he, hf1, _⟩ := hy
    obtain ⟨a, ha⟩ := Int.eq_ofNat_of_zero_le (back_in g e he).1.1
    refine ⟨a, ?_⟩
    obtain ⟨f0, f1⟩ := e
    dsimp only at hf1 ha
    subst hf1; subst ha
    exact he
  · rw [← h2, Int.toNat_natCast, bodyRes_row hr hh]
theorem rowTo_mem {R : Nat → Bool} {h n : Nat} (hh : h < n) (hRh : R h = true) (x : Int) : x ∈ rowTo R h n ↔ ∃ k : Nat, x = k ∧ k < n ∧ R k = true := by
  unfold rowTo
  rw [List.mem_cons, List.mem_map]
  constructor
  · rintro (rfl | ⟨k, hk, rfl⟩)
    · exact ⟨h, rfl, hh, hRh⟩
    · obtain ⟨h1, h2⟩ := List.mem_filter.1 hk
      rw [Bool.and_eq_true] at h2
      exact ⟨k, rfl, List.mem_range.1 h1, h2.1⟩
  · rintro ⟨k, rfl, hk, hR⟩
    by_cases e : k = h
    · subst e; exact .inl rfl
    · exact .inr ⟨k, List.mem_filter.2 ⟨List.mem_range.2 hk, by rw [hR]; simp [e]⟩, rfl⟩
theorem rowTo_nodup (R : Nat → Bool) (h n : Nat) : (rowTo R h n).Nodup := by
  unfold rowTo
  rw [List.nodup_cons]
  constructor
  · intro hm
    obtain ⟨k, hk, e⟩ := List.mem_map.1 hm
    obtain ⟨_, h2⟩ := List.mem_filter.1 hk
    rw [Bool.and_eq_true, Bool.not_eq_true', decide_eq_false_iff_not] at h2
    exact h2.2 (by omega)
  · show List.Pairwise _ _
    rw [List.pairwise_map]
    exact (List.nodup_range.filter _).imp (fun h e => h (by omega))
/-- heads of loops are no more than edges that lead back -/
theorem heads_le (g : List (List Int)) : (loopsOf g).length ≤ (backOf g).length ∧ ((loopsOf g).length = 0 ↔ (backOf g).length = 0) := by
  have hm : ∀ x, x ∈ headsOf g.length (hfold (backOf g)) ↔ ∃ e ∈ backOf g, e.f1 = x := by
    intro x
    unfold headsOf
    rw [List.mem_map]
    constructor
    · rintro ⟨k, hk, rfl⟩
      have h5 := (List.mem_filter.1 hk).2
      have : hfold (backOf g) (k : Int) ≠ [] := by intro e; rw [e] at h5; cases h5
      obtain ⟨y, hy⟩ := List.exists_mem_of_ne_nil _ this
      rw [hfold_mem] at hy
      obtain ⟨e, he, hf1, _⟩ := hy
      exact ⟨e, he, hf1⟩
    · rintro ⟨e, he, rfl⟩
      have hb := (back_in g e he).2
      obtain ⟨k, hk⟩ := Int.eq_ofNat_of_zero_le hb.1
      refine ⟨k, List.mem_filter.2 ⟨List.mem_range.2 (by omega), ?_⟩, hk.symm⟩
      have : e.f0 ∈ hfold (backOf g) (k : Int) := (hfold_mem _ _ _).2 ⟨e, he, hk, rfl⟩
      have := List.ne_nil_of_mem this
      simpa using this
  have hl : (loopsOf g).length = (headsOf g.length (hfold (backOf g))).length := by unfold loopsOf; rw [List.length_map]
  rw [hl]
  have hnd : (headsOf g.length (hfold (backOf g))).Nodup := by
    unfold headsOf
    show List.Pairwise _ _
    rw [List.pairwise_map]
    exact (List.nodup_range.filter _).imp (fun h e => h (by omega))
  refine ⟨?_, fun h => ?_, fun h => ?_⟩
  · have := List.Nodup.length_le_of_subset hnd (l₂ := (backOf g).map (·.f1)) fun x hx => by
      obtain ⟨e, he, h⟩ := (hm x).1 hx
      exact List.mem_map.2 ⟨e, he, h⟩
    rwa [List.length_map] at this
  · have h1 := List.eq_nil_of_length_eq_zero h
    cases hb : backOf g with
    | nil => rfl
    | cons e l =>
      have := (hm e.f1).2 ⟨e, by rw [hb]; simp, rfl⟩
      rw [h1] at this
      cases this
  · have h1 := List.eq_nil_of_length_eq_zero h
    cases hb : headsOf g.length (hfold (backOf g)) with
    | nil => rfl
    | cons x l =>
      obtain ⟨e, he, _⟩ := (hm x).1 (by rw [hb]; simp)
      rw [h1] at he
      cases he

theorem ll_l5 {g : List (List Int)} (hr : rightB g = true) (hg : InG g) (hn : g.length ≤ 40) (h8 : ∀ l ∈ g, l.length ≤ 8) : ∀ (d i : Nat), i + d = g.length → Evt (fun k => swagelaw06_GraphLoops.l5 k g true (predsOf g) ((tot g : Int) - (tot ((predsOf g).take i) : Int)) i) true := by
  have hpl := predsOf_len g
  have htp : tot (predsOf g) = tot g := by have := tot_pfold hg g.length (Nat.le_refl _); rw [List.take_length] at this; exact this
  have htg := tot_le h8
  intro d
  induction d with
  | zero =>
    intro i hi
    obtain rfl : i = g.length := by omega
    refine Evt.step (Evt.const rfl) fun k => ?_
    rw [swagelaw06_GraphLoops.l5, if_neg (by omega), if_pos rfl, ← hpl, List.take_length, htp, if_pos (by omega)]
    simp
  | succ d ih =>
    intro i hi
    have hlt : i < (predsOf g).length := by omega
    have htk : tot ((predsOf g).take (i + 1)) = tot ((predsOf g).take i) + (rowOf (predsOf g) i).length := by
      rw [List.take_succ_eq_append_getElem hlt, tot_append, rowOf, List.getD_eq_getElem?_getD, List.getElem?_eq_getElem hlt]
      simp [tot]
    have h1 := tot_take (predsOf g) i
    have h2 := row_le_tot (predsOf g) i
    refine Evt.step (ih (i + 1) (by omega)) fun k => ?_
    rw [swagelaw06_GraphLoops.l5, if_pos (by omega), if_pos (by omega), rdL, wsucc (by omega), w64 (by omega) (by omega), htk]
    congr 1
    omega
theorem ll_l4 {g : List (List Int)} (hr : rightB g = true) (hg : InG g) (hn : g.length ≤ 40) (h8 : ∀ l ∈ g, l.length ≤ 8) : ∀ (d i : Nat), i + d = g.length → Evt (fun k => swagelaw06_GraphLoops.l4 k g true (predsOf g) (tot (g.take i) : Int) i) true := by
  have htg := tot_le h8
  intro d
  induction d with
  | zero =>
    intro i hi
    obtain rfl : i = g.length := by omega
    refine Evt.step (ll_l5 hr hg hn h8 g.length 0 (by omega)) fun k => ?_
    rw [swagelaw06_GraphLoops.l4, if_neg (by omega), List.take_length]
    simp [tot]
  | succ d ih =>
    intro i hi
    have hlt : i < g.length := by omega
    have htk : tot (g.take (i + 1)) = tot (g.take i) + (rowOf g i).length := by
      rw [List.take_succ_eq_append_getElem hlt, tot_append, rowOf, List.getD_eq_getElem?_getD, List.getElem?_eq_getElem hlt]
      simp [tot]
    have h1 := tot_take g i
    have h2 := row_le_tot g i
    refine Evt.step (ih (i + 1) (by omega)) fun k => ?_
    rw [swagelaw06_GraphLoops.l4, if_pos (by omega), if_pos (by omega), rdL, wsucc (by omega), w64 (by omega) (by omega), htk]
    rfl
theorem ll_l3 {g : List (List Int)} (hr : rightB g = true) (hg : InG g) (hn : g.length ≤ 40) (h8 : ∀ l ∈ g, l.length ≤ 8) {i : Nat} {m : List Bool} (hml : m.length = g.length) {n : Nat} (hnl : n < g.length) {c : Nat} (hc : c ≤ 100000) (hstay : ∃ y, Edge g n y ∧ Mk m y) (hnext : Evt (fun k => swagelaw06_GraphLoops.l2 k g true (loopsOf g) i m ((c + 1 : Nat) : Int)) true) :
    ∀ (d j : Nat) (b : Bool), j + d = (rowOf g n).length → (b = true ∨ ∃ y : Nat, (y : Int) ∈ (rowOf g n).drop j ∧ Mk m y) → Evt (fun k => swagelaw06_GraphLoops.l3 k g true (loopsOf g) i m c n b j) true := by
  have h88 := h8 _ (rowOf_mem hnl)
  intro d
  induction d with
  | zero =>
    intro j b hj hb
    have hbt : b = true := hb.resolve_right fun ⟨y, h, _⟩ => by rw [List.drop_eq_nil_of_le (by omega)] at h; cases h
    refine Evt.step hnext fun k => ?_
    rw [swagelaw06_GraphLoops.l3, if_pos (by omega), if_pos (by omega), rdL, if_neg (by omega), if_pos hbt, wsucc (by omega)]
  | succ d ih =>
    intro j b hj hb
    have hlt : j < (rowOf g n).length := by omega
    have hx := hg _ (rowOf_mem hnl) _ (List.getElem_mem hlt)
    obtain ⟨x, ex⟩ := Int.eq_ofNat_of_zero_le hx.1
    cases b with
    | true =>
      refine Evt.step (ih (j + 1) true (by omega) (.inl rfl)) fun k => ?_
      rw [swagelaw06_GraphLoops.l3, if_pos (by omega), if_pos (by omega), rdL, if_pos (by omega), if_pos rfl, wsucc (by omega)]
    | false =>
      refine Evt.step (ih (j + 1) (rdOf false m (x : Int)) (by omega) ?_) fun k => ?_
      · obtain ⟨y, hy, hmy⟩ := hb.resolve_left (by simp)
        rw [List.drop_eq_getElem_cons hlt, ex] at hy
        rcases List.mem_cons.1 hy with hy | hy
        · obtain rfl : y = x := by omega
          exact .inl ((mk_rd (by omega)).2 hmy)
        · exact .inr ⟨y, hy, hmy⟩
      · rw [swagelaw06_GraphLoops.l3, if_pos (by omega), if_pos (by omega), rdL, if_pos (by omega), if_neg (by simp), if_pos (by omega), rdI hlt, ex, if_pos (by omega), if_pos (by omega), wsucc (by omega)]
theorem ll_l2 {g : List (List Int)} (hr : rightB g = true) (hg : InG g) (hn : g.length ≤ 40) (h8 : ∀ l ∈ g, l.length ≤ 8) {i : Nat} (hi : i < (loopsOf g).length) {m : List Bool} (hml : m.length = g.length) (hstay : ∀ x ∈ rowOf (loopsOf g) i, ∃ n : Nat, x = n ∧ n < g.length ∧ ∃ y, Edge g n y ∧ Mk m y) (hnext : Evt (fun k => swagelaw06_GraphLoops.l0 k g true (loopsOf g) ((i + 1 : Nat) : Int)) true) :
    ∀ (d c : Nat), c + d = (rowOf (loopsOf g) i).length → Evt (fun k => swagelaw06_GraphLoops.l2 k g true (loopsOf g) i m c) true := by
  have hrl := loopsOf_rows _ (rowOf_mem hi)
  have hll := loopsTo_len g g.length
  have hil : i < 1000 := by have : (loopsOf g).length = (loopsTo g g.length).length := rfl; omega
  intro d
  induction d with
  | zero =>
    intro c hc
    refine Evt.step hnext fun k => ?_
    rw [swagelaw06_GraphLoops.l2, if_pos (by omega), if_pos (by omega), rdL, if_neg (by omega), wsucc (by omega)]
  | succ d ih =>
    intro c hc
    have hlt : c < (rowOf (loopsOf g) i).length := by omega
    obtain ⟨n, en, hnl, y, hy, hmy⟩ := hstay _ (List.getElem_mem hlt)
    refine Evt.step (ll_l3 hr hg hn h8 hml hnl (c := c) (by omega) ⟨y, hy, hmy⟩ (ih (c + 1) (by omega)) (rowOf g n).length 0 false (by omega) (.inr ⟨y, by rw [List.drop_zero]; exact hy, hmy⟩)) fun k => ?_
    rw [swagelaw06_GraphLoops.l2, if_pos (by omega), if_pos (by omega), rdL, if_pos (by omega), if_pos (by omega), rdI hlt, en]
    rfl
theorem ll_l1 {g : List (List Int)} (hr : rightB g = true) (hg : InG g) (hn : g.length ≤ 40) (h8 : ∀ l ∈ g, l.length ≤ 8) {i : Nat} (hi : i < (loopsOf g).length) (hin : ∀ x ∈ rowOf (loopsOf g) i, 0 ≤ x ∧ x < (g.length : Int)) (hnd : (rowOf (loopsOf g) i).Nodup) {r : Bool} (hnext : ∀ m : List Bool, m.length = g.length → (∀ y, y < g.length → (Mk m y ↔ (y : Int) ∈ rowOf (loopsOf g) i)) → Evt (fun k => swagelaw06_GraphLoops.l2 k g true (loopsOf g) i m 0) r) :
    ∀ (d c : Nat) (m : List Bool), c + d = (rowOf (loopsOf g) i).length → m.length = g.length → (∀ y, y < g.length → (Mk m y ↔ (y : Int) ∈ (rowOf (loopsOf g) i).take c)) → Evt (fun k => swagelaw06_GraphLoops.l1 k g true (loopsOf g) i m c) r := by
  have hrl := loopsOf_rows _ (rowOf_mem hi)
  intro d
  induction d with
  | zero =>
    intro c m hc hml hm
    refine Evt.step (hnext m hml fun y hy => by rw [hm y hy, List.take_of_length_le (by omega)]) fun k => ?_
    rw [swagelaw06_GraphLoops.l1, if_pos (by omega), if_pos (by omega), rdL, if_neg (by omega)]
  | succ d ih =>
    intro c m hc hml hm
    have hlt : c < (rowOf (loopsOf g) i).length := by omega
    have hx := hin _ (List.getElem_mem hlt)
    obtain ⟨x, ex⟩ := Int.eq_ofNat_of_zero_le hx.1
    have hxl : x < g.length := by omega
    have hno : ¬ Mk m x := by
      rw [hm x hxl, ← ex]
      intro h
      obtain ⟨j, hj, e⟩ := List.getElem_of_mem h
      rw [List.getElem_take] at e
      have := (List.getElem_inj hnd).1 e
      rw [List.length_take] at hj
      omega
    refine Evt.step (ih (c + 1) (m.set x true) (by omega) (by simp [hml]) fun y hy => ?_) fun k => ?_
    · rw [mk_set (by omega), hm y hy, List.take_succ_eq_append_getElem hlt, List.mem_append, List.mem_singleton, ex]
      constructor
      · rintro (h | rfl)
        · exact .inl h
        · exact .inr rfl
      · rintro (h | h)
        · exact .inl h
        · exact .inr (by omega)
    · rw [swagelaw06_GraphLoops.l1, if_pos (by omega), if_pos (by omega), rdL, if_pos (by omega), if_pos (by omega), rdI hlt, ex, if_neg (by omega), if_neg (by omega), if_pos (by omega), if_pos (by omega), if_neg (fun h => hno ((mk_rd (by omega)).1 h)), Int.toNat_natCast, wsucc (by omega)]
theorem ll_l0 {g : List (List Int)} (hr : rightB g = true) (hg : InG g) (hn : g.length ≤ 40) (h8 : ∀ l ∈ g, l.length ≤ 8) : ∀ (d i : Nat), i + d = (loopsOf g).length → Evt (fun k => swagelaw06_GraphLoops.l0 k g true (loopsOf g) i) true := by
  intro d
  induction d with
  | zero =>
    intro i hi
    have hp := preds_ev g
    rw [if_pos hr] at hp
    refine Evt.step (Evt.bind hp (h := fun k t542 => swagelaw06_GraphLoops.l4 k g true t542 0 0) (ll_l4 hr hg hn h8 g.length 0 (by omega))) fun k => ?_
    rw [swagelaw06_GraphLoops.l0, if_neg (by omega)]
  | succ d ih =>
    intro i hi
    have hlt : i < (loopsOf g).length := by omega
    obtain ⟨h, hh, hne, hrow⟩ := loops_row hr hlt
    have hmem : ∀ x : Int, x ∈ rowOf (loopsOf g) i ↔ ∃ k : Nat, x = k ∧ k < g.length ∧ BodySet g h (Froms g h) (fun x => (reachRes g 0).getD x false = true) k := by
      intro x
      rw [hrow, rowTo_mem hh ((body_spec hr hh h).2 .head)]
      constructor
      · rintro ⟨k, e, hk, hb⟩; exact ⟨k, e, hk, (body_spec hr hh k).1 hb⟩
      · rintro ⟨k, e, hk, hb⟩; exact ⟨k, e, hk, (body_spec hr hh k).2 hb⟩
    refine Evt.step (ll_l1 hr hg hn h8 hlt (fun x hx => ?_) (by rw [hrow]; exact rowTo_nodup _ _ _) (fun m hml hm => ll_l2 hr hg hn h8 hlt hml (fun x hx => ?_) (ih (i + 1) (by omega)) (rowOf (loopsOf g) i).length 0 (by omega)) (rowOf (loopsOf g) i).length 0 (List.replicate g.length false) (by omega) (by simp) (fun y hy => ?_)) fun k => ?_
    · obtain ⟨k, rfl, hk, _⟩ := (hmem x).1 hx
      omega
    · obtain ⟨n, rfl, hnl, hb⟩ := (hmem x).1 hx
      obtain ⟨y, hy, hby⟩ := body_stays hr hne hb
      have hyl := hy.lt hg
      exact ⟨n, rfl, hnl, y, hy, (hm y hyl).2 ((hmem _).2 ⟨y, rfl, hyl, hby⟩)⟩
    · rw [List.take_zero]
      have := mk_met0 g y hy
      unfold met0 at this
      simp [this]
    · rw [swagelaw06_GraphLoops.l0, if_pos (by omega), if_pos (by omega), if_pos (by omega), Int.toNat_natCast]
      rfl
theorem loops_pure (g : List (List Int)) : ∃ k, swagelaw06_GraphLoops.f k g = some true := by
  obtain ⟨r, hf, hr⟩ := few_ev g
  suffices H : Evt (fun k => swagelaw06_GraphLoops.f k g) true from H.get
  unfold swagelaw06_GraphLoops.f swagelaw06_small.f
  simp only [Option.bind_some]
  refine Evt.bind hf ?_
  have hno : Evt (fun k => swagelaw06_GraphLoops.j0 k g true true) true := Evt.step (Evt.const rfl) fun k => by rw [swagelaw06_GraphLoops.j0, if_pos rfl]
  cases r with
  | false => exact hno
  | true =>
    have hn : g.length ≤ 40 := hr rfl
    unfold graph_Right.f
    simp only [if_true, Option.bind_some]
    cases hrt : rightB g
    · exact hno
    · obtain ⟨e1, e2, hg⟩ := right_rows hrt
      obtain ⟨h1, h2⟩ := heads_le g
      refine Evt.step (Evt.bind (back_ev g) (h := fun k t524 => (if ((((loopsOf g).length : Int) == 0) != ((t524.length : Int) == 0)) = true then (swagelaw06_GraphLoops.j1 k g true (loopsOf g) true) else (swagelaw06_GraphLoops.j1 k g true (loopsOf g) (decide (((loopsOf g).length : Int) > (t524.length : Int)))))) ?_) fun k => ?_
      · refine Evt.congr (Evt.step (ll_l0 hrt hg hn (right_8 hrt) (loopsOf g).length 0 (by omega)) (f := fun k => swagelaw06_GraphLoops.j1 k g true (loopsOf g) false) fun k => ?_) fun k => ?_
        · rw [swagelaw06_GraphLoops.j1, if_neg (by simp)]; rfl
        · rw [if_neg, decide_eq_false (by omega)]
          rw [Bool.not_eq_true, bne_eq_false_iff_eq, Bool.eq_iff_iff, beq_iff_eq, beq_iff_eq]
          omega
      · rw [Bool.not_true, swagelaw06_GraphLoops.j0, if_neg (by simp)]
        rfl
theorem law_loops (A : Option Addr) (c : Nat) (g : List (List Int)) (w : World) (hC : Kd.C (Kd.slice 3 (Kd.int .i64)) w A g.length g) (hc : g.length ≤ c) (hp : ∀ x ∈ g, ∀ y ∈ x, (Lit.int .i64 y).wf = true) :
    Calls Try.prog 6 #[.slice A g.length c] w fun e w' => e = .returned (.bool true) ∧ Below w.heap.size w w' := by
  obtain ⟨k, hk⟩ := loops_pure g
  exact swagelaw06_GraphLoops.calls k A c g true w hC hc hk
end Go.Proofs.Ytkmbhknmjnbanaa.A


namespace Go.Proofs.Ytkmbhknmjnbanaa.A
open Go.Deep Go.RowKit Go.Proofs.YtkmbhknmjnbanaaW.PrintWords Go.Proofs.YtkmbhknmjnbanaaW.PrintLast
set_option linter.unusedVariables false
set_option linter.unusedSimpArgs false

section
variable {H : Type} {enc : TypeId × Value → H} {P : Program} {w : World} {base : Nat} {α : Type} [Inhabited α]

def Opens (enc : TypeId × Value → H) (P : Program) (w : World) (base : Nat) (t : TypeId) (d : Kd α) (p : α → Prop) : Prop :=
  ∀ fuel cs x, DataW.trod enc P w base (fun _ => true) true fuel t cs = some x → ∃ y, d.K w y cs ∧ p y

theorem opens_int {t : TypeId} {k : IntKind} (ht : P.underlying t = some (.int k)) : Opens enc P w base t (Kd.int k) (fun n => (Lit.int k n).wf = true) := by
  intro fuel cs x h
  obtain ⟨n, rfl, _, hw⟩ := DataW.trod_int ht h
  exact ⟨n, rfl, hw⟩

theorem opens_slice {t e : TypeId} {d : Kd α} {p : α → Prop} (ht : P.underlying t = some (.slice e)) (hc : P.cellsOf e = d.sz) (ho : Opens enc P w base e d p) : Opens enc P w base t (Kd.slice e d) (fun xs => ∀ x ∈ xs, p x) := by
  intro fuel cs x h
  rcases open_slice ht h with ⟨rfl, _⟩ | ⟨a, len, cap, m, n, D, Pl, rfl, hb, hl, hm, hmm, _, hx⟩
  · exact ⟨[], ⟨none, 0, rfl, Nat.le_refl _, rfl, by simp, fun h => by simp at h⟩, fun x hx => by simp at hx⟩
  · simp only [if_true] at hmm
    obtain ⟨Y, hY⟩ := choose_lt (α := α) (n := len) (p := fun i y => p y ∧ ∃ c, d.K w y c ∧ ∀ j u, c[j]? = some u → w.cell? (a.add (i * d.sz + j)) = some u) (fun i hi => by
      obtain ⟨cs', h1, h2⟩ := hx i (by omega)
      obtain ⟨y, hy, hp⟩ := ho _ _ _ h2
      obtain ⟨_, hlen, hcell⟩ := World.cells?_some h1
      refine ⟨y, hp, cs', hy, fun j u hj => ?_⟩
      have hj' : j < cs'.length := (List.getElem?_eq_some_iff.1 hj).1
      have := hcell j (by omega)
      rw [hj, hc] at this
      rwa [Addr.add_add] at this)
    have hlen : ((List.range len).map Y).length = len := by simp
    refine ⟨(List.range len).map Y, ⟨some a, cap, by rw [hlen], by rw [hlen]; exact hl, hlen.trans hlen.symm, by rw [hlen]; unfold maxLen at hm; omega, fun _ => ⟨a, rfl, fun j y hj => ?_⟩⟩, fun y hy => ?_⟩
    · have hjl : j < len := by have := (List.getElem?_eq_some_iff.1 hj).1; omega
      rw [List.getElem?_map, List.getElem?_range hjl] at hj
      obtain rfl := Option.some.inj hj
      obtain ⟨_, c, hk, hcell⟩ := hY j hjl
      exact ⟨c, d.K_len hk, hk, hcell⟩
    · obtain ⟨i, hi, rfl⟩ := List.mem_map.1 hy
      exact (hY i (List.mem_range.1 hi)).1
omit [Inhabited α] in
/-- of a parameter: a slice -/
theorem opens_param {t e : TypeId} {d : Kd α} {p : List α → Prop} (ho : Opens enc P w base t (Kd.slice e d) p) {A : Option Addr} {len cap : Nat} {x : DataW H} {ps : List MemPlace} (h : DataW.Trod enc P w base (fun _ => true) true t (.slice A len cap) x ps) :
    ∃ xs : List α, len = xs.length ∧ xs.length ≤ cap ∧ d.C w A xs.length xs ∧ p xs := by
  obtain ⟨fuel, hf⟩ := h
  obtain ⟨xs, ⟨A', c', he, hl, hC⟩, hp⟩ := ho _ _ _ hf
  simp [Value.cells] at he
  obtain ⟨rfl, rfl, rfl⟩ := he
  exact ⟨xs, rfl, hl, hC, hp⟩
end

theorem opens_graph {H : Type} {enc : TypeId × Value → H} {w : World} {base : Nat} : Opens enc Try.prog w base 22 (Kd.slice 27 (Kd.slice 3 (Kd.int .i64))) (fun xs => ∀ x ∈ xs, ∀ y ∈ x, (Lit.int .i64 y).wf = true) :=
  opens_slice Try.underlying22 (by kernel_rfl) (opens_slice Try.underlying27 (by kernel_rfl) (opens_int Try.underlying3))
end Go.Proofs.Ytkmbhknmjnbanaa.A

