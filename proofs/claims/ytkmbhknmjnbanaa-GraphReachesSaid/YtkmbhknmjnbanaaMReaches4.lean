/- Parts of the proof, in the order in which they rest on one another. -/
import Derived.Test.YtkmbhknmjnbanaaMReaches3
import Derived.Below
import Derived.Deep.Draws
import Derived.Deep.AppendLies
import Derived.Maps.AppendAt
import Derived.OwnWalk
import Derived.Laws.BytesArg
import Derived.Laws.MakeOwn
import Derived.Laws.OwnMore
import Derived.Deep.OwnRows
import Derived.Tactics
import Derived.Lib.ConvBytes
import Derived.Laws.Slices
import Derived.WalkKit
import Derived.KernelRfl
import Derived.RowKit3
import Derived.Deep.LoopGhost
import Derived.Deep.QuietTactic
import Derived.BigQuiet
import Derived.WideLaws
import Derived.Deep.DeepCutAuto
import Derived.Deep.CutBlock
import Derived.Deep.RegionHeld3
import Derived.Laws.Rows
import Derived.Lib.AppendStr
import Derived.ArgAppend
import Derived.Laws.IdiomCopy
import Derived.RowKit
import Derived.OrdersHeld
import Derived.Laws.BitsLemmas
import Derived.Laws.StructEq
import Derived.Test.YtkmbhknmjnbanaaProg
import Derived.Shelf.Abstract
import Derived.Lib.Walk
import Derived.RangeFuncWrites
import Derived.RangeFuncNested
import Derived.RangeFuncBound
import Derived.RangeFuncCalls
import Derived.RangeFuncLeaves
import Derived.Shelf.RegionOpen
import Derived.OwnWalkIn
import Derived.TacticsInMore
import Derived.LoopNIn
import Derived.LoopIn
import Derived.Laws.EntriesVeiled
import Derived.RangeFuncBox
import Derived.Laws.CopyOwn
import Derived.Deep.RegionLaw
import Derived.BigRegion
import Derived.WalkSpells
import Derived.Shelf.SlIterI.Nil
import Derived.Shelf.SortM.Plain
import Derived.Shelf.SortM.SortNone
import Derived.Ground.GgzProg
import Derived.Ground.SlgmProg
import Derived.Shelf.SlGeneric
import Derived.Maps.Own
import Derived.Maps.OwnOps
import Derived.Maps.OwnSet
import Derived.Maps.Views
import Derived.RangeFuncRecord
import Derived.Deep.RegionLawGrows
import Derived.Deep.Upon
import Derived.Maps.OwnRows
import Derived.Maps.GroupsBeside
import Derived.OpenShut
import Derived.Deep.Slices
import Derived.ChangeArms
namespace Go.Proofs.Ytkmbhknmjnbanaa.A
open Go.RowKit Go.Maps Go.Proofs.YtkmbhknmjnbanaaW.PrintWords Go.Proofs.YtkmbhknmjnbanaaW.PrintLast Go.Shelf
set_option linter.unusedVariables false
set_option linter.unusedSimpArgs false

/-- where edges come back from, by head -/
def hfold (l : List S37) : Int → List Int := l.foldl (fun H e => gupd H e.f1 e.f0) (fun _ => [])
theorem hfold_snoc (l : List S37) (e : S37) : hfold (l ++ [e]) = gupd (hfold l) e.f1 e.f0 := by simp [hfold]
def headsOf (n : Nat) (H : Int → List Int) : List Int := ((List.range n).filter fun k : Nat => !(H (k : Int)).isEmpty).map fun k : Nat => (k : Int)
def loopsOf (g : List (List Int)) : List (List Int) :=
  (headsOf g.length (hfold (backOf g))).map fun h => bodyRes (predsOf g) (reachRes g 0) h.toNat (hfold (backOf g) h)
theorem brow_in {at_ : List Int} {g : List (List Int)} {i : Nat} (hi : i < g.length) : ∀ (l : List Int) (out : List S37), (∀ x ∈ l, 0 ≤ x ∧ x < (g.length : Int)) → (∀ e ∈ out, (0 ≤ e.f0 ∧ e.f0 < (g.length : Int)) ∧ 0 ≤ e.f1 ∧ e.f1 < (g.length : Int)) → ∀ e ∈ brow at_ i out l, (0 ≤ e.f0 ∧ e.f0 < (g.length : Int)) ∧ 0 ≤ e.f1 ∧ e.f1 < (g.length : Int)
  | [], out, _, h => h
  | x :: l, out, hl, h => by
    refine brow_in hi l (bstep at_ i out x) (fun y hy => hl y (by simp [hy])) ?_
    unfold bstep
    split
    · intro e he
      rcases List.mem_append.1 he with he | he
      · exact h e he
      · simp only [List.mem_singleton] at he
        subst he
        exact ⟨⟨by show (0 : Int) ≤ (i : Int); omega, by show (i : Int) < _; omega⟩, hl x (by simp)⟩
    · exact h
theorem back_in (g : List (List Int)) : ∀ e ∈ backOf g, (0 ≤ e.f0 ∧ e.f0 < (g.length : Int)) ∧ 0 ≤ e.f1 ∧ e.f1 < (g.length : Int) := by
  unfold backOf
  cases hr : rightB g
  · intro e he; simp at he
  · obtain ⟨h1, h2, h3⟩ := right_rows hr
    rw [if_pos rfl]
    suffices H : ∀ m, m ≤ g.length → ∀ e ∈ bfold (placesOf g) g m, (0 ≤ e.f0 ∧ e.f0 < (g.length : Int)) ∧ 0 ≤ e.f1 ∧ e.f1 < (g.length : Int) from H _ (Nat.le_refl _)
    intro m
    induction m with
    | zero => intro _ e he; simp [bfold] at he
    | succ m ih =>
      intro hm
      rw [bfold_succ]
      exact brow_in (by omega) _ _ (h3 _ (rowOf_mem (by omega))) (ih (by omega))
theorem back_len (g : List (List Int)) : (backOf g).length ≤ 40000 := by
  unfold backOf
  cases hr : rightB g
  · simp
  · obtain ⟨h1, h2, h3⟩ := right_rows hr
    rw [if_pos rfl]
    have := bfold_len (at_ := placesOf g) (right_8 hr) g.length (Nat.le_refl _)
    omega

theorem hfold_mem (l : List S37) (k y : Int) : y ∈ hfold l k ↔ ∃ e ∈ l, e.f1 = k ∧ e.f0 = y := by
  unfold hfold
  suffices H : ∀ F : Int → List Int, y ∈ l.foldl (fun H e => gupd H e.f1 e.f0) F k ↔ y ∈ F k ∨ ∃ e ∈ l, e.f1 = k ∧ e.f0 = y by
    have := H (fun _ => []); simpa using this
  induction l with
  | nil => intro F; simp
  | cons x l ih =>
    intro F
    rw [List.foldl_cons, ih]
    unfold gupd
    by_cases e : k = x.f1
    · subst e
      rw [if_pos rfl, List.mem_append, List.mem_singleton]
      constructor
      · rintro ((h | h) | ⟨e, h1, h2⟩)
        · exact .inl h
        · exact .inr ⟨x, by simp, rfl, h.symm⟩
        · exact .inr ⟨e, by simp [h1], h2⟩
      · rintro (h | ⟨e, h1, h2⟩)
        · exact .inl (.inl h)
        · rcases List.mem_cons.1 h1 with rfl | h1
          · exact .inl (.inr h2.2.symm)
          · exact .inr ⟨e, h1, h2⟩
    · rw [if_neg e]
      constructor
      · rintro (h | ⟨e', h1, h2⟩)
        · exact .inl h
        · exact .inr ⟨e', by simp [h1], h2⟩
      · rintro (h | ⟨e', h1, h2⟩)
        · exact .inl h
        · rcases List.mem_cons.1 h1 with rfl | h1
          · exact absurd h2.1.symm e
          · exact .inr ⟨e', h1, h2⟩

set_option maxRecDepth 100000 in
set_option maxHeartbeats 4000000 in
theorem loops_calls (A : Option Addr) (c : Nat) (g : List (List Int)) (w : World) (h : Kd.C (Kd.slice 3 (Kd.int .i64)) w A g.length g) (hc : g.length ≤ c) :
    Calls Try.prog 32 #[.slice A g.length c] w fun e w' => ∃ v, e = .returned v ∧ Kd.S (Kd.slice 3 (Kd.int .i64)) 27 w' w.heap.size (fun _ => True) v (loopsOf g) ∧ Below w.heap.size w w' := by
  have hmm := @run_makeMap Try.prog
  have hu37 := Try.underlying37
  obtain ⟨kb, hkb⟩ := (back_ev g).get
  have hbw : Below w.heap.size w (w.alloc (.map #[] 0)) := below_alloc (Below.refl _ _) _
  have hbk := graph_Back.calls kb A c g _ (w.alloc (.map #[] 0)) (Kd.C_below h hbw) hc hkb
  have hin := back_in g
  have hbl := back_len g
  have hGm := GrpAt.made w
  have hgl : 0 < (backOf g).length → g.length ≤ 4096 := by
    unfold backOf
    cases hr : rightB g
    · intro h; simp at h
    · intro _; exact (right_rows hr).1
  have hrt0 : 0 < (backOf g).length → rightB g = true := by
    unfold backOf
    cases hr : rightB g
    · intro h; simp at h
    · intro _; rfl
  unfold loopsOf
  generalize backOf g = bs at hbk hin hbl hgl hrt0 ⊢
  go_enter Try.func32, Try.ntmps32
  go_wp2_with fail
  refine hbk.mono ?_
  rintro e w1 ⟨v1, rfl, hv1, hb1⟩
  obtain ⟨A1, c1, rfl⟩ := Kd.R_slice hv1
  have hsz1 : (w.alloc (.map #[] 0)).heap.size = w.heap.size + 1 := by simp
  have hC1 := Aside0.mk (show Kd.R k37 37 w1 (w.heap.size + 1) (fun _ => True) (.slice A1 bs.length c1) bs by rw [← hsz1]; exact hv1)
  have hG1 : GrpAt w1 w.heap.size 0 (fun _ => []) := hGm.grown (grown_of_below hb1 none)
  have hB1 := Aside0.mk (hbw.trans (hb1.mono (by rw [hsz1]; omega)))
  clear hbk hv1 hb1 hGm
  go_wp2_with fail
  go_loopw [15] (fun s wr => ∃ m : Nat, m ≤ bs.length ∧ s = .int .i64 m ∧ Aside0 (GrpAt wr w.heap.size m (hfold (bs.take m))) ∧ Aside0 (Kd.R k37 37 wr (w.heap.size + 1) (fun _ => True) (.slice A1 bs.length c1) bs) ∧ Aside0 (Below w.heap.size w wr))
    (fun s _ => bs.length - (RowKit.intOf s).toNat)
  case atStart => exact ⟨0, Nat.zero_le _, rfl, ⟨hG1⟩, hC1, hB1⟩
  case round =>
    obtain ⟨m, hm, rfl, hG, hC, hB⟩ := hrel
    by_cases hlt : m < bs.length
    · have hmn : (m : Int) < (bs.length : Int) := by omega
      have hm0 : (0 : Int) ≤ (m : Int) := by omega
      obtain ⟨ad, rfl, q0, q1⟩ := at_T37 (Kd.R_reads' hC.out).2.2 (m : Int) hm0 hmn
      rw [Int.toNat_natCast] at q0 q1
      have htk : bs.take (m + 1) = bs.take m ++ [rd_T37 bs m] := by
        rw [List.take_succ_eq_append_getElem hlt]
        simp [rd_T37, hlt]
      have hme := hin (rd_T37 bs m) (by simp [rd_T37, hlt])
      have hsn := hfold_snoc (bs.take m) (rd_T37 bs m)
      rw [← htk] at hsn
      have hsn' := Aside0.mk hsn
      clear htk hsn
      generalize rd_T37 bs (m : Int) = e at q0 q1 hme hsn'
      obtain ⟨f0, f1⟩ := e
      dsimp only at q0 q1 hme hsn'
      have hgl' := hgl (by omega)
      have hw0 : Wf f0 := wf_small hme.1.1 (by omega)
      have hw1 : Wf f1 := wf_small hme.2.1 (by omega)
      obtain ⟨W3, hW3⟩ : ∃ W3, wr.alloc (.cells #[.int .i64 f0, .int .i64 f1] 37) = W3 := ⟨_, rfl⟩
      have hgr3 : wr.grownBy W3 none := by rw [← hW3]; exact World.grownBy_alloc _ _ _
      have hB3 : Below w.heap.size w W3 := by rw [← hW3]; exact below_alloc hB.out _
      have e0 : W3.cell? ⟨wr.heap.size, 0, none⟩ = some (.int .i64 f0) := by rw [← hW3]; simp [go_sem]
      have e1 : W3.cell? ⟨wr.heap.size, 1, none⟩ = some (.int .i64 f1) := by rw [← hW3]; simp [go_sem]
      have hG3 : GrpAt W3.drew w.heap.size m (hfold (bs.take m)) := hG.out.grown (show wr.grownBy W3.drew none from ⟨hgr3.os, hgr3.tape, hgr3.output, hgr3.size, hgr3.block⟩)
      obtain ⟨i0, hi, hz0, hz1, hz2⟩ := info_parts info3
      obtain ⟨W4, hW4⟩ : ∃ W4, W3.drew.alloc (.cells #[.int .i64 f0] 3) = W4 := ⟨_, rfl⟩
      have hgr4 : W3.drew.grownBy W4 none := by rw [← hW4]; exact World.grownBy_alloc _ _ _
      have hG4 := hG3.grown hgr4
      have e2 : W4.cell? ⟨wr.heap.size, 0, none⟩ = some (.int .i64 f0) := by rw [← hW4]; exact (World.cell?_alloc_lt _ _ _ (World.block_lt_of_cell? W3 _ e0)).trans e0
      have e3 : W4.cell? ⟨wr.heap.size, 1, none⟩ = some (.int .i64 f1) := by rw [← hW4]; exact (World.cell?_alloc_lt _ _ _ (World.block_lt_of_cell? W3 _ e1)).trans e1
      obtain ⟨v, l1, l2, l3, l4⟩ := hG4.look (by unfold maxLen; omega) hw1
      have l0 := hG3.look2 hgr4 hw1 l1
      have hown4 : W4.ownsRow (w.heap.size + 1) 3 1 v (hfold (bs.take m) f1).length ((hfold (bs.take m) f1).map (Value.int .i64)) := l2.1
      have hsz4 : W4.heap.size = W3.heap.size + 1 := by rw [← hW4]; simp
      obtain ⟨v', W5, a1, a2, a3, a4, a5⟩ := run_append_own_at (P := Try.prog) W4 (w.heap.size + 1) 27 27 3 i0 _ 1 8 Try.underlying27 hi hz0 hz1 hz2 rfl (by decide) v _ _ hown4 ⟨W3.heap.size, 0, none⟩ 1 1 [.int .i64 f0] rfl (by rw [← hW4]; exact cell_one_new W3.drew _ _) (by simp [Value.oneCell']) (by unfold maxLen; omega) (by omega) (by have := hB3.size; omega)
      have hB4 : Below w.heap.size w W4 := (hB3.trans (show Below w.heap.size W3 W3.drew from ⟨rfl, rfl, rfl, Nat.le_refl _, fun _ _ => rfl⟩)).grown hgr4 (show w.heap.size ≤ W3.drew.heap.size from hB3.size) (fun j ej => by cases ej)
      have hblk : W4.heap[wr.heap.size]? = some (.cells #[.int .i64 f0, .int .i64 f1] 37 (0, 0)) := by
        rw [← hW4, Below.heap_alloc _ _ _ (by show wr.heap.size < W3.heap.size; rw [← hW3]; simp)]
        show W3.heap[wr.heap.size]? = _
        rw [← hW3]; exact World.alloc_heap_new _ _
      have hne : some wr.heap.size ≠ v.ownBlock := by
        intro e
        rcases l2.1.2 with ⟨rfl, _⟩ | ⟨gg, cap, cur, rfl, _, hgb, _⟩
        · simp [Value.ownBlock] at e
        · obtain rfl : wr.heap.size = gg := by simpa [Value.ownBlock] using e
          rw [hblk] at hgb
          cases hgb
      have e4 : W5.cell? ⟨wr.heap.size, 1, none⟩ = some (.int .i64 f1) := by
        have hb5 := a3.block wr.heap.size (Array.getElem?_eq_some_iff.1 hblk).1 hne
        unfold World.cell? at e3 ⊢
        rw [show (⟨wr.heap.size, 1, none⟩ : Addr).block = wr.heap.size from rfl] at e3 ⊢
        rw [hb5]; exact e3
      obtain ⟨W6, u1, u2, u3⟩ := l4 W5 v' f0 a3 ⟨by rw [List.length_append, List.map_append]; exact a2, fun z hz => by
        rcases List.mem_append.1 hz with hz | hz
        · exact l2.2 z hz
        · simp only [List.mem_singleton] at hz; subst hz; exact hw0⟩ (a5.imp id fun h => ⟨_, h, Nat.le_refl _⟩)
      have u2' := Aside0.mk u2
      have hB6 : Aside0 (Below w.heap.size w W6) := ⟨(hB4.grown a3 hB4.size (fun j ej => by have := (own_base l2.1 j ej).1; omega)).grown u3 (Nat.le_trans hB4.size a3.size) (fun j ej => by cases ej; exact Nat.le_refl _)⟩
      have hC4 : Kd.R k37 37 W4 (w.heap.size + 1) (fun _ => True) (.slice (some ad) bs.length c1) bs := by
        refine Kd.R_grown (Kd.R_grown hC.out (show wr.grownBy W3.drew none from ⟨hgr3.os, hgr3.tape, hgr3.output, hgr3.size, hgr3.block⟩) (fun _ _ => by simp)) hgr4 (fun _ _ => by simp)
      have hRv : Kd.R (Kd.int .i64) 3 W4 (w.heap.size + 1) (fun _ => True) v (hfold (bs.take m) f1) := Kd.R_of_own l2.1 (fun _ _ => trivial)
      have hC5 := Kd.R_over hC4 hRv (by decide) a3
      have hC6 := Aside0.mk (Kd.R_mono (Kd.R_grown (Kd.R_bound hC5) u3 (fun k hk => by have := hk.2.1; intro e; injection e with e; omega)) (fun _ _ => trivial))
      clear l4 u2 u3 a2 a3 a4 a5 hown4 l2 hG3 hG4 hgr4
      go_wp2_with fail
      go_region_law (refine step_append_run rfl (.tmp 25) (.tmp 28) 27 rfl v (.slice (some ⟨W3.heap.size, 0, none⟩) 1 1) v' W5 (by simp [Act.eval, Act.put]) (by simp [Act.eval, Act.put]) a1 ?_)
      all_goals
        go_wp2_with fail
        go_roundw
        case rel => exact ⟨m + 1, by omega, by go_num, ⟨by rw [hsn'.out]; exact u2'.out⟩, hC6, hB6⟩
        case measure => simp [RowKit.intOf]; omega
    · obtain rfl : m = bs.length := by omega
      have hG2 := hG.out
      rw [List.take_length] at hG2
      generalize hH : hfold bs = H at hG2 ⊢
      obtain ⟨kp, hkp⟩ := (preds_ev g).get
      generalize hP00 : (if rightB g = true then predsOf g else []) = P0 at hkp
      have hP0 := Aside0.mk hP00
      clear hP00
      have hpr := graph_Preds.calls kp A c g _ wr (Kd.C_below h hB.out) hc hkp
      have hG2' := Aside0.mk hG2
      clear hG hG2 hC hC1 hG1
      go_wp2_with fail
      refine hpr.mono ?_
      rintro e w2 ⟨v2, rfl, hv2, hb2⟩
      have hB2 := hB.out.trans (hb2.mono hB.out.size)
      have hre := graph_Reach.calls A c g 0 _ w2 (Kd.C_below h hB2) hc rfl
      go_wp2_with fail
      refine hre.mono ?_
      rintro e w3 ⟨v3, rfl, hv3, hb3⟩
      have hG3 : GrpAt w3 w.heap.size bs.length H := (hG2'.out.grown (grown_of_below hb2 none)).grown (grown_of_below hb3 none)
      have hB3 := hB2.trans (hb3.mono hB2.size)
      obtain ⟨D, Rr, hown, hhas⟩ := hG3.keys
      have hso := sorted58_calls w.heap.size bs.length _ w3 hown hhas (by omega)
      have hv2' := Kd.S_below hv2 hb3
      obtain ⟨A2, c2, rfl⟩ := Kd.S_slice hv2'
      obtain ⟨A3, c3, rfl⟩ := Kd.R_slice hv3
      have hP2 := Aside0.mk (Kd.S_reads' hv2').2.2
      have hP3 := Aside0.mk (Kd.R_reads' hv3).2.2
      have hG3' := Aside0.mk hG3
      have hB3' := Aside0.mk hB3
      clear hpr hre hv2 hv3 hb2 hb3 hB2 hB3 hB hG2' hG3 hv2' hown hhas
      go_wp2_with fail
      refine (keys58_calls _ _).mono ?_
      rintro e w' ⟨rfl, rfl⟩
      go_wp2_with fail
      refine hso.mono ?_
      rintro e w5 ⟨v5, ks, rfl, k1, k2, k3, k4, k5⟩
      obtain ⟨A5, c5, rfl⟩ := Kd.R_slice k4
      have hG5 := Aside0.mk (hG3'.out.grown (grown_of_below k5 none))
      have hQ2 := Aside0.mk (Kd.C_below hP2.out k5)
      have hQ3 := Aside0.mk (Kd.C_below hP3.out k5)
      have hK5 := Aside0.mk (Kd.R_reads' k4).2.2
      have hB5 := Aside0.mk (hB3'.out.trans (k5.mono hB3'.out.size))
      have k1' := Aside0.mk k1
      have k2' := Aside0.mk k2
      clear hso hP2 hP3 hG3' hB3' k1 k2 k4 k5
      go_wp2_with fail
      go_loopw [8, 39] (fun s8 s39 wr => ∃ m : Nat, m ≤ ks.length ∧ s39 = .int .i64 m ∧ Aside0 (Kd.S (Kd.slice 3 (Kd.int .i64)) 27 wr w5.heap.size (fun _ => True) s8 ((ks.take m).map fun h => bodyRes (predsOf g) (reachRes g 0) h.toNat (H h))) ∧ Aside0 (Below w5.heap.size w5 wr))
        (fun _ s39 _ => ks.length - (RowKit.intOf s39).toNat)
      case atStart => exact ⟨0, Nat.zero_le _, rfl, ⟨Kd.S_nil _ _ _ _ _⟩, ⟨Below.refl _ _⟩⟩
      case round =>
        obtain ⟨m, hm, rfl, hv, hB⟩ := hrel
        by_cases hlt : m < ks.length
        · have hmn : (m : Int) < (ks.length : Int) := by omega
          have hm0 : (0 : Int) ≤ (m : Int) := by omega
          obtain ⟨ad, rfl, q0⟩ := Kd.at_int (Kd.C_below hK5.out hB.out) (m : Int) hm0 hmn
          rw [Int.toNat_natCast, rdI hlt] at q0
          have htk : ks.take (m + 1) = ks.take m ++ [ks[m]] := List.take_succ_eq_append_getElem hlt
          have hxm : ks[m] ∈ ks := List.getElem_mem hlt
          generalize ks[m] = x at q0 htk hxm
          have hHx := (k2'.out x).1 hxm
          have hHne : H x ≠ [] := by intro e; rw [e] at hHx; cases hHx
          obtain ⟨y0, hy0⟩ := List.exists_mem_of_ne_nil _ hHne
          have hmemH : ∀ y ∈ H x, 0 ≤ y ∧ y < (g.length : Int) := by
            intro y hy
            rw [← hH, hfold_mem] at hy
            obtain ⟨e, he, _, rfl⟩ := hy
            exact (hin e he).1
          rw [← hH, hfold_mem] at hy0
          obtain ⟨e0, he0, hx0, _⟩ := hy0
          have hxr := (hin e0 he0).2
          rw [hx0] at hxr
          have hbp : 0 < bs.length := List.length_pos_of_mem he0
          have hrt := hrt0 hbp
          obtain ⟨hgn, hg1, hgr⟩ := right_rows hrt
          obtain rfl : P0 = predsOf g := by rw [← hP0.out, if_pos hrt]
          obtain ⟨xn, rfl⟩ := Int.eq_ofNat_of_zero_le hxr.1
          have hwx : Wf (xn : Int) := wf_small hxr.1 (by omega)
          have hGq := hG5.out.grown (grown_of_below hB.out none)
          obtain ⟨vr, l1, l2, l3, _⟩ := hGq.look (by unfold maxLen; omega) hwx
          have hRr : Kd.R (Kd.int .i64) 3 wr (w.heap.size + 1) (fun _ => True) vr (H xn) := Kd.R_of_own l2.1 (fun _ _ => trivial)
          obtain ⟨Ar, cr, rfl⟩ := Kd.R_slice hRr
          have hrr := Kd.R_reads' hRr
          have hlp : (predsOf g).length = g.length := predsOf_len g
          have hlr : (reachRes g 0).length = (predsOf g).length := by
            rw [hlp]; unfold reachRes; rw [if_pos ⟨hrt, by omega, by omega⟩, marks_len]
          have hbo : Calls Try.prog 59 #[.slice A2 (predsOf g).length c2, .slice A3 (reachRes g 0).length c3, .int .i64 xn, .slice Ar (H xn).length cr] wr fun e w' => ∃ v, e = .returned v ∧
              Kd.R (Kd.int .i64) 3 w' wr.heap.size (fun _ => True) v (bodyRes (predsOf g) (reachRes g 0) xn (H xn)) ∧ Below wr.heap.size wr w' := by
            have hq3 := Kd.C_below hQ3.out hB.out
            rw [hlr] at hq3 ⊢
            refine body_calls A2 A3 Ar c2 c3 cr (predsOf g) (reachRes g 0) xn (H xn) wr (Kd.C_below hQ2.out hB.out) hq3 hrr.2.2 hrr.2.1 (by omega) ?_ ?_ (by omega) ?_ (by omega)
            · intro l hl y hy
              obtain ⟨j, hj, rfl⟩ := List.getElem_of_mem hl
              have : y ∈ rowOf (predsOf g) j := by unfold rowOf; rw [List.getD_eq_getElem?_getD, List.getElem?_eq_getElem hj]; exact hy
              rw [predsOf_mem hgr] at this
              obtain ⟨i, hi, rfl, _⟩ := this
              omega
            · intro y hy
              have := hmemH y hy; omega
            · have h1 := tot_pfold hgr g.length (Nat.le_refl _)
              rw [List.take_length] at h1
              have h2 := tot_le (right_8 hrt)
              unfold predsOf; omega
          have hml : ((ks.take m).map fun h => bodyRes (predsOf g) (reachRes g 0) h.toNat (H h)).length ≤ 1000000 := by
            rw [List.length_map, List.length_take]; have := k3; omega
          have htk' : ((ks.take (m + 1)).map fun h => bodyRes (predsOf g) (reachRes g 0) h.toNat (H h)) = ((ks.take m).map fun h => bodyRes (predsOf g) (reachRes g 0) h.toNat (H h)) ++ [bodyRes (predsOf g) (reachRes g 0) xn (H xn)] := by
            rw [htk, List.map_append]; simp
          generalize hL : ((ks.take m).map fun h => bodyRes (predsOf g) (reachRes g 0) h.toNat (H h)) = L at hv hml htk'
          generalize bodyRes (predsOf g) (reachRes g 0) xn (H xn) = row at hbo htk'
          have htk2 := Aside0.mk htk'
          clear hL htk htk' hmemH hHx hHne hRr hrr hGq l2 l3 hlp hlr
          go_wp2_with fail
          refine hbo.mono ?_
          rintro e w6 ⟨v6, rfl, hR6, hB6⟩
          obtain ⟨A6, c6, rfl⟩ := Kd.R_slice hR6
          have hv3 := Aside0.mk (Kd.S_mono (Kd.S_below (Kd.S_bound hv.out) hB6) (ok' := fun k => True ∧ ¬ wr.heap.size ≤ k) (fun k hk => ⟨trivial, by have := hk.2.2.1; omega⟩))
          have hcM := Aside0.mk (Kd.M_row (Kd.R_lower (Kd.R_mono (Kd.R_bound hR6) (ok' := fun k => wr.heap.size ≤ k) (fun k hk => hk.2.1)) hB.out.size))
          have hvl := Aside0.mk (Kd.S_lt hv.out)
          have hB3' := Aside0.mk (hB.out.trans (hB6.mono hB.out.size))
          clear hbo hR6 hB6 hv hB q0
          go_wp2_with (at_builtin; refine Kd.S_append (Kd.slice 3 (Kd.int .i64)) (w0 := w5) w5.heap.size rfl (.tmp 43) (.tmp 51) 22 27 (.slice none 0 0) 24 rfl Try.underlying22 info27 rfl (by decide) (by omega) _ L row [.slice A6 row.length c6] (fun _ => True) (fun k => wr.heap.size ≤ k) rfl rfl hcM.out (fun k hk => ⟨trivial, fun e => by have := hvl.out k e.symm; omega⟩) (fun _ _ => trivial) hv3.out hB3'.out hB3'.out.size (by omega) ?_; intro v7 w7 hown7 hb7 hg7 hat7; have hv7 := Aside0.mk hown7; have hb7' := Aside0.mk hb7; clear hown7 hb7 hg7 hat7)
          go_roundw
          case rel => exact ⟨m + 1, by omega, by go_num, ⟨by rw [htk2.out]; exact hv7.out⟩, hb7'⟩
          case measure => simp [RowKit.intOf]; omega
        · obtain rfl : m = ks.length := by omega
          have hv2 := hv.out
          rw [List.take_length] at hv2
          have hks : ks = headsOf g.length H := by
            refine rising_eq k1'.out ?_ fun k => ?_
            · unfold Rising headsOf
              rw [List.pairwise_map]
              exact (List.pairwise_lt_range.filter _).imp (fun h => by omega)
            · rw [k2'.out]
              unfold headsOf
              simp only [List.mem_map, List.mem_filter, List.mem_range]
              constructor
              · intro h1
                have h2 : H k ≠ [] := by intro e; rw [e] at h1; cases h1
                obtain ⟨y, hy⟩ := List.exists_mem_of_ne_nil _ h2
                rw [← hH, hfold_mem] at hy
                obtain ⟨e, he, rfl, _⟩ := hy
                have := (hin e he).2
                obtain ⟨a, ha⟩ := Int.eq_ofNat_of_zero_le this.1
                exact ⟨a, ⟨by omega, by rw [← ha]; exact h1⟩, ha.symm⟩
              · rintro ⟨a, ⟨_, h2⟩, rfl⟩
                exact h2
          have hv3 := Aside0.mk hv2
          clear hv hv2
          go_wp2_with fail
          go_ret
          refine ⟨_, rfl, ?_, hB5.out.trans (hB.out.mono hB5.out.size)⟩
          rw [hH, ← hks]
          exact Kd.S_lower hv3.out hB5.out.size
end Go.Proofs.Ytkmbhknmjnbanaa.A


namespace Go.Proofs.Ytkmbhknmjnbanaa.A
open Go.RowKit Go.Proofs.YtkmbhknmjnbanaaW.PrintWords Go.Proofs.YtkmbhknmjnbanaaW.PrintLast Go.Shelf
set_option linter.unusedVariables false
set_option linter.unusedSimpArgs false

def graph_Loops.f (l0 : List (List Int)) : Option (List (List Int)) := some (loopsOf l0)
theorem graph_Loops.calls (A0 : Option Addr) (c0 : Nat) (l0 : List (List Int)) (r : List (List Int)) (w : World) (hr0 : Kd.C (Kd.slice 3 (Kd.int .i64)) w A0 l0.length l0) (hc0 : l0.length ≤ c0) (h : graph_Loops.f l0 = some r) :
    Calls Try.prog 32 #[.slice A0 l0.length c0] w fun e w' => ∃ v0_ : Value, e = .returned (v0_) ∧ Kd.S (Kd.slice 3 (Kd.int .i64)) 27 w' w.heap.size (fun _ => True) v0_ r ∧ Below w.heap.size w w' := by
  obtain rfl := Option.some.inj h
  exact loops_calls A0 c0 l0 w hr0 hc0
def graph_Critical.f (l0 : List (List Int)) : Option (List S37) := some (crit (rightB l0) (predsOf l0) l0 l0.length)
theorem graph_Critical.calls (A0 : Option Addr) (c0 : Nat) (l0 : List (List Int)) (r : List S37) (w : World) (hr0 : Kd.C (Kd.slice 3 (Kd.int .i64)) w A0 l0.length l0) (hc0 : l0.length ≤ c0) (h : graph_Critical.f l0 = some r) :
    Calls Try.prog 25 #[.slice A0 l0.length c0] w fun e w' => ∃ v0_ : Value, e = .returned (v0_) ∧ Kd.R k37 37 w' w.heap.size (fun _ => True) v0_ r ∧ Below w.heap.size w w' := by
  obtain rfl := Option.some.inj h
  exact crit_calls A0 c0 l0 w hr0 hc0
end Go.Proofs.Ytkmbhknmjnbanaa.A


namespace Go.Proofs.Ytkmbhknmjnbanaa.A
open Go.RowKit Go.Maps Go.Proofs.YtkmbhknmjnbanaaW.PrintWords Go.Proofs.YtkmbhknmjnbanaaW.PrintLast Go.Shelf
set_option linter.unusedVariables false
set_option linter.unusedSimpArgs false

def g4 : List (List Int) := [[1, 2], [3], [3], [0]]
theorem s_right : graph_Right.f g4 = some true := by kernel_rfl
theorem s_order : graph_Order.f g4 = some [0, 2, 1, 3] := by kernel_rfl
theorem s_ints : swageref02_Ints.f 9 [0, 2, 1, 3] [0, 2, 1, 3] = some true := by kernel_rfl
theorem s_back : graph_Back.f 40 g4 = some [⟨3, 0⟩] := by kernel_rfl
theorem s_pairs : swageref05_Pairs.f 9 [⟨3, 0⟩] [⟨3, 0⟩] = some true := by kernel_rfl
theorem s_loops : graph_Loops.f g4 = some [[0, 1, 2, 3]] := by kernel_rfl
theorem s_rows : swageref06_Rows.f 40 [[0, 1, 2, 3]] [[0, 1, 2, 3]] = some true := by kernel_rfl
theorem s_preds : graph_Preds.f 40 g4 = some [[3], [0], [0], [1, 2]] := by kernel_rfl
theorem s_rows2 : swageref06_Rows.f 40 [[3], [0], [0], [1, 2]] [[3], [0], [0], [1, 2]] = some true := by kernel_rfl
theorem s_crit : graph_Critical.f g4 = some [] := by kernel_rfl
theorem s_reach : graph_Reach.f g4 1 = some [true, true, true, true] := by kernel_rfl

/-- a literal row of numbers -/
abbrev cellsI (l : List Int) : Obj := .cells (l.map (Value.int .i64)).toArray 3
theorem reps_ints {W : World} {base : Nat} {ok : Nat → Prop} (l : List Int) : Reps ((Kd.int .i64).M W base ok) (Kd.int .i64).sz l (l.map (Value.int .i64)) := by
  refine ⟨by rw [List.length_map]; show _ = l.length * 1; omega, fun j p hj => ?_⟩
  obtain ⟨h, rfl⟩ := List.getElem?_eq_some_iff.1 hj
  show ((l.map (Value.int .i64)).drop (j * 1)).take 1 = [Value.int .i64 l[j]]
  rw [Nat.mul_one, List.take_one, List.head?_drop, List.getElem?_map, hj]
  rfl
theorem lit_row (W : World) (l : List Int) (hl : l.length ≤ 1000) : Kd.R (Kd.int .i64) 3 (W.alloc (cellsI l)) W.heap.size (fun _ => True) (.slice (some ⟨W.heap.size, 0, none⟩) l.length l.length) l :=
  R_new_lit (Kd.int .i64) W W.heap.size 3 (ok := fun _ => True) (okp := fun _ => True) (reps_ints l) (fun _ h => h) trivial (Nat.le_refl _) (by omega)
inductive RowsR (W : World) (base : Nat) (ok : Nat → Prop) : List (List Int) → List Value → Prop
  | nil : RowsR W base ok [] []
  | cons {l : List Int} {v : Value} {ls : List (List Int)} {vs : List Value} : Kd.R (Kd.int .i64) 3 W base ok v l → RowsR W base ok ls vs → RowsR W base ok (l :: ls) (v :: vs)
theorem reps_rows {W : World} {base : Nat} {ok : Nat → Prop} : ∀ {ls : List (List Int)} {vs : List Value}, RowsR W base ok ls vs → Reps ((Kd.slice 3 (Kd.int .i64)).M W base ok) (Kd.slice 3 (Kd.int .i64)).sz ls vs := by
  intro ls vs h
  refine ⟨?_, ?_⟩
  · have : vs.length = ls.length := by induction h <;> simp_all
    rw [this]; show _ = ls.length * 1; omega
  · intro j p hj
    show (Kd.slice 3 (Kd.int .i64)).M W base ok p ((vs.drop (j * 1)).take 1)
    rw [Nat.mul_one]
    induction h generalizing j with
    | nil => simp at hj
    | cons h1 h2 ih =>
      cases j with
      | zero => simp at hj; subst hj; exact Kd.M_row h1
      | succ j => simp at hj; simpa using ih j hj
theorem lit_rows1 (W : World) (a : List Int) (ha : a.length ≤ 1000) : Kd.C (Kd.slice 3 (Kd.int .i64)) ((W.alloc (cellsI a)).alloc (.cells #[.slice (some ⟨W.heap.size, 0, none⟩) a.length a.length] 27)) (some ⟨W.heap.size + 1, 0, none⟩) 1 [a] := by
  have h1 := lit_row W a ha
  have h2 := R_new_lit (Kd.slice 3 (Kd.int .i64)) (W.alloc (cellsI a)) W.heap.size 27 (xs := [a]) (inner := [.slice (some ⟨W.heap.size, 0, none⟩) a.length a.length]) (ok := fun _ => True) (okp := fun _ => True) (reps_rows (.cons h1 .nil)) (fun _ h => h) trivial (by simp) (by simp)
  rw [World.size_alloc] at h2
  exact (Kd.R_reads' h2).2.2
theorem lit_rows4 (W : World) (a b c d : List Int) (ha : a.length ≤ 1000) (hb : b.length ≤ 1000) (hc : c.length ≤ 1000) (hd : d.length ≤ 1000) :
    Kd.C (Kd.slice 3 (Kd.int .i64)) (((((W.alloc (cellsI a)).alloc (cellsI b)).alloc (cellsI c)).alloc (cellsI d)).alloc (.cells #[.slice (some ⟨W.heap.size, 0, none⟩) a.length a.length, .slice (some ⟨W.heap.size + 1, 0, none⟩) b.length b.length, .slice (some ⟨W.heap.size + 2, 0, none⟩) c.length c.length, .slice (some ⟨W.heap.size + 3, 0, none⟩) d.length d.length] 27)) (some ⟨W.heap.size + 4, 0, none⟩) 4 [a, b, c, d] := by
  have al : ∀ (w : World) (o : Obj), Below w.heap.size w (w.alloc o) := fun w o => below_alloc (Below.refl _ _) _
  have h1 := Kd.R_below (Kd.R_below (Kd.R_below (lit_row W a ha) (al _ (cellsI b))) (al _ (cellsI c))) (al _ (cellsI d))
  have h2 := Kd.R_lower (Kd.R_below (Kd.R_below (lit_row (W.alloc (cellsI a)) b hb) (al _ (cellsI c))) (al _ (cellsI d))) (base' := W.heap.size) (by simp)
  have h3 := Kd.R_lower (Kd.R_below (lit_row ((W.alloc (cellsI a)).alloc (cellsI b)) c hc) (al _ (cellsI d))) (base' := W.heap.size) (by simp; omega)
  have h4 := Kd.R_lower (lit_row (((W.alloc (cellsI a)).alloc (cellsI b)).alloc (cellsI c)) d hd) (base' := W.heap.size) (by simp; omega)
  simp only [World.size_alloc, Nat.add_assoc, Nat.reduceAdd] at h2 h3 h4
  have h5 := R_new_lit (Kd.slice 3 (Kd.int .i64)) ((((W.alloc (cellsI a)).alloc (cellsI b)).alloc (cellsI c)).alloc (cellsI d)) W.heap.size 27 (xs := [a, b, c, d]) (ok := fun _ => True) (okp := fun _ => True) (reps_rows (.cons h1 (.cons h2 (.cons h3 (.cons h4 .nil))))) (fun _ h => h) trivial (by simp; omega) (by simp)
  simp only [World.size_alloc, Nat.add_assoc, Nat.reduceAdd] at h5
  exact (Kd.R_reads' h5).2.2
theorem lit_pair (W : World) (x y : Int) : Kd.C k37 (W.alloc (.cells #[.int .i64 x, .int .i64 y] 37)) (some ⟨W.heap.size, 0, none⟩) 1 [⟨x, y⟩] := by
  have h := R_new_lit k37 W W.heap.size 37 (xs := [(⟨x, y⟩ : S37)]) (inner := [.int .i64 x, .int .i64 y]) (ok := fun _ => True) (okp := fun _ => True) ⟨rfl, fun j p hj => by
    match j, hj with
    | 0, hj => simp at hj; subst hj; exact k37_mkM _ _ _ _
    | j + 1, hj => simp at hj⟩ (fun _ h => h) trivial (Nat.le_refl _) (by simp)
  exact (Kd.R_reads' h).2.2

set_option maxRecDepth 100000 in
set_option maxHeartbeats 2000000 in
theorem small_calls (w : World) : Calls Try.prog 13 #[] w fun e w' => e = .returned (.bool true) ∧ Below w.heap.size w w' := by
  have hu37 := Try.underlying37
  go_enter Try.func13, Try.ntmps13
  go_wp2_with fail
  have hC0 : Kd.C (Kd.slice 3 (Kd.int .i64)) (((((w.alloc (.cells #[.int .i64 1, .int .i64 2] 3)).alloc (.cells #[.int .i64 3] 3)).alloc (.cells #[.int .i64 3] 3)).alloc (.cells #[.int .i64 0] 3)).alloc (.cells #[.slice (some ⟨w.heap.size, 0, none⟩) 2 2, .slice (some ⟨w.heap.size + 1, 0, none⟩) 1 1, .slice (some ⟨w.heap.size + 1 + 1, 0, none⟩) 1 1, .slice (some ⟨w.heap.size + 1 + 1 + 1, 0, none⟩) 1 1] 27)) (some ⟨w.heap.size + 1 + 1 + 1 + 1, 0, none⟩) 4 g4 := lit_rows4 w [1, 2] [3] [3] [0] (by decide) (by decide) (by decide) (by decide)
  have hB0 : Below w.heap.size w (((((w.alloc (.cells #[.int .i64 1, .int .i64 2] 3)).alloc (.cells #[.int .i64 3] 3)).alloc (.cells #[.int .i64 3] 3)).alloc (.cells #[.int .i64 0] 3)).alloc (.cells #[.slice (some ⟨w.heap.size, 0, none⟩) 2 2, .slice (some ⟨w.heap.size + 1, 0, none⟩) 1 1, .slice (some ⟨w.heap.size + 1 + 1, 0, none⟩) 1 1, .slice (some ⟨w.heap.size + 1 + 1 + 1, 0, none⟩) 1 1] 27)) := below_alloc (below_alloc (below_alloc (below_alloc (below_alloc (Below.refl _ _) _) _) _) _) _
  generalize (((((w.alloc (.cells #[.int .i64 1, .int .i64 2] 3)).alloc (.cells #[.int .i64 3] 3)).alloc (.cells #[.int .i64 3] 3)).alloc (.cells #[.int .i64 0] 3)).alloc (.cells #[.slice (some ⟨w.heap.size, 0, none⟩) 2 2, .slice (some ⟨w.heap.size + 1, 0, none⟩) 1 1, .slice (some ⟨w.heap.size + 1 + 1, 0, none⟩) 1 1, .slice (some ⟨w.heap.size + 1 + 1 + 1, 0, none⟩) 1 1] 27)) = W0 at hC0 hB0 ⊢
  generalize w.heap.size + 1 + 1 + 1 + 1 = b0 at hC0 ⊢
  have hc1 : Calls Try.prog 19 #[.slice (some ⟨b0, 0, none⟩) 4 4] W0 fun e w' => e = .returned (.bool true) ∧ Below W0.heap.size W0 w' := graph_Right.calls (some ⟨b0, 0, none⟩) 4 g4 true W0 hC0 (by decide) s_right
  refine hc1.mono ?_
  rintro e w1 ⟨rfl, hb1⟩
  have hC1 := Aside0.mk (Kd.C_below hC0 hb1)
  have hB1 := Aside0.mk (below_step hB0 hb1)
  clear hc1 hC0 hB0 hb1
  go_wp2_with fail
  have ho : Calls Try.prog 28 #[.slice (some ⟨b0, 0, none⟩) 4 4] w1 fun e w' => ∃ A c, e = .returned (.slice A 4 c) ∧ 4 ≤ c ∧ Kd.C (Kd.int .i64) w' A 4 [0, 2, 1, 3] ∧ Below w1.heap.size w1 w' :=
    (graph_Order.calls (some ⟨b0, 0, none⟩) 4 g4 [0, 2, 1, 3] w1 hC1.out (by decide) s_order).mono fun e w' ⟨v, he, hR, hB⟩ => by
      obtain ⟨A, c, rfl, h1, h2⟩ := Kd.R_reads hR
      exact ⟨A, c, he, h1, h2, hB⟩
  refine ho.mono ?_
  rintro e w2 ⟨A2, c2, rfl, h2, hC2, hb2⟩
  have hC2' := Aside0.mk (Kd.C_below hC1.out hb2)
  have hB2 := Aside0.mk (below_step hB1.out hb2)
  have hi2 : Calls Try.prog 27 #[.slice A2 4 c2, .slice (some ⟨w2.heap.size, 0, none⟩) 4 4] (w2.alloc (.cells #[.int .i64 0, .int .i64 2, .int .i64 1, .int .i64 3] 3)) fun e w' => e = .returned (.bool true) ∧ Drawn0 (w2.alloc (.cells #[.int .i64 0, .int .i64 2, .int .i64 1, .int .i64 3] 3)) w' := swageref02_Ints.calls 9 A2 c2 [0, 2, 1, 3] (some ⟨w2.heap.size, 0, none⟩) 4 [0, 2, 1, 3] true _ (Kd.C_alloc hC2 (cellsI [0, 2, 1, 3])) h2 (Kd.R_reads' (lit_row w2 [0, 2, 1, 3] (by decide))).2.2 (by decide) s_ints
  have hC3 := Aside0.mk (Kd.C_alloc hC2'.out (cellsI [0, 2, 1, 3]))
  have hB3 := Aside0.mk (below_alloc hB2.out (cellsI [0, 2, 1, 3]))
  clear ho h2 hC2 hb2 hC1 hB1 hC2' hB2
  go_wp2_with fail
  refine hi2.mono ?_
  rintro e w3 ⟨rfl, hd3⟩
  have hC4 := Aside0.mk (Kd.C_below hC3.out hd3.below)
  have hB4 := Aside0.mk (below_step hB3.out hd3.below)
  clear hi2 hd3 hC3 hB3
  go_wp2_with fail
  -- Back
  have hbk : Calls Try.prog 30 #[.slice (some ⟨b0, 0, none⟩) 4 4] w3 fun e w' => ∃ A c, e = .returned (.slice A 1 c) ∧ 1 ≤ c ∧ Kd.C k37 w' A 1 [⟨3, 0⟩] ∧ Below w3.heap.size w3 w' :=
    (graph_Back.calls 40 (some ⟨b0, 0, none⟩) 4 g4 [⟨3, 0⟩] w3 hC4.out (by decide) s_back).mono fun e w' ⟨v, he, hR, hB⟩ => by
      obtain ⟨A, c, rfl, h1, h2⟩ := Kd.R_reads hR
      exact ⟨A, c, he, h1, h2, hB⟩
  refine hbk.mono ?_
  rintro e w4 ⟨A4, c4, rfl, h4, hC5, hb4⟩
  have hC6 := Aside0.mk (Kd.C_below hC4.out hb4)
  have hB6 := Aside0.mk (below_step hB4.out hb4)
  have hp : Calls Try.prog 24 #[.slice A4 1 c4, .slice (some ⟨w4.heap.size, 0, none⟩) 1 1] (w4.alloc (.cells #[.int .i64 3, .int .i64 0] 37)) fun e w' => e = .returned (.bool true) ∧ Drawn0 (w4.alloc (.cells #[.int .i64 3, .int .i64 0] 37)) w' := swageref05_Pairs.calls 9 A4 c4 [⟨3, 0⟩] (some ⟨w4.heap.size, 0, none⟩) 1 [⟨3, 0⟩] true _ (Kd.C_alloc hC5 _) h4 (lit_pair w4 3 0) (by decide) s_pairs
  have hC7 := Aside0.mk (Kd.C_alloc hC6.out (.cells #[.int .i64 3, .int .i64 0] 37))
  have hB7 := Aside0.mk (below_alloc hB6.out (.cells #[.int .i64 3, .int .i64 0] 37))
  clear hbk h4 hC5 hb4 hC4 hB4 hC6 hB6
  go_wp2_with fail
  refine hp.mono ?_
  rintro e w5 ⟨rfl, hd5⟩
  have hC8 := Aside0.mk (Kd.C_below hC7.out hd5.below)
  have hB8 := Aside0.mk (below_step hB7.out hd5.below)
  clear hp hd5 hC7 hB7
  go_wp2_with fail
  -- Loops
  have hlo : Calls Try.prog 32 #[.slice (some ⟨b0, 0, none⟩) 4 4] w5 fun e w' => ∃ A c, e = .returned (.slice A 1 c) ∧ 1 ≤ c ∧ Kd.C (Kd.slice 3 (Kd.int .i64)) w' A 1 [[0, 1, 2, 3]] ∧ Below w5.heap.size w5 w' :=
    (graph_Loops.calls (some ⟨b0, 0, none⟩) 4 g4 [[0, 1, 2, 3]] w5 hC8.out (by decide) s_loops).mono fun e w' ⟨v, he, hR, hB⟩ => by
      obtain ⟨A, c, rfl, h1, h2⟩ := Kd.S_reads hR
      exact ⟨A, c, he, h1, h2, hB⟩
  refine hlo.mono ?_
  rintro e w6 ⟨A6, c6, rfl, h6, hC9, hb6⟩
  have hC10 := Aside0.mk (Kd.C_below hC8.out hb6)
  have hB10 := Aside0.mk (below_step hB8.out hb6)
  have hr6 : Calls Try.prog 17 #[.slice A6 1 c6, .slice (some ⟨w6.heap.size + 1, 0, none⟩) 1 1] ((w6.alloc (.cells #[.int .i64 0, .int .i64 1, .int .i64 2, .int .i64 3] 3)).alloc (.cells #[.slice (some ⟨w6.heap.size, 0, none⟩) 4 4] 27)) fun e w' => e = .returned (.bool true) ∧ Drawn0 ((w6.alloc (.cells #[.int .i64 0, .int .i64 1, .int .i64 2, .int .i64 3] 3)).alloc (.cells #[.slice (some ⟨w6.heap.size, 0, none⟩) 4 4] 27)) w' :=
    swageref06_Rows.calls 40 A6 c6 [[0, 1, 2, 3]] (some ⟨w6.heap.size + 1, 0, none⟩) 1 [[0, 1, 2, 3]] true _ (Kd.C_alloc (Kd.C_alloc hC9 _) _) h6 (lit_rows1 w6 [0, 1, 2, 3] (by decide)) (by decide) s_rows
  have hC11 := Aside0.mk (Kd.C_alloc (Kd.C_alloc hC10.out (cellsI [0, 1, 2, 3])) (.cells #[.slice (some ⟨w6.heap.size, 0, none⟩) 4 4] 27))
  have hB11 := Aside0.mk (below_alloc (below_alloc hB10.out (cellsI [0, 1, 2, 3])) (.cells #[.slice (some ⟨w6.heap.size, 0, none⟩) 4 4] 27))
  clear hlo h6 hC9 hb6 hC8 hB8 hC10 hB10
  go_wp2_with fail
  refine hr6.mono ?_
  rintro e w7 ⟨rfl, hd7⟩
  have hC12 := Aside0.mk (Kd.C_below hC11.out hd7.below)
  have hB12 := Aside0.mk (below_step hB11.out hd7.below)
  clear hr6 hd7 hC11 hB11
  go_wp2_with fail
  -- Preds
  have hpr : Calls Try.prog 16 #[.slice (some ⟨b0, 0, none⟩) 4 4] w7 fun e w' => ∃ A c, e = .returned (.slice A 4 c) ∧ 4 ≤ c ∧ Kd.C (Kd.slice 3 (Kd.int .i64)) w' A 4 [[3], [0], [0], [1, 2]] ∧ Below w7.heap.size w7 w' :=
    (graph_Preds.calls 40 (some ⟨b0, 0, none⟩) 4 g4 [[3], [0], [0], [1, 2]] w7 hC12.out (by decide) s_preds).mono fun e w' ⟨v, he, hR, hB⟩ => by
      obtain ⟨A, c, rfl, h1, h2⟩ := Kd.S_reads hR
      exact ⟨A, c, he, h1, h2, hB⟩
  refine hpr.mono ?_
  rintro e w8 ⟨A8, c8, rfl, h8, hC13, hb8⟩
  have hC14 := Aside0.mk (Kd.C_below hC12.out hb8)
  have hB14 := Aside0.mk (below_step hB12.out hb8)
  have hr8 : Calls Try.prog 17 #[.slice A8 4 c8, .slice (some ⟨w8.heap.size + 1 + 1 + 1 + 1, 0, none⟩) 4 4] (((((w8.alloc (.cells #[.int .i64 3] 3)).alloc (.cells #[.int .i64 0] 3)).alloc (.cells #[.int .i64 0] 3)).alloc (.cells #[.int .i64 1, .int .i64 2] 3)).alloc (.cells #[.slice (some ⟨w8.heap.size, 0, none⟩) 1 1, .slice (some ⟨w8.heap.size + 1, 0, none⟩) 1 1, .slice (some ⟨w8.heap.size + 1 + 1, 0, none⟩) 1 1, .slice (some ⟨w8.heap.size + 1 + 1 + 1, 0, none⟩) 2 2] 27)) fun e w' => e = .returned (.bool true) ∧ Drawn0 (((((w8.alloc (.cells #[.int .i64 3] 3)).alloc (.cells #[.int .i64 0] 3)).alloc (.cells #[.int .i64 0] 3)).alloc (.cells #[.int .i64 1, .int .i64 2] 3)).alloc (.cells #[.slice (some ⟨w8.heap.size, 0, none⟩) 1 1, .slice (some ⟨w8.heap.size + 1, 0, none⟩) 1 1, .slice (some ⟨w8.heap.size + 1 + 1, 0, none⟩) 1 1, .slice (some ⟨w8.heap.size + 1 + 1 + 1, 0, none⟩) 2 2] 27)) w' :=
    swageref06_Rows.calls 40 A8 c8 [[3], [0], [0], [1, 2]] (some ⟨w8.heap.size + 1 + 1 + 1 + 1, 0, none⟩) 4 [[3], [0], [0], [1, 2]] true _ (Kd.C_alloc (Kd.C_alloc (Kd.C_alloc (Kd.C_alloc (Kd.C_alloc hC13 _) _) _) _) _) h8 (lit_rows4 w8 [3] [0] [0] [1, 2] (by decide) (by decide) (by decide) (by decide)) (by decide) s_rows2
  have hC15 : Aside0 (Kd.C (Kd.slice 3 (Kd.int .i64)) (((((w8.alloc (.cells #[.int .i64 3] 3)).alloc (.cells #[.int .i64 0] 3)).alloc (.cells #[.int .i64 0] 3)).alloc (.cells #[.int .i64 1, .int .i64 2] 3)).alloc (.cells #[.slice (some ⟨w8.heap.size, 0, none⟩) 1 1, .slice (some ⟨w8.heap.size + 1, 0, none⟩) 1 1, .slice (some ⟨w8.heap.size + 1 + 1, 0, none⟩) 1 1, .slice (some ⟨w8.heap.size + 1 + 1 + 1, 0, none⟩) 2 2] 27)) (some ⟨b0, 0, none⟩) 4 g4) := ⟨Kd.C_alloc (Kd.C_alloc (Kd.C_alloc (Kd.C_alloc (Kd.C_alloc hC14.out _) _) _) _) _⟩
  have hB15 : Aside0 (Below w.heap.size w (((((w8.alloc (.cells #[.int .i64 3] 3)).alloc (.cells #[.int .i64 0] 3)).alloc (.cells #[.int .i64 0] 3)).alloc (.cells #[.int .i64 1, .int .i64 2] 3)).alloc (.cells #[.slice (some ⟨w8.heap.size, 0, none⟩) 1 1, .slice (some ⟨w8.heap.size + 1, 0, none⟩) 1 1, .slice (some ⟨w8.heap.size + 1 + 1, 0, none⟩) 1 1, .slice (some ⟨w8.heap.size + 1 + 1 + 1, 0, none⟩) 2 2] 27))) := ⟨below_alloc (below_alloc (below_alloc (below_alloc (below_alloc hB14.out _) _) _) _) _⟩
  clear hpr h8 hC13 hb8 hC12 hB12 hC14 hB14
  go_wp2_with fail
  refine hr8.mono ?_
  rintro e w9 ⟨rfl, hd9⟩
  have hC16 := Aside0.mk (Kd.C_below hC15.out hd9.below)
  have hB16 := Aside0.mk (below_step hB15.out hd9.below)
  clear hr8 hd9 hC15 hB15
  go_wp2_with fail
  -- Critical
  have hcr : Calls Try.prog 25 #[.slice (some ⟨b0, 0, none⟩) 4 4] w9 fun e w' => ∃ A c, e = .returned (.slice A 0 c) ∧ Below w9.heap.size w9 w' :=
    (graph_Critical.calls (some ⟨b0, 0, none⟩) 4 g4 [] w9 hC16.out (by decide) s_crit).mono fun e w' ⟨v, he, hR, hB⟩ => by
      obtain ⟨A, c, rfl, h1, h2⟩ := Kd.R_reads hR
      exact ⟨A, c, he, hB⟩
  refine hcr.mono ?_
  rintro e w10 ⟨A10, c10, rfl, hb10⟩
  have hC17 := Aside0.mk (Kd.C_below hC16.out hb10)
  have hB17 := Aside0.mk (below_step hB16.out hb10)
  clear hcr hb10 hC16 hB16
  go_wp2_with fail
  -- Reach
  have hre : Calls Try.prog 22 #[.slice (some ⟨b0, 0, none⟩) 4 4, .int .i64 1] w10 fun e w' => ∃ A c, e = .returned (.slice A 4 c) ∧ Below w10.heap.size w10 w' :=
    (graph_Reach.calls (some ⟨b0, 0, none⟩) 4 g4 1 [true, true, true, true] w10 hC17.out (by decide) s_reach).mono fun e w' ⟨v, he, hR, hB⟩ => by
      obtain ⟨A, c, rfl, h1, h2⟩ := Kd.R_reads hR
      exact ⟨A, c, he, hB⟩
  refine hre.mono ?_
  rintro e w11 ⟨A11, c11, rfl, hb11⟩
  have hB18 := Aside0.mk (below_step hB17.out hb11)
  clear hre hb11 hC17 hB17
  go_wp2_with fail
  go_ret
  exact ⟨rfl, hB18.out⟩
def swagelaw06_small.f : Option Bool := some true
theorem swagelaw06_small.calls (r : Bool) (w : World) (h : swagelaw06_small.f = some r) : Calls Try.prog 13 #[] w fun e w' => e = .returned (.bool r) ∧ Below w.heap.size w w' := by
  obtain rfl := Option.some.inj h
  exact small_calls w
end Go.Proofs.Ytkmbhknmjnbanaa.A


namespace Go.Proofs.Ytkmbhknmjnbanaa.A
open Go.RowKit Go.Proofs.YtkmbhknmjnbanaaW.PrintWords Go.Proofs.YtkmbhknmjnbanaaW.PrintLast Go.Proofs.YtkmbhknmjnbanaaW.PrintMore
attribute [local go_sem] max2_int min2_int max_two min_two max_three min_three max_four min_four   -- for this text's walks alone
set_option linter.unusedVariables false
set_option linter.unusedSimpArgs false

mutual
def swagelaw06_GraphReaches.j0 : Nat → List (List Int) → Int → Bool → List Bool → Bool → Option (Bool)
  | 0, _, _, _, _, _ => none
  | k + 1, x0, x1, x5, x7, x35 => if x35 = true then (if x5 = true then (some ((x7.length : Int) == 0)) else (some false)) else (if (x7.length : Int) = (x0.length : Int) then (if 0 ≤ x1 then (if x1 < (x7.length : Int) then (swagelaw06_GraphReaches.j1 k x0 x1 x5 x7 (!(rdOf false x7 x1))) else (none)) else (none)) else (swagelaw06_GraphReaches.j1 k x0 x1 x5 x7 true))
def swagelaw06_GraphReaches.j1 : Nat → List (List Int) → Int → Bool → List Bool → Bool → Option (Bool)
  | 0, _, _, _, _, _ => none
  | k + 1, x0, x1, x5, x7, x53 => if x53 = true then (some false) else (swagelaw06_GraphReaches.l0 k x0 x1 x5 x7 0 0)
def swagelaw06_GraphReaches.l0 : Nat → List (List Int) → Int → Bool → List Bool → Int → Int → Option (Bool)
  | 0, _, _, _, _, _, _ => none
  | k + 1, x0, x1, x5, x7, x8, x9 => if x9 < (x0.length : Int) then (if 0 ≤ x9 then (if x9 < (x7.length : Int) then (if rdOf false x7 x9 = true then (swagelaw06_GraphReaches.j3 k x0 x1 x5 x7 (wrap64 (x8 + 1)) x9) else (swagelaw06_GraphReaches.j3 k x0 x1 x5 x7 x8 x9)) else (none)) else (none)) else (if x5 = true then (if x1 = 0 then ((graph_Order.f x0).bind fun t554 => (some (x8 == (t554.length : Int)))) else (some true)) else (some false))
def swagelaw06_GraphReaches.j3 : Nat → List (List Int) → Int → Bool → List Bool → Int → Int → Option (Bool)
  | 0, _, _, _, _, _, _ => none
  | k + 1, x0, x1, x5, x7, x8, x9 => swagelaw06_GraphReaches.l1 k x0 x1 x5 x7 x8 x9 0
def swagelaw06_GraphReaches.l1 : Nat → List (List Int) → Int → Bool → List Bool → Int → Int → Int → Option (Bool)
  | 0, _, _, _, _, _, _, _ => none
  | k + 1, x0, x1, x5, x7, x8, x9, x10 => if 0 ≤ x9 then (if x9 < (x0.length : Int) then (if x10 < ((rd_L1 x0 x9).length : Int) then (if x9 < (x7.length : Int) then (if rdOf false x7 x9 = true then (if 0 ≤ x10 then (if 0 ≤ (rd (rd_L1 x0 x9) x10) then (if (rd (rd_L1 x0 x9) x10) < (x7.length : Int) then (if (rdOf false x7 (rd (rd_L1 x0 x9) x10) = true) then (swagelaw06_GraphReaches.l1 k x0 x1 x5 x7 x8 x9 (wrap64 (x10 + 1))) else (some false)) else (none)) else (none)) else (none)) else (swagelaw06_GraphReaches.l1 k x0 x1 x5 x7 x8 x9 (wrap64 (x10 + 1)))) else (none)) else (swagelaw06_GraphReaches.l2 k x0 x1 x5 x7 x8 x9 (x9 == x1) 0)) else (none)) else (none)
def swagelaw06_GraphReaches.l2 : Nat → List (List Int) → Int → Bool → List Bool → Int → Int → Bool → Int → Option (Bool)
  | 0, _, _, _, _, _, _, _, _ => none
  | k + 1, x0, x1, x5, x7, x8, x9, x11, x12 => if x12 < (x0.length : Int) then (swagelaw06_GraphReaches.l3 k x0 x1 x5 x7 x8 x9 x11 x12 0) else (if 0 ≤ x9 then (if x9 < (x7.length : Int) then (if rdOf false x7 x9 = true then (if x11 = true then (swagelaw06_GraphReaches.l0 k x0 x1 x5 x7 x8 (wrap64 (x9 + 1))) else (some false)) else (swagelaw06_GraphReaches.l0 k x0 x1 x5 x7 x8 (wrap64 (x9 + 1)))) else (none)) else (none))
def swagelaw06_GraphReaches.l3 : Nat → List (List Int) → Int → Bool → List Bool → Int → Int → Bool → Int → Int → Option (Bool)
  | 0, _, _, _, _, _, _, _, _, _ => none
  | k + 1, x0, x1, x5, x7, x8, x9, x11, x12, x13 => if 0 ≤ x12 then (if x12 < (x0.length : Int) then (if x13 < ((rd_L1 x0 x12).length : Int) then (if x11 = true then (swagelaw06_GraphReaches.l3 k x0 x1 x5 x7 x8 x9 true x12 (wrap64 (x13 + 1))) else (if x12 < (x7.length : Int) then (if rdOf false x7 x12 = true then (if 0 ≤ x13 then (swagelaw06_GraphReaches.l3 k x0 x1 x5 x7 x8 x9 ((rd (rd_L1 x0 x12) x13) == x9) x12 (wrap64 (x13 + 1))) else (none)) else (swagelaw06_GraphReaches.l3 k x0 x1 x5 x7 x8 x9 false x12 (wrap64 (x13 + 1)))) else (none))) else (swagelaw06_GraphReaches.l2 k x0 x1 x5 x7 x8 x9 x11 (wrap64 (x12 + 1)))) else (none)) else (none)
end
def swagelaw06_GraphReaches.f (k : Nat) (l0 : List (List Int)) (a1 : Int) : Option (Bool) := (swagelaw06_small.f).bind fun t547 => ((swagelaw06_Few.f k l0).bind fun t548 => (if t548 = true then ((graph_Reach.f l0 a1).bind fun t549 => ((graph_Right.f l0).bind fun t552 => (if t552 = true then (if a1 < 0 then (swagelaw06_GraphReaches.j0 k l0 a1 t547 t549 true) else (swagelaw06_GraphReaches.j0 k l0 a1 t547 t549 (decide (a1 ≥ (l0.length : Int))))) else (swagelaw06_GraphReaches.j0 k l0 a1 t547 t549 true)))) else (some t547)))
set_option maxHeartbeats 8000000 in
set_option maxRecDepth 100000 in
theorem swagelaw06_GraphReaches.calls (k : Nat) (A0 : Option Addr) (c0 : Nat) (l0 : List (List Int)) (a1 : Int) (r : Bool) (w : World) (hr0 : Kd.C (Kd.slice 3 (Kd.int .i64)) w A0 l0.length l0) (hc0 : l0.length ≤ c0) (h : swagelaw06_GraphReaches.f k l0 a1 = some r) :
    Calls Try.prog 7 #[.slice A0 l0.length c0, .int .i64 a1] w fun e w' => e = .returned (.bool r) ∧ Below w.heap.size w w' := by
  have HR0 := Aside0.mk hr0
  have HC0 := Aside0.mk hc0
  clear hr0 hc0
  have HB := Aside0.mk (Below.refl w.heap.size w)
  have H : ((swagelaw06_small.f).bind fun t547 => ((swagelaw06_Few.f k l0).bind fun t548 => (if t548 = true then ((graph_Reach.f l0 a1).bind fun t549 => ((graph_Right.f l0).bind fun t552 => (if t552 = true then (if a1 < 0 then (swagelaw06_GraphReaches.j0 k l0 a1 t547 t549 true) else (swagelaw06_GraphReaches.j0 k l0 a1 t547 t549 (decide (a1 ≥ (l0.length : Int))))) else (swagelaw06_GraphReaches.j0 k l0 a1 t547 t549 true)))) else (some t547)))) = some r := h
  clear h
  replace H := Option.bind_eq_some_iff.mp H
  obtain ⟨t547, A30, H⟩ := H
  replace H : ((swagelaw06_Few.f k l0).bind fun t548 => (if t548 = true then ((graph_Reach.f l0 a1).bind fun t549 => ((graph_Right.f l0).bind fun t552 => (if t552 = true then (if a1 < 0 then (swagelaw06_GraphReaches.j0 k l0 a1 t547 t549 true) else (swagelaw06_GraphReaches.j0 k l0 a1 t547 t549 (decide (a1 ≥ (l0.length : Int))))) else (swagelaw06_GraphReaches.j0 k l0 a1 t547 t549 true)))) else (some t547))) = some r := H
  have A3 := Aside0.mk A30
  clear A30
  replace H := Option.bind_eq_some_iff.mp H
  obtain ⟨t548, A40, H⟩ := H
  replace H : (if t548 = true then ((graph_Reach.f l0 a1).bind fun t549 => ((graph_Right.f l0).bind fun t552 => (if t552 = true then (if a1 < 0 then (swagelaw06_GraphReaches.j0 k l0 a1 t547 t549 true) else (swagelaw06_GraphReaches.j0 k l0 a1 t547 t549 (decide (a1 ≥ (l0.length : Int))))) else (swagelaw06_GraphReaches.j0 k l0 a1 t547 t549 true)))) else (some t547)) = some r := H
  have A4 := Aside0.mk A40
  clear A40
  by_cases c5 : t548 = true
  · subst c5
    have H1 : ((graph_Reach.f l0 a1).bind fun t549 => ((graph_Right.f l0).bind fun t552 => (if t552 = true then (if a1 < 0 then (swagelaw06_GraphReaches.j0 k l0 a1 t547 t549 true) else (swagelaw06_GraphReaches.j0 k l0 a1 t547 t549 (decide (a1 ≥ (l0.length : Int))))) else (swagelaw06_GraphReaches.j0 k l0 a1 t547 t549 true)))) = some r := by rw [if_pos rfl] at H; exact H
    clear H
    have H := H1
    clear H1
    replace H := Option.bind_eq_some_iff.mp H
    obtain ⟨t549, A60, H⟩ := H
    replace H : ((graph_Right.f l0).bind fun t552 => (if t552 = true then (if a1 < 0 then (swagelaw06_GraphReaches.j0 k l0 a1 t547 t549 true) else (swagelaw06_GraphReaches.j0 k l0 a1 t547 t549 (decide (a1 ≥ (l0.length : Int))))) else (swagelaw06_GraphReaches.j0 k l0 a1 t547 t549 true))) = some r := H
    have A6 := Aside0.mk A60
    clear A60
    have HC7 := Aside0.mk H
    clear H
    go_enter Try.func7, Try.ntmps7
    go_upto_region 6 with (first | ((with_reducible refine gate_callee (f := 13) rfl ?_); refine goesL_ (some 14) rfl rfl Try.func13 (by kernel_rfl) rfl #[] rfl (by (try simp only [List.map_toArray, List.map_cons, List.map_nil]); first | done | rfl | (simp only [List.length_drop, List.length_take]; rfl)) ?_; (with_reducible refine (swagelaw06_small.calls  t547 _ A3.out).mono ?_); rintro e w8 ⟨rfl, hb⟩; refine ⟨_, rfl, ?_⟩; have n0_ := Aside0.mk (below_step (by repeat (first | (with_reducible first | exact HB.out | apply below_alloc | apply pw_below_drewN | apply below_drew1) | exact HB.out)) hb); clear HB; have HB := n0_; clear n0_; (try clear hb); (try clear hb2); (try clear hk); (try clear hi)) | ((with_reducible refine gate_callee (f := 14) rfl ?_); refine goesL_ (some 16) rfl rfl Try.func14 (by kernel_rfl) rfl #[.slice A0 l0.length c0] rfl (by (try simp only [List.map_toArray, List.map_cons, List.map_nil]); first | done | rfl | (simp only [List.length_drop, List.length_take]; rfl)) ?_; (with_reducible refine (swagelaw06_Few.calls k _ _ l0 true _ ?side1 ?side2 A4.out).mono ?_); (case side1 => repeat (first | exact (Kd.C_below HR0.out HB.out) | (with_reducible refine Kd.C_alloc ?_ _) | (with_reducible refine Kd.C_drewN ?_ _) | (with_reducible refine Kd.C_drew ?_))); (case side2 => exact HC0.out); rintro e w' ⟨rfl, ⟨nd, rfl⟩⟩; refine ⟨_, rfl, ?_⟩) | ((with_reducible refine gate_callee (f := 22) rfl ?_); refine goesL_ (some 22) rfl rfl Try.func22 (by kernel_rfl) rfl #[.slice A0 l0.length c0, .int .i64 a1] rfl (by (try simp only [List.map_toArray, List.map_cons, List.map_nil]); first | done | rfl | (simp only [List.length_drop, List.length_take]; rfl)) ?_; (with_reducible refine (graph_Reach.calls _ _ l0 a1 t549 _ ?side1 ?side2 A6.out).mono ?_); (case side1 => repeat (first | exact (Kd.C_below HR0.out (by repeat (first | (with_reducible first | exact HB.out | apply below_alloc | apply pw_below_drewN | apply below_drew1) | exact HB.out))) | (with_reducible refine Kd.C_alloc ?_ _) | (with_reducible refine Kd.C_drewN ?_ _) | (with_reducible refine Kd.C_drew ?_))); (case side2 => exact HC0.out); rintro e w9 ⟨v550, rfl, ho0, hb⟩; refine ⟨_, rfl, ?_⟩; have n0_ := Aside0.mk (Kd.R_lower ho0 (below_size (by repeat (first | (with_reducible first | exact HB.out | apply below_alloc | apply pw_below_drewN | apply below_drew1) | exact HB.out)))); have n1_ := Aside0.mk (below_step (by repeat (first | (with_reducible first | exact HB.out | apply below_alloc | apply pw_below_drewN | apply below_drew1) | exact HB.out)) hb); clear HB; have HO551 := n0_; have HB := n1_; clear n0_ n1_; (try clear hb); (try clear hb2); (try clear hk); (try clear hi); (try clear ho0)))
    (try simp only [Act.put, List.setIfInBounds_toArray, List.set_cons_zero, List.set_cons_succ])
    go_cut [35] (fun v35 wc => ∃ (kq : Nat) (x35_6 : Bool), v35 = .bool x35_6 ∧ Aside0 (swagelaw06_GraphReaches.j0 kq l0 a1 t547 t549 x35_6 = some r) ∧ Aside0 (kq ≤ k) ∧ Aside0 (Kd.R Kd.bool 4 wc w.heap.size (fun _ => True) v550 t549) ∧ Aside0 (Below w.heap.size w wc))
    case first =>
      have H := HC7.out
      clear HC7
      replace H := Option.bind_eq_some_iff.mp H
      obtain ⟨t552, A100, H⟩ := H
      replace H : (if t552 = true then (if a1 < 0 then (swagelaw06_GraphReaches.j0 k l0 a1 t547 t549 true) else (swagelaw06_GraphReaches.j0 k l0 a1 t547 t549 (decide (a1 ≥ (l0.length : Int))))) else (swagelaw06_GraphReaches.j0 k l0 a1 t547 t549 true)) = some r := H
      have A10 := Aside0.mk A100
      clear A100
      by_cases c11 : t552 = true
      · subst c11
        have H1 : (if a1 < 0 then (swagelaw06_GraphReaches.j0 k l0 a1 t547 t549 true) else (swagelaw06_GraphReaches.j0 k l0 a1 t547 t549 (decide (a1 ≥ (l0.length : Int))))) = some r := by rw [if_pos rfl] at H; exact H
        clear H
        have H := H1
        clear H1
        by_cases c12 : a1 < 0
        · rw [if_pos c12] at H
          have c12b0 : decide (a1 < 0) = true := decide_eq_true c12
          clear c12
          (first | rw [c12b0] | (simp only [i64_w, i32_w]; rw [c12b0]) | skip)
          have H' := Aside0.mk H
          clear H
          go_wp2_with (first | ((with_reducible refine gate_callee (f := 19) rfl ?_); refine goesL_ (some 24) rfl rfl Try.func19 (by kernel_rfl) rfl #[.slice A0 l0.length c0] rfl (by (try simp only [List.map_toArray, List.map_cons, List.map_nil]); first | done | rfl | (simp only [List.length_drop, List.length_take]; rfl)) ?_; (with_reducible refine (graph_Right.calls _ _ l0 true _ ?side1 ?side2 A10.out).mono ?_); (case side1 => repeat (first | exact (Kd.C_below HR0.out HB.out) | (with_reducible refine Kd.C_alloc ?_ _) | (with_reducible refine Kd.C_drewN ?_ _) | (with_reducible refine Kd.C_drew ?_))); (case side2 => exact HC0.out); rintro e w13 ⟨rfl, hb⟩; refine ⟨_, rfl, ?_⟩; have n0_ := Aside0.mk (Kd.R_below (by (with_reducible repeat (first | apply Kd.R_alloc | apply Kd.R_drewN | apply Kd.R_drew)); exact HO551.out) hb); have n1_ := Aside0.mk (below_step (by repeat (first | (with_reducible first | exact HB.out | apply below_alloc | apply pw_below_drewN | apply below_drew1) | exact HB.out)) hb); clear HO551; clear HB; have HO551 := n0_; have HB := n1_; clear n0_ n1_; (try clear hb); (try clear hb2); (try clear hk); (try clear hi)))
          go_meet
          case rel => exact ⟨_, (true), (by first | rfl | (simp; done) | (simp [*]; done)), H', ⟨by first | omega | exact Nat.le_refl _⟩, ⟨by (with_reducible repeat (first | apply Kd.R_alloc | apply Kd.R_drewN | apply Kd.R_drew)); exact HO551.out⟩, ⟨by repeat (first | (with_reducible first | exact HB.out | apply below_alloc | apply pw_below_drewN | apply below_drew1) | exact HB.out)⟩⟩
        · rw [if_neg c12] at H
          have c12b0 : decide (a1 < 0) = false := decide_eq_false c12
          clear c12
          (first | rw [c12b0] | (simp only [i64_w, i32_w]; rw [c12b0]) | skip)
          have H' := Aside0.mk H
          clear H
          go_wp2_with (first | ((with_reducible refine gate_callee (f := 19) rfl ?_); refine goesL_ (some 24) rfl rfl Try.func19 (by kernel_rfl) rfl #[.slice A0 l0.length c0] rfl (by (try simp only [List.map_toArray, List.map_cons, List.map_nil]); first | done | rfl | (simp only [List.length_drop, List.length_take]; rfl)) ?_; (with_reducible refine (graph_Right.calls _ _ l0 true _ ?side1 ?side2 A10.out).mono ?_); (case side1 => repeat (first | exact (Kd.C_below HR0.out HB.out) | (with_reducible refine Kd.C_alloc ?_ _) | (with_reducible refine Kd.C_drewN ?_ _) | (with_reducible refine Kd.C_drew ?_))); (case side2 => exact HC0.out); rintro e w14 ⟨rfl, hb⟩; refine ⟨_, rfl, ?_⟩; have n0_ := Aside0.mk (Kd.R_below (by (with_reducible repeat (first | apply Kd.R_alloc | apply Kd.R_drewN | apply Kd.R_drew)); exact HO551.out) hb); have n1_ := Aside0.mk (below_step (by repeat (first | (with_reducible first | exact HB.out | apply below_alloc | apply pw_below_drewN | apply below_drew1) | exact HB.out)) hb); clear HO551; clear HB; have HO551 := n0_; have HB := n1_; clear n0_ n1_; (try clear hb); (try clear hb2); (try clear hk); (try clear hi)))
          go_meet
          case rel => exact ⟨_, (decide (a1 ≥ (l0.length : Int))), (by first | rfl | (simp; done) | (simp [*]; done)), H', ⟨by first | omega | exact Nat.le_refl _⟩, ⟨by (with_reducible repeat (first | apply Kd.R_alloc | apply Kd.R_drewN | apply Kd.R_drew)); exact HO551.out⟩, ⟨by repeat (first | (with_reducible first | exact HB.out | apply below_alloc | apply pw_below_drewN | apply below_drew1) | exact HB.out)⟩⟩
      · replace c11 := Bool.eq_false_iff.mpr c11
        subst c11
        have H1 : (swagelaw06_GraphReaches.j0 k l0 a1 t547 t549 true) = some r := by rw [if_neg (show ¬ (false = true) by decide)] at H; exact H
        clear H
        have H := H1
        clear H1
        have H' := Aside0.mk H
        clear H
        go_wp2_with (first | ((with_reducible refine gate_callee (f := 19) rfl ?_); refine goesL_ (some 24) rfl rfl Try.func19 (by kernel_rfl) rfl #[.slice A0 l0.length c0] rfl (by (try simp only [List.map_toArray, List.map_cons, List.map_nil]); first | done | rfl | (simp only [List.length_drop, List.length_take]; rfl)) ?_; (with_reducible refine (graph_Right.calls _ _ l0 false _ ?side1 ?side2 A10.out).mono ?_); (case side1 => repeat (first | exact (Kd.C_below HR0.out HB.out) | (with_reducible refine Kd.C_alloc ?_ _) | (with_reducible refine Kd.C_drewN ?_ _) | (with_reducible refine Kd.C_drew ?_))); (case side2 => exact HC0.out); rintro e w15 ⟨rfl, hb⟩; refine ⟨_, rfl, ?_⟩; have n0_ := Aside0.mk (Kd.R_below (by (with_reducible repeat (first | apply Kd.R_alloc | apply Kd.R_drewN | apply Kd.R_drew)); exact HO551.out) hb); have n1_ := Aside0.mk (below_step (by repeat (first | (with_reducible first | exact HB.out | apply below_alloc | apply pw_below_drewN | apply below_drew1) | exact HB.out)) hb); clear HO551; clear HB; have HO551 := n0_; have HB := n1_; clear n0_ n1_; (try clear hb); (try clear hb2); (try clear hk); (try clear hi)))
        go_meet
        case rel => exact ⟨_, (true), (by first | rfl | (simp; done) | (simp [*]; done)), H', ⟨by first | omega | exact Nat.le_refl _⟩, ⟨by (with_reducible repeat (first | apply Kd.R_alloc | apply Kd.R_drewN | apply Kd.R_drew)); exact HO551.out⟩, ⟨by repeat (first | (with_reducible first | exact HB.out | apply below_alloc | apply pw_below_drewN | apply below_drew1) | exact HB.out)⟩⟩
    case rest =>
      clear HC7
      try clear c1
      try clear c2
      try clear p2
      try clear c5
      try clear c7
      try clear c11
      try clear c12
      try clear c12b0
      try clear c13
      try clear c14
      obtain ⟨kq, x35_6, rfl, HA, HJ6, HO_7, HB⟩ := hcut
      cases kq with
      | zero => exact absurd HA.out (by simp [swagelaw06_GraphReaches.j0])
      | succ kj6 =>
        have H := HA.out
        clear HA
        simp only [swagelaw06_GraphReaches.j0] at H
        by_cases c16 : x35_6 = true
        · subst c16
          have H1 : (if t547 = true then (some ((t549.length : Int) == 0)) else (some false)) = some r := by rw [if_pos rfl] at H; exact H
          clear H
          have H := H1
          clear H1
          by_cases c17 : t547 = true
          · subst c17
            have H1 : (some ((t549.length : Int) == 0)) = some r := by rw [if_pos rfl] at H; exact H
            clear H
            have H := H1
            clear H1
            obtain rfl := Option.some.inj H
            obtain ⟨Ao18, co18, eo18⟩ := Kd.R_slice HO_7.out
            subst eo18
            go_wp2
            go_ret
            exact ⟨by first | rfl | (simp [errW_none, errW_some] <;> rfl) | (simp [*, errW_none, errW_some] <;> rfl), by repeat (first | (with_reducible first | exact HB.out | apply below_alloc | apply pw_below_drewN | apply below_drew1) | exact HB.out)⟩
          · replace c17 := Bool.eq_false_iff.mpr c17
            subst c17
            have H1 : (some false) = some r := by rw [if_neg (show ¬ (false = true) by decide)] at H; exact H
            clear H
            have H := H1
            clear H1
            obtain rfl := Option.some.inj H
            go_wp2
            go_ret
            exact ⟨by first | rfl | (simp [errW_none, errW_some] <;> rfl) | (simp [*, errW_none, errW_some] <;> rfl), by repeat (first | (with_reducible first | exact HB.out | apply below_alloc | apply pw_below_drewN | apply below_drew1) | exact HB.out)⟩
        · replace c16 := Bool.eq_false_iff.mpr c16
          subst c16
          have H1 : (if (t549.length : Int) = (l0.length : Int) then (if 0 ≤ a1 then (if a1 < (t549.length : Int) then (swagelaw06_GraphReaches.j1 kj6 l0 a1 t547 t549 (!(rdOf false t549 a1))) else (none)) else (none)) else (swagelaw06_GraphReaches.j1 kj6 l0 a1 t547 t549 true)) = some r := by rw [if_neg (show ¬ (false = true) by decide)] at H; exact H
          clear H
          have H := H1
          clear H1
          have HC19 := Aside0.mk H
          clear H
          go_upto_region 8 with (fail)
          go_cut [53] (fun v53 wc => ∃ (kq : Nat) (x53_18 : Bool), v53 = .bool x53_18 ∧ Aside0 (swagelaw06_GraphReaches.j1 kq l0 a1 t547 t549 x53_18 = some r) ∧ Aside0 (kq ≤ kj6) ∧ Aside0 (Kd.R Kd.bool 4 wc w.heap.size (fun _ => True) v550 t549) ∧ Aside0 (Below w.heap.size w wc))
          case first =>
            have H := HC19.out
            clear HC19
            by_cases c20 : (t549.length : Int) = (l0.length : Int)
            · rw [if_pos c20] at H
              have c20b0 : ((t549.length : Int) == (l0.length : Int)) = true := beq_iff_eq.mpr c20
              have c20b1 : ((t549.length : Int) != (l0.length : Int)) = false := bne_eq_false_iff_eq.mpr c20
              have c20b2 : (t549.length == l0.length) = true := by first | simpa using c20 | (simp at c20 ⊢; omega)
              clear c20
              (first | rw [c20b0] | (simp only [i64_w, i32_w]; rw [c20b0]) | skip)
              by_cases c21 : 0 ≤ a1
              · rw [if_pos c21] at H
                have c21b0 : decide (0 ≤ a1) = true := decide_eq_true c21
                clear c21
                by_cases c22 : a1 < (t549.length : Int)
                · rw [if_pos c22] at H
                  have c22b0 : decide (a1 < (t549.length : Int)) = true := decide_eq_true c22
                  clear c22
                  have H' := Aside0.mk H
                  clear H
                  obtain ⟨Ao23, co23, eo23⟩ := Kd.R_slice HO_7.out
                  subst eo23
                  have p553 : 0 ≤ (a1 : Int) := of_decide_eq_true (by first | (with_reducible assumption) | assumption)
                  have q553 : a1 < (t549.length : Int) := of_decide_eq_true (by first | (with_reducible assumption) | assumption)
                  obtain ⟨ad553, e553, hx553_0⟩ := Kd.at_bool (Kd.R_reads' HO_7.out).2.2 a1 p553 q553
                  cases e553
                  replace p553 := eq_true p553
                  replace q553 := eq_true q553
                  go_wp2
                  go_meet
                  case rel => exact ⟨_, (!(rdOf false t549 a1)), (by first | rfl | (simp; done) | (simp [*]; done)), H', ⟨by have := HJ6.out; first | omega | exact Nat.le_refl _⟩, ⟨by (with_reducible repeat (first | apply Kd.R_alloc | apply Kd.R_drewN | apply Kd.R_drew)); exact HO_7.out⟩, ⟨by repeat (first | (with_reducible first | exact HB.out | apply below_alloc | apply pw_below_drewN | apply below_drew1) | exact HB.out)⟩⟩
                · rw [if_neg c22] at H
                  exact absurd H (by simp)
              · rw [if_neg c21] at H
                exact absurd H (by simp)
            · rw [if_neg c20] at H
              have c20b0 : ((t549.length : Int) == (l0.length : Int)) = false := beq_eq_false_iff_ne.mpr c20
              have c20b1 : ((t549.length : Int) != (l0.length : Int)) = true := bne_iff_ne.mpr c20
              have c20b2 : (t549.length == l0.length) = false := by first | simpa using c20 | (simp at c20 ⊢; omega)
              (first | rw [c20b0] | (simp only [i64_w, i32_w]; rw [c20b0]) | skip)
              have H' := Aside0.mk H
              clear H
              obtain ⟨Ao24, co24, eo24⟩ := Kd.R_slice HO_7.out
              subst eo24
              go_wp2
              go_meet
              case rel => exact ⟨_, (true), (by first | rfl | (simp; done) | (simp [*]; done)), H', ⟨by have := HJ6.out; first | omega | exact Nat.le_refl _⟩, ⟨by (with_reducible repeat (first | apply Kd.R_alloc | apply Kd.R_drewN | apply Kd.R_drew)); exact HO_7.out⟩, ⟨by repeat (first | (with_reducible first | exact HB.out | apply below_alloc | apply pw_below_drewN | apply below_drew1) | exact HB.out)⟩⟩
          case rest =>
            clear HC19
            try clear c1
            try clear c2
            try clear p2
            try clear c5
            try clear p5
            try clear q5
            try clear hx5
            try clear c7
            try clear c11
            try clear c12
            try clear c12b0
            try clear c13
            try clear c14
            try clear c16
            try clear c17
            try clear c19
            try clear c20
            try clear c20b0
            try clear c20b1
            try clear c20b2
            try clear c21
            try clear c21b0
            try clear c22
            try clear c22b0
            try clear hx553_0
            try clear p2
            try clear p553
            try clear q553
            obtain ⟨kq, x53_18, rfl, HA, HJ18, HO_7, HB⟩ := hcut
            cases kq with
            | zero => exact absurd HA.out (by simp [swagelaw06_GraphReaches.j1])
            | succ kj18 =>
              have H := HA.out
              clear HA
              simp only [swagelaw06_GraphReaches.j1] at H
              by_cases c25 : x53_18 = true
              · subst c25
                have H1 : (some false) = some r := by rw [if_pos rfl] at H; exact H
                clear H
                have H := H1
                clear H1
                obtain rfl := Option.some.inj H
                go_wp2
                go_ret
                exact ⟨by first | rfl | (simp [errW_none, errW_some] <;> rfl) | (simp [*, errW_none, errW_some] <;> rfl), by repeat (first | (with_reducible first | exact HB.out | apply below_alloc | apply pw_below_drewN | apply below_drew1) | exact HB.out)⟩
              · replace c25 := Bool.eq_false_iff.mpr c25
                subst c25
                have H1 : (swagelaw06_GraphReaches.l0 kj18 l0 a1 t547 t549 0 0) = some r := by rw [if_neg (show ¬ (false = true) by decide)] at H; exact H
                clear H
                have H := H1
                clear H1
                have H' := Aside0.mk H
                clear H
                go_wp2
                go_loopg [8, 9] kj18 (fun kq v8 v9 w' => ∃ (x8_3 : Int) (x9_3 : Int), v8 = .int .i64 x8_3 ∧ v9 = .int .i64 x9_3 ∧ Aside0 (swagelaw06_GraphReaches.l0 kq l0 a1 t547 t549 x8_3 x9_3 = some r) ∧ Aside0 (kq ≤ kj18) ∧ Aside0 (Kd.R Kd.bool 4 w' w.heap.size (fun _ => True) v550 t549) ∧ Aside0 (Below w.heap.size w w'))
                case atStart => exact ⟨(0), (0), (by first | rfl | (simp; done) | (simp [*]; done)), (by first | rfl | (simp; done) | (simp [*]; done)), H', ⟨Nat.le_refl _⟩, ⟨by (with_reducible repeat (first | apply Kd.R_alloc | apply Kd.R_drewN | apply Kd.R_drew)); exact HO_7.out⟩, ⟨by repeat (first | (with_reducible first | exact HB.out | apply below_alloc | apply pw_below_drewN | apply below_drew1) | exact HB.out)⟩⟩
                case round =>
                  clear H'
                  try clear c1
                  try clear c2
                  try clear p2
                  try clear c5
                  try clear p5
                  try clear q5
                  try clear hx5
                  try clear c7
                  try clear c11
                  try clear c12
                  try clear c12b0
                  try clear c13
                  try clear c14
                  try clear c16
                  try clear c17
                  try clear c19
                  try clear c20
                  try clear c20b0
                  try clear c20b1
                  try clear c20b2
                  try clear c21
                  try clear c21b0
                  try clear c22
                  try clear c22b0
                  try clear c25
                  try clear hx553_0
                  try clear p2
                  try clear p5
                  try clear p553
                  try clear q5
                  try clear q553
                  obtain ⟨x8_3, x9_3, rfl, rfl, HA, HK3, HO_7, HB⟩ := hrel
                  cases gk with
                  | zero => exact absurd HA.out (by simp [swagelaw06_GraphReaches.l0])
                  | succ k3 =>
                    have H := HA.out
                    clear HA
                    simp only [swagelaw06_GraphReaches.l0] at H
                    by_cases c26 : x9_3 < (l0.length : Int)
                    · rw [if_pos c26] at H
                      have c26b0 : decide (x9_3 < (l0.length : Int)) = true := decide_eq_true c26
                      clear c26
                      by_cases c27 : 0 ≤ x9_3
                      · rw [if_pos c27] at H
                        have c27b0 : decide (0 ≤ x9_3) = true := decide_eq_true c27
                        clear c27
                        by_cases c28 : x9_3 < (t549.length : Int)
                        · rw [if_pos c28] at H
                          have c28b0 : decide (x9_3 < (t549.length : Int)) = true := decide_eq_true c28
                          clear c28
                          have HC29 := Aside0.mk H
                          clear H
                          obtain ⟨Ao30, co30, eo30⟩ := Kd.R_slice HO_7.out
                          subst eo30
                          have p557 : 0 ≤ (x9_3 : Int) := of_decide_eq_true (by first | (with_reducible assumption) | assumption)
                          have q557 : x9_3 < (t549.length : Int) := of_decide_eq_true (by first | (with_reducible assumption) | assumption)
                          obtain ⟨ad557, e557, hx557_0⟩ := Kd.at_bool (Kd.R_reads' HO_7.out).2.2 x9_3 p557 q557
                          cases e557
                          replace p557 := eq_true p557
                          replace q557 := eq_true q557
                          go_upto_if 63 with (fail)
                          go_cut [8] (fun v8 wc => ∃ (kq : Nat) (x8_28 : Int), v8 = .int .i64 x8_28 ∧ Aside0 (swagelaw06_GraphReaches.j3 kq l0 a1 t547 t549 x8_28 x9_3 = some r) ∧ Aside0 (kq ≤ k3) ∧ Aside0 (Kd.R Kd.bool 4 wc w.heap.size (fun _ => True) (.slice (some ad557) t549.length co30) t549) ∧ Aside0 (Below w.heap.size w wc))
                          case first =>
                            have H := HC29.out
                            clear HC29
                            obtain ⟨bq31, hbq31⟩ : ∃ b_ : Bool, b_ = (rdOf false t549 x9_3) := ⟨_, rfl⟩
                            replace H : (if bq31 = true then (swagelaw06_GraphReaches.j3 k3 l0 a1 t547 t549 (wrap64 (x8_3 + 1)) x9_3) else (swagelaw06_GraphReaches.j3 k3 l0 a1 t547 t549 x8_3 x9_3)) = some r := by rw [← hbq31] at H; exact H
                            have Nbq31 := Aside0.mk hbq31
                            clear hbq31
                            (try rw [← Nbq31.out])
                            by_cases c32 : bq31 = true
                            · subst c32
                              have H1 : (swagelaw06_GraphReaches.j3 k3 l0 a1 t547 t549 (wrap64 (x8_3 + 1)) x9_3) = some r := by rw [if_pos rfl] at H; exact H
                              clear H
                              have H := H1
                              clear H1
                              have H' := Aside0.mk H
                              clear H
                              go_wp2
                              go_meet
                              case rel => exact ⟨_, (wrap64 (x8_3 + 1)), (by first | rfl | (simp; done) | (simp [*]; done)), H', ⟨by have := HJ6.out; have := HJ18.out; have := HK3.out; first | omega | exact Nat.le_refl _⟩, ⟨by (with_reducible repeat (first | apply Kd.R_alloc | apply Kd.R_drewN | apply Kd.R_drew)); exact HO_7.out⟩, ⟨by repeat (first | (with_reducible first | exact HB.out | apply below_alloc | apply pw_below_drewN | apply below_drew1) | exact HB.out)⟩⟩
                            · replace c32 := Bool.eq_false_iff.mpr c32
                              subst c32
                              have H1 : (swagelaw06_GraphReaches.j3 k3 l0 a1 t547 t549 x8_3 x9_3) = some r := by rw [if_neg (show ¬ (false = true) by decide)] at H; exact H
                              clear H
                              have H := H1
                              clear H1
                              have H' := Aside0.mk H
                              clear H
                              go_wp2
                              go_meet
                              case rel => exact ⟨_, (x8_3), (by first | rfl | (simp; done) | (simp [*]; done)), H', ⟨by have := HJ6.out; have := HJ18.out; have := HK3.out; first | omega | exact Nat.le_refl _⟩, ⟨by (with_reducible repeat (first | apply Kd.R_alloc | apply Kd.R_drewN | apply Kd.R_drew)); exact HO_7.out⟩, ⟨by repeat (first | (with_reducible first | exact HB.out | apply below_alloc | apply pw_below_drewN | apply below_drew1) | exact HB.out)⟩⟩
                          case rest =>
                            clear HC29
                            try clear c1
                            try clear c2
                            try clear p2
                            try clear c3
                            try clear q3
                            try clear c5
                            try clear p5
                            try clear q5
                            try clear hx5
                            try clear p6
                            try clear c7
                            try clear c11
                            try clear c12
                            try clear c12b0
                            try clear c13
                            try clear c14
                            try clear c16
                            try clear c17
                            try clear c19
                            try clear c20
                            try clear c20b0
                            try clear c20b1
                            try clear c20b2
                            try clear c21
                            try clear c21b0
                            try clear c22
                            try clear c22b0
                            try clear c25
                            try clear c26
                            try clear c26b0
                            try clear c27
                            try clear c27b0
                            try clear c28
                            try clear c28b0
                            try clear q31
                            try clear c32
                            try clear hx553_0
                            try clear hx557_0
                            try clear p2
                            try clear p5
                            try clear p553
                            try clear p557
                            try clear q5
                            try clear q553
                            try clear q557
                            obtain ⟨kq, x8_28, rfl, HA, HJ28, HO_7, HB⟩ := hcut
                            cases kq with
                            | zero => exact absurd HA.out (by simp [swagelaw06_GraphReaches.j3])
                            | succ kj28 =>
                              have H := HA.out
                              clear HA
                              simp only [swagelaw06_GraphReaches.j3] at H
                              have H' := Aside0.mk H
                              clear H
                              go_wp2
                              go_loopg [10] kj28 (fun kq v10 w' => ∃ (x10_5 : Int), v10 = .int .i64 x10_5 ∧ Aside0 (swagelaw06_GraphReaches.l1 kq l0 a1 t547 t549 x8_28 x9_3 x10_5 = some r) ∧ Aside0 (kq ≤ kj28) ∧ Aside0 (Kd.R Kd.bool 4 w' w.heap.size (fun _ => True) (.slice (some ad557) t549.length co30) t549) ∧ Aside0 (Below w.heap.size w w'))
                              case atStart => exact ⟨(0), (by first | rfl | (simp; done) | (simp [*]; done)), H', ⟨Nat.le_refl _⟩, ⟨by (with_reducible repeat (first | apply Kd.R_alloc | apply Kd.R_drewN | apply Kd.R_drew)); exact HO_7.out⟩, ⟨by repeat (first | (with_reducible first | exact HB.out | apply below_alloc | apply pw_below_drewN | apply below_drew1) | exact HB.out)⟩⟩
                              case round =>
                                clear H'
                                try clear c1
                                try clear c2
                                try clear p2
                                try clear c3
                                try clear q3
                                try clear c5
                                try clear p5
                                try clear q5
                                try clear hx5
                                try clear p6
                                try clear c7
                                try clear c11
                                try clear c12
                                try clear c12b0
                                try clear c13
                                try clear c14
                                try clear c16
                                try clear c17
                                try clear c19
                                try clear c20
                                try clear c20b0
                                try clear c20b1
                                try clear c20b2
                                try clear c21
                                try clear c21b0
                                try clear c22
                                try clear c22b0
                                try clear c25
                                try clear c26
                                try clear c26b0
                                try clear c27
                                try clear c27b0
                                try clear c28
                                try clear c28b0
                                try clear q31
                                try clear c32
                                try clear hx553_0
                                try clear hx557_0
                                try clear p2
                                try clear p5
                                try clear p553
                                try clear p557
                                try clear p6
                                try clear q3
                                try clear q31
                                try clear q5
                                try clear q553
                                try clear q557
                                obtain ⟨x10_5, rfl, HA, HK5, HO_7, HB⟩ := hrel
                                cases gk with
                                | zero => exact absurd HA.out (by simp [swagelaw06_GraphReaches.l1])
                                | succ k5 =>
                                  have H := HA.out
                                  clear HA
                                  simp only [swagelaw06_GraphReaches.l1] at H
                                  by_cases c33 : 0 ≤ x9_3
                                  · rw [if_pos c33] at H
                                    have c33b0 : decide (0 ≤ x9_3) = true := decide_eq_true c33
                                    clear c33
                                    by_cases c34 : x9_3 < (l0.length : Int)
                                    · rw [if_pos c34] at H
                                      have c34b0 : decide (x9_3 < (l0.length : Int)) = true := decide_eq_true c34
                                      clear c34
                                      by_cases c35 : x10_5 < ((rd_L1 l0 x9_3).length : Int)
                                      · rw [if_pos c35] at H
                                        have c35b0 : decide (x10_5 < ((rd_L1 l0 x9_3).length : Int)) = true := decide_eq_true c35
                                        clear c35
                                        by_cases c36 : x9_3 < (t549.length : Int)
                                        · rw [if_pos c36] at H
                                          have c36b0 : decide (x9_3 < (t549.length : Int)) = true := decide_eq_true c36
                                          clear c36
                                          obtain ⟨bq37, hbq37⟩ : ∃ b_ : Bool, b_ = (rdOf false t549 x9_3) := ⟨_, rfl⟩
                                          replace H : (if bq37 = true then (if 0 ≤ x10_5 then (if 0 ≤ (rd (rd_L1 l0 x9_3) x10_5) then (if (rd (rd_L1 l0 x9_3) x10_5) < (t549.length : Int) then (if (rdOf false t549 (rd (rd_L1 l0 x9_3) x10_5) = true) then (swagelaw06_GraphReaches.l1 k5 l0 a1 t547 t549 x8_28 x9_3 (wrap64 (x10_5 + 1))) else (some false)) else (none)) else (none)) else (none)) else (swagelaw06_GraphReaches.l1 k5 l0 a1 t547 t549 x8_28 x9_3 (wrap64 (x10_5 + 1)))) = some r := by rw [← hbq37] at H; exact H
                                          have Nbq37 := Aside0.mk hbq37
                                          clear hbq37
                                          by_cases c38 : bq37 = true
                                          · subst c38
                                            have H1 : (if 0 ≤ x10_5 then (if 0 ≤ (rd (rd_L1 l0 x9_3) x10_5) then (if (rd (rd_L1 l0 x9_3) x10_5) < (t549.length : Int) then (if (rdOf false t549 (rd (rd_L1 l0 x9_3) x10_5) = true) then (swagelaw06_GraphReaches.l1 k5 l0 a1 t547 t549 x8_28 x9_3 (wrap64 (x10_5 + 1))) else (some false)) else (none)) else (none)) else (none)) = some r := by rw [if_pos rfl] at H; exact H
                                            clear H
                                            have H := H1
                                            clear H1
                                            by_cases c39 : 0 ≤ x10_5
                                            · rw [if_pos c39] at H
                                              have c39b0 : decide (0 ≤ x10_5) = true := decide_eq_true c39
                                              clear c39
                                              by_cases c40 : 0 ≤ (rd (rd_L1 l0 x9_3) x10_5)
                                              · rw [if_pos c40] at H
                                                have c40b0 : decide (0 ≤ (rd (rd_L1 l0 x9_3) x10_5)) = true := decide_eq_true c40
                                                clear c40
                                                by_cases c41 : (rd (rd_L1 l0 x9_3) x10_5) < (t549.length : Int)
                                                · rw [if_pos c41] at H
                                                  have c41b0 : decide ((rd (rd_L1 l0 x9_3) x10_5) < (t549.length : Int)) = true := decide_eq_true c41
                                                  clear c41
                                                  obtain ⟨bq42, hbq42⟩ : ∃ b_ : Bool, b_ = (rdOf false t549 (rd (rd_L1 l0 x9_3) x10_5)) := ⟨_, rfl⟩
                                                  replace H : (if (bq42 = true) then (swagelaw06_GraphReaches.l1 k5 l0 a1 t547 t549 x8_28 x9_3 (wrap64 (x10_5 + 1))) else (some false)) = some r := by rw [← hbq42] at H; exact H
                                                  have Nbq42 := Aside0.mk hbq42
                                                  clear hbq42
                                                  by_cases c43 : (bq42 = true)
                                                  · subst c43
                                                    have H1 : (swagelaw06_GraphReaches.l1 k5 l0 a1 t547 t549 x8_28 x9_3 (wrap64 (x10_5 + 1))) = some r := by rw [if_pos rfl] at H; exact H
                                                    clear H
                                                    have H := H1
                                                    clear H1
                                                    have H' := Aside0.mk H
                                                    clear H
                                                    have p558 : 0 ≤ (x9_3 : Int) := of_decide_eq_true (by first | (with_reducible assumption) | assumption)
                                                    have q558 : x9_3 < (l0.length : Int) := of_decide_eq_true (by first | (with_reducible assumption) | assumption)
                                                    obtain ⟨ad558, A558_0, c558_0, e558, hx558_0, hl558_0, hi558_0⟩ := at_L1 HR0.out x9_3 p558 q558
                                                    cases e558
                                                    replace hx558_0 := (HB.out.cell (World.block_lt_of_cell? w _ hx558_0)).trans hx558_0
                                                    have HR558_0 := Aside0.mk hi558_0
                                                    have HC558_0 := Aside0.mk hl558_0
                                                    clear hi558_0 hl558_0
                                                    replace p558 := eq_true p558
                                                    replace q558 := eq_true q558
                                                    have p559 : 0 ≤ (x9_3 : Int) := of_decide_eq_true (by first | (with_reducible assumption) | assumption)
                                                    have q559 : x9_3 < (t549.length : Int) := of_decide_eq_true (by first | (with_reducible assumption) | assumption)
                                                    obtain ⟨ad559, e559, hx559_0⟩ := Kd.at_bool (Kd.R_reads' HO_7.out).2.2 x9_3 p559 q559
                                                    (try rw [← Nbq37.out] at hx559_0)
                                                    (try rw [← Nbq42.out] at hx559_0)
                                                    obtain rfl : ad557 = ad559 := (by injection e559)
                                                    replace p559 := eq_true p559
                                                    replace q559 := eq_true q559
                                                    have p560 : 0 ≤ (x9_3 : Int) := of_decide_eq_true (by first | (with_reducible assumption) | assumption)
                                                    have q560 : x9_3 < (l0.length : Int) := of_decide_eq_true (by first | (with_reducible assumption) | assumption)
                                                    obtain ⟨ad560, A560_0, c560_0, e560, hx560_0, hl560_0, hi560_0⟩ := at_L1 HR0.out x9_3 p560 q560
                                                    obtain rfl : ad558 = ad560 := (by injection e560)
                                                    replace hx560_0 := (HB.out.cell (World.block_lt_of_cell? w _ hx560_0)).trans hx560_0
                                                    have HR560_0 := Aside0.mk hi560_0
                                                    have HC560_0 := Aside0.mk hl560_0
                                                    clear hi560_0 hl560_0
                                                    replace p560 := eq_true p560
                                                    replace q560 := eq_true q560
                                                    have ea_ := Option.some.inj (hx558_0.symm.trans hx560_0)
                                                    injection ea_ with ea_ en_ ec_
                                                    subst ea_
                                                    subst ec_
                                                    clear en_
                                                    have p561 : 0 ≤ (x10_5 : Int) := of_decide_eq_true (by first | (with_reducible assumption) | assumption)
                                                    have q561 : x10_5 < ((rd_L1 l0 x9_3).length : Int) := of_decide_eq_true (by first | (with_reducible assumption) | assumption)
                                                    obtain ⟨ad561, e561, hx561_0⟩ := Kd.at_int HR560_0.out x10_5 p561 q561
                                                    cases e561
                                                    replace hx561_0 := (HB.out.cell (World.block_lt_of_cell? w _ hx561_0)).trans hx561_0
                                                    replace p561 := eq_true p561
                                                    replace q561 := eq_true q561
                                                    have p562 : 0 ≤ ((rd (rd_L1 l0 x9_3) x10_5) : Int) := of_decide_eq_true (by first | (with_reducible assumption) | assumption)
                                                    have q562 : (rd (rd_L1 l0 x9_3) x10_5) < (t549.length : Int) := of_decide_eq_true (by first | (with_reducible assumption) | assumption)
                                                    obtain ⟨ad562, e562, hx562_0⟩ := Kd.at_bool (Kd.R_reads' HO_7.out).2.2 (rd (rd_L1 l0 x9_3) x10_5) p562 q562
                                                    (try rw [← Nbq37.out] at hx562_0)
                                                    (try rw [← Nbq42.out] at hx562_0)
                                                    obtain rfl : ad557 = ad562 := (by injection e562)
                                                    replace p562 := eq_true p562
                                                    replace q562 := eq_true q562
                                                    go_wp2
                                                    go_roundg k5
                                                    case measure => have := HJ6.out; have := HJ18.out; have := HK3.out; have := HJ28.out; have := HK5.out; omega
                                                    case rel => exact ⟨(wrap64 (x10_5 + 1)), (by first | rfl | (simp; done) | (simp [*]; done)), H', ⟨by have := HJ6.out; have := HJ18.out; have := HK3.out; have := HJ28.out; have := HK5.out; omega⟩, ⟨by (with_reducible repeat (first | apply Kd.R_alloc | apply Kd.R_drewN | apply Kd.R_drew)); exact HO_7.out⟩, ⟨by repeat (first | (with_reducible first | exact HB.out | apply below_alloc | apply pw_below_drewN | apply below_drew1) | exact HB.out)⟩⟩
                                                  · replace c43 := Bool.eq_false_iff.mpr c43
                                                    subst c43
                                                    have H1 : (some false) = some r := by rw [if_neg (show ¬ (false = true) by decide)] at H; exact H
                                                    clear H
                                                    have H := H1
                                                    clear H1
                                                    obtain rfl := Option.some.inj H
                                                    have p558 : 0 ≤ (x9_3 : Int) := of_decide_eq_true (by first | (with_reducible assumption) | assumption)
                                                    have q558 : x9_3 < (l0.length : Int) := of_decide_eq_true (by first | (with_reducible assumption) | assumption)
                                                    obtain ⟨ad558, A558_0, c558_0, e558, hx558_0, hl558_0, hi558_0⟩ := at_L1 HR0.out x9_3 p558 q558
                                                    cases e558
                                                    replace hx558_0 := (HB.out.cell (World.block_lt_of_cell? w _ hx558_0)).trans hx558_0
                                                    have HR558_0 := Aside0.mk hi558_0
                                                    have HC558_0 := Aside0.mk hl558_0
                                                    clear hi558_0 hl558_0
                                                    replace p558 := eq_true p558
                                                    replace q558 := eq_true q558
                                                    have p559 : 0 ≤ (x9_3 : Int) := of_decide_eq_true (by first | (with_reducible assumption) | assumption)
                                                    have q559 : x9_3 < (t549.length : Int) := of_decide_eq_true (by first | (with_reducible assumption) | assumption)
                                                    obtain ⟨ad559, e559, hx559_0⟩ := Kd.at_bool (Kd.R_reads' HO_7.out).2.2 x9_3 p559 q559
                                                    (try rw [← Nbq37.out] at hx559_0)
                                                    (try rw [← Nbq42.out] at hx559_0)
                                                    obtain rfl : ad557 = ad559 := (by injection e559)
                                                    replace p559 := eq_true p559
                                                    replace q559 := eq_true q559
                                                    have p560 : 0 ≤ (x9_3 : Int) := of_decide_eq_true (by first | (with_reducible assumption) | assumption)
                                                    have q560 : x9_3 < (l0.length : Int) := of_decide_eq_true (by first | (with_reducible assumption) | assumption)
                                                    obtain ⟨ad560, A560_0, c560_0, e560, hx560_0, hl560_0, hi560_0⟩ := at_L1 HR0.out x9_3 p560 q560
                                                    obtain rfl : ad558 = ad560 := (by injection e560)
                                                    replace hx560_0 := (HB.out.cell (World.block_lt_of_cell? w _ hx560_0)).trans hx560_0
                                                    have HR560_0 := Aside0.mk hi560_0
                                                    have HC560_0 := Aside0.mk hl560_0
                                                    clear hi560_0 hl560_0
                                                    replace p560 := eq_true p560
                                                    replace q560 := eq_true q560
                                                    have ea_ := Option.some.inj (hx558_0.symm.trans hx560_0)
                                                    injection ea_ with ea_ en_ ec_
                                                    subst ea_
                                                    subst ec_
                                                    clear en_
                                                    have p561 : 0 ≤ (x10_5 : Int) := of_decide_eq_true (by first | (with_reducible assumption) | assumption)
                                                    have q561 : x10_5 < ((rd_L1 l0 x9_3).length : Int) := of_decide_eq_true (by first | (with_reducible assumption) | assumption)
                                                    obtain ⟨ad561, e561, hx561_0⟩ := Kd.at_int HR560_0.out x10_5 p561 q561
                                                    cases e561
                                                    replace hx561_0 := (HB.out.cell (World.block_lt_of_cell? w _ hx561_0)).trans hx561_0
                                                    replace p561 := eq_true p561
                                                    replace q561 := eq_true q561
                                                    have p562 : 0 ≤ ((rd (rd_L1 l0 x9_3) x10_5) : Int) := of_decide_eq_true (by first | (with_reducible assumption) | assumption)
                                                    have q562 : (rd (rd_L1 l0 x9_3) x10_5) < (t549.length : Int) := of_decide_eq_true (by first | (with_reducible assumption) | assumption)
                                                    obtain ⟨ad562, e562, hx562_0⟩ := Kd.at_bool (Kd.R_reads' HO_7.out).2.2 (rd (rd_L1 l0 x9_3) x10_5) p562 q562
                                                    (try rw [← Nbq37.out] at hx562_0)
                                                    (try rw [← Nbq42.out] at hx562_0)
                                                    obtain rfl : ad557 = ad562 := (by injection e562)
                                                    replace p562 := eq_true p562
                                                    replace q562 := eq_true q562
                                                    go_wp2
                                                    go_ret
                                                    exact ⟨by first | rfl | (simp [errW_none, errW_some] <;> rfl) | (simp [*, errW_none, errW_some] <;> rfl), by repeat (first | (with_reducible first | exact HB.out | apply below_alloc | apply pw_below_drewN | apply below_drew1) | exact HB.out)⟩
                                                · rw [if_neg c41] at H
                                                  exact absurd H (by simp)
                                              · rw [if_neg c40] at H
                                                exact absurd H (by simp)
                                            · rw [if_neg c39] at H
                                              exact absurd H (by simp)
                                          · replace c38 := Bool.eq_false_iff.mpr c38
                                            subst c38
                                            have H1 : (swagelaw06_GraphReaches.l1 k5 l0 a1 t547 t549 x8_28 x9_3 (wrap64 (x10_5 + 1))) = some r := by rw [if_neg (show ¬ (false = true) by decide)] at H; exact H
                                            clear H
                                            have H := H1
                                            clear H1
                                            have H' := Aside0.mk H
                                            clear H
                                            have p558 : 0 ≤ (x9_3 : Int) := of_decide_eq_true (by first | (with_reducible assumption) | assumption)
                                            have q558 : x9_3 < (l0.length : Int) := of_decide_eq_true (by first | (with_reducible assumption) | assumption)
                                            obtain ⟨ad558, A558_0, c558_0, e558, hx558_0, hl558_0, hi558_0⟩ := at_L1 HR0.out x9_3 p558 q558
                                            cases e558
                                            replace hx558_0 := (HB.out.cell (World.block_lt_of_cell? w _ hx558_0)).trans hx558_0
                                            have HR558_0 := Aside0.mk hi558_0
                                            have HC558_0 := Aside0.mk hl558_0
                                            clear hi558_0 hl558_0
                                            replace p558 := eq_true p558
                                            replace q558 := eq_true q558
                                            have p559 : 0 ≤ (x9_3 : Int) := of_decide_eq_true (by first | (with_reducible assumption) | assumption)
                                            have q559 : x9_3 < (t549.length : Int) := of_decide_eq_true (by first | (with_reducible assumption) | assumption)
                                            obtain ⟨ad559, e559, hx559_0⟩ := Kd.at_bool (Kd.R_reads' HO_7.out).2.2 x9_3 p559 q559
                                            (try rw [← Nbq37.out] at hx559_0)
                                            obtain rfl : ad557 = ad559 := (by injection e559)
                                            replace p559 := eq_true p559
                                            replace q559 := eq_true q559
                                            go_wp2
                                            go_roundg k5
                                            case measure => have := HJ6.out; have := HJ18.out; have := HK3.out; have := HJ28.out; have := HK5.out; omega
                                            case rel => exact ⟨(wrap64 (x10_5 + 1)), (by first | rfl | (simp; done) | (simp [*]; done)), H', ⟨by have := HJ6.out; have := HJ18.out; have := HK3.out; have := HJ28.out; have := HK5.out; omega⟩, ⟨by (with_reducible repeat (first | apply Kd.R_alloc | apply Kd.R_drewN | apply Kd.R_drew)); exact HO_7.out⟩, ⟨by repeat (first | (with_reducible first | exact HB.out | apply below_alloc | apply pw_below_drewN | apply below_drew1) | exact HB.out)⟩⟩
                                        · rw [if_neg c36] at H
                                          exact absurd H (by simp)
                                      · rw [if_neg c35] at H
                                        have c35b0 : decide (x10_5 < ((rd_L1 l0 x9_3).length : Int)) = false := decide_eq_false c35
                                        clear c35
                                        have H' := Aside0.mk H
                                        clear H
                                        have p558 : 0 ≤ (x9_3 : Int) := of_decide_eq_true (by first | (with_reducible assumption) | assumption)
                                        have q558 : x9_3 < (l0.length : Int) := of_decide_eq_true (by first | (with_reducible assumption) | assumption)
                                        obtain ⟨ad558, A558_0, c558_0, e558, hx558_0, hl558_0, hi558_0⟩ := at_L1 HR0.out x9_3 p558 q558
                                        cases e558
                                        replace hx558_0 := (HB.out.cell (World.block_lt_of_cell? w _ hx558_0)).trans hx558_0
                                        have HR558_0 := Aside0.mk hi558_0
                                        have HC558_0 := Aside0.mk hl558_0
                                        clear hi558_0 hl558_0
                                        replace p558 := eq_true p558
                                        replace q558 := eq_true q558
                                        go_wp2
                                        go_loopg [11, 12] k5 (fun kq v11 v12 w' => ∃ (x11_6 : Bool) (x12_6 : Int), v11 = .bool x11_6 ∧ v12 = .int .i64 x12_6 ∧ Aside0 (swagelaw06_GraphReaches.l2 kq l0 a1 t547 t549 x8_28 x9_3 x11_6 x12_6 = some r) ∧ Aside0 (kq ≤ k5) ∧ Aside0 (Kd.R Kd.bool 4 w' w.heap.size (fun _ => True) (.slice (some ad557) t549.length co30) t549) ∧ Aside0 (Below w.heap.size w w'))
                                        case atStart => exact ⟨((x9_3 == a1)), (0), (by first | rfl | (simp; done) | (simp [*]; done)), (by first | rfl | (simp; done) | (simp [*]; done)), H', ⟨Nat.le_refl _⟩, ⟨by (with_reducible repeat (first | apply Kd.R_alloc | apply Kd.R_drewN | apply Kd.R_drew)); exact HO_7.out⟩, ⟨by repeat (first | (with_reducible first | exact HB.out | apply below_alloc | apply pw_below_drewN | apply below_drew1) | exact HB.out)⟩⟩
                                        case round =>
                                          clear H'
                                          try clear c1
                                          try clear c2
                                          try clear p2
                                          try clear c3
                                          try clear q3
                                          try clear c4
                                          try clear q4
                                          try clear c5
                                          try clear p5
                                          try clear q5
                                          try clear hx5
                                          try clear p6
                                          try clear c7
                                          try clear c11
                                          try clear c12
                                          try clear c12b0
                                          try clear c13
                                          try clear c14
                                          try clear c16
                                          try clear c17
                                          try clear c19
                                          try clear c20
                                          try clear c20b0
                                          try clear c20b1
                                          try clear c20b2
                                          try clear c21
                                          try clear c21b0
                                          try clear c22
                                          try clear c22b0
                                          try clear c25
                                          try clear c26
                                          try clear c26b0
                                          try clear c27
                                          try clear c27b0
                                          try clear c28
                                          try clear c28b0
                                          try clear q31
                                          try clear c32
                                          try clear c33
                                          try clear c33b0
                                          try clear c34
                                          try clear c34b0
                                          try clear c35
                                          try clear c35b0
                                          try clear c36
                                          try clear c36b0
                                          try clear q37
                                          try clear c38
                                          try clear c39
                                          try clear c39b0
                                          try clear c40
                                          try clear c40b0
                                          try clear c41
                                          try clear c41b0
                                          try clear q42
                                          try clear c43
                                          try clear hx553_0
                                          try clear hx557_0
                                          try clear hx558_0
                                          try clear hx559_0
                                          try clear hx560_0
                                          try clear hx561_0
                                          try clear hx562_0
                                          try clear p2
                                          try clear p5
                                          try clear p553
                                          try clear p557
                                          try clear p558
                                          try clear p559
                                          try clear p560
                                          try clear p561
                                          try clear p562
                                          try clear p6
                                          try clear q3
                                          try clear q31
                                          try clear q5
                                          try clear q553
                                          try clear q557
                                          try clear q558
                                          try clear q559
                                          try clear q560
                                          try clear q561
                                          try clear q562
                                          obtain ⟨x11_6, x12_6, rfl, rfl, HA, HK6, HO_7, HB⟩ := hrel
                                          cases gk with
                                          | zero => exact absurd HA.out (by simp [swagelaw06_GraphReaches.l2])
                                          | succ k6 =>
                                            have H := HA.out
                                            clear HA
                                            simp only [swagelaw06_GraphReaches.l2] at H
                                            by_cases c44 : x12_6 < (l0.length : Int)
                                            · rw [if_pos c44] at H
                                              have c44b0 : decide (x12_6 < (l0.length : Int)) = true := decide_eq_true c44
                                              clear c44
                                              have H' := Aside0.mk H
                                              clear H
                                              go_wp2
                                              go_loopg [11, 13] k6 (fun kq v11 v13 w' => ∃ (x11_7 : Bool) (x13_7 : Int), v11 = .bool x11_7 ∧ v13 = .int .i64 x13_7 ∧ Aside0 (swagelaw06_GraphReaches.l3 kq l0 a1 t547 t549 x8_28 x9_3 x11_7 x12_6 x13_7 = some r) ∧ Aside0 (kq ≤ k6) ∧ Aside0 (Kd.R Kd.bool 4 w' w.heap.size (fun _ => True) (.slice (some ad557) t549.length co30) t549) ∧ Aside0 (Below w.heap.size w w'))
                                              case atStart => exact ⟨(x11_6), (0), (by first | rfl | (simp; done) | (simp [*]; done)), (by first | rfl | (simp; done) | (simp [*]; done)), H', ⟨Nat.le_refl _⟩, ⟨by (with_reducible repeat (first | apply Kd.R_alloc | apply Kd.R_drewN | apply Kd.R_drew)); exact HO_7.out⟩, ⟨by repeat (first | (with_reducible first | exact HB.out | apply below_alloc | apply pw_below_drewN | apply below_drew1) | exact HB.out)⟩⟩
                                              case round =>
                                                clear H'
                                                try clear c1
                                                try clear c2
                                                try clear p2
                                                try clear c3
                                                try clear q3
                                                try clear c4
                                                try clear q4
                                                try clear c5
                                                try clear p5
                                                try clear q5
                                                try clear hx5
                                                try clear p6
                                                try clear c7
                                                try clear c11
                                                try clear c12
                                                try clear c12b0
                                                try clear c13
                                                try clear c14
                                                try clear c16
                                                try clear c17
                                                try clear c19
                                                try clear c20
                                                try clear c20b0
                                                try clear c20b1
                                                try clear c20b2
                                                try clear c21
                                                try clear c21b0
                                                try clear c22
                                                try clear c22b0
                                                try clear c25
                                                try clear c26
                                                try clear c26b0
                                                try clear c27
                                                try clear c27b0
                                                try clear c28
                                                try clear c28b0
                                                try clear q31
                                                try clear c32
                                                try clear c33
                                                try clear c33b0
                                                try clear c34
                                                try clear c34b0
                                                try clear c35
                                                try clear c35b0
                                                try clear c36
                                                try clear c36b0
                                                try clear q37
                                                try clear c38
                                                try clear c39
                                                try clear c39b0
                                                try clear c40
                                                try clear c40b0
                                                try clear c41
                                                try clear c41b0
                                                try clear q42
                                                try clear c43
                                                try clear c44
                                                try clear c44b0
                                                try clear hx553_0
                                                try clear hx557_0
                                                try clear hx558_0
                                                try clear hx559_0
                                                try clear hx560_0
                                                try clear hx561_0
                                                try clear hx562_0
                                                try clear p2
                                                try clear p5
                                                try clear p553
                                                try clear p557
                                                try clear p558
                                                try clear p559
                                                try clear p560
                                                try clear p561
                                                try clear p562
                                                try clear p6
                                                try clear q3
                                                try clear q31
                                                try clear q37
                                                try clear q4
                                                try clear q42
                                                try clear q5
                                                try clear q553
                                                try clear q557
                                                try clear q558
                                                try clear q559
                                                try clear q560
                                                try clear q561
                                                try clear q562
                                                obtain ⟨x11_7, x13_7, rfl, rfl, HA, HK7, HO_7, HB⟩ := hrel
                                                cases gk with
                                                | zero => exact absurd HA.out (by simp [swagelaw06_GraphReaches.l3])
                                                | succ k7 =>
                                                  have H := HA.out
                                                  clear HA
                                                  simp only [swagelaw06_GraphReaches.l3] at H
                                                  by_cases c45 : 0 ≤ x12_6
                                                  · rw [if_pos c45] at H
                                                    have c45b0 : decide (0 ≤ x12_6) = true := decide_eq_true c45
                                                    clear c45
                                                    by_cases c46 : x12_6 < (l0.length : Int)
                                                    · rw [if_pos c46] at H
                                                      have c46b0 : decide (x12_6 < (l0.length : Int)) = true := decide_eq_true c46
                                                      clear c46
                                                      by_cases c47 : x13_7 < ((rd_L1 l0 x12_6).length : Int)
                                                      · rw [if_pos c47] at H
                                                        have c47b0 : decide (x13_7 < ((rd_L1 l0 x12_6).length : Int)) = true := decide_eq_true c47
                                                        clear c47
                                                        by_cases c48 : x11_7 = true
                                                        · subst c48
                                                          have H1 : (swagelaw06_GraphReaches.l3 k7 l0 a1 t547 t549 x8_28 x9_3 true x12_6 (wrap64 (x13_7 + 1))) = some r := by rw [if_pos rfl] at H; exact H
                                                          clear H
                                                          have H := H1
                                                          clear H1
                                                          have H' := Aside0.mk H
                                                          clear H
                                                          have p564 : 0 ≤ (x12_6 : Int) := of_decide_eq_true (by first | (with_reducible assumption) | assumption)
                                                          have q564 : x12_6 < (l0.length : Int) := of_decide_eq_true (by first | (with_reducible assumption) | assumption)
                                                          obtain ⟨ad564, A564_0, c564_0, e564, hx564_0, hl564_0, hi564_0⟩ := at_L1 HR0.out x12_6 p564 q564
                                                          obtain rfl : ad558 = ad564 := (by injection e564)
                                                          replace hx564_0 := (HB.out.cell (World.block_lt_of_cell? w _ hx564_0)).trans hx564_0
                                                          have HR564_0 := Aside0.mk hi564_0
                                                          have HC564_0 := Aside0.mk hl564_0
                                                          clear hi564_0 hl564_0
                                                          replace p564 := eq_true p564
                                                          replace q564 := eq_true q564
                                                          go_wp2
                                                          go_roundg k7
                                                          case measure => have := HJ6.out; have := HJ18.out; have := HK3.out; have := HJ28.out; have := HK5.out; have := HK6.out; have := HK7.out; omega
                                                          case rel => exact ⟨(true), (wrap64 (x13_7 + 1)), (by first | rfl | (simp; done) | (simp [*]; done)), (by first | rfl | (simp; done) | (simp [*]; done)), H', ⟨by have := HJ6.out; have := HJ18.out; have := HK3.out; have := HJ28.out; have := HK5.out; have := HK6.out; have := HK7.out; omega⟩, ⟨by (with_reducible repeat (first | apply Kd.R_alloc | apply Kd.R_drewN | apply Kd.R_drew)); exact HO_7.out⟩, ⟨by repeat (first | (with_reducible first | exact HB.out | apply below_alloc | apply pw_below_drewN | apply below_drew1) | exact HB.out)⟩⟩
                                                        · replace c48 := Bool.eq_false_iff.mpr c48
                                                          subst c48
                                                          have H1 : (if x12_6 < (t549.length : Int) then (if rdOf false t549 x12_6 = true then (if 0 ≤ x13_7 then (swagelaw06_GraphReaches.l3 k7 l0 a1 t547 t549 x8_28 x9_3 ((rd (rd_L1 l0 x12_6) x13_7) == x9_3) x12_6 (wrap64 (x13_7 + 1))) else (none)) else (swagelaw06_GraphReaches.l3 k7 l0 a1 t547 t549 x8_28 x9_3 false x12_6 (wrap64 (x13_7 + 1)))) else (none)) = some r := by rw [if_neg (show ¬ (false = true) by decide)] at H; exact H
                                                          clear H
                                                          have H := H1
                                                          clear H1
                                                          by_cases c49 : x12_6 < (t549.length : Int)
                                                          · rw [if_pos c49] at H
                                                            have c49b0 : decide (x12_6 < (t549.length : Int)) = true := decide_eq_true c49
                                                            clear c49
                                                            obtain ⟨bq50, hbq50⟩ : ∃ b_ : Bool, b_ = (rdOf false t549 x12_6) := ⟨_, rfl⟩
                                                            replace H : (if bq50 = true then (if 0 ≤ x13_7 then (swagelaw06_GraphReaches.l3 k7 l0 a1 t547 t549 x8_28 x9_3 ((rd (rd_L1 l0 x12_6) x13_7) == x9_3) x12_6 (wrap64 (x13_7 + 1))) else (none)) else (swagelaw06_GraphReaches.l3 k7 l0 a1 t547 t549 x8_28 x9_3 false x12_6 (wrap64 (x13_7 + 1)))) = some r := by rw [← hbq50] at H; exact H
                                                            have Nbq50 := Aside0.mk hbq50
                                                            clear hbq50
                                                            by_cases c51 : bq50 = true
                                                            · subst c51
                                                              have H1 : (if 0 ≤ x13_7 then (swagelaw06_GraphReaches.l3 k7 l0 a1 t547 t549 x8_28 x9_3 ((rd (rd_L1 l0 x12_6) x13_7) == x9_3) x12_6 (wrap64 (x13_7 + 1))) else (none)) = some r := by rw [if_pos rfl] at H; exact H
                                                              clear H
                                                              have H := H1
                                                              clear H1
                                                              by_cases c52 : 0 ≤ x13_7
                                                              · rw [if_pos c52] at H
                                                                have c52b0 : decide (0 ≤ x13_7) = true := decide_eq_true c52
                                                                clear c52
                                                                have H' := Aside0.mk H
                                                                clear H
                                                                have p564 : 0 ≤ (x12_6 : Int) := of_decide_eq_true (by first | (with_reducible assumption) | assumption)
                                                                have q564 : x12_6 < (l0.length : Int) := of_decide_eq_true (by first | (with_reducible assumption) | assumption)
                                                                obtain ⟨ad564, A564_0, c564_0, e564, hx564_0, hl564_0, hi564_0⟩ := at_L1 HR0.out x12_6 p564 q564
                                                                obtain rfl : ad558 = ad564 := (by injection e564)
                                                                replace hx564_0 := (HB.out.cell (World.block_lt_of_cell? w _ hx564_0)).trans hx564_0
                                                                have HR564_0 := Aside0.mk hi564_0
                                                                have HC564_0 := Aside0.mk hl564_0
                                                                clear hi564_0 hl564_0
                                                                replace p564 := eq_true p564
                                                                replace q564 := eq_true q564
                                                                have p565 : 0 ≤ (x12_6 : Int) := of_decide_eq_true (by first | (with_reducible assumption) | assumption)
                                                                have q565 : x12_6 < (t549.length : Int) := of_decide_eq_true (by first | (with_reducible assumption) | assumption)
                                                                obtain ⟨ad565, e565, hx565_0⟩ := Kd.at_bool (Kd.R_reads' HO_7.out).2.2 x12_6 p565 q565
                                                                (try rw [← Nbq50.out] at hx565_0)
                                                                obtain rfl : ad557 = ad565 := (by injection e565)
                                                                replace p565 := eq_true p565
                                                                replace q565 := eq_true q565
                                                                have p566 : 0 ≤ (x12_6 : Int) := of_decide_eq_true (by first | (with_reducible assumption) | assumption)
                                                                have q566 : x12_6 < (l0.length : Int) := of_decide_eq_true (by first | (with_reducible assumption) | assumption)
                                                                obtain ⟨ad566, A566_0, c566_0, e566, hx566_0, hl566_0, hi566_0⟩ := at_L1 HR0.out x12_6 p566 q566
                                                                obtain rfl : ad558 = ad566 := (by injection e566)
                                                                replace hx566_0 := (HB.out.cell (World.block_lt_of_cell? w _ hx566_0)).trans hx566_0
                                                                have HR566_0 := Aside0.mk hi566_0
                                                                have HC566_0 := Aside0.mk hl566_0
                                                                clear hi566_0 hl566_0
                                                                replace p566 := eq_true p566
                                                                replace q566 := eq_true q566
                                                                have ea_ := Option.some.inj (hx564_0.symm.trans hx566_0)
                                                                injection ea_ with ea_ en_ ec_
                                                                subst ea_
                                                                subst ec_
                                                                clear en_
                                                                have p567 : 0 ≤ (x13_7 : Int) := of_decide_eq_true (by first | (with_reducible assumption) | assumption)
                                                                have q567 : x13_7 < ((rd_L1 l0 x12_6).length : Int) := of_decide_eq_true (by first | (with_reducible assumption) | assumption)
                                                                obtain ⟨ad567, e567, hx567_0⟩ := Kd.at_int HR566_0.out x13_7 p567 q567
                                                                cases e567
                                                                replace hx567_0 := (HB.out.cell (World.block_lt_of_cell? w _ hx567_0)).trans hx567_0
                                                                replace p567 := eq_true p567
                                                                replace q567 := eq_true q567
                                                                go_wp2
                                                                go_roundg k7
                                                                case measure => have := HJ6.out; have := HJ18.out; have := HK3.out; have := HJ28.out; have := HK5.out; have := HK6.out; have := HK7.out; omega
                                                                case rel => exact ⟨(((rd (rd_L1 l0 x12_6) x13_7) == x9_3)), (wrap64 (x13_7 + 1)), (by first | rfl | (simp; done) | (simp [*]; done)), (by first | rfl | (simp; done) | (simp [*]; done)), H', ⟨by have := HJ6.out; have := HJ18.out; have := HK3.out; have := HJ28.out; have := HK5.out; have := HK6.out; have := HK7.out; omega⟩, ⟨by (with_reducible repeat (first | apply Kd.R_alloc | apply Kd.R_drewN | apply Kd.R_drew)); exact HO_7.out⟩, ⟨by repeat (first | (with_reducible first | exact HB.out | apply below_alloc | apply pw_below_drewN | apply below_drew1) | exact HB.out)⟩⟩
                                                              · rw [if_neg c52] at H
                                                                exact absurd H (by simp)
                                                            · replace c51 := Bool.eq_false_iff.mpr c51
                                                              subst c51
                                                              have H1 : (swagelaw06_GraphReaches.l3 k7 l0 a1 t547 t549 x8_28 x9_3 false x12_6 (wrap64 (x13_7 + 1))) = some r := by rw [if_neg (show ¬ (false = true) by decide)] at H; exact H
                                                              clear H
                                                              have H := H1
                                                              clear H1
                                                              have H' := Aside0.mk H
                                                              clear H
                                                              have p564 : 0 ≤ (x12_6 : Int) := of_decide_eq_true (by first | (with_reducible assumption) | assumption)
                                                              have q564 : x12_6 < (l0.length : Int) := of_decide_eq_true (by first | (with_reducible assumption) | assumption)
                                                              obtain ⟨ad564, A564_0, c564_0, e564, hx564_0, hl564_0, hi564_0⟩ := at_L1 HR0.out x12_6 p564 q564
                                                              obtain rfl : ad558 = ad564 := (by injection e564)
                                                              replace hx564_0 := (HB.out.cell (World.block_lt_of_cell? w _ hx564_0)).trans hx564_0
                                                              have HR564_0 := Aside0.mk hi564_0
                                                              have HC564_0 := Aside0.mk hl564_0
                                                              clear hi564_0 hl564_0
                                                              replace p564 := eq_true p564
                                                              replace q564 := eq_true q564
                                                              have p565 : 0 ≤ (x12_6 : Int) := of_decide_eq_true (by first | (with_reducible assumption) | assumption)
                                                              have q565 : x12_6 < (t549.length : Int) := of_decide_eq_true (by first | (with_reducible assumption) | assumption)
                                                              obtain ⟨ad565, e565, hx565_0⟩ := Kd.at_bool (Kd.R_reads' HO_7.out).2.2 x12_6 p565 q565
                                                              (try rw [← Nbq50.out] at hx565_0)
                                                              obtain rfl : ad557 = ad565 := (by injection e565)
                                                              replace p565 := eq_true p565
                                                              replace q565 := eq_true q565
                                                              go_wp2
                                                              go_roundg k7
                                                              case measure => have := HJ6.out; have := HJ18.out; have := HK3.out; have := HJ28.out; have := HK5.out; have := HK6.out; have := HK7.out; omega
                                                              case rel => exact ⟨(false), (wrap64 (x13_7 + 1)), (by first | rfl | (simp; done) | (simp [*]; done)), (by first | rfl | (simp; done) | (simp [*]; done)), H', ⟨by have := HJ6.out; have := HJ18.out; have := HK3.out; have := HJ28.out; have := HK5.out; have := HK6.out; have := HK7.out; omega⟩, ⟨by (with_reducible repeat (first | apply Kd.R_alloc | apply Kd.R_drewN | apply Kd.R_drew)); exact HO_7.out⟩, ⟨by repeat (first | (with_reducible first | exact HB.out | apply below_alloc | apply pw_below_drewN | apply below_drew1) | exact HB.out)⟩⟩
                                                          · rw [if_neg c49] at H
                                                            exact absurd H (by simp)
                                                      · rw [if_neg c47] at H
                                                        have c47b0 : decide (x13_7 < ((rd_L1 l0 x12_6).length : Int)) = false := decide_eq_false c47
                                                        clear c47
                                                        have H' := Aside0.mk H
                                                        clear H
                                                        have p564 : 0 ≤ (x12_6 : Int) := of_decide_eq_true (by first | (with_reducible assumption) | assumption)
                                                        have q564 : x12_6 < (l0.length : Int) := of_decide_eq_true (by first | (with_reducible assumption) | assumption)
                                                        obtain ⟨ad564, A564_0, c564_0, e564, hx564_0, hl564_0, hi564_0⟩ := at_L1 HR0.out x12_6 p564 q564
                                                        obtain rfl : ad558 = ad564 := (by injection e564)
                                                        replace hx564_0 := (HB.out.cell (World.block_lt_of_cell? w _ hx564_0)).trans hx564_0
                                                        have HR564_0 := Aside0.mk hi564_0
                                                        have HC564_0 := Aside0.mk hl564_0
                                                        clear hi564_0 hl564_0
                                                        replace p564 := eq_true p564
                                                        replace q564 := eq_true q564
                                                        go_wp2
                                                        go_roundg k7
                                                        case measure => have := HJ6.out; have := HJ18.out; have := HK3.out; have := HJ28.out; have := HK5.out; have := HK6.out; have := HK7.out; omega
                                                        case rel => exact ⟨(x11_7), (wrap64 (x12_6 + 1)), (by first | rfl | (simp; done) | (simp [*]; done)), (by first | rfl | (simp; done) | (simp [*]; done)), H', ⟨by have := HJ6.out; have := HJ18.out; have := HK3.out; have := HJ28.out; have := HK5.out; have := HK6.out; have := HK7.out; omega⟩, ⟨by (with_reducible repeat (first | apply Kd.R_alloc | apply Kd.R_drewN | apply Kd.R_drew)); exact HO_7.out⟩, ⟨by repeat (first | (with_reducible first | exact HB.out | apply below_alloc | apply pw_below_drewN | apply below_drew1) | exact HB.out)⟩⟩
                                                    · rw [if_neg c46] at H
                                                      exact absurd H (by simp)
                                                  · rw [if_neg c45] at H
                                                    exact absurd H (by simp)
                                            · rw [if_neg c44] at H
                                              have c44b0 : decide (x12_6 < (l0.length : Int)) = false := decide_eq_false c44
                                              clear c44
                                              by_cases c53 : 0 ≤ x9_3
                                              · rw [if_pos c53] at H
                                                have c53b0 : decide (0 ≤ x9_3) = true := decide_eq_true c53
                                                clear c53
                                                by_cases c54 : x9_3 < (t549.length : Int)
                                                · rw [if_pos c54] at H
                                                  have c54b0 : decide (x9_3 < (t549.length : Int)) = true := decide_eq_true c54
                                                  clear c54
                                                  obtain ⟨bq55, hbq55⟩ : ∃ b_ : Bool, b_ = (rdOf false t549 x9_3) := ⟨_, rfl⟩
                                                  replace H : (if bq55 = true then (if x11_6 = true then (swagelaw06_GraphReaches.l0 k6 l0 a1 t547 t549 x8_28 (wrap64 (x9_3 + 1))) else (some false)) else (swagelaw06_GraphReaches.l0 k6 l0 a1 t547 t549 x8_28 (wrap64 (x9_3 + 1)))) = some r := by rw [← hbq55] at H; exact H
                                                  have Nbq55 := Aside0.mk hbq55
                                                  clear hbq55
                                                  by_cases c56 : bq55 = true
                                                  · subst c56
                                                    have H1 : (if x11_6 = true then (swagelaw06_GraphReaches.l0 k6 l0 a1 t547 t549 x8_28 (wrap64 (x9_3 + 1))) else (some false)) = some r := by rw [if_pos rfl] at H; exact H
                                                    clear H
                                                    have H := H1
                                                    clear H1
                                                    by_cases c57 : x11_6 = true
                                                    · subst c57
                                                      have H1 : (swagelaw06_GraphReaches.l0 k6 l0 a1 t547 t549 x8_28 (wrap64 (x9_3 + 1))) = some r := by rw [if_pos rfl] at H; exact H
                                                      clear H
                                                      have H := H1
                                                      clear H1
                                                      have H' := Aside0.mk H
                                                      clear H
                                                      have p563 : 0 ≤ (x9_3 : Int) := of_decide_eq_true (by first | (with_reducible assumption) | assumption)
                                                      have q563 : x9_3 < (t549.length : Int) := of_decide_eq_true (by first | (with_reducible assumption) | assumption)
                                                      obtain ⟨ad563, e563, hx563_0⟩ := Kd.at_bool (Kd.R_reads' HO_7.out).2.2 x9_3 p563 q563
                                                      (try rw [← Nbq55.out] at hx563_0)
                                                      obtain rfl : ad557 = ad563 := (by injection e563)
                                                      replace p563 := eq_true p563
                                                      replace q563 := eq_true q563
                                                      go_wp2
                                                      go_roundg k6
                                                      case measure => have := HJ6.out; have := HJ18.out; have := HK3.out; have := HJ28.out; have := HK5.out; have := HK6.out; omega
                                                      case rel => exact ⟨(x8_28), (wrap64 (x9_3 + 1)), (by first | rfl | (simp; done) | (simp [*]; done)), (by first | rfl | (simp; done) | (simp [*]; done)), H', ⟨by have := HJ6.out; have := HJ18.out; have := HK3.out; have := HJ28.out; have := HK5.out; have := HK6.out; omega⟩, ⟨by (with_reducible repeat (first | apply Kd.R_alloc | apply Kd.R_drewN | apply Kd.R_drew)); exact HO_7.out⟩, ⟨by repeat (first | (with_reducible first | exact HB.out | apply below_alloc | apply pw_below_drewN | apply below_drew1) | exact HB.out)⟩⟩
                                                    · replace c57 := Bool.eq_false_iff.mpr c57
                                                      subst c57
                                                      have H1 : (some false) = some r := by rw [if_neg (show ¬ (false = true) by decide)] at H; exact H
                                                      clear H
                                                      have H := H1
                                                      clear H1
                                                      obtain rfl := Option.some.inj H
                                                      have p563 : 0 ≤ (x9_3 : Int) := of_decide_eq_true (by first | (with_reducible assumption) | assumption)
                                                      have q563 : x9_3 < (t549.length : Int) := of_decide_eq_true (by first | (with_reducible assumption) | assumption)
                                                      obtain ⟨ad563, e563, hx563_0⟩ := Kd.at_bool (Kd.R_reads' HO_7.out).2.2 x9_3 p563 q563
                                                      (try rw [← Nbq55.out] at hx563_0)
                                                      obtain rfl : ad557 = ad563 := (by injection e563)
                                                      replace p563 := eq_true p563
                                                      replace q563 := eq_true q563
                                                      go_wp2
                                                      go_ret
                                                      exact ⟨by first | rfl | (simp [errW_none, errW_some] <;> rfl) | (simp [*, errW_none, errW_some] <;> rfl), by repeat (first | (with_reducible first | exact HB.out | apply below_alloc | apply pw_below_drewN | apply below_drew1) | exact HB.out)⟩
                                                  · replace c56 := Bool.eq_false_iff.mpr c56
                                                    subst c56
                                                    have H1 : (swagelaw06_GraphReaches.l0 k6 l0 a1 t547 t549 x8_28 (wrap64 (x9_3 + 1))) = some r := by rw [if_neg (show ¬ (false = true) by decide)] at H; exact H
                                                    clear H
                                                    have H := H1
                                                    clear H1
                                                    have H' := Aside0.mk H
                                                    clear H
                                                    have p563 : 0 ≤ (x9_3 : Int) := of_decide_eq_true (by first | (with_reducible assumption) | assumption)
                                                    have q563 : x9_3 < (t549.length : Int) := of_decide_eq_true (by first | (with_reducible assumption) | assumption)
                                                    obtain ⟨ad563, e563, hx563_0⟩ := Kd.at_bool (Kd.R_reads' HO_7.out).2.2 x9_3 p563 q563
                                                    (try rw [← Nbq55.out] at hx563_0)
                                                    obtain rfl : ad557 = ad563 := (by injection e563)
                                                    replace p563 := eq_true p563
                                                    replace q563 := eq_true q563
                                                    go_wp2
                                                    go_roundg k6
                                                    case measure => have := HJ6.out; have := HJ18.out; have := HK3.out; have := HJ28.out; have := HK5.out; have := HK6.out; omega
                                                    case rel => exact ⟨(x8_28), (wrap64 (x9_3 + 1)), (by first | rfl | (simp; done) | (simp [*]; done)), (by first | rfl | (simp; done) | (simp [*]; done)), H', ⟨by have := HJ6.out; have := HJ18.out; have := HK3.out; have := HJ28.out; have := HK5.out; have := HK6.out; omega⟩, ⟨by (with_reducible repeat (first | apply Kd.R_alloc | apply Kd.R_drewN | apply Kd.R_drew)); exact HO_7.out⟩, ⟨by repeat (first | (with_reducible first | exact HB.out | apply below_alloc | apply pw_below_drewN | apply below_drew1) | exact HB.out)⟩⟩
                                                · rw [if_neg c54] at H
                                                  exact absurd H (by simp)
                                              · rw [if_neg c53] at H
                                                exact absurd H (by simp)
                                    · rw [if_neg c34] at H
                                      exact absurd H (by simp)
                                  · rw [if_neg c33] at H
                                    exact absurd H (by simp)
                        · rw [if_neg c28] at H
                          exact absurd H (by simp)
                      · rw [if_neg c27] at H
                        exact absurd H (by simp)
                    · rw [if_neg c26] at H
                      have c26b0 : decide (x9_3 < (l0.length : Int)) = false := decide_eq_false c26
                      clear c26
                      by_cases c58 : t547 = true
                      · subst c58
                        have H1 : (if a1 = 0 then ((graph_Order.f l0).bind fun t554 => (some (x8_3 == (t554.length : Int)))) else (some true)) = some r := by rw [if_pos rfl] at H; exact H
                        clear H
                        have H := H1
                        clear H1
                        by_cases c59 : a1 = 0
                        · rw [if_pos c59] at H
                          have c59b0 : (a1 == 0) = true := beq_iff_eq.mpr c59
                          have c59b1 : (a1 != 0) = false := bne_eq_false_iff_eq.mpr c59
                          clear c59
                          replace H := Option.bind_eq_some_iff.mp H
                          obtain ⟨t554, A600, H⟩ := H
                          replace H : (some (x8_3 == (t554.length : Int))) = some r := H
                          have A60 := Aside0.mk A600
                          clear A600
                          obtain rfl := Option.some.inj H
                          go_wp2_with (first | (go_at_call 28; (with_reducible refine (graph_Order.calls _ _ l0 t554 _ ?side1 ?side2 A60.out).mono ?_); (case side1 => repeat (first | exact (Kd.C_below HR0.out HB.out) | (with_reducible refine Kd.C_alloc ?_ _) | (with_reducible refine Kd.C_drewN ?_ _) | (with_reducible refine Kd.C_drew ?_))); (case side2 => exact HC0.out); rintro e w61 ⟨v555, rfl, ho0, hb⟩; have n0_ := Aside0.mk (Kd.R_below (by (with_reducible repeat (first | apply Kd.R_alloc | apply Kd.R_drewN | apply Kd.R_drew)); exact HO_7.out) hb); have n1_ := Aside0.mk (Kd.R_lower ho0 (below_size (by repeat (first | (with_reducible first | exact HB.out | apply below_alloc | apply pw_below_drewN | apply below_drew1) | exact HB.out)))); have n2_ := Aside0.mk (below_step (by repeat (first | (with_reducible first | exact HB.out | apply below_alloc | apply pw_below_drewN | apply below_drew1) | exact HB.out)) hb); clear HO_7; clear HB; have HO_7 := n0_; have HO556 := n1_; have HB := n2_; clear n0_ n1_ n2_; (try clear hb); (try clear hb2); (try clear hk); (try clear hi); (try clear ho0); obtain ⟨Ao62, co62, eo62⟩ := Kd.R_slice HO556.out; subst eo62))
                          go_ret
                          exact ⟨by first | rfl | (simp [errW_none, errW_some] <;> rfl) | (simp [*, errW_none, errW_some] <;> rfl), by repeat (first | (with_reducible first | exact HB.out | apply below_alloc | apply pw_below_drewN | apply below_drew1) | exact HB.out)⟩
                        · rw [if_neg c59] at H
                          have c59b0 : (a1 == 0) = false := beq_eq_false_iff_ne.mpr c59
                          have c59b1 : (a1 != 0) = true := bne_iff_ne.mpr c59
                          obtain rfl := Option.some.inj H
                          go_wp2
                          go_ret
                          exact ⟨by first | rfl | (simp [errW_none, errW_some] <;> rfl) | (simp [*, errW_none, errW_some] <;> rfl), by repeat (first | (with_reducible first | exact HB.out | apply below_alloc | apply pw_below_drewN | apply below_drew1) | exact HB.out)⟩
                      · replace c58 := Bool.eq_false_iff.mpr c58
                        subst c58
                        have H1 : (some false) = some r := by rw [if_neg (show ¬ (false = true) by decide)] at H; exact H
                        clear H
                        have H := H1
                        clear H1
                        obtain rfl := Option.some.inj H
                        go_wp2
                        go_ret
                        exact ⟨by first | rfl | (simp [errW_none, errW_some] <;> rfl) | (simp [*, errW_none, errW_some] <;> rfl), by repeat (first | (with_reducible first | exact HB.out | apply below_alloc | apply pw_below_drewN | apply below_drew1) | exact HB.out)⟩
  · replace c5 := Bool.eq_false_iff.mpr c5
    subst c5
    have H1 : (some t547) = some r := by rw [if_neg (show ¬ (false = true) by decide)] at H; exact H
    clear H
    have H := H1
    clear H1
    obtain rfl := Option.some.inj H
    go_enter Try.func7, Try.ntmps7
    go_wp2_with (first | ((with_reducible refine gate_callee (f := 13) rfl ?_); refine goesL_ (some 14) rfl rfl Try.func13 (by kernel_rfl) rfl #[] rfl (by (try simp only [List.map_toArray, List.map_cons, List.map_nil]); first | done | rfl | (simp only [List.length_drop, List.length_take]; rfl)) ?_; (with_reducible refine (swagelaw06_small.calls  t547 _ A3.out).mono ?_); rintro e w63 ⟨rfl, hb⟩; refine ⟨_, rfl, ?_⟩; have n0_ := Aside0.mk (below_step (by repeat (first | (with_reducible first | exact HB.out | apply below_alloc | apply pw_below_drewN | apply below_drew1) | exact HB.out)) hb); clear HB; have HB := n0_; clear n0_; (try clear hb); (try clear hb2); (try clear hk); (try clear hi)) | ((with_reducible refine gate_callee (f := 14) rfl ?_); refine goesL_ (some 16) rfl rfl Try.func14 (by kernel_rfl) rfl #[.slice A0 l0.length c0] rfl (by (try simp only [List.map_toArray, List.map_cons, List.map_nil]); first | done | rfl | (simp only [List.length_drop, List.length_take]; rfl)) ?_; (with_reducible refine (swagelaw06_Few.calls k _ _ l0 false _ ?side1 ?side2 A4.out).mono ?_); (case side1 => repeat (first | exact (Kd.C_below HR0.out HB.out) | (with_reducible refine Kd.C_alloc ?_ _) | (with_reducible refine Kd.C_drewN ?_ _) | (with_reducible refine Kd.C_drew ?_))); (case side2 => exact HC0.out); rintro e w' ⟨rfl, ⟨nd, rfl⟩⟩; refine ⟨_, rfl, ?_⟩))
    go_ret
    exact ⟨by first | rfl | (simp [errW_none, errW_some] <;> rfl) | (simp [*, errW_none, errW_some] <;> rfl), by repeat (first | (with_reducible first | exact HB.out | apply below_alloc | apply pw_below_drewN | apply below_drew1) | exact HB.out)⟩

end Go.Proofs.Ytkmbhknmjnbanaa.A


namespace Go.Proofs.Ytkmbhknmjnbanaa.A
open Go.RowKit Go.Proofs.YtkmbhknmjnbanaaW.PrintWords Go.Proofs.YtkmbhknmjnbanaaW.PrintLast Go.Shelf
set_option linter.unusedVariables false
set_option linter.unusedSimpArgs false

/-- how many of the first i blocks stand in a row -/
def cntIn (l : List Int) (i : Nat) : Nat := ((List.range i).filter fun k : Nat => decide ((k : Int) ∈ l)).length
theorem cntIn_succ (l : List Int) (i : Nat) : cntIn l (i + 1) = if (i : Int) ∈ l then cntIn l i + 1 else cntIn l i := by
  unfold cntIn
  rw [List.range_succ, List.filter_append]
  by_cases h : (i : Int) ∈ l <;> simp [h]
theorem cntIn_le (l : List Int) (i : Nat) : cntIn l i ≤ i := by
  unfold cntIn
  have := List.length_filter_le (fun k : Nat => decide ((k : Int) ∈ l)) (List.range i)
  rwa [List.length_range] at this
theorem cntIn_all {l : List Int} {n : Nat} (hnd : l.Nodup) (hl : ∀ x ∈ l, 0 ≤ x ∧ x < (n : Int)) : cntIn l n = l.length := by
  unfold cntIn
  have e : ((List.range n).filter fun k : Nat => decide ((k : Int) ∈ l)).length = (((List.range n).filter fun k : Nat => decide ((k : Int) ∈ l)).map fun k : Nat => (k : Int)).length := by rw [List.length_map]
  rw [e]
  refine Nat.le_antisymm ?_ ?_
  · refine List.Nodup.length_le_of_subset ?_ fun x hx => ?_
    · show List.Pairwise _ _
      rw [List.pairwise_map]
      exact (List.nodup_range.filter _).imp (fun h e => h (by omega))
    · obtain ⟨k, hk, rfl⟩ := List.mem_map.1 hx
      exact of_decide_eq_true (List.mem_filter.1 hk).2
  · refine List.Nodup.length_le_of_subset hnd fun x hx => ?_
    have := hl x hx
    obtain ⟨k, rfl⟩ := Int.eq_ofNat_of_zero_le this.1
    exact List.mem_map.2 ⟨k, List.mem_filter.2 ⟨List.mem_range.2 (by omega), decide_eq_true hx⟩, rfl⟩

theorem rdm {g : List (List Int)} {a : Nat} {m : List Bool} (hml : m.length = g.length) (hmk : ∀ i, i < g.length → (Mk m i ↔ Way g a i)) {i : Nat} (hi : i < g.length) : rdOf false m (i : Int) = true ↔ Way g a i := (mk_rd (by omega)).trans (hmk i hi)
theorem rs_l2 {g : List (List Int)} (hg : InG g) (hn : g.length ≤ 4096) (h8 : ∀ l ∈ g, l.length ≤ 8) {a : Nat} (ha : a < g.length) {m : List Bool} (hml : m.length = g.length) (hmk : ∀ i, i < g.length → (Mk m i ↔ Way g a i)) {c : Int} {i : Nat} (hi : i < g.length) (hnext : Evt (fun k => swagelaw06_GraphReaches.l0 k g a true m c ((i + 1 : Nat) : Int)) true) :
    ∀ (d j : Nat) (b : Bool), j + d = g.length → (Way g a i → b = true ∨ ∃ y, j ≤ y ∧ Way g a y ∧ Edge g y i) → Evt (fun k => swagelaw06_GraphReaches.l2 k g a true m c i b j) true := by
  intro d
  induction d with
  | zero =>
    intro j b hj hb
    refine Evt.step hnext fun k => ?_
    rw [swagelaw06_GraphReaches.l2, if_neg (by omega), if_pos (by omega), if_pos (by omega), wsucc (by omega)]
    by_cases hw : Way g a i
    · have hb' : b = true := (hb hw).resolve_right fun ⟨y, h1, h2, h3⟩ => by have := h3.lt1; omega
      rw [if_pos ((rdm hml hmk hi).2 hw), if_pos hb']
    · rw [if_neg (fun h => hw ((rdm hml hmk hi).1 h))]
  | succ d ih =>
    intro j b hj hb
    have hjl : j < g.length := by omega
    have h88 := h8 _ (rowOf_mem hjl)
    have H : ∀ (e kk : Nat) (b : Bool), kk + e = (rowOf g j).length → (Way g a i → b = true ∨ (Way g a j ∧ (i : Int) ∈ (rowOf g j).drop kk) ∨ ∃ y, j + 1 ≤ y ∧ Way g a y ∧ Edge g y i) → Evt (fun k => swagelaw06_GraphReaches.l3 k g a true m c i b j kk) true := by
      intro e
      induction e with
      | zero =>
        intro kk b hk hb
        refine Evt.step (ih (j + 1) b (by omega) fun hw => ?_) fun k => ?_
        · rcases hb hw with h | h | h
          · exact .inl h
          · rw [List.drop_eq_nil_of_le (by omega)] at h; exact absurd h.2 (by simp)
          · exact .inr h
        · rw [swagelaw06_GraphReaches.l3, if_pos (by omega), if_pos (by omega), rdL, if_neg (by omega), wsucc (by omega)]
      | succ e ihe =>
        intro kk b hk hb
        have hlt : kk < (rowOf g j).length := by omega
        cases b with
        | true =>
          refine Evt.step (ihe (kk + 1) true (by omega) fun _ => .inl rfl) fun k => ?_
          rw [swagelaw06_GraphReaches.l3, if_pos (by omega), if_pos (by omega), rdL, if_pos (by omega), if_pos rfl, wsucc (by omega)]
        | false =>
          by_cases hw : Way g a j
          · refine Evt.step (ihe (kk + 1) ((rowOf g j)[kk] == (i : Int)) (by omega) fun hwi => ?_) fun k => ?_
            · rcases hb hwi with h | h | h
              · cases h
              · have h2 := h.2
                rw [List.drop_eq_getElem_cons hlt] at h2
                rcases List.mem_cons.1 h2 with h2 | h2
                · exact .inl (by rw [← h2]; simp)
                · exact .inr (.inl ⟨hw, h2⟩)
              · exact .inr (.inr h)
            · rw [swagelaw06_GraphReaches.l3, if_pos (by omega), if_pos (by omega), rdL, if_pos (by omega), if_neg (by simp), if_pos (by omega), if_pos ((rdm hml hmk hjl).2 hw), if_pos (by omega), rdI hlt, wsucc (by omega)]
          · refine Evt.step (ihe (kk + 1) false (by omega) fun hwi => ?_) fun k => ?_
            · rcases hb hwi with h | h | h
              · cases h
              · exact absurd h.1 hw
              · exact .inr (.inr h)
            · rw [swagelaw06_GraphReaches.l3, if_pos (by omega), if_pos (by omega), rdL, if_pos (by omega), if_neg (by simp), if_pos (by omega), if_neg (fun h => hw ((rdm hml hmk hjl).1 h)), wsucc (by omega)]
    refine Evt.step (H (rowOf g j).length 0 b (by omega) fun hw => ?_) fun k => ?_
    · rcases hb hw with h | ⟨y, h1, h2, h3⟩
      · exact .inl h
      · by_cases e : y = j
        · subst e; exact .inr (.inl ⟨h2, by rw [List.drop_zero]; exact h3⟩)
        · exact .inr (.inr ⟨y, by omega, h2, h3⟩)
    · rw [swagelaw06_GraphReaches.l2, if_pos (by omega)]
      rfl
theorem rs_l1 {g : List (List Int)} (hg : InG g) (hn : g.length ≤ 4096) (h8 : ∀ l ∈ g, l.length ≤ 8) {a : Nat} (ha : a < g.length) {m : List Bool} (hml : m.length = g.length) (hmk : ∀ i, i < g.length → (Mk m i ↔ Way g a i)) {c : Int} {i : Nat} (hi : i < g.length) (hnext : Evt (fun k => swagelaw06_GraphReaches.l0 k g a true m c ((i + 1 : Nat) : Int)) true) :
    ∀ (d j : Nat), j + d = (rowOf g i).length → Evt (fun k => swagelaw06_GraphReaches.l1 k g a true m c i j) true := by
  intro d
  have h88 := h8 _ (rowOf_mem hi)
  induction d with
  | zero =>
    intro j hj
    refine Evt.step (rs_l2 hg hn h8 ha hml hmk (c := c) hi hnext g.length 0 ((i : Int) == (a : Int)) (by omega) fun hw => ?_) fun k => ?_
    · cases hw with
      | refl => exact .inl (by simp)
      | step h e => exact .inr ⟨_, Nat.zero_le _, h, e⟩
    · rw [swagelaw06_GraphReaches.l1, if_pos (by omega), if_pos (by omega), rdL, if_neg (by omega)]
      rfl
  | succ d ih =>
    intro j hj
    have hlt : j < (rowOf g i).length := by omega
    have hx := hg _ (rowOf_mem hi) _ (List.getElem_mem hlt)
    obtain ⟨x, ex⟩ := Int.eq_ofNat_of_zero_le hx.1
    refine Evt.step (ih (j + 1) (by omega)) fun k => ?_
    by_cases hw : Way g a i
    · have hwx : Way g a x := hw.step (show Edge g i x by unfold Edge; rw [← ex]; exact List.getElem_mem hlt)
      rw [swagelaw06_GraphReaches.l1, if_pos (by omega), if_pos (by omega), rdL, if_pos (by omega), if_pos (by omega), if_pos ((rdm hml hmk hi).2 hw), if_pos (by omega), rdI hlt, ex, if_pos (by omega), if_pos (by omega), if_pos ((rdm hml hmk (by omega)).2 hwx), wsucc (by omega)]
    · rw [swagelaw06_GraphReaches.l1, if_pos (by omega), if_pos (by omega), rdL, if_pos (by omega), if_pos (by omega), if_neg (fun h => hw ((rdm hml hmk hi).1 h)), wsucc (by omega)]
theorem rs_l0 {g : List (List Int)} (hg : InG g) (hn : g.length ≤ 4096) (h8 : ∀ l ∈ g, l.length ≤ 8) {a : Nat} (ha : a < g.length) {m : List Bool} (hml : m.length = g.length) (hmk : ∀ i, i < g.length → (Mk m i ↔ Way g a i)) (hend : a = 0 → ((cntIn (walkOf g a) g.length : Int) == ((orderOf g).length : Int)) = true) : ∀ (d i : Nat), i + d = g.length → Evt (fun k => swagelaw06_GraphReaches.l0 k g a true m (cntIn (walkOf g a) i : Int) i) true := by
  intro d
  induction d with
  | zero =>
    intro i hi
    obtain rfl : i = g.length := by omega
    refine Evt.step (Evt.const rfl) fun k => ?_
    rw [swagelaw06_GraphReaches.l0, if_neg (by omega), if_pos rfl]
    unfold graph_Order.f
    rw [Option.bind_some]
    by_cases h0 : a = 0
    · rw [if_pos (by omega), hend h0]
    · rw [if_neg (by omega)]
  | succ d ih =>
    intro i hi
    have hil : i < g.length := by omega
    have hc := cntIn_le (walkOf g a) i
    have ih' := ih (i + 1) (by omega)
    rw [cntIn_succ] at ih'
    by_cases hw : Way g a i
    · rw [if_pos ((walk_mem hg ha i).2 hw)] at ih'
      refine Evt.step (Evt.step (rs_l1 hg hn h8 ha hml hmk hil ih' (rowOf g i).length 0 (by omega)) (f := fun k => swagelaw06_GraphReaches.j3 k g a true m ((cntIn (walkOf g a) i + 1 : Nat) : Int) i) fun k => ?_) fun k => ?_
      · rw [swagelaw06_GraphReaches.j3]; rfl
      · rw [swagelaw06_GraphReaches.l0, if_pos (by omega), if_pos (by omega), if_pos (by omega), if_pos ((rdm hml hmk hil).2 hw), wsucc (by omega)]
    · rw [if_neg (fun h => hw ((walk_mem hg ha i).1 h))] at ih'
      refine Evt.step (Evt.step (rs_l1 hg hn h8 ha hml hmk hil ih' (rowOf g i).length 0 (by omega)) (f := fun k => swagelaw06_GraphReaches.j3 k g a true m (cntIn (walkOf g a) i : Int) i) fun k => ?_) fun k => ?_
      · rw [swagelaw06_GraphReaches.j3]; rfl
      · rw [swagelaw06_GraphReaches.l0, if_pos (by omega), if_pos (by omega), if_pos (by omega), if_neg (fun h => hw ((rdm hml hmk hil).1 h))]
theorem reaches_pure (g : List (List Int)) (a : Int) : ∃ k, swagelaw06_GraphReaches.f k g a = some true := by
  obtain ⟨r, hf, hr⟩ := few_ev g
  suffices H : Evt (fun k => swagelaw06_GraphReaches.f k g a) true from H.get
  unfold swagelaw06_GraphReaches.f swagelaw06_small.f
  simp only [Option.bind_some]
  refine Evt.bind hf ?_
  cases r with
  | false => exact Evt.const rfl
  | true =>
    have hn : g.length ≤ 40 := hr rfl
    have hno : reachRes g a = [] → Evt (fun k => swagelaw06_GraphReaches.j0 k g a true (reachRes g a) true) true := fun e => by
      rw [e]
      exact Evt.step (Evt.const rfl) fun k => by rw [swagelaw06_GraphReaches.j0, if_pos rfl, if_pos rfl]; rfl
    unfold graph_Reach.f graph_Right.f
    simp only [if_true, Option.bind_some]
    cases hrt : rightB g
    · simp only [Bool.false_eq_true, if_false]
      exact hno (by unfold reachRes; rw [hrt]; simp)
    · obtain ⟨e1, e2, hg⟩ := right_rows hrt
      simp only [if_true]
      by_cases h0 : a < 0
      · simp only [if_pos h0]
        exact hno (by unfold reachRes; rw [if_neg (by omega)])
      · simp only [if_neg h0]
        by_cases h1 : a ≥ (g.length : Int)
        · simp only [decide_eq_true h1]
          exact hno (by unfold reachRes; rw [if_neg (by omega)])
        · simp only [decide_eq_false h1]
          obtain ⟨n, rfl⟩ := Int.eq_ofNat_of_zero_le (show 0 ≤ a by omega)
          have hna : n < g.length := by omega
          have er : reachRes g (n : Int) = marks g.length (walkOf g n) := by unfold reachRes; rw [if_pos ⟨hrt, by omega, by omega⟩, Int.toNat_natCast]
          rw [er]
          have hmk : ∀ i, i < g.length → (Mk (marks g.length (walkOf g n)) i ↔ Way g n i) := fun i hi => by rw [mk_marks hi, walk_mem hg hna]
          have hml := marks_len g.length (walkOf g n)
          have hall := cntIn_all (walk_nodup hg hna) (visit_in_range hg g.length (met0 g) n hna)
          have hl0 := rs_l0 hg e1 (right_8 hrt) hna hml hmk (fun h => by subst h; rw [hall]; unfold orderOf; rw [if_pos hrt, List.length_reverse]; simp) g.length 0 (by omega)
          refine Evt.step (Evt.step hl0 (f := fun k => swagelaw06_GraphReaches.j1 k g n true (marks g.length (walkOf g n)) false) fun k => ?_) fun k => ?_
          · rw [swagelaw06_GraphReaches.j1, if_neg (by simp)]; rfl
          · rw [swagelaw06_GraphReaches.j0, if_neg (by simp), if_pos (by omega), if_pos (by omega), if_pos (by omega), (rdm hml hmk hna).2 (.refl _)]
            rfl
theorem law_reaches (A : Option Addr) (c : Nat) (g : List (List Int)) (a : Int) (w : World) (hC : Kd.C (Kd.slice 3 (Kd.int .i64)) w A g.length g) (hc : g.length ≤ c) (hp : ∀ x ∈ g, ∀ y ∈ x, (Lit.int .i64 y).wf = true) (ha : (Lit.int .i64 a).wf = true) :
    Calls Try.prog 7 #[.slice A g.length c, .int .i64 a] w fun e w' => e = .returned (.bool true) ∧ Below w.heap.size w w' := by
  obtain ⟨k, hk⟩ := reaches_pure g a
  exact swagelaw06_GraphReaches.calls k A c g a true w hC hc hk
end Go.Proofs.Ytkmbhknmjnbanaa.A


namespace Go.Proofs.Ytkmbhknmjnbanaa.A
open Go.Deep Go.RowKit Go.Proofs.YtkmbhknmjnbanaaW.PrintWords Go.Proofs.YtkmbhknmjnbanaaW.PrintLast
set_option linter.unusedVariables false
set_option linter.unusedSimpArgs false

section
variable {H : Type} {enc : TypeId × Value → H} {P : Program} {w : World} {base : Nat} {α : Type} [Inhabited α]

def Opens (enc : TypeId × Value → H) (P : Program) (w : World) (base : Nat) (t : TypeId) (d : Kd α) (p : α → Prop) : Prop :=
  ∀ fuel cs x, DataW.trod enc P w base (fun _ => true) true fuel t cs = some x → ∃ y, d.K w y cs ∧ p y

theorem opens_int {t : TypeId} {k : IntKind} (ht : P.underlying t = some (.int k)) : Opens enc P w base t (Kd.int k) (fun n => (Lit.int k n).wf = true) := by
  intro fuel cs x h
  obtain ⟨n, rfl, _, hw⟩ := DataW.trod_int ht h
  exact ⟨n, rfl, hw⟩

theorem opens_slice {t e : TypeId} {d : Kd α} {p : α → Prop} (ht : P.underlying t = some (.slice e)) (hc : P.cellsOf e = d.sz) (ho : Opens enc P w base e d p) : Opens enc P w base t (Kd.slice e d) (fun xs => ∀ x ∈ xs, p x) := by
  intro fuel cs x h
  rcases open_slice ht h with ⟨rfl, _⟩ | ⟨a, len, cap, m, n, D, Pl, rfl, hb, hl, hm, hmm, _, hx⟩
  · exact ⟨[], ⟨none, 0, rfl, Nat.le_refl _, rfl, by simp, fun h => by simp at h⟩, fun x hx => by simp at hx⟩
  · simp only [if_true] at hmm
    obtain ⟨Y, hY⟩ := choose_lt (α := α) (n := len) (p := fun i y => p y ∧ ∃ c, d.K w y c ∧ ∀ j u, c[j]? = some u → w.cell? (a.add (i * d.sz + j)) = some u) (fun i hi => by
      obtain ⟨cs', h1, h2⟩ := hx i (by omega)
      obtain ⟨y, hy, hp⟩ := ho _ _ _ h2
      obtain ⟨_, hlen, hcell⟩ := World.cells?_some h1
      refine ⟨y, hp, cs', hy, fun j u hj => ?_⟩
      have hj' : j < cs'.length := (List.getElem?_eq_some_iff.1 hj).1
      have := hcell j (by omega)
      rw [hj, hc] at this
      rwa [Addr.add_add] at this)
    have hlen : ((List.range len).map Y).length = len := by simp
    refine ⟨(List.range len).map Y, ⟨some a, cap, by rw [hlen], by rw [hlen]; exact hl, hlen.trans hlen.symm, by rw [hlen]; unfold maxLen at hm; omega, fun _ => ⟨a, rfl, fun j y hj => ?_⟩⟩, fun y hy => ?_⟩
    · have hjl : j < len := by have := (List.getElem?_eq_some_iff.1 hj).1; omega
      rw [List.getElem?_map, List.getElem?_range hjl] at hj
      obtain rfl := Option.some.inj hj
      obtain ⟨_, c, hk, hcell⟩ := hY j hjl
      exact ⟨c, d.K_len hk, hk, hcell⟩
    · obtain ⟨i, hi, rfl⟩ := List.mem_map.1 hy
      exact (hY i (List.mem_range.1 hi)).1
omit [Inhabited α] in
/-- of a parameter: a slice -/
theorem opens_param {t e : TypeId} {d : Kd α} {p : List α → Prop} (ho : Opens enc P w base t (Kd.slice e d) p) {A : Option Addr} {len cap : Nat} {x : DataW H} {ps : List MemPlace} (h : DataW.Trod enc P w base (fun _ => true) true t (.slice A len cap) x ps) :
    ∃ xs : List α, len = xs.length ∧ xs.length ≤ cap ∧ d.C w A xs.length xs ∧ p xs := by
  obtain ⟨fuel, hf⟩ := h
  obtain ⟨xs, ⟨A', c', he, hl, hC⟩, hp⟩ := ho _ _ _ hf
  simp [Value.cells] at he
  obtain ⟨rfl, rfl, rfl⟩ := he
  exact ⟨xs, rfl, hl, hC, hp⟩
end

theorem opens_graph {H : Type} {enc : TypeId × Value → H} {w : World} {base : Nat} : Opens enc Try.prog w base 22 (Kd.slice 27 (Kd.slice 3 (Kd.int .i64))) (fun xs => ∀ x ∈ xs, ∀ y ∈ x, (Lit.int .i64 y).wf = true) :=
  opens_slice Try.underlying22 (by kernel_rfl) (opens_slice Try.underlying27 (by kernel_rfl) (opens_int Try.underlying3))
end Go.Proofs.Ytkmbhknmjnbanaa.A

