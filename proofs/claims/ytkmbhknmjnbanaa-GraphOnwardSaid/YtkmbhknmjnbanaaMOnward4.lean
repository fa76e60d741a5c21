/- Parts of the proof, in the order in which they rest on one another. -/
import Derived.Test.YtkmbhknmjnbanaaMOnward3
import Derived.Below
import Derived.Deep.Draws
import Derived.Deep.AppendLies
import Derived.Maps.AppendAt
import Derived.OwnWalk
import Derived.Laws.BytesArg
import Derived.Laws.MakeOwn
import Derived.Laws.OwnMore
import Derived.Deep.OwnRows
import Derived.Tactics
import Derived.Lib.ConvBytes
import Derived.Laws.Slices
import Derived.WalkKit
import Derived.KernelRfl
import Derived.RowKit3
import Derived.Deep.LoopGhost
import Derived.Deep.QuietTactic
import Derived.BigQuiet
import Derived.WideLaws
import Derived.Deep.DeepCutAuto
import Derived.Deep.CutBlock
import Derived.Deep.RegionHeld3
import Derived.Laws.Rows
import Derived.Lib.AppendStr
import Derived.ArgAppend
import Derived.Laws.IdiomCopy
import Derived.RowKit
import Derived.OrdersHeld
import Derived.Laws.BitsLemmas
import Derived.Laws.StructEq
import Derived.Test.YtkmbhknmjnbanaaProg
import Derived.Shelf.Abstract
import Derived.Lib.Walk
import Derived.RangeFuncWrites
import Derived.RangeFuncNested
import Derived.RangeFuncBound
import Derived.RangeFuncCalls
import Derived.RangeFuncLeaves
import Derived.Shelf.RegionOpen
import Derived.OwnWalkIn
import Derived.TacticsInMore
import Derived.LoopNIn
import Derived.LoopIn
import Derived.Laws.EntriesVeiled
import Derived.RangeFuncBox
import Derived.Laws.CopyOwn
import Derived.Deep.RegionLaw
import Derived.BigRegion
import Derived.WalkSpells
import Derived.Shelf.SlIterI.Nil
import Derived.Shelf.SortM.Plain
import Derived.Shelf.SortM.SortNone
import Derived.Ground.GgzProg
import Derived.Ground.SlgmProg
import Derived.Shelf.SlGeneric
import Derived.Maps.Own
import Derived.Maps.OwnOps
import Derived.Maps.OwnSet
import Derived.Maps.Views
import Derived.RangeFuncRecord
import Derived.Deep.RegionLawGrows
import Derived.Deep.Upon
import Derived.Maps.OwnRows
import Derived.Maps.GroupsBeside
import Derived.OpenShut
import Derived.Deep.Slices
import Derived.ChangeArms
namespace Go.Proofs.Ytkmbhknmjnbanaa.A
open Go.RowKit Go.Maps Go.Proofs.YtkmbhknmjnbanaaW.PrintWords Go.Proofs.YtkmbhknmjnbanaaW.PrintLast Go.Shelf
set_option linter.unusedVariables false
set_option linter.unusedSimpArgs false

/-- where edges come back from, by head -/
def hfold (l : List S37) : Int → List Int := l.foldl (fun H e => gupd H e.f1 e.f0) (fun _ => [])
theorem hfold_snoc (l : List S37) (e : S37) : hfold (l ++ [e]) = gupd (hfold l) e.f1 e.f0 := by simp [hfold]
def headsOf (n : Nat) (H : Int → List Int) : List Int := ((List.range n).filter fun k : Nat => !(H (k : Int)).isEmpty).map fun k : Nat => (k : Int)
def loopsOf (g : List (List Int)) : List (List Int) :=
  (headsOf g.length (hfold (backOf g))).map fun h => bodyRes (predsOf g) (reachRes g 0) h.toNat (hfold (backOf g) h)
theorem brow_in {at_ : List Int} {g : List (List Int)} {i : Nat} (hi : i < g.length) : ∀ (l : List Int) (out : List S37), (∀ x ∈ l, 0 ≤ x ∧ x < (g.length : Int)) → (∀ e ∈ out, (0 ≤ e.f0 ∧ e.f0 < (g.length : Int)) ∧ 0 ≤ e.f1 ∧ e.f1 < (g.length : Int)) → ∀ e ∈ brow at_ i out l, (0 ≤ e.f0 ∧ e.f0 < (g.length : Int)) ∧ 0 ≤ e.f1 ∧ e.f1 < (g.length : Int)
  | [], out, _, h => h
  | x :: l, out, hl, h => by
    refine brow_in hi l (bstep at_ i out x) (fun y hy => hl y (by simp [hy])) ?_
    unfold bstep
    split
    · intro e he
      rcases List.mem_append.1 he with he | he
      · exact h e he
      · simp only [List.mem_singleton] at he
        subst he
        exact ⟨⟨by show (0 : Int) ≤ (i : Int); omega, by show (i : Int) < _; omega⟩, hl x (by simp)⟩
    · exact h
theorem back_in (g : List (List Int)) : ∀ e ∈ backOf g, (0 ≤ e.f0 ∧ e.f0 < (g.length : Int)) ∧ 0 ≤ e.f1 ∧ e.f1 < (g.length : Int) := by
  unfold backOf
  cases hr : rightB g
  · intro e he; simp at he
  · obtain ⟨h1, h2, h3⟩ := right_rows hr
    rw [if_pos rfl]
    suffices H : ∀ m, m ≤ g.length → ∀ e ∈ bfold (placesOf g) g m, (0 ≤ e.f0 ∧ e.f0 < (g.length : Int)) ∧ 0 ≤ e.f1 ∧ e.f1 < (g.length : Int) from H _ (Nat.le_refl _)
    intro m
    induction m with
    | zero => intro _ e he; simp [bfold] at he
    | succ m ih =>
      intro hm
      rw [bfold_succ]
      exact brow_in (by omega) _ _ (h3 _ (rowOf_mem (by omega))) (ih (by omega))
theorem back_len (g : List (List Int)) : (backOf g).length ≤ 40000 := by
  unfold backOf
  cases hr : rightB g
  · simp
  · obtain ⟨h1, h2, h3⟩ := right_rows hr
    rw [if_pos rfl]
    have := bfold_len (at_ := placesOf g) (right_8 hr) g.length (Nat.le_refl _)
    omega

theorem hfold_mem (l : List S37) (k y : Int) : y ∈ hfold l k ↔ ∃ e ∈ l, e.f1 = k ∧ e.f0 = y := by
  unfold hfold
  suffices H : ∀ F : Int → List Int, y ∈ l.foldl (fun H e => gupd H e.f1 e.f0) F k ↔ y ∈ F k ∨ ∃ e ∈ l, e.f1 = k ∧ e.f0 = y by
    have := H (fun _ => []); simpa using this
  induction l with
  | nil => intro F; simp
  | cons x l ih =>
    intro F
    rw [List.foldl_cons, ih]
    unfold gupd
    by_cases e : k = x.f1
    · subst e
      rw [if_pos rfl, List.mem_append, List.mem_singleton]
      constructor
      · rintro ((h | h) | ⟨e, h1, h2⟩)
        · exact .inl h
        · exact .inr ⟨x, by simp, rfl, h.symm⟩
        · exact .inr ⟨e, by simp [h1], h2⟩
      · rintro (h | ⟨e, h1, h2⟩)
        · exact .inl (.inl h)
        · rcases List.mem_cons.1 h1 with rfl | h1
          · exact .inl (.inr h2.2.symm)
          · exact .inr ⟨e, h1, h2⟩
    · rw [if_neg e]
      constructor
      · rintro (h | ⟨e', h1, h2⟩)
        · exact .inl h
        · exact .inr ⟨e', by simp [h1], h2⟩
      · rintro (h | ⟨e', h1, h2⟩)
        · exact .inl h
        · rcases List.mem_cons.1 h1 with rfl | h1
          · exact absurd h2.1.symm e
          · exact .inr ⟨e', h1, h2⟩

set_option maxRecDepth 100000 in
set_option maxHeartbeats 4000000 in
theorem loops_calls (A : Option Addr) (c : Nat) (g : List (List Int)) (w : World) (h : Kd.C (Kd.slice 3 (Kd.int .i64)) w A g.length g) (hc : g.length ≤ c) :
    Calls Try.prog 32 #[.slice A g.length c] w fun e w' => ∃ v, e = .returned v ∧ Kd.S (Kd.slice 3 (Kd.int .i64)) 27 w' w.heap.size (fun _ => True) v (loopsOf g) ∧ Below w.heap.size w w' := by
  have hmm := @run_makeMap Try.prog
  have hu37 := Try.underlying37
  obtain ⟨kb, hkb⟩ := (back_ev g).get
  have hbw : Below w.heap.size w (w.alloc (.map #[] 0)) := below_alloc (Below.refl _ _) _
  have hbk := graph_Back.calls kb A c g _ (w.alloc (.map #[] 0)) (Kd.C_below h hbw) hc hkb
  have hin := back_in g
  have hbl := back_len g
  have hGm := GrpAt.made w
  have hgl : 0 < (backOf g).length → g.length ≤ 4096 := by
    unfold backOf
    cases hr : rightB g
    · intro h; simp at h
    · intro _; exact (right_rows hr).1
  have hrt0 : 0 < (backOf g).length → rightB g = true := by
    unfold backOf
    cases hr : rightB g
    · intro h; simp at h
    · intro _; rfl
  unfold loopsOf
  generalize backOf g = bs at hbk hin hbl hgl hrt0 ⊢
  go_enter Try.func32, Try.ntmps32
  go_wp2_with fail
  refine hbk.mono ?_
  rintro e w1 ⟨v1, rfl, hv1, hb1⟩
  obtain ⟨A1, c1, rfl⟩ := Kd.R_slice hv1
  have hsz1 : (w.alloc (.map #[] 0)).heap.size = w.heap.size + 1 := by simp
  have hC1 := Aside0.mk (show Kd.R k37 37 w1 (w.heap.size + 1) (fun _ => True) (.slice A1 bs.length c1) bs by rw [← hsz1]; exact hv1)
  have hG1 : GrpAt w1 w.heap.size 0 (fun _ => []) := hGm.grown (grown_of_below hb1 none)
  have hB1 := Aside0.mk (hbw.trans (hb1.mono (by rw [hsz1]; omega)))
  clear hbk hv1 hb1 hGm
  go_wp2_with fail
  go_loopw [15] (fun s wr => ∃ m : Nat, m ≤ bs.length ∧ s = .int .i64 m ∧ Aside0 (GrpAt wr w.heap.size m (hfold (bs.take m))) ∧ Aside0 (Kd.R k37 37 wr (w.heap.size + 1) (fun _ => True) (.slice A1 bs.length c1) bs) ∧ Aside0 (Below w.heap.size w wr))
    (fun s _ => bs.length - (RowKit.intOf s).toNat)
  case atStart => exact ⟨0, Nat.zero_le _, rfl, ⟨hG1⟩, hC1, hB1⟩
  case round =>
    obtain ⟨m, hm, rfl, hG, hC, hB⟩ := hrel
    by_cases hlt : m < bs.length
    · have hmn : (m : Int) < (bs.length : Int) := by omega
      have hm0 : (0 : Int) ≤ (m : Int) := by omega
      obtain ⟨ad, rfl, q0, q1⟩ := at_T37 (Kd.R_reads' hC.out).2.2 (m : Int) hm0 hmn
      rw [Int.toNat_natCast] at q0 q1
      have htk : bs.take (m + 1) = bs.take m ++ [rd_T37 bs m] := by
        rw [List.take_succ_eq_append_getElem hlt]
        simp [rd_T37, hlt]
      have hme := hin (rd_T37 bs m) (by simp [rd_T37, hlt])
      have hsn := hfold_snoc (bs.take m) (rd_T37 bs m)
      rw [← htk] at hsn
      have hsn' := Aside0.mk hsn
      clear htk hsn
      generalize rd_T37 bs (m : Int) = e at q0 q1 hme hsn'
      obtain ⟨f0, f1⟩ := e
      dsimp only at q0 q1 hme hsn'
      have hgl' := hgl (by omega)
      have hw0 : Wf f0 := wf_small hme.1.1 (by omega)
      have hw1 : Wf f1 := wf_small hme.2.1 (by omega)
      obtain ⟨W3, hW3⟩ : ∃ W3, wr.alloc (.cells #[.int .i64 f0, .int .i64 f1] 37) = W3 := ⟨_, rfl⟩
      have hgr3 : wr.grownBy W3 none := by rw [← hW3]; exact World.grownBy_alloc _ _ _
      have hB3 : Below w.heap.size w W3 := by rw [← hW3]; exact below_alloc hB.out _
      have e0 : W3.cell? ⟨wr.heap.size, 0, none⟩ = some (.int .i64 f0) := by rw [← hW3]; simp [go_sem]
      have e1 : W3.cell? ⟨wr.heap.size, 1, none⟩ = some (.int .i64 f1) := by rw [← hW3]; simp [go_sem]
      have hG3 : GrpAt W3.drew w.heap.size m (hfold (bs.take m)) := hG.out.grown (show wr.grownBy W3.drew none from ⟨hgr3.os, hgr3.tape, hgr3.output, hgr3.size, hgr3.block⟩)
      obtain ⟨i0, hi, hz0, hz1, hz2⟩ := info_parts info3
      obtain ⟨W4, hW4⟩ : ∃ W4, W3.drew.alloc (.cells #[.int .i64 f0] 3) = W4 := ⟨_, rfl⟩
      have hgr4 : W3.drew.grownBy W4 none := by rw [← hW4]; exact World.grownBy_alloc _ _ _
      have hG4 := hG3.grown hgr4
      have e2 : W4.cell? ⟨wr.heap.size, 0, none⟩ = some (.int .i64 f0) := by rw [← hW4]; exact (World.cell?_alloc_lt _ _ _ (World.block_lt_of_cell? W3 _ e0)).trans e0
      have e3 : W4.cell? ⟨wr.heap.size, 1, none⟩ = some (.int .i64 f1) := by rw [← hW4]; exact (World.cell?_alloc_lt _ _ _ (World.block_lt_of_cell? W3 _ e1)).trans e1
      obtain ⟨v, l1, l2, l3, l4⟩ := hG4.look (by unfold maxLen; omega) hw1
      have l0 := hG3.look2 hgr4 hw1 l1
      have hown4 : W4.ownsRow (w.heap.size + 1) 3 1 v (hfold (bs.take m) f1).length ((hfold (bs.take m) f1).map (Value.int .i64)) := l2.1
      have hsz4 : W4.heap.size = W3.heap.size + 1 := by rw [← hW4]; simp
      obtain ⟨v', W5, a1, a2, a3, a4, a5⟩ := run_append_own_at (P := Try.prog) W4 (w.heap.size + 1) 27 27 3 i0 _ 1 8 Try.underlying27 hi hz0 hz1 hz2 rfl (by decide) v _ _ hown4 ⟨W3.heap.size, 0, none⟩ 1 1 [.int .i64 f0] rfl (by rw [← hW4]; exact cell_one_new W3.drew _ _) (by simp [Value.oneCell']) (by unfold maxLen; omega) (by omega) (by have := hB3.size; omega)
      have hB4 : Below w.heap.size w W4 := (hB3.trans (show Below w.heap.size W3 W3.drew from ⟨rfl, rfl, rfl, Nat.le_refl _, fun _ _ => rfl⟩)).grown hgr4 (show w.heap.size ≤ W3.drew.heap.size from hB3.size) (fun j ej => by cases ej)
      have hblk : W4.heap[wr.heap.size]? = some (.cells #[.int .i64 f0, .int .i64 f1] 37 (0, 0)) := by
        rw [← hW4, Below.heap_alloc _ _ _ (by show wr.heap.size < W3.heap.size; rw [← hW3]; simp)]
        show W3.heap[wr.heap.size]? = _
        rw [← hW3]; exact World.alloc_heap_new _ _
      have hne : some wr.heap.size ≠ v.ownBlock := by
        intro e
        rcases l2.1.2 with ⟨rfl, _⟩ | ⟨gg, cap, cur, rfl, _, hgb, _⟩
        · simp [Value.ownBlock] at e
        · obtain rfl : wr.heap.size = gg := by simpa [Value.ownBlock] using e
          rw [hblk] at hgb
          cases hgb
      have e4 : W5.cell? ⟨wr.heap.size, 1, none⟩ = some (.int .i64 f1) := by
        have hb5 := a3.block wr.heap.size (Array.getElem?_eq_some_iff.1 hblk).1 hne
        unfold World.cell? at e3 ⊢
        rw [show (⟨wr.heap.size, 1, none⟩ : Addr).block = wr.heap.size from rfl] at e3 ⊢
        rw [hb5]; exact e3
      obtain ⟨W6, u1, u2, u3⟩ := l4 W5 v' f0 a3 ⟨by rw [List.length_append, List.map_append]; exact a2, fun z hz => by
        rcases List.mem_append.1 hz with hz | hz
        · exact l2.2 z hz
        · simp only [List.mem_singleton] at hz; subst hz; exact hw0⟩ (a5.imp id fun h => ⟨_, h, Nat.le_refl _⟩)
      have u2' := Aside0.mk u2
      have hB6 : Aside0 (Below w.heap.size w W6) := ⟨(hB4.grown a3 hB4.size (fun j ej => by have := (own_base l2.1 j ej).1; omega)).grown u3 (Nat.le_trans hB4.size a3.size) (fun j ej => by cases ej; exact Nat.le_refl _)⟩
      have hC4 : Kd.R k37 37 W4 (w.heap.size + 1) (fun _ => True) (.slice (some ad) bs.length c1) bs := by
        refine Kd.R_grown (Kd.R_grown hC.out (show wr.grownBy W3.drew none from ⟨hgr3.os, hgr3.tape, hgr3.output, hgr3.size, hgr3.block⟩) (fun _ _ => by simp)) hgr4 (fun _ _ => by simp)
      have hRv : Kd.R (Kd.int .i64) 3 W4 (w.heap.size + 1) (fun _ => True) v (hfold (bs.take m) f1) := Kd.R_of_own l2.1 (fun _ _ => trivial)
      have hC5 := Kd.R_over hC4 hRv (by decide) a3
      have hC6 := Aside0.mk (Kd.R_mono (Kd.R_grown (Kd.R_bound hC5) u3 (fun k hk => by have := hk.2.1; intro e; injection e with e; omega)) (fun _ _ => trivial))
      clear l4 u2 u3 a2 a3 a4 a5 hown4 l2 hG3 hG4 hgr4
      go_wp2_with fail
      go_region_law (refine step_append_run rfl (.tmp 25) (.tmp 28) 27 rfl v (.slice (some ⟨W3.heap.size, 0, none⟩) 1 1) v' W5 (by simp [Act.eval, Act.put]) (by simp [Act.eval, Act.put]) a1 ?_)
      all_goals
        go_wp2_with fail
        go_roundw
        case rel => exact ⟨m + 1, by omega, by go_num, ⟨by rw [hsn'.out]; exact u2'.out⟩, hC6, hB6⟩
        case measure => simp [RowKit.intOf]; omega
    · obtain rfl : m = bs.length := by omega
      have hG2 := hG.out
      rw [List.take_length] at hG2
      generalize hH : hfold bs = H at hG2 ⊢
      obtain ⟨kp, hkp⟩ := (preds_ev g).get
      generalize hP00 : (if rightB g = true then predsOf g else []) = P0 at hkp
      have hP0 := Aside0.mk hP00
      clear hP00
      have hpr := graph_Preds.calls kp A c g _ wr (Kd.C_below h hB.out) hc hkp
      have hG2' := Aside0.mk hG2
      clear hG hG2 hC hC1 hG1
      go_wp2_with fail
      refine hpr.mono ?_
      rintro e w2 ⟨v2, rfl, hv2, hb2⟩
      have hB2 := hB.out.trans (hb2.mono hB.out.size)
      have hre := graph_Reach.calls A c g 0 _ w2 (Kd.C_below h hB2) hc rfl
      go_wp2_with fail
      refine hre.mono ?_
      rintro e w3 ⟨v3, rfl, hv3, hb3⟩
      have hG3 : GrpAt w3 w.heap.size bs.length H := (hG2'.out.grown (grown_of_below hb2 none)).grown (grown_of_below hb3 none)
      have hB3 := hB2.trans (hb3.mono hB2.size)
      obtain ⟨D, Rr, hown, hhas⟩ := hG3.keys
      have hso := sorted58_calls w.heap.size bs.length _ w3 hown hhas (by omega)
      have hv2' := Kd.S_below hv2 hb3
      obtain ⟨A2, c2, rfl⟩ := Kd.S_slice hv2'
      obtain ⟨A3, c3, rfl⟩ := Kd.R_slice hv3
      have hP2 := Aside0.mk (Kd.S_reads' hv2').2.2
      have hP3 := Aside0.mk (Kd.R_reads' hv3).2.2
      have hG3' := Aside0.mk hG3
      have hB3' := Aside0.mk hB3
      clear hpr hre hv2 hv3 hb2 hb3 hB2 hB3 hB hG2' hG3 hv2' hown hhas
      go_wp2_with fail
      refine (keys58_calls _ _).mono ?_
      rintro e w' ⟨rfl, rfl⟩
      go_wp2_with fail
      refine hso.mono ?_
      rintro e w5 ⟨v5, ks, rfl, k1, k2, k3, k4, k5⟩
      obtain ⟨A5, c5, rfl⟩ := Kd.R_slice k4
      have hG5 := Aside0.mk (hG3'.out.grown (grown_of_below k5 none))
      have hQ2 := Aside0.mk (Kd.C_below hP2.out k5)
      have hQ3 := Aside0.mk (Kd.C_below hP3.out k5)
      have hK5 := Aside0.mk (Kd.R_reads' k4).2.2
      have hB5 := Aside0.mk (hB3'.out.trans (k5.mono hB3'.out.size))
      have k1' := Aside0.mk k1
      have k2' := Aside0.mk k2
      clear hso hP2 hP3 hG3' hB3' k1 k2 k4 k5
      go_wp2_with fail
      go_loopw [8, 39] (fun s8 s39 wr => ∃ m : Nat, m ≤ ks.length ∧ s39 = .int .i64 m ∧ Aside0 (Kd.S (Kd.slice 3 (Kd.int .i64)) 27 wr w5.heap.size (fun _ => True) s8 ((ks.take m).map fun h => bodyRes (predsOf g) (reachRes g 0) h.toNat (H h))) ∧ Aside0 (Below w5.heap.size w5 wr))
        (fun _ s39 _ => ks.length - (RowKit.intOf s39).toNat)
      case atStart => exact ⟨0, Nat.zero_le _, rfl, ⟨Kd.S_nil _ _ _ _ _⟩, ⟨Below.refl _ _⟩⟩
      case round =>
        obtain ⟨m, hm, rfl, hv, hB⟩ := hrel
        by_cases hlt : m < ks.length
        · have hmn : (m : Int) < (ks.length : Int) := by omega
          have hm0 : (0 : Int) ≤ (m : Int) := by omega
          obtain ⟨ad, rfl, q0⟩ := Kd.at_int (Kd.C_below hK5.out hB.out) (m : Int) hm0 hmn
          rw [Int.toNat_natCast, rdI hlt] at q0
          have htk : ks.take (m + 1) = ks.take m ++ [ks[m]] := List.take_succ_eq_append_getElem hlt
          have hxm : ks[m] ∈ ks := List.getElem_mem hlt
          generalize ks[m] = x at q0 htk hxm
          have hHx := (k2'.out x).1 hxm
          have hHne : H x ≠ [] := by intro e; rw [e] at hHx; cases hHx
          obtain ⟨y0, hy0⟩ := List.exists_mem_of_ne_nil _ hHne
          have hmemH : ∀ y ∈ H x, 0 ≤ y ∧ y < (g.length : Int) := by
            intro y hy
            rw [← hH, hfold_mem] at hy
            obtain ⟨e, he, _, rfl⟩ := hy
            exact (hin e he).1
          rw [← hH, hfold_mem] at hy0
          obtain ⟨e0, he0, hx0, _⟩ := hy0
          have hxr := (hin e0 he0).2
          rw [hx0] at hxr
          have hbp : 0 < bs.length := List.length_pos_of_mem he0
          have hrt := hrt0 hbp
          obtain ⟨hgn, hg1, hgr⟩ := right_rows hrt
          obtain rfl : P0 = predsOf g := by rw [← hP0.out, if_pos hrt]
          obtain ⟨xn, rfl⟩ := Int.eq_ofNat_of_zero_le hxr.1
          have hwx : Wf (xn : Int) := wf_small hxr.1 (by omega)
          have hGq := hG5.out.grown (grown_of_below hB.out none)
          obtain ⟨vr, l1, l2, l3, _⟩ := hGq.look (by unfold maxLen; omega) hwx
          have hRr : Kd.R (Kd.int .i64) 3 wr (w.heap.size + 1) (fun _ => True) vr (H xn) := Kd.R_of_own l2.1 (fun _ _ => trivial)
          obtain ⟨Ar, cr, rfl⟩ := Kd.R_slice hRr
          have hrr := Kd.R_reads' hRr
          have hlp : (predsOf g).length = g.length := predsOf_len g
          have hlr : (reachRes g 0).length = (predsOf g).length := by
            rw [hlp]; unfold reachRes; rw [if_pos ⟨hrt, by omega, by omega⟩, marks_len]
          have hbo : Calls Try.prog 59 #[.slice A2 (predsOf g).length c2, .slice A3 (reachRes g 0).length c3, .int .i64 xn, .slice Ar (H xn).length cr] wr fun e w' => ∃ v, e = .returned v ∧
              Kd.R (Kd.int .i64) 3 w' wr.heap.size (fun _ => True) v (bodyRes (predsOf g) (reachRes g 0) xn (H xn)) ∧ Below wr.heap.size wr w' := by
            have hq3 := Kd.C_below hQ3.out hB.out
            rw [hlr] at hq3 ⊢
            refine body_calls A2 A3 Ar c2 c3 cr (predsOf g) (reachRes g 0) xn (H xn) wr (Kd.C_below hQ2.out hB.out) hq3 hrr.2.2 hrr.2.1 (by omega) ?_ ?_ (by omega) ?_ (by omega)
            · intro l hl y hy
              obtain ⟨j, hj, rfl⟩ := List.getElem_of_mem hl
              have : y ∈ rowOf (predsOf g) j := by unfold rowOf; rw [List.getD_eq_getElem?_getD, List.getElem?_eq_getElem hj]; exact hy
              rw [predsOf_mem hgr] at this
              obtain ⟨i, hi, rfl, _⟩ := this
              omega
            · intro y hy
              have := hmemH y hy; omega
            · have h1 := tot_pfold hgr g.length (Nat.le_refl _)
              rw [List.take_length] at h1
              have h2 := tot_le (right_8 hrt)
              unfold predsOf; omega
          have hml : ((ks.take m).map fun h => bodyRes (predsOf g) (reachRes g 0) h.toNat (H h)).length ≤ 1000000 := by
            rw [List.length_map, List.length_take]; have := k3; omega
          have htk' : ((ks.take (m + 1)).map fun h => bodyRes (predsOf g) (reachRes g 0) h.toNat (H h)) = ((ks.take m).map fun h => bodyRes (predsOf g) (reachRes g 0) h.toNat (H h)) ++ [bodyRes (predsOf g) (reachRes g 0) xn (H xn)] := by
            rw [htk, List.map_append]; simp
          generalize hL : ((ks.take m).map fun h => bodyRes (predsOf g) (reachRes g 0) h.toNat (H h)) = L at hv hml htk'
          generalize bodyRes (predsOf g) (reachRes g 0) xn (H xn) = row at hbo htk'
          have htk2 := Aside0.mk htk'
          clear hL htk htk' hmemH hHx hHne hRr hrr hGq l2 l3 hlp hlr
          go_wp2_with fail
          refine hbo.mono ?_
          rintro e w6 ⟨v6, rfl, hR6, hB6⟩
          obtain ⟨A6, c6, rfl⟩ := Kd.R_slice hR6
          have hv3 := Aside0.mk (Kd.S_mono (Kd.S_below (Kd.S_bound hv.out) hB6) (ok' := fun k => True ∧ ¬ wr.heap.size ≤ k) (fun k hk => ⟨trivial, by have := hk.2.2.1; omega⟩))
          have hcM := Aside0.mk (Kd.M_row (Kd.R_lower (Kd.R_mono (Kd.R_bound hR6) (ok' := fun k => wr.heap.size ≤ k) (fun k hk => hk.2.1)) hB.out.size))
          have hvl := Aside0.mk (Kd.S_lt hv.out)
          have hB3' := Aside0.mk (hB.out.trans (hB6.mono hB.out.size))
          clear hbo hR6 hB6 hv hB q0
          go_wp2_with (at_builtin; refine Kd.S_append (Kd.slice 3 (Kd.int .i64)) (w0 := w5) w5.heap.size rfl (.tmp 43) (.tmp 51) 22 27 (.slice none 0 0) 24 rfl Try.underlying22 info27 rfl (by decide) (by omega) _ L row [.slice A6 row.length c6] (fun _ => True) (fun k => wr.heap.size ≤ k) rfl rfl hcM.out (fun k hk => ⟨trivial, fun e => by have := hvl.out k e.symm; omega⟩) (fun _ _ => trivial) hv3.out hB3'.out hB3'.out.size (by omega) ?_; intro v7 w7 hown7 hb7 hg7 hat7; have hv7 := Aside0.mk hown7; have hb7' := Aside0.mk hb7; clear hown7 hb7 hg7 hat7)
          go_roundw
          case rel => exact ⟨m + 1, by omega, by go_num, ⟨by rw [htk2.out]; exact hv7.out⟩, hb7'⟩
          case measure => simp [RowKit.intOf]; omega
        · obtain rfl : m = ks.length := by omega
          have hv2 := hv.out
          rw [List.take_length] at hv2
          have hks : ks = headsOf g.length H := by
            refine rising_eq k1'.out ?_ fun k => ?_
            · unfold Rising headsOf
              rw [List.pairwise_map]
              exact (List.pairwise_lt_range.filter _).imp (fun h => by omega)
            · rw [k2'.out]
              unfold headsOf
              simp only [List.mem_map, List.mem_filter, List.mem_range]
              constructor
              · intro h1
                have h2 : H k ≠ [] := by intro e; rw [e] at h1; cases h1
                obtain ⟨y, hy⟩ := List.exists_mem_of_ne_nil _ h2
                rw [← hH, hfold_mem] at hy
                obtain ⟨e, he, rfl, _⟩ := hy
                have := (hin e he).2
                obtain ⟨a, ha⟩ := Int.eq_ofNat_of_zero_le this.1
                exact ⟨a, ⟨by omega, by rw [← ha]; exact h1⟩, ha.symm⟩
              · rintro ⟨a, ⟨_, h2⟩, rfl⟩
                exact h2
          have hv3 := Aside0.mk hv2
          clear hv hv2
          go_wp2_with fail
          go_ret
          refine ⟨_, rfl, ?_, hB5.out.trans (hB.out.mono hB5.out.size)⟩
          rw [hH, ← hks]
          exact Kd.S_lower hv3.out hB5.out.size
end Go.Proofs.Ytkmbhknmjnbanaa.A


namespace Go.Proofs.Ytkmbhknmjnbanaa.A
open Go.RowKit Go.Proofs.YtkmbhknmjnbanaaW.PrintWords Go.Proofs.YtkmbhknmjnbanaaW.PrintLast Go.Shelf
set_option linter.unusedVariables false
set_option linter.unusedSimpArgs false

theorem plfold_spec {o : List Int} {n : Nat} (hnd : o.Nodup) (ho : ∀ x ∈ o, 0 ≤ x ∧ x < (n : Int)) : ∀ m, m ≤ o.length → (∀ j (hj : j < m) (hj2 : j < o.length), (plfold o n m).getD o[j].toNat 0 = (j : Int)) ∧ ∀ i, i < n → (i : Int) ∉ o.take m → (plfold o n m).getD i 0 = -1
  | 0, _ => ⟨fun j hj => by omega, fun i hi _ => by
      unfold plfold
      rw [List.range_zero, List.foldl_nil, List.getD_eq_getElem?_getD, List.getElem?_replicate, if_pos hi]; rfl⟩
  | m + 1, hm => by
    have hlt : m < o.length := by omega
    obtain ⟨h1, h2⟩ := plfold_spec hnd ho m (by omega)
    have hom : o.getD m 0 = o[m] := by simp [List.getD_eq_getElem?_getD, hlt]
    have hx := ho o[m] (List.getElem_mem hlt)
    have hl := plfold_len o n m
    have hset : ∀ i, (plfold o n (m + 1)).getD i 0 = if o[m].toNat = i then (m : Int) else (plfold o n m).getD i 0 := by
      intro i
      rw [plfold_succ, hom, List.getD_eq_getElem?_getD, List.getElem?_set]
      by_cases e : o[m].toNat = i
      · rw [if_pos e, if_pos e, if_pos (by omega)]; rfl
      · rw [if_neg e, if_neg e, List.getD_eq_getElem?_getD]
    refine ⟨fun j hj hj2 => ?_, fun i hi hni => ?_⟩
    · rw [hset]
      by_cases e : j = m
      · subst e; rw [if_pos rfl]
      · rw [if_neg ?_, h1 j (by omega) hj2]
        intro e2
        have hxj := ho o[j] (List.getElem_mem hj2)
        have : o[m] = o[j] := by omega
        exact e ((List.getElem_inj hnd).1 this).symm
    · rw [List.take_succ_eq_append_getElem hlt] at hni
      rw [hset, if_neg ?_, h2 i hi (fun h => hni (List.mem_append_left _ h))]
      intro e
      exact hni (List.mem_append_right _ (by rw [List.mem_singleton]; omega))
theorem order_nodup (g : List (List Int)) : (orderOf g).Nodup := by
  unfold orderOf
  cases hr : rightB g
  · simp
  · obtain ⟨h1, h2, h3⟩ := right_rows hr
    rw [if_pos rfl]
    exact List.pairwise_reverse.2 ((walk_nodup h3 (by omega)).imp fun h e => h e.symm)
theorem place_at (g : List (List Int)) {j : Nat} (hj : j < (orderOf g).length) : (placesOf g).getD (orderOf g)[j].toNat 0 = (j : Int) :=
  (plfold_spec (order_nodup g) (orderOf_in g) _ (Nat.le_refl _)).1 j hj hj
theorem place_no (g : List (List Int)) {i : Nat} (hi : i < g.length) (h : (i : Int) ∉ orderOf g) : (placesOf g).getD i 0 = -1 :=
  (plfold_spec (order_nodup g) (orderOf_in g) _ (Nat.le_refl _)).2 i hi (by rw [List.take_length]; exact h)
theorem place_pos (g : List (List Int)) {i : Nat} (hi : i < g.length) : 0 ≤ (placesOf g).getD i 0 ↔ (i : Int) ∈ orderOf g := by
  constructor
  · intro h
    refine Classical.byContradiction fun hn => ?_
    rw [place_no g hi hn] at h; omega
  · intro h
    obtain ⟨j, hj, e⟩ := List.getElem_of_mem h
    have := place_at g hj
    rw [e, Int.toNat_natCast] at this
    omega
theorem order_mem {g : List (List Int)} (hr : rightB g = true) (i : Nat) : (i : Int) ∈ orderOf g ↔ Way g 0 i := by
  obtain ⟨h1, h2, h3⟩ := right_rows hr
  unfold orderOf
  rw [if_pos hr, List.mem_reverse]
  exact walk_mem h3 (by omega) i
/-- which edges lead back -/
theorem back_mem {g : List (List Int)} (hr : rightB g = true) (e : S37) : e ∈ backOf g ↔ ∃ i x : Nat, e = ⟨i, x⟩ ∧ Edge g i x ∧ 0 ≤ (placesOf g).getD i 0 ∧ (placesOf g).getD x 0 ≤ (placesOf g).getD i 0 := by
  obtain ⟨h1, h2, h3⟩ := right_rows hr
  generalize hp : placesOf g = P
  have hrow : ∀ (i : Nat) (l : List Int), (∀ x ∈ l, 0 ≤ x) → ∀ out : List S37, e ∈ brow P i out l ↔ e ∈ out ∨ ∃ x : Nat, (x : Int) ∈ l ∧ e = ⟨i, x⟩ ∧ 0 ≤ P.getD i 0 ∧ P.getD x 0 ≤ P.getD i 0 := by
    intro i l
    induction l with
    | nil => intro _ out; simp [brow]
    | cons y l ih =>
      intro hl out
      obtain ⟨y, rfl⟩ := Int.eq_ofNat_of_zero_le (hl y (by simp))
      show e ∈ brow P i (bstep P i out y) l ↔ _
      rw [ih (fun x hx => hl x (by simp [hx]))]
      have hst : e ∈ bstep P i out (y : Int) ↔ e ∈ out ∨ (e = ⟨i, y⟩ ∧ 0 ≤ P.getD i 0 ∧ P.getD y 0 ≤ P.getD i 0) := by
        unfold bstep
        rw [Int.toNat_natCast]
        by_cases h0 : 0 ≤ P.getD i 0 ∧ P.getD y 0 ≤ P.getD i 0
        · cases hc : out.any (isE i y)
          · rw [if_pos ⟨h0.1, h0.2, rfl⟩, List.mem_append, List.mem_singleton]
            exact ⟨fun h => h.imp id fun h => ⟨h, h0⟩, fun h => h.imp id fun h => h.1⟩
          · rw [if_neg (fun h => by cases h.2.2)]
            refine ⟨.inl, fun h => h.elim id fun ⟨h, _⟩ => ?_⟩
            rw [List.any_eq_true] at hc
            obtain ⟨e', he', hc⟩ := hc
            unfold isE at hc
            rw [Bool.and_eq_true, decide_eq_true_eq, decide_eq_true_eq] at hc
            rw [h, hc.1, hc.2]; exact he'
        · rw [if_neg (fun h => h0 ⟨h.1, h.2.1⟩)]
          exact ⟨.inl, fun h => h.elim id fun h => absurd h.2 h0⟩
      rw [hst]
      constructor
      · rintro ((h | h) | ⟨x, hx, h⟩)
        · exact .inl h
        · exact .inr ⟨y, by simp, h⟩
        · exact .inr ⟨x, by simp [hx], h⟩
      · rintro (h | ⟨x, hx, h⟩)
        · exact .inl (.inl h)
        · rcases List.mem_cons.1 hx with hx | hx
          · obtain rfl : x = y := by omega
            exact .inl (.inr h)
          · exact .inr ⟨x, hx, h⟩
  have hfold : ∀ m, m ≤ g.length → (e ∈ bfold P g m ↔ ∃ i x : Nat, i < m ∧ e = ⟨i, x⟩ ∧ Edge g i x ∧ 0 ≤ P.getD i 0 ∧ P.getD x 0 ≤ P.getD i 0) := by
    intro m
    induction m with
    | zero => intro _; simp [bfold]
    | succ m ih =>
      intro hm
      rw [bfold_succ, hrow _ _ (fun x hx => (h3 _ (rowOf_mem (by omega)) x hx).1), ih (by omega)]
      constructor
      · rintro (⟨i, x, hi, h⟩ | ⟨x, hx, h, h4⟩)
        · exact ⟨i, x, by omega, h⟩
        · exact ⟨m, x, by omega, h, hx, h4⟩
      · rintro ⟨i, x, hi, h, he, h4⟩
        by_cases hi' : i = m
        · subst hi'; exact .inr ⟨x, he, h, h4⟩
        · exact .inl ⟨i, x, by omega, h, he, h4⟩
  unfold backOf
  rw [if_pos hr, hp, hfold _ (Nat.le_refl _)]
  exact ⟨fun ⟨i, x, _, h⟩ => ⟨i, x, h⟩, fun ⟨i, x, h⟩ => ⟨i, x, h.2.1.lt1, h⟩⟩
end Go.Proofs.Ytkmbhknmjnbanaa.A


namespace Go.Proofs.Ytkmbhknmjnbanaa.A
open Go.RowKit Go.Proofs.YtkmbhknmjnbanaaW.PrintWords Go.Proofs.YtkmbhknmjnbanaaW.PrintLast Go.Shelf
set_option linter.unusedVariables false
set_option linter.unusedSimpArgs false

def graph_Loops.f (l0 : List (List Int)) : Option (List (List Int)) := some (loopsOf l0)
theorem graph_Loops.calls (A0 : Option Addr) (c0 : Nat) (l0 : List (List Int)) (r : List (List Int)) (w : World) (hr0 : Kd.C (Kd.slice 3 (Kd.int .i64)) w A0 l0.length l0) (hc0 : l0.length ≤ c0) (h : graph_Loops.f l0 = some r) :
    Calls Try.prog 32 #[.slice A0 l0.length c0] w fun e w' => ∃ v0_ : Value, e = .returned (v0_) ∧ Kd.S (Kd.slice 3 (Kd.int .i64)) 27 w' w.heap.size (fun _ => True) v0_ r ∧ Below w.heap.size w w' := by
  obtain rfl := Option.some.inj h
  exact loops_calls A0 c0 l0 w hr0 hc0
def graph_Critical.f (l0 : List (List Int)) : Option (List S37) := some (crit (rightB l0) (predsOf l0) l0 l0.length)
theorem graph_Critical.calls (A0 : Option Addr) (c0 : Nat) (l0 : List (List Int)) (r : List S37) (w : World) (hr0 : Kd.C (Kd.slice 3 (Kd.int .i64)) w A0 l0.length l0) (hc0 : l0.length ≤ c0) (h : graph_Critical.f l0 = some r) :
    Calls Try.prog 25 #[.slice A0 l0.length c0] w fun e w' => ∃ v0_ : Value, e = .returned (v0_) ∧ Kd.R k37 37 w' w.heap.size (fun _ => True) v0_ r ∧ Below w.heap.size w w' := by
  obtain rfl := Option.some.inj h
  exact crit_calls A0 c0 l0 w hr0 hc0
end Go.Proofs.Ytkmbhknmjnbanaa.A


namespace Go.Proofs.Ytkmbhknmjnbanaa.A
open Go.RowKit Go.Maps Go.Proofs.YtkmbhknmjnbanaaW.PrintWords Go.Proofs.YtkmbhknmjnbanaaW.PrintLast Go.Shelf
set_option linter.unusedVariables false
set_option linter.unusedSimpArgs false

def g4 : List (List Int) := [[1, 2], [3], [3], [0]]
theorem s_right : graph_Right.f g4 = some true := by kernel_rfl
theorem s_order : graph_Order.f g4 = some [0, 2, 1, 3] := by kernel_rfl
theorem s_ints : swageref02_Ints.f 9 [0, 2, 1, 3] [0, 2, 1, 3] = some true := by kernel_rfl
theorem s_back : graph_Back.f 40 g4 = some [⟨3, 0⟩] := by kernel_rfl
theorem s_pairs : swageref05_Pairs.f 9 [⟨3, 0⟩] [⟨3, 0⟩] = some true := by kernel_rfl
theorem s_loops : graph_Loops.f g4 = some [[0, 1, 2, 3]] := by kernel_rfl
theorem s_rows : swageref06_Rows.f 40 [[0, 1, 2, 3]] [[0, 1, 2, 3]] = some true := by kernel_rfl
theorem s_preds : graph_Preds.f 40 g4 = some [[3], [0], [0], [1, 2]] := by kernel_rfl
theorem s_rows2 : swageref06_Rows.f 40 [[3], [0], [0], [1, 2]] [[3], [0], [0], [1, 2]] = some true := by kernel_rfl
theorem s_crit : graph_Critical.f g4 = some [] := by kernel_rfl
theorem s_reach : graph_Reach.f g4 1 = some [true, true, true, true] := by kernel_rfl

/-- a literal row of numbers -/
abbrev cellsI (l : List Int) : Obj := .cells (l.map (Value.int .i64)).toArray 3
theorem reps_ints {W : World} {base : Nat} {ok : Nat → Prop} (l : List Int) : Reps ((Kd.int .i64).M W base ok) (Kd.int .i64).sz l (l.map (Value.int .i64)) := by
  refine ⟨by rw [List.length_map]; show _ = l.length * 1; omega, fun j p hj => ?_⟩
  obtain ⟨h, rfl⟩ := List.getElem?_eq_some_iff.1 hj
  show ((l.map (Value.int .i64)).drop (j * 1)).take 1 = [Value.int .i64 l[j]]
  rw [Nat.mul_one, List.take_one, List.head?_drop, List.getElem?_map, hj]
  rfl
theorem lit_row (W : World) (l : List Int) (hl : l.length ≤ 1000) : Kd.R (Kd.int .i64) 3 (W.alloc (cellsI l)) W.heap.size (fun _ => True) (.slice (some ⟨W.heap.size, 0, none⟩) l.length l.length) l :=
  R_new_lit (Kd.int .i64) W W.heap.size 3 (ok := fun _ => True) (okp := fun _ => True) (reps_ints l) (fun _ h => h) trivial (Nat.le_refl _) (by omega)
inductive RowsR (W : World) (base : Nat) (ok : Nat → Prop) : List (List Int) → List Value → Prop
  | nil : RowsR W base ok [] []
  | cons {l : List Int} {v : Value} {ls : List (List Int)} {vs : List Value} : Kd.R (Kd.int .i64) 3 W base ok v l → RowsR W base ok ls vs → RowsR W base ok (l :: ls) (v :: vs)
theorem reps_rows {W : World} {base : Nat} {ok : Nat → Prop} : ∀ {ls : List (List Int)} {vs : List Value}, RowsR W base ok ls vs → Reps ((Kd.slice 3 (Kd.int .i64)).M W base ok) (Kd.slice 3 (Kd.int .i64)).sz ls vs := by
  intro ls vs h
  refine ⟨?_, ?_⟩
  · have : vs.length = ls.length := by induction h <;> simp_all
    rw [this]; show _ = ls.length * 1; omega
  · intro j p hj
    show (Kd.slice 3 (Kd.int .i64)).M W base ok p ((vs.drop (j * 1)).take 1)
    rw [Nat.mul_one]
    induction h generalizing j with
    | nil => simp at hj
    | cons h1 h2 ih =>
      cases j with
      | zero => simp at hj; subst hj; exact Kd.M_row h1
      | succ j => simp at hj; simpa using ih j hj
theorem lit_rows1 (W : World) (a : List Int) (ha : a.length ≤ 1000) : Kd.C (Kd.slice 3 (Kd.int .i64)) ((W.alloc (cellsI a)).alloc (.cells #[.slice (some ⟨W.heap.size, 0, none⟩) a.length a.length] 27)) (some ⟨W.heap.size + 1, 0, none⟩) 1 [a] := by
  have h1 := lit_row W a ha
  have h2 := R_new_lit (Kd.slice 3 (Kd.int .i64)) (W.alloc (cellsI a)) W.heap.size 27 (xs := [a]) (inner := [.slice (some ⟨W.heap.size, 0, none⟩) a.length a.length]) (ok := fun _ => True) (okp := fun _ => True) (reps_rows (.cons h1 .nil)) (fun _ h => h) trivial (by simp) (by simp)
  rw [World.size_alloc] at h2
  exact (Kd.R_reads' h2).2.2
theorem lit_rows4 (W : World) (a b c d : List Int) (ha : a.length ≤ 1000) (hb : b.length ≤ 1000) (hc : c.length ≤ 1000) (hd : d.length ≤ 1000) :
    Kd.C (Kd.slice 3 (Kd.int .i64)) (((((W.alloc (cellsI a)).alloc (cellsI b)).alloc (cellsI c)).alloc (cellsI d)).alloc (.cells #[.slice (some ⟨W.heap.size, 0, none⟩) a.length a.length, .slice (some ⟨W.heap.size + 1, 0, none⟩) b.length b.length, .slice (some ⟨W.heap.size + 2, 0, none⟩) c.length c.length, .slice (some ⟨W.heap.size + 3, 0, none⟩) d.length d.length] 27)) (some ⟨W.heap.size + 4, 0, none⟩) 4 [a, b, c, d] := by
  have al : ∀ (w : World) (o : Obj), Below w.heap.size w (w.alloc o) := fun w o => below_alloc (Below.refl _ _) _
  have h1 := Kd.R_below (Kd.R_below (Kd.R_below (lit_row W a ha) (al _ (cellsI b))) (al _ (cellsI c))) (al _ (cellsI d))
  have h2 := Kd.R_lower (Kd.R_below (Kd.R_below (lit_row (W.alloc (cellsI a)) b hb) (al _ (cellsI c))) (al _ (cellsI d))) (base' := W.heap.size) (by simp)
  have h3 := Kd.R_lower (Kd.R_below (lit_row ((W.alloc (cellsI a)).alloc (cellsI b)) c hc) (al _ (cellsI d))) (base' := W.heap.size) (by simp; omega)
  have h4 := Kd.R_lower (lit_row (((W.alloc (cellsI a)).alloc (cellsI b)).alloc (cellsI c)) d hd) (base' := W.heap.size) (by simp; omega)
  simp only [World.size_alloc, Nat.add_assoc, Nat.reduceAdd] at h2 h3 h4
  have h5 := R_new_lit (Kd.slice 3 (Kd.int .i64)) ((((W.alloc (cellsI a)).alloc (cellsI b)).alloc (cellsI c)).alloc (cellsI d)) W.heap.size 27 (xs := [a, b, c, d]) (ok := fun _ => True) (okp := fun _ => True) (reps_rows (.cons h1 (.cons h2 (.cons h3 (.cons h4 .nil))))) (fun _ h => h) trivial (by simp; omega) (by simp)
  simp only [World.size_alloc, Nat.add_assoc, Nat.reduceAdd] at h5
  exact (Kd.R_reads' h5).2.2
theorem lit_pair (W : World) (x y : Int) : Kd.C k37 (W.alloc (.cells #[.int .i64 x, .int .i64 y] 37)) (some ⟨W.heap.size, 0, none⟩) 1 [⟨x, y⟩] := by
  have h := R_new_lit k37 W W.heap.size 37 (xs := [(⟨x, y⟩ : S37)]) (inner := [.int .i64 x, .int .i64 y]) (ok := fun _ => True) (okp := fun _ => True) ⟨rfl, fun j p hj => by
    match j, hj with
    | 0, hj => simp at hj; subst hj; exact k37_mkM _ _ _ _
    | j + 1, hj => simp at hj⟩ (fun _ h => h) trivial (Nat.le_refl _) (by simp)
  exact (Kd.R_reads' h).2.2

set_option maxRecDepth 100000 in
set_option maxHeartbeats 2000000 in
theorem small_calls (w : World) : Calls Try.prog 13 #[] w fun e w' => e = .returned (.bool true) ∧ Below w.heap.size w w' := by
  have hu37 := Try.underlying37
  go_enter Try.func13, Try.ntmps13
  go_wp2_with fail
  have hC0 : Kd.C (Kd.slice 3 (Kd.int .i64)) (((((w.alloc (.cells #[.int .i64 1, .int .i64 2] 3)).alloc (.cells #[.int .i64 3] 3)).alloc (.cells #[.int .i64 3] 3)).alloc (.cells #[.int .i64 0] 3)).alloc (.cells #[.slice (some ⟨w.heap.size, 0, none⟩) 2 2, .slice (some ⟨w.heap.size + 1, 0, none⟩) 1 1, .slice (some ⟨w.heap.size + 1 + 1, 0, none⟩) 1 1, .slice (some ⟨w.heap.size + 1 + 1 + 1, 0, none⟩) 1 1] 27)) (some ⟨w.heap.size + 1 + 1 + 1 + 1, 0, none⟩) 4 g4 := lit_rows4 w [1, 2] [3] [3] [0] (by decide) (by decide) (by decide) (by decide)
  have hB0 : Below w.heap.size w (((((w.alloc (.cells #[.int .i64 1, .int .i64 2] 3)).alloc (.cells #[.int .i64 3] 3)).alloc (.cells #[.int .i64 3] 3)).alloc (.cells #[.int .i64 0] 3)).alloc (.cells #[.slice (some ⟨w.heap.size, 0, none⟩) 2 2, .slice (some ⟨w.heap.size + 1, 0, none⟩) 1 1, .slice (some ⟨w.heap.size + 1 + 1, 0, none⟩) 1 1, .slice (some ⟨w.heap.size + 1 + 1 + 1, 0, none⟩) 1 1] 27)) := below_alloc (below_alloc (below_alloc (below_alloc (below_alloc (Below.refl _ _) _) _) _) _) _
  generalize (((((w.alloc (.cells #[.int .i64 1, .int .i64 2] 3)).alloc (.cells #[.int .i64 3] 3)).alloc (.cells #[.int .i64 3] 3)).alloc (.cells #[.int .i64 0] 3)).alloc (.cells #[.slice (some ⟨w.heap.size, 0, none⟩) 2 2, .slice (some ⟨w.heap.size + 1, 0, none⟩) 1 1, .slice (some ⟨w.heap.size + 1 + 1, 0, none⟩) 1 1, .slice (some ⟨w.heap.size + 1 + 1 + 1, 0, none⟩) 1 1] 27)) = W0 at hC0 hB0 ⊢
  generalize w.heap.size + 1 + 1 + 1 + 1 = b0 at hC0 ⊢
  have hc1 : Calls Try.prog 19 #[.slice (some ⟨b0, 0, none⟩) 4 4] W0 fun e w' => e = .returned (.bool true) ∧ Below W0.heap.size W0 w' := graph_Right.calls (some ⟨b0, 0, none⟩) 4 g4 true W0 hC0 (by decide) s_right
  refine hc1.mono ?_
  rintro e w1 ⟨rfl, hb1⟩
  have hC1 := Aside0.mk (Kd.C_below hC0 hb1)
  have hB1 := Aside0.mk (below_step hB0 hb1)
  clear hc1 hC0 hB0 hb1
  go_wp2_with fail
  have ho : Calls Try.prog 28 #[.slice (some ⟨b0, 0, none⟩) 4 4] w1 fun e w' => ∃ A c, e = .returned (.slice A 4 c) ∧ 4 ≤ c ∧ Kd.C (Kd.int .i64) w' A 4 [0, 2, 1, 3] ∧ Below w1.heap.size w1 w' :=
    (graph_Order.calls (some ⟨b0, 0, none⟩) 4 g4 [0, 2, 1, 3] w1 hC1.out (by decide) s_order).mono fun e w' ⟨v, he, hR, hB⟩ => by
      obtain ⟨A, c, rfl, h1, h2⟩ := Kd.R_reads hR
      exact ⟨A, c, he, h1, h2, hB⟩
  refine ho.mono ?_
  rintro e w2 ⟨A2, c2, rfl, h2, hC2, hb2⟩
  have hC2' := Aside0.mk (Kd.C_below hC1.out hb2)
  have hB2 := Aside0.mk (below_step hB1.out hb2)
  have hi2 : Calls Try.prog 27 #[.slice A2 4 c2, .slice (some ⟨w2.heap.size, 0, none⟩) 4 4] (w2.alloc (.cells #[.int .i64 0, .int .i64 2, .int .i64 1, .int .i64 3] 3)) fun e w' => e = .returned (.bool true) ∧ Drawn0 (w2.alloc (.cells #[.int .i64 0, .int .i64 2, .int .i64 1, .int .i64 3] 3)) w' := swageref02_Ints.calls 9 A2 c2 [0, 2, 1, 3] (some ⟨w2.heap.size, 0, none⟩) 4 [0, 2, 1, 3] true _ (Kd.C_alloc hC2 (cellsI [0, 2, 1, 3])) h2 (Kd.R_reads' (lit_row w2 [0, 2, 1, 3] (by decide))).2.2 (by decide) s_ints
  have hC3 := Aside0.mk (Kd.C_alloc hC2'.out (cellsI [0, 2, 1, 3]))
  have hB3 := Aside0.mk (below_alloc hB2.out (cellsI [0, 2, 1, 3]))
  clear ho h2 hC2 hb2 hC1 hB1 hC2' hB2
  go_wp2_with fail
  refine hi2.mono ?_
  rintro e w3 ⟨rfl, hd3⟩
  have hC4 := Aside0.mk (Kd.C_below hC3.out hd3.below)
  have hB4 := Aside0.mk (below_step hB3.out hd3.below)
  clear hi2 hd3 hC3 hB3
  go_wp2_with fail
  -- Back
  have hbk : Calls Try.prog 30 #[.slice (some ⟨b0, 0, none⟩) 4 4] w3 fun e w' => ∃ A c, e = .returned (.slice A 1 c) ∧ 1 ≤ c ∧ Kd.C k37 w' A 1 [⟨3, 0⟩] ∧ Below w3.heap.size w3 w' :=
    (graph_Back.calls 40 (some ⟨b0, 0, none⟩) 4 g4 [⟨3, 0⟩] w3 hC4.out (by decide) s_back).mono fun e w' ⟨v, he, hR, hB⟩ => by
      obtain ⟨A, c, rfl, h1, h2⟩ := Kd.R_reads hR
      exact ⟨A, c, he, h1, h2, hB⟩
  refine hbk.mono ?_
  rintro e w4 ⟨A4, c4, rfl, h4, hC5, hb4⟩
  have hC6 := Aside0.mk (Kd.C_below hC4.out hb4)
  have hB6 := Aside0.mk (below_step hB4.out hb4)
  have hp : Calls Try.prog 24 #[.slice A4 1 c4, .slice (some ⟨w4.heap.size, 0, none⟩) 1 1] (w4.alloc (.cells #[.int .i64 3, .int .i64 0] 37)) fun e w' => e = .returned (.bool true) ∧ Drawn0 (w4.alloc (.cells #[.int .i64 3, .int .i64 0] 37)) w' := swageref05_Pairs.calls 9 A4 c4 [⟨3, 0⟩] (some ⟨w4.heap.size, 0, none⟩) 1 [⟨3, 0⟩] true _ (Kd.C_alloc hC5 _) h4 (lit_pair w4 3 0) (by decide) s_pairs
  have hC7 := Aside0.mk (Kd.C_alloc hC6.out (.cells #[.int .i64 3, .int .i64 0] 37))
  have hB7 := Aside0.mk (below_alloc hB6.out (.cells #[.int .i64 3, .int .i64 0] 37))
  clear hbk h4 hC5 hb4 hC4 hB4 hC6 hB6
  go_wp2_with fail
  refine hp.mono ?_
  rintro e w5 ⟨rfl, hd5⟩
  have hC8 := Aside0.mk (Kd.C_below hC7.out hd5.below)
  have hB8 := Aside0.mk (below_step hB7.out hd5.below)
  clear hp hd5 hC7 hB7
  go_wp2_with fail
  -- Loops
  have hlo : Calls Try.prog 32 #[.slice (some ⟨b0, 0, none⟩) 4 4] w5 fun e w' => ∃ A c, e = .returned (.slice A 1 c) ∧ 1 ≤ c ∧ Kd.C (Kd.slice 3 (Kd.int .i64)) w' A 1 [[0, 1, 2, 3]] ∧ Below w5.heap.size w5 w' :=
    (graph_Loops.calls (some ⟨b0, 0, none⟩) 4 g4 [[0, 1, 2, 3]] w5 hC8.out (by decide) s_loops).mono fun e w' ⟨v, he, hR, hB⟩ => by
      obtain ⟨A, c, rfl, h1, h2⟩ := Kd.S_reads hR
      exact ⟨A, c, he, h1, h2, hB⟩
  refine hlo.mono ?_
  rintro e w6 ⟨A6, c6, rfl, h6, hC9, hb6⟩
  have hC10 := Aside0.mk (Kd.C_below hC8.out hb6)
  have hB10 := Aside0.mk (below_step hB8.out hb6)
  have hr6 : Calls Try.prog 17 #[.slice A6 1 c6, .slice (some ⟨w6.heap.size + 1, 0, none⟩) 1 1] ((w6.alloc (.cells #[.int .i64 0, .int .i64 1, .int .i64 2, .int .i64 3] 3)).alloc (.cells #[.slice (some ⟨w6.heap.size, 0, none⟩) 4 4] 27)) fun e w' => e = .returned (.bool true) ∧ Drawn0 ((w6.alloc (.cells #[.int .i64 0, .int .i64 1, .int .i64 2, .int .i64 3] 3)).alloc (.cells #[.slice (some ⟨w6.heap.size, 0, none⟩) 4 4] 27)) w' :=
    swageref06_Rows.calls 40 A6 c6 [[0, 1, 2, 3]] (some ⟨w6.heap.size + 1, 0, none⟩) 1 [[0, 1, 2, 3]] true _ (Kd.C_alloc (Kd.C_alloc hC9 _) _) h6 (lit_rows1 w6 [0, 1, 2, 3] (by decide)) (by decide) s_rows
  have hC11 := Aside0.mk (Kd.C_alloc (Kd.C_alloc hC10.out (cellsI [0, 1, 2, 3])) (.cells #[.slice (some ⟨w6.heap.size, 0, none⟩) 4 4] 27))
  have hB11 := Aside0.mk (below_alloc (below_alloc hB10.out (cellsI [0, 1, 2, 3])) (.cells #[.slice (some ⟨w6.heap.size, 0, none⟩) 4 4] 27))
  clear hlo h6 hC9 hb6 hC8 hB8 hC10 hB10
  go_wp2_with fail
  refine hr6.mono ?_
  rintro e w7 ⟨rfl, hd7⟩
  have hC12 := Aside0.mk (Kd.C_below hC11.out hd7.below)
  have hB12 := Aside0.mk (below_step hB11.out hd7.below)
  clear hr6 hd7 hC11 hB11
  go_wp2_with fail
  -- Preds
  have hpr : Calls Try.prog 16 #[.slice (some ⟨b0, 0, none⟩) 4 4] w7 fun e w' => ∃ A c, e = .returned (.slice A 4 c) ∧ 4 ≤ c ∧ Kd.C (Kd.slice 3 (Kd.int .i64)) w' A 4 [[3], [0], [0], [1, 2]] ∧ Below w7.heap.size w7 w' :=
    (graph_Preds.calls 40 (some ⟨b0, 0, none⟩) 4 g4 [[3], [0], [0], [1, 2]] w7 hC12.out (by decide) s_preds).mono fun e w' ⟨v, he, hR, hB⟩ => by
      obtain ⟨A, c, rfl, h1, h2⟩ := Kd.S_reads hR
      exact ⟨A, c, he, h1, h2, hB⟩
  refine hpr.mono ?_
  rintro e w8 ⟨A8, c8, rfl, h8, hC13, hb8⟩
  have hC14 := Aside0.mk (Kd.C_below hC12.out hb8)
  have hB14 := Aside0.mk (below_step hB12.out hb8)
  have hr8 : Calls Try.prog 17 #[.slice A8 4 c8, .slice (some ⟨w8.heap.size + 1 + 1 + 1 + 1, 0, none⟩) 4 4] (((((w8.alloc (.cells #[.int .i64 3] 3)).alloc (.cells #[.int .i64 0] 3)).alloc (.cells #[.int .i64 0] 3)).alloc (.cells #[.int .i64 1, .int .i64 2] 3)).alloc (.cells #[.slice (some ⟨w8.heap.size, 0, none⟩) 1 1, .slice (some ⟨w8.heap.size + 1, 0, none⟩) 1 1, .slice (some ⟨w8.heap.size + 1 + 1, 0, none⟩) 1 1, .slice (some ⟨w8.heap.size + 1 + 1 + 1, 0, none⟩) 2 2] 27)) fun e w' => e = .returned (.bool true) ∧ Drawn0 (((((w8.alloc (.cells #[.int .i64 3] 3)).alloc (.cells #[.int .i64 0] 3)).alloc (.cells #[.int .i64 0] 3)).alloc (.cells #[.int .i64 1, .int .i64 2] 3)).alloc (.cells #[.slice (some ⟨w8.heap.size, 0, none⟩) 1 1, .slice (some ⟨w8.heap.size + 1, 0, none⟩) 1 1, .slice (some ⟨w8.heap.size + 1 + 1, 0, none⟩) 1 1, .slice (some ⟨w8.heap.size + 1 + 1 + 1, 0, none⟩) 2 2] 27)) w' :=
    swageref06_Rows.calls 40 A8 c8 [[3], [0], [0], [1, 2]] (some ⟨w8.heap.size + 1 + 1 + 1 + 1, 0, none⟩) 4 [[3], [0], [0], [1, 2]] true _ (Kd.C_alloc (Kd.C_alloc (Kd.C_alloc (Kd.C_alloc (Kd.C_alloc hC13 _) _) _) _) _) h8 (lit_rows4 w8 [3] [0] [0] [1, 2] (by decide) (by decide) (by decide) (by decide)) (by decide) s_rows2
  have hC15 : Aside0 (Kd.C (Kd.slice 3 (Kd.int .i64)) (((((w8.alloc (.cells #[.int .i64 3] 3)).alloc (.cells #[.int .i64 0] 3)).alloc (.cells #[.int .i64 0] 3)).alloc (.cells #[.int .i64 1, .int .i64 2] 3)).alloc (.cells #[.slice (some ⟨w8.heap.size, 0, none⟩) 1 1, .slice (some ⟨w8.heap.size + 1, 0, none⟩) 1 1, .slice (some ⟨w8.heap.size + 1 + 1, 0, none⟩) 1 1, .slice (some ⟨w8.heap.size + 1 + 1 + 1, 0, none⟩) 2 2] 27)) (some ⟨b0, 0, none⟩) 4 g4) := ⟨Kd.C_alloc (Kd.C_alloc (Kd.C_alloc (Kd.C_alloc (Kd.C_alloc hC14.out _) _) _) _) _⟩
  have hB15 : Aside0 (Below w.heap.size w (((((w8.alloc (.cells #[.int .i64 3] 3)).alloc (.cells #[.int .i64 0] 3)).alloc (.cells #[.int .i64 0] 3)).alloc (.cells #[.int .i64 1, .int .i64 2] 3)).alloc (.cells #[.slice (some ⟨w8.heap.size, 0, none⟩) 1 1, .slice (some ⟨w8.heap.size + 1, 0, none⟩) 1 1, .slice (some ⟨w8.heap.size + 1 + 1, 0, none⟩) 1 1, .slice (some ⟨w8.heap.size + 1 + 1 + 1, 0, none⟩) 2 2] 27))) := ⟨below_alloc (below_alloc (below_alloc (below_alloc (below_alloc hB14.out _) _) _) _) _⟩
  clear hpr h8 hC13 hb8 hC12 hB12 hC14 hB14
  go_wp2_with fail
  refine hr8.mono ?_
  rintro e w9 ⟨rfl, hd9⟩
  have hC16 := Aside0.mk (Kd.C_below hC15.out hd9.below)
  have hB16 := Aside0.mk (below_step hB15.out hd9.below)
  clear hr8 hd9 hC15 hB15
  go_wp2_with fail
  -- Critical
  have hcr : Calls Try.prog 25 #[.slice (some ⟨b0, 0, none⟩) 4 4] w9 fun e w' => ∃ A c, e = .returned (.slice A 0 c) ∧ Below w9.heap.size w9 w' :=
    (graph_Critical.calls (some ⟨b0, 0, none⟩) 4 g4 [] w9 hC16.out (by decide) s_crit).mono fun e w' ⟨v, he, hR, hB⟩ => by
      obtain ⟨A, c, rfl, h1, h2⟩ := Kd.R_reads hR
      exact ⟨A, c, he, hB⟩
  refine hcr.mono ?_
  rintro e w10 ⟨A10, c10, rfl, hb10⟩
  have hC17 := Aside0.mk (Kd.C_below hC16.out hb10)
  have hB17 := Aside0.mk (below_step hB16.out hb10)
  clear hcr hb10 hC16 hB16
  go_wp2_with fail
  -- Reach
  have hre : Calls Try.prog 22 #[.slice (some ⟨b0, 0, none⟩) 4 4, .int .i64 1] w10 fun e w' => ∃ A c, e = .returned (.slice A 4 c) ∧ Below w10.heap.size w10 w' :=
    (graph_Reach.calls (some ⟨b0, 0, none⟩) 4 g4 1 [true, true, true, true] w10 hC17.out (by decide) s_reach).mono fun e w' ⟨v, he, hR, hB⟩ => by
      obtain ⟨A, c, rfl, h1, h2⟩ := Kd.R_reads hR
      exact ⟨A, c, he, hB⟩
  refine hre.mono ?_
  rintro e w11 ⟨A11, c11, rfl, hb11⟩
  have hB18 := Aside0.mk (below_step hB17.out hb11)
  clear hre hb11 hC17 hB17
  go_wp2_with fail
  go_ret
  exact ⟨rfl, hB18.out⟩
def swagelaw06_small.f : Option Bool := some true
theorem swagelaw06_small.calls (r : Bool) (w : World) (h : swagelaw06_small.f = some r) : Calls Try.prog 13 #[] w fun e w' => e = .returned (.bool r) ∧ Below w.heap.size w w' := by
  obtain rfl := Option.some.inj h
  exact small_calls w
end Go.Proofs.Ytkmbhknmjnbanaa.A


namespace Go.Proofs.Ytkmbhknmjnbanaa.A
open Go.RowKit Go.Proofs.YtkmbhknmjnbanaaW.PrintWords Go.Proofs.YtkmbhknmjnbanaaW.PrintLast Go.Shelf
set_option linter.unusedVariables false
set_option linter.unusedSimpArgs false

/-- how many of the first i blocks stand in a row -/
def cntIn (l : List Int) (i : Nat) : Nat := ((List.range i).filter fun k : Nat => decide ((k : Int) ∈ l)).length
theorem cntIn_succ (l : List Int) (i : Nat) : cntIn l (i + 1) = if (i : Int) ∈ l then cntIn l i + 1 else cntIn l i := by
  unfold cntIn
  rw [List.range_succ, List.filter_append]
  by_cases h : (i : Int) ∈ l <;> simp [h]
theorem cntIn_le (l : List Int) (i : Nat) : cntIn l i ≤ i := by
  unfold cntIn
  have := List.length_filter_le (fun k : Nat => decide ((k : Int) ∈ l)) (List.range i)
  rwa [List.length_range] at this
theorem cntIn_all {l : List Int} {n : Nat} (hnd : l.Nodup) (hl : ∀ x ∈ l, 0 ≤ x ∧ x < (n : Int)) : cntIn l n = l.length := by
  unfold cntIn
  have e : ((List.range n).filter fun k : Nat => decide ((k : Int) ∈ l)).length = (((List.range n).filter fun k : Nat => decide ((k : Int) ∈ l)).map fun k : Nat => (k : Int)).length := by rw [List.length_map]
  rw [e]
  refine Nat.le_antisymm ?_ ?_
  · refine List.Nodup.length_le_of_subset ?_ fun x hx => ?_
    · show List.Pairwise _ _
      rw [List.pairwise_map]
      exact (List.nodup_range.filter _).imp (fun h e => h (by omega))
    · obtain ⟨k, hk, rfl⟩ := List.mem_map.1 hx
      exact of_decide_eq_true (List.mem_filter.1 hk).2
  · refine List.Nodup.length_le_of_subset hnd fun x hx => ?_
    have := hl x hx
    obtain ⟨k, rfl⟩ := Int.eq_ofNat_of_zero_le this.1
    exact List.mem_map.2 ⟨k, List.mem_filter.2 ⟨List.mem_range.2 (by omega), decide_eq_true hx⟩, rfl⟩

theorem rdm {g : List (List Int)} {a : Nat} {m : List Bool} (hml : m.length = g.length) (hmk : ∀ i, i < g.length → (Mk m i ↔ Way g a i)) {i : Nat} (hi : i < g.length) : rdOf false m (i : Int) = true ↔ Way g a i := (mk_rd (by omega)).trans (hmk i hi)
end Go.Proofs.Ytkmbhknmjnbanaa.A


namespace Go.Proofs.Ytkmbhknmjnbanaa.A
open Go.RowKit Go.Proofs.YtkmbhknmjnbanaaW.PrintWords Go.Proofs.YtkmbhknmjnbanaaW.PrintLast Go.Proofs.YtkmbhknmjnbanaaW.PrintMore
attribute [local go_sem] max2_int min2_int max_two min_two max_three min_three max_four min_four   -- for this text's walks alone
set_option linter.unusedVariables false
set_option linter.unusedSimpArgs false

attribute [local go_sem high] eqA37
mutual
def swagelaw06_GraphOnward.j0 : Nat → List (List Int) → Bool → List Int → List Bool → List (S37) → Bool → Option (Bool)
  | 0, _, _, _, _, _, _ => none
  | k + 1, x0, x3, x5, x6, x7, x63 => if x63 = true then (some false) else (if 0 ≤ (x0.length : Int) then (if ((x0.length : Int) : Int).toNat ≤ 35184372088832 then (swagelaw06_GraphOnward.l0 k x0 x3 x5 x6 x7 (List.replicate ((x0.length : Int) : Int).toNat 0) 0) else (none)) else (none))
def swagelaw06_GraphOnward.l0 : Nat → List (List Int) → Bool → List Int → List Bool → List (S37) → List Int → Int → Option (Bool)
  | 0, _, _, _, _, _, _, _ => none
  | k + 1, x0, x3, x5, x6, x7, x8, x9 => if x9 < (x5.length : Int) then (if 0 ≤ x9 then (if (rd x5 x9) < 0 then (some false) else (if (rd x5 x9) ≥ (x0.length : Int) then (some false) else (if 0 ≤ (rd x5 x9) then (if (rd x5 x9) < (x8.length : Int) then (if (rd x8 (rd x5 x9)) = 0 then (if (rd x5 x9) < (x6.length : Int) then (if (rdOf false x6 (rd x5 x9) = true) then (swagelaw06_GraphOnward.l0 k x0 x3 x5 x6 x7 (x8.set ((rd x5 x9) : Int).toNat (wrap64 (x9 + 1))) (wrap64 (x9 + 1))) else (some false)) else (none)) else (some false)) else (none)) else (none)))) else (none)) else (swagelaw06_GraphOnward.l1 k x0 x3 x5 x6 x7 x8 0 0)
def swagelaw06_GraphOnward.l1 : Nat → List (List Int) → Bool → List Int → List Bool → List (S37) → List Int → Int → Int → Option (Bool)
  | 0, _, _, _, _, _, _, _, _ => none
  | k + 1, x0, x3, x5, x6, x7, x8, x10, x11 => if x11 < (x0.length : Int) then (if 0 ≤ x11 then (if x11 < (x6.length : Int) then (if rdOf false x6 x11 = true then (swagelaw06_GraphOnward.j3 k x0 x3 x5 x6 x7 x8 (wrap64 (x10 + 1)) x11) else (swagelaw06_GraphOnward.j3 k x0 x3 x5 x6 x7 x8 x10 x11)) else (none)) else (none)) else (if x3 = true then (some (x10 == (x5.length : Int))) else (some false))
def swagelaw06_GraphOnward.j3 : Nat → List (List Int) → Bool → List Int → List Bool → List (S37) → List Int → Int → Int → Option (Bool)
  | 0, _, _, _, _, _, _, _, _ => none
  | k + 1, x0, x3, x5, x6, x7, x8, x10, x11 => swagelaw06_GraphOnward.l2 k x0 x3 x5 x6 x7 x8 x10 x11 0
def swagelaw06_GraphOnward.l2 : Nat → List (List Int) → Bool → List Int → List Bool → List (S37) → List Int → Int → Int → Int → Option (Bool)
  | 0, _, _, _, _, _, _, _, _, _ => none
  | k + 1, x0, x3, x5, x6, x7, x8, x10, x11, x12 => if 0 ≤ x11 then (if x11 < (x0.length : Int) then (if x12 < ((rd_L1 x0 x11).length : Int) then (if x11 < (x6.length : Int) then (swagelaw06_GraphOnward.j5 k x0 x3 x5 x6 x7 x8 x10 x11 x12 (rdOf false x6 x11)) else (none)) else (swagelaw06_GraphOnward.j5 k x0 x3 x5 x6 x7 x8 x10 x11 x12 false)) else (none)) else (none)
def swagelaw06_GraphOnward.j5 : Nat → List (List Int) → Bool → List Int → List Bool → List (S37) → List Int → Int → Int → Int → Bool → Option (Bool)
  | 0, _, _, _, _, _, _, _, _, _, _ => none
  | k + 1, x0, x3, x5, x6, x7, x8, x10, x11, x12, x139 => if x139 = true then (swagelaw06_GraphOnward.l3 k x0 x3 x5 x6 x7 x8 x10 x11 x12 false 0) else (swagelaw06_GraphOnward.l1 k x0 x3 x5 x6 x7 x8 x10 (wrap64 (x11 + 1)))
def swagelaw06_GraphOnward.l3 : Nat → List (List Int) → Bool → List Int → List Bool → List (S37) → List Int → Int → Int → Int → Bool → Int → Option (Bool)
  | 0, _, _, _, _, _, _, _, _, _, _, _ => none
  | k + 1, x0, x3, x5, x6, x7, x8, x10, x11, x12, x13, x14 => if x14 < (x7.length : Int) then (if x13 = true then (swagelaw06_GraphOnward.l3 k x0 x3 x5 x6 x7 x8 x10 x11 x12 true (wrap64 (x14 + 1))) else (if 0 ≤ x14 then (if 0 ≤ x11 then (if x11 < (x0.length : Int) then (if 0 ≤ x12 then (if x12 < ((rd_L1 x0 x11).length : Int) then (swagelaw06_GraphOnward.l3 k x0 x3 x5 x6 x7 x8 x10 x11 x12 (((rd_T37 x7 x14).f0) == x11 && (((rd_T37 x7 x14).f1) == (rd (rd_L1 x0 x11) x12))) (wrap64 (x14 + 1))) else (none)) else (none)) else (none)) else (none)) else (none))) else (if 0 ≤ x11 then (if x11 < (x0.length : Int) then (if 0 ≤ x12 then (if x12 < ((rd_L1 x0 x11).length : Int) then (if 0 ≤ (rd (rd_L1 x0 x11) x12) then (if (rd (rd_L1 x0 x11) x12) < (x8.length : Int) then (if x11 < (x8.length : Int) then (if (x13 == (decide ((rd x8 (rd (rd_L1 x0 x11) x12)) > (rd x8 x11)))) = true then (some false) else (swagelaw06_GraphOnward.l2 k x0 x3 x5 x6 x7 x8 x10 x11 (wrap64 (x12 + 1)))) else (none)) else (none)) else (none)) else (none)) else (none)) else (none)) else (none))
end
def swagelaw06_GraphOnward.f (k : Nat) (l0 : List (List Int)) : Option (Bool) := (swagelaw06_small.f).bind fun t478 => ((swagelaw06_Few.f k l0).bind fun t479 => (if t479 = true then ((graph_Order.f l0).bind fun t480 => ((graph_Right.f l0).bind fun t483 => (if t483 = true then ((graph_Reach.f l0 0).bind fun t490 => ((graph_Back.f k l0).bind fun t493 => (if (t490.length : Int) = (l0.length : Int) then (if (t480.length : Int) < 1 then (swagelaw06_GraphOnward.j0 k l0 t478 t480 t490 t493 true) else (if 0 < (t480.length : Int) then (swagelaw06_GraphOnward.j0 k l0 t478 t480 t490 t493 ((rd t480 0) != 0)) else (none))) else (swagelaw06_GraphOnward.j0 k l0 t478 t480 t490 t493 true)))) else (if t478 = true then (if (t480.length : Int) = 0 then ((graph_Back.f k l0).bind fun t484 => (if (t484.length : Int) = 0 then ((graph_Loops.f l0).bind fun t487 => (some ((t487.length : Int) == 0))) else (some false))) else (some false)) else (some false))))) else (some t478)))
set_option maxHeartbeats 8000000 in
set_option maxRecDepth 100000 in
theorem swagelaw06_GraphOnward.calls (k : Nat) (A0 : Option Addr) (c0 : Nat) (l0 : List (List Int)) (r : Bool) (w : World) (hr0 : Kd.C (Kd.slice 3 (Kd.int .i64)) w A0 l0.length l0) (hc0 : l0.length ≤ c0) (h : swagelaw06_GraphOnward.f k l0 = some r) :
    Calls Try.prog 5 #[.slice A0 l0.length c0] w fun e w' => e = .returned (.bool r) ∧ Below w.heap.size w w' := by
  have hu37 := Try.underlying37
  have HR0 := Aside0.mk hr0
  have HC0 := Aside0.mk hc0
  clear hr0 hc0
  have HB := Aside0.mk (Below.refl w.heap.size w)
  have H : ((swagelaw06_small.f).bind fun t478 => ((swagelaw06_Few.f k l0).bind fun t479 => (if t479 = true then ((graph_Order.f l0).bind fun t480 => ((graph_Right.f l0).bind fun t483 => (if t483 = true then ((graph_Reach.f l0 0).bind fun t490 => ((graph_Back.f k l0).bind fun t493 => (if (t490.length : Int) = (l0.length : Int) then (if (t480.length : Int) < 1 then (swagelaw06_GraphOnward.j0 k l0 t478 t480 t490 t493 true) else (if 0 < (t480.length : Int) then (swagelaw06_GraphOnward.j0 k l0 t478 t480 t490 t493 ((rd t480 0) != 0)) else (none))) else (swagelaw06_GraphOnward.j0 k l0 t478 t480 t490 t493 true)))) else (if t478 = true then (if (t480.length : Int) = 0 then ((graph_Back.f k l0).bind fun t484 => (if (t484.length : Int) = 0 then ((graph_Loops.f l0).bind fun t487 => (some ((t487.length : Int) == 0))) else (some false))) else (some false)) else (some false))))) else (some t478)))) = some r := h
  clear h
  replace H := Option.bind_eq_some_iff.mp H
  obtain ⟨t478, A20, H⟩ := H
  replace H : ((swagelaw06_Few.f k l0).bind fun t479 => (if t479 = true then ((graph_Order.f l0).bind fun t480 => ((graph_Right.f l0).bind fun t483 => (if t483 = true then ((graph_Reach.f l0 0).bind fun t490 => ((graph_Back.f k l0).bind fun t493 => (if (t490.length : Int) = (l0.length : Int) then (if (t480.length : Int) < 1 then (swagelaw06_GraphOnward.j0 k l0 t478 t480 t490 t493 true) else (if 0 < (t480.length : Int) then (swagelaw06_GraphOnward.j0 k l0 t478 t480 t490 t493 ((rd t480 0) != 0)) else (none))) else (swagelaw06_GraphOnward.j0 k l0 t478 t480 t490 t493 true)))) else (if t478 = true then (if (t480.length : Int) = 0 then ((graph_Back.f k l0).bind fun t484 => (if (t484.length : Int) = 0 then ((graph_Loops.f l0).bind fun t487 => (some ((t487.length : Int) == 0))) else (some false))) else (some false)) else (some false))))) else (some t478))) = some r := H
  have A2 := Aside0.mk A20
  clear A20
  replace H := Option.bind_eq_some_iff.mp H
  obtain ⟨t479, A30, H⟩ := H
  replace H : (if t479 = true then ((graph_Order.f l0).bind fun t480 => ((graph_Right.f l0).bind fun t483 => (if t483 = true then ((graph_Reach.f l0 0).bind fun t490 => ((graph_Back.f k l0).bind fun t493 => (if (t490.length : Int) = (l0.length : Int) then (if (t480.length : Int) < 1 then (swagelaw06_GraphOnward.j0 k l0 t478 t480 t490 t493 true) else (if 0 < (t480.length : Int) then (swagelaw06_GraphOnward.j0 k l0 t478 t480 t490 t493 ((rd t480 0) != 0)) else (none))) else (swagelaw06_GraphOnward.j0 k l0 t478 t480 t490 t493 true)))) else (if t478 = true then (if (t480.length : Int) = 0 then ((graph_Back.f k l0).bind fun t484 => (if (t484.length : Int) = 0 then ((graph_Loops.f l0).bind fun t487 => (some ((t487.length : Int) == 0))) else (some false))) else (some false)) else (some false))))) else (some t478)) = some r := H
  have A3 := Aside0.mk A30
  clear A30
  by_cases c4 : t479 = true
  · subst c4
    have H1 : ((graph_Order.f l0).bind fun t480 => ((graph_Right.f l0).bind fun t483 => (if t483 = true then ((graph_Reach.f l0 0).bind fun t490 => ((graph_Back.f k l0).bind fun t493 => (if (t490.length : Int) = (l0.length : Int) then (if (t480.length : Int) < 1 then (swagelaw06_GraphOnward.j0 k l0 t478 t480 t490 t493 true) else (if 0 < (t480.length : Int) then (swagelaw06_GraphOnward.j0 k l0 t478 t480 t490 t493 ((rd t480 0) != 0)) else (none))) else (swagelaw06_GraphOnward.j0 k l0 t478 t480 t490 t493 true)))) else (if t478 = true then (if (t480.length : Int) = 0 then ((graph_Back.f k l0).bind fun t484 => (if (t484.length : Int) = 0 then ((graph_Loops.f l0).bind fun t487 => (some ((t487.length : Int) == 0))) else (some false))) else (some false)) else (some false))))) = some r := by rw [if_pos rfl] at H; exact H
    clear H
    have H := H1
    clear H1
    replace H := Option.bind_eq_some_iff.mp H
    obtain ⟨t480, A50, H⟩ := H
    replace H : ((graph_Right.f l0).bind fun t483 => (if t483 = true then ((graph_Reach.f l0 0).bind fun t490 => ((graph_Back.f k l0).bind fun t493 => (if (t490.length : Int) = (l0.length : Int) then (if (t480.length : Int) < 1 then (swagelaw06_GraphOnward.j0 k l0 t478 t480 t490 t493 true) else (if 0 < (t480.length : Int) then (swagelaw06_GraphOnward.j0 k l0 t478 t480 t490 t493 ((rd t480 0) != 0)) else (none))) else (swagelaw06_GraphOnward.j0 k l0 t478 t480 t490 t493 true)))) else (if t478 = true then (if (t480.length : Int) = 0 then ((graph_Back.f k l0).bind fun t484 => (if (t484.length : Int) = 0 then ((graph_Loops.f l0).bind fun t487 => (some ((t487.length : Int) == 0))) else (some false))) else (some false)) else (some false)))) = some r := H
    have A5 := Aside0.mk A50
    clear A50
    replace H := Option.bind_eq_some_iff.mp H
    obtain ⟨t483, A60, H⟩ := H
    replace H : (if t483 = true then ((graph_Reach.f l0 0).bind fun t490 => ((graph_Back.f k l0).bind fun t493 => (if (t490.length : Int) = (l0.length : Int) then (if (t480.length : Int) < 1 then (swagelaw06_GraphOnward.j0 k l0 t478 t480 t490 t493 true) else (if 0 < (t480.length : Int) then (swagelaw06_GraphOnward.j0 k l0 t478 t480 t490 t493 ((rd t480 0) != 0)) else (none))) else (swagelaw06_GraphOnward.j0 k l0 t478 t480 t490 t493 true)))) else (if t478 = true then (if (t480.length : Int) = 0 then ((graph_Back.f k l0).bind fun t484 => (if (t484.length : Int) = 0 then ((graph_Loops.f l0).bind fun t487 => (some ((t487.length : Int) == 0))) else (some false))) else (some false)) else (some false))) = some r := H
    have A6 := Aside0.mk A60
    clear A60
    by_cases c7 : t483 = true
    · subst c7
      have H1 : ((graph_Reach.f l0 0).bind fun t490 => ((graph_Back.f k l0).bind fun t493 => (if (t490.length : Int) = (l0.length : Int) then (if (t480.length : Int) < 1 then (swagelaw06_GraphOnward.j0 k l0 t478 t480 t490 t493 true) else (if 0 < (t480.length : Int) then (swagelaw06_GraphOnward.j0 k l0 t478 t480 t490 t493 ((rd t480 0) != 0)) else (none))) else (swagelaw06_GraphOnward.j0 k l0 t478 t480 t490 t493 true)))) = some r := by rw [if_pos rfl] at H; exact H
      clear H
      have H := H1
      clear H1
      replace H := Option.bind_eq_some_iff.mp H
      obtain ⟨t490, A80, H⟩ := H
      replace H : ((graph_Back.f k l0).bind fun t493 => (if (t490.length : Int) = (l0.length : Int) then (if (t480.length : Int) < 1 then (swagelaw06_GraphOnward.j0 k l0 t478 t480 t490 t493 true) else (if 0 < (t480.length : Int) then (swagelaw06_GraphOnward.j0 k l0 t478 t480 t490 t493 ((rd t480 0) != 0)) else (none))) else (swagelaw06_GraphOnward.j0 k l0 t478 t480 t490 t493 true))) = some r := H
      have A8 := Aside0.mk A80
      clear A80
      replace H := Option.bind_eq_some_iff.mp H
      obtain ⟨t493, A90, H⟩ := H
      replace H : (if (t490.length : Int) = (l0.length : Int) then (if (t480.length : Int) < 1 then (swagelaw06_GraphOnward.j0 k l0 t478 t480 t490 t493 true) else (if 0 < (t480.length : Int) then (swagelaw06_GraphOnward.j0 k l0 t478 t480 t490 t493 ((rd t480 0) != 0)) else (none))) else (swagelaw06_GraphOnward.j0 k l0 t478 t480 t490 t493 true)) = some r := H
      have A9 := Aside0.mk A90
      clear A90
      have HC10 := Aside0.mk H
      clear H
      go_enter Try.func5, Try.ntmps5
      go_upto_region 10 with (first | (go_at_call 13; (with_reducible refine (swagelaw06_small.calls  t478 _ A2.out).mono ?_); rintro e w11 ⟨rfl, hb⟩; have n0_ := Aside0.mk (below_step (by repeat (first | (with_reducible first | exact HB.out | apply below_alloc | apply pw_below_drewN | apply below_drew1) | exact HB.out)) hb); clear HB; have HB := n0_; clear n0_; (try clear hb); (try clear hb2); (try clear hk); (try clear hi)) | (go_at_call 14; (with_reducible refine (swagelaw06_Few.calls k _ _ l0 true _ ?side1 ?side2 A3.out).mono ?_); (case side1 => repeat (first | exact (Kd.C_below HR0.out HB.out) | (with_reducible refine Kd.C_alloc ?_ _) | (with_reducible refine Kd.C_drewN ?_ _) | (with_reducible refine Kd.C_drew ?_))); (case side2 => exact HC0.out); rintro e w' ⟨rfl, ⟨nd, rfl⟩⟩; (try first | exact ⟨rfl, _, World.drewN_drewN _ _ _⟩ | exact ⟨rfl, _, Eq.trans (World.drewN_drewN _ _ _) (congrArg (World.drewN _) (Nat.add_assoc _ _ _))⟩)) | (go_at_call 28; (with_reducible refine (graph_Order.calls _ _ l0 t480 _ ?side1 ?side2 A5.out).mono ?_); (case side1 => repeat (first | exact (Kd.C_below HR0.out (by repeat (first | (with_reducible first | exact HB.out | apply below_alloc | apply pw_below_drewN | apply below_drew1) | exact HB.out))) | (with_reducible refine Kd.C_alloc ?_ _) | (with_reducible refine Kd.C_drewN ?_ _) | (with_reducible refine Kd.C_drew ?_))); (case side2 => exact HC0.out); rintro e w12 ⟨v481, rfl, ho0, hb⟩; have n0_ := Aside0.mk (Kd.R_lower ho0 (below_size (by repeat (first | (with_reducible first | exact HB.out | apply below_alloc | apply pw_below_drewN | apply below_drew1) | exact HB.out)))); have n1_ := Aside0.mk (below_step (by repeat (first | (with_reducible first | exact HB.out | apply below_alloc | apply pw_below_drewN | apply below_drew1) | exact HB.out)) hb); clear HB; have HO482 := n0_; have HB := n1_; clear n0_ n1_; (try clear hb); (try clear hb2); (try clear hk); (try clear hi); (try clear ho0)) | (go_at_call 19; (with_reducible refine (graph_Right.calls _ _ l0 true _ ?side1 ?side2 A6.out).mono ?_); (case side1 => repeat (first | exact (Kd.C_below HR0.out HB.out) | (with_reducible refine Kd.C_alloc ?_ _) | (with_reducible refine Kd.C_drewN ?_ _) | (with_reducible refine Kd.C_drew ?_))); (case side2 => exact HC0.out); rintro e w13 ⟨rfl, hb⟩; have n0_ := Aside0.mk (Kd.R_below (by (with_reducible repeat (first | apply Kd.R_alloc | apply Kd.R_drewN | apply Kd.R_drew)); exact HO482.out) hb); have n1_ := Aside0.mk (below_step (by repeat (first | (with_reducible first | exact HB.out | apply below_alloc | apply pw_below_drewN | apply below_drew1) | exact HB.out)) hb); clear HO482; clear HB; have HO482 := n0_; have HB := n1_; clear n0_ n1_; (try clear hb); (try clear hb2); (try clear hk); (try clear hi)) | (go_at_call 22; (with_reducible refine (graph_Reach.calls _ _ l0 0 t490 _ ?side1 ?side2 A8.out).mono ?_); (case side1 => repeat (first | exact (Kd.C_below HR0.out HB.out) | (with_reducible refine Kd.C_alloc ?_ _) | (with_reducible refine Kd.C_drewN ?_ _) | (with_reducible refine Kd.C_drew ?_))); (case side2 => exact HC0.out); rintro e w14 ⟨v491, rfl, ho0, hb⟩; have n0_ := Aside0.mk (Kd.R_below (by (with_reducible repeat (first | apply Kd.R_alloc | apply Kd.R_drewN | apply Kd.R_drew)); exact HO482.out) hb); have n1_ := Aside0.mk (Kd.R_lower ho0 (below_size (by repeat (first | (with_reducible first | exact HB.out | apply below_alloc | apply pw_below_drewN | apply below_drew1) | exact HB.out)))); have n2_ := Aside0.mk (below_step (by repeat (first | (with_reducible first | exact HB.out | apply below_alloc | apply pw_below_drewN | apply below_drew1) | exact HB.out)) hb); clear HO482; clear HB; have HO482 := n0_; have HO492 := n1_; have HB := n2_; clear n0_ n1_ n2_; (try clear hb); (try clear hb2); (try clear hk); (try clear hi); (try clear ho0)) | (go_at_call 30; (with_reducible refine (graph_Back.calls k _ _ l0 t493 _ ?side1 ?side2 A9.out).mono ?_); (case side1 => repeat (first | exact (Kd.C_below HR0.out HB.out) | (with_reducible refine Kd.C_alloc ?_ _) | (with_reducible refine Kd.C_drewN ?_ _) | (with_reducible refine Kd.C_drew ?_))); (case side2 => exact HC0.out); rintro e w15 ⟨v494, rfl, ho0, hb⟩; have n0_ := Aside0.mk (Kd.R_below (by (with_reducible repeat (first | apply Kd.R_alloc | apply Kd.R_drewN | apply Kd.R_drew)); exact HO482.out) hb); have n1_ := Aside0.mk (Kd.R_below (by (with_reducible repeat (first | apply Kd.R_alloc | apply Kd.R_drewN | apply Kd.R_drew)); exact HO492.out) hb); have n2_ := Aside0.mk (Kd.R_lower ho0 (below_size (by repeat (first | (with_reducible first | exact HB.out | apply below_alloc | apply pw_below_drewN | apply below_drew1) | exact HB.out)))); have n3_ := Aside0.mk (below_step (by repeat (first | (with_reducible first | exact HB.out | apply below_alloc | apply pw_below_drewN | apply below_drew1) | exact HB.out)) hb); clear HO482; clear HO492; clear HB; have HO482 := n0_; have HO492 := n1_; have HO495 := n2_; have HB := n3_; clear n0_ n1_ n2_ n3_; (try clear hb); (try clear hb2); (try clear hk); (try clear hi); (try clear ho0)))
      repeat (go_quiet (first | (go_at_call 13; (with_reducible refine (swagelaw06_small.calls  t478 _ A2.out).mono ?_); rintro e w11 ⟨rfl, hb⟩; have n0_ := Aside0.mk (below_step (by repeat (first | (with_reducible first | exact HB.out | apply below_alloc | apply pw_below_drewN | apply below_drew1) | exact HB.out)) hb); clear HB; have HB := n0_; clear n0_; (try clear hb); (try clear hb2); (try clear hk); (try clear hi)) | (go_at_call 14; (with_reducible refine (swagelaw06_Few.calls k _ _ l0 true _ ?side1 ?side2 A3.out).mono ?_); (case side1 => repeat (first | exact (Kd.C_below HR0.out HB.out) | (with_reducible refine Kd.C_alloc ?_ _) | (with_reducible refine Kd.C_drewN ?_ _) | (with_reducible refine Kd.C_drew ?_))); (case side2 => exact HC0.out); rintro e w' ⟨rfl, ⟨nd, rfl⟩⟩; (try first | exact ⟨rfl, _, World.drewN_drewN _ _ _⟩ | exact ⟨rfl, _, Eq.trans (World.drewN_drewN _ _ _) (congrArg (World.drewN _) (Nat.add_assoc _ _ _))⟩)) | (go_at_call 28; (with_reducible refine (graph_Order.calls _ _ l0 t480 _ ?side1 ?side2 A5.out).mono ?_); (case side1 => repeat (first | exact (Kd.C_below HR0.out (by repeat (first | (with_reducible first | exact HB.out | apply below_alloc | apply pw_below_drewN | apply below_drew1) | exact HB.out))) | (with_reducible refine Kd.C_alloc ?_ _) | (with_reducible refine Kd.C_drewN ?_ _) | (with_reducible refine Kd.C_drew ?_))); (case side2 => exact HC0.out); rintro e w12 ⟨v481, rfl, ho0, hb⟩; have n0_ := Aside0.mk (Kd.R_lower ho0 (below_size (by repeat (first | (with_reducible first | exact HB.out | apply below_alloc | apply pw_below_drewN | apply below_drew1) | exact HB.out)))); have n1_ := Aside0.mk (below_step (by repeat (first | (with_reducible first | exact HB.out | apply below_alloc | apply pw_below_drewN | apply below_drew1) | exact HB.out)) hb); clear HB; have HO482 := n0_; have HB := n1_; clear n0_ n1_; (try clear hb); (try clear hb2); (try clear hk); (try clear hi); (try clear ho0)) | (go_at_call 19; (with_reducible refine (graph_Right.calls _ _ l0 true _ ?side1 ?side2 A6.out).mono ?_); (case side1 => repeat (first | exact (Kd.C_below HR0.out HB.out) | (with_reducible refine Kd.C_alloc ?_ _) | (with_reducible refine Kd.C_drewN ?_ _) | (with_reducible refine Kd.C_drew ?_))); (case side2 => exact HC0.out); rintro e w13 ⟨rfl, hb⟩; have n0_ := Aside0.mk (Kd.R_below (by (with_reducible repeat (first | apply Kd.R_alloc | apply Kd.R_drewN | apply Kd.R_drew)); exact HO482.out) hb); have n1_ := Aside0.mk (below_step (by repeat (first | (with_reducible first | exact HB.out | apply below_alloc | apply pw_below_drewN | apply below_drew1) | exact HB.out)) hb); clear HO482; clear HB; have HO482 := n0_; have HB := n1_; clear n0_ n1_; (try clear hb); (try clear hb2); (try clear hk); (try clear hi)) | (go_at_call 22; (with_reducible refine (graph_Reach.calls _ _ l0 0 t490 _ ?side1 ?side2 A8.out).mono ?_); (case side1 => repeat (first | exact (Kd.C_below HR0.out HB.out) | (with_reducible refine Kd.C_alloc ?_ _) | (with_reducible refine Kd.C_drewN ?_ _) | (with_reducible refine Kd.C_drew ?_))); (case side2 => exact HC0.out); rintro e w14 ⟨v491, rfl, ho0, hb⟩; have n0_ := Aside0.mk (Kd.R_below (by (with_reducible repeat (first | apply Kd.R_alloc | apply Kd.R_drewN | apply Kd.R_drew)); exact HO482.out) hb); have n1_ := Aside0.mk (Kd.R_lower ho0 (below_size (by repeat (first | (with_reducible first | exact HB.out | apply below_alloc | apply pw_below_drewN | apply below_drew1) | exact HB.out)))); have n2_ := Aside0.mk (below_step (by repeat (first | (with_reducible first | exact HB.out | apply below_alloc | apply pw_below_drewN | apply below_drew1) | exact HB.out)) hb); clear HO482; clear HB; have HO482 := n0_; have HO492 := n1_; have HB := n2_; clear n0_ n1_ n2_; (try clear hb); (try clear hb2); (try clear hk); (try clear hi); (try clear ho0)) | (go_at_call 30; (with_reducible refine (graph_Back.calls k _ _ l0 t493 _ ?side1 ?side2 A9.out).mono ?_); (case side1 => repeat (first | exact (Kd.C_below HR0.out HB.out) | (with_reducible refine Kd.C_alloc ?_ _) | (with_reducible refine Kd.C_drewN ?_ _) | (with_reducible refine Kd.C_drew ?_))); (case side2 => exact HC0.out); rintro e w15 ⟨v494, rfl, ho0, hb⟩; have n0_ := Aside0.mk (Kd.R_below (by (with_reducible repeat (first | apply Kd.R_alloc | apply Kd.R_drewN | apply Kd.R_drew)); exact HO482.out) hb); have n1_ := Aside0.mk (Kd.R_below (by (with_reducible repeat (first | apply Kd.R_alloc | apply Kd.R_drewN | apply Kd.R_drew)); exact HO492.out) hb); have n2_ := Aside0.mk (Kd.R_lower ho0 (below_size (by repeat (first | (with_reducible first | exact HB.out | apply below_alloc | apply pw_below_drewN | apply below_drew1) | exact HB.out)))); have n3_ := Aside0.mk (below_step (by repeat (first | (with_reducible first | exact HB.out | apply below_alloc | apply pw_below_drewN | apply below_drew1) | exact HB.out)) hb); clear HO482; clear HO492; clear HB; have HO482 := n0_; have HO492 := n1_; have HO495 := n2_; have HB := n3_; clear n0_ n1_ n2_ n3_; (try clear hb); (try clear hb2); (try clear hk); (try clear hi); (try clear ho0))); go_upto_region 10 with (first | (go_at_call 13; (with_reducible refine (swagelaw06_small.calls  t478 _ A2.out).mono ?_); rintro e w11 ⟨rfl, hb⟩; have n0_ := Aside0.mk (below_step (by repeat (first | (with_reducible first | exact HB.out | apply below_alloc | apply pw_below_drewN | apply below_drew1) | exact HB.out)) hb); clear HB; have HB := n0_; clear n0_; (try clear hb); (try clear hb2); (try clear hk); (try clear hi)) | (go_at_call 14; (with_reducible refine (swagelaw06_Few.calls k _ _ l0 true _ ?side1 ?side2 A3.out).mono ?_); (case side1 => repeat (first | exact (Kd.C_below HR0.out HB.out) | (with_reducible refine Kd.C_alloc ?_ _) | (with_reducible refine Kd.C_drewN ?_ _) | (with_reducible refine Kd.C_drew ?_))); (case side2 => exact HC0.out); rintro e w' ⟨rfl, ⟨nd, rfl⟩⟩; (try first | exact ⟨rfl, _, World.drewN_drewN _ _ _⟩ | exact ⟨rfl, _, Eq.trans (World.drewN_drewN _ _ _) (congrArg (World.drewN _) (Nat.add_assoc _ _ _))⟩)) | (go_at_call 28; (with_reducible refine (graph_Order.calls _ _ l0 t480 _ ?side1 ?side2 A5.out).mono ?_); (case side1 => repeat (first | exact (Kd.C_below HR0.out (by repeat (first | (with_reducible first | exact HB.out | apply below_alloc | apply pw_below_drewN | apply below_drew1) | exact HB.out))) | (with_reducible refine Kd.C_alloc ?_ _) | (with_reducible refine Kd.C_drewN ?_ _) | (with_reducible refine Kd.C_drew ?_))); (case side2 => exact HC0.out); rintro e w12 ⟨v481, rfl, ho0, hb⟩; have n0_ := Aside0.mk (Kd.R_lower ho0 (below_size (by repeat (first | (with_reducible first | exact HB.out | apply below_alloc | apply pw_below_drewN | apply below_drew1) | exact HB.out)))); have n1_ := Aside0.mk (below_step (by repeat (first | (with_reducible first | exact HB.out | apply below_alloc | apply pw_below_drewN | apply below_drew1) | exact HB.out)) hb); clear HB; have HO482 := n0_; have HB := n1_; clear n0_ n1_; (try clear hb); (try clear hb2); (try clear hk); (try clear hi); (try clear ho0)) | (go_at_call 19; (with_reducible refine (graph_Right.calls _ _ l0 true _ ?side1 ?side2 A6.out).mono ?_); (case side1 => repeat (first | exact (Kd.C_below HR0.out HB.out) | (with_reducible refine Kd.C_alloc ?_ _) | (with_reducible refine Kd.C_drewN ?_ _) | (with_reducible refine Kd.C_drew ?_))); (case side2 => exact HC0.out); rintro e w13 ⟨rfl, hb⟩; have n0_ := Aside0.mk (Kd.R_below (by (with_reducible repeat (first | apply Kd.R_alloc | apply Kd.R_drewN | apply Kd.R_drew)); exact HO482.out) hb); have n1_ := Aside0.mk (below_step (by repeat (first | (with_reducible first | exact HB.out | apply below_alloc | apply pw_below_drewN | apply below_drew1) | exact HB.out)) hb); clear HO482; clear HB; have HO482 := n0_; have HB := n1_; clear n0_ n1_; (try clear hb); (try clear hb2); (try clear hk); (try clear hi)) | (go_at_call 22; (with_reducible refine (graph_Reach.calls _ _ l0 0 t490 _ ?side1 ?side2 A8.out).mono ?_); (case side1 => repeat (first | exact (Kd.C_below HR0.out HB.out) | (with_reducible refine Kd.C_alloc ?_ _) | (with_reducible refine Kd.C_drewN ?_ _) | (with_reducible refine Kd.C_drew ?_))); (case side2 => exact HC0.out); rintro e w14 ⟨v491, rfl, ho0, hb⟩; have n0_ := Aside0.mk (Kd.R_below (by (with_reducible repeat (first | apply Kd.R_alloc | apply Kd.R_drewN | apply Kd.R_drew)); exact HO482.out) hb); have n1_ := Aside0.mk (Kd.R_lower ho0 (below_size (by repeat (first | (with_reducible first | exact HB.out | apply below_alloc | apply pw_below_drewN | apply below_drew1) | exact HB.out)))); have n2_ := Aside0.mk (below_step (by repeat (first | (with_reducible first | exact HB.out | apply below_alloc | apply pw_below_drewN | apply below_drew1) | exact HB.out)) hb); clear HO482; clear HB; have HO482 := n0_; have HO492 := n1_; have HB := n2_; clear n0_ n1_ n2_; (try clear hb); (try clear hb2); (try clear hk); (try clear hi); (try clear ho0)) | (go_at_call 30; (with_reducible refine (graph_Back.calls k _ _ l0 t493 _ ?side1 ?side2 A9.out).mono ?_); (case side1 => repeat (first | exact (Kd.C_below HR0.out HB.out) | (with_reducible refine Kd.C_alloc ?_ _) | (with_reducible refine Kd.C_drewN ?_ _) | (with_reducible refine Kd.C_drew ?_))); (case side2 => exact HC0.out); rintro e w15 ⟨v494, rfl, ho0, hb⟩; have n0_ := Aside0.mk (Kd.R_below (by (with_reducible repeat (first | apply Kd.R_alloc | apply Kd.R_drewN | apply Kd.R_drew)); exact HO482.out) hb); have n1_ := Aside0.mk (Kd.R_below (by (with_reducible repeat (first | apply Kd.R_alloc | apply Kd.R_drewN | apply Kd.R_drew)); exact HO492.out) hb); have n2_ := Aside0.mk (Kd.R_lower ho0 (below_size (by repeat (first | (with_reducible first | exact HB.out | apply below_alloc | apply pw_below_drewN | apply below_drew1) | exact HB.out)))); have n3_ := Aside0.mk (below_step (by repeat (first | (with_reducible first | exact HB.out | apply below_alloc | apply pw_below_drewN | apply below_drew1) | exact HB.out)) hb); clear HO482; clear HO492; clear HB; have HO482 := n0_; have HO492 := n1_; have HO495 := n2_; have HB := n3_; clear n0_ n1_ n2_ n3_; (try clear hb); (try clear hb2); (try clear hk); (try clear hi); (try clear ho0))))
      (try simp only [Act.put, List.setIfInBounds_toArray, List.set_cons_zero, List.set_cons_succ])
      go_cut [63] (fun v63 wc => ∃ (kq : Nat) (x63_9 : Bool), v63 = .bool x63_9 ∧ Aside0 (swagelaw06_GraphOnward.j0 kq l0 t478 t480 t490 t493 x63_9 = some r) ∧ Aside0 (kq ≤ k) ∧ Aside0 (Kd.R (Kd.int .i64) 3 wc w.heap.size (fun _ => True) v481 t480) ∧ Aside0 (Kd.R Kd.bool 4 wc w.heap.size (fun _ => True) v491 t490) ∧ Aside0 (Kd.R k37 37 wc w.heap.size (fun _ => True) v494 t493) ∧ Aside0 (Below w.heap.size w wc))
      case first =>
        have H := HC10.out
        clear HC10
        by_cases c16 : (t490.length : Int) = (l0.length : Int)
        · rw [if_pos c16] at H
          have c16b0 : ((t490.length : Int) == (l0.length : Int)) = true := beq_iff_eq.mpr c16
          have c16b1 : ((t490.length : Int) != (l0.length : Int)) = false := bne_eq_false_iff_eq.mpr c16
          have c16b2 : (t490.length == l0.length) = true := by first | simpa using c16 | (simp at c16 ⊢; omega)
          clear c16
          (first | rw [c16b0] | (simp only [i64_w, i32_w]; rw [c16b0]) | skip)
          by_cases c17 : (t480.length : Int) < 1
          · rw [if_pos c17] at H
            have c17b0 : decide ((t480.length : Int) < 1) = true := decide_eq_true c17
            have c17b1 : decide (t480.length < 1) = true := decide_eq_true (by omega)
            clear c17
            have H' := Aside0.mk H
            clear H
            obtain ⟨Ao18, co18, eo18⟩ := Kd.R_slice HO492.out
            subst eo18
            obtain ⟨Ao19, co19, eo19⟩ := Kd.R_slice HO482.out
            subst eo19
            go_wp2
            repeat (go_quiet (fail); try go_wp2)
            go_meet
            case rel => exact ⟨_, (true), (by first | rfl | (simp; done) | (simp [*]; done)), H', ⟨by first | omega | exact Nat.le_refl _⟩, ⟨by (with_reducible repeat (first | apply Kd.R_alloc | apply Kd.R_drewN | apply Kd.R_drew)); exact HO482.out⟩, ⟨by (with_reducible repeat (first | apply Kd.R_alloc | apply Kd.R_drewN | apply Kd.R_drew)); exact HO492.out⟩, ⟨by (with_reducible repeat (first | apply Kd.R_alloc | apply Kd.R_drewN | apply Kd.R_drew)); exact HO495.out⟩, ⟨by repeat (first | (with_reducible first | exact HB.out | apply below_alloc | apply pw_below_drewN | apply below_drew1) | exact HB.out)⟩⟩
          · rw [if_neg c17] at H
            have c17b0 : decide ((t480.length : Int) < 1) = false := decide_eq_false c17
            have c17b1 : decide (t480.length < 1) = false := decide_eq_false (by omega)
            clear c17
            by_cases c20 : 0 < (t480.length : Int)
            · rw [if_pos c20] at H
              have c20b0 : decide (0 < (t480.length : Int)) = true := decide_eq_true c20
              have c20b1 : decide (0 < t480.length) = true := decide_eq_true (by omega)
              clear c20
              have H' := Aside0.mk H
              clear H
              obtain ⟨Ao21, co21, eo21⟩ := Kd.R_slice HO492.out
              subst eo21
              obtain ⟨Ao22, co22, eo22⟩ := Kd.R_slice HO482.out
              subst eo22
              have p496 : 0 ≤ (0 : Int) := (by omega)
              have q496 : 0 < (t480.length : Int) := of_decide_eq_true (by first | (with_reducible assumption) | assumption)
              obtain ⟨ad496, e496, hx496_0⟩ := Kd.at_int (Kd.R_reads' HO482.out).2.2 0 p496 q496
              cases e496
              have qi496 : (0 < t480.length) = True := eq_true (by omega)
              (try rw [show ((0 : Int)).toNat = 0 from rfl] at hx496_0)
              (try rw [Addr.add_zero'] at hx496_0)
              replace p496 := eq_true p496
              replace q496 := eq_true q496
              go_wp2
              repeat (go_quiet (fail); try go_wp2)
              go_meet
              case rel => exact ⟨_, (((rd t480 0) != 0)), (by first | rfl | (simp; done) | (simp [*]; done)), H', ⟨by first | omega | exact Nat.le_refl _⟩, ⟨by (with_reducible repeat (first | apply Kd.R_alloc | apply Kd.R_drewN | apply Kd.R_drew)); exact HO482.out⟩, ⟨by (with_reducible repeat (first | apply Kd.R_alloc | apply Kd.R_drewN | apply Kd.R_drew)); exact HO492.out⟩, ⟨by (with_reducible repeat (first | apply Kd.R_alloc | apply Kd.R_drewN | apply Kd.R_drew)); exact HO495.out⟩, ⟨by repeat (first | (with_reducible first | exact HB.out | apply below_alloc | apply pw_below_drewN | apply below_drew1) | exact HB.out)⟩⟩
            · rw [if_neg c20] at H
              exact absurd H (by simp)
        · rw [if_neg c16] at H
          have c16b0 : ((t490.length : Int) == (l0.length : Int)) = false := beq_eq_false_iff_ne.mpr c16
          have c16b1 : ((t490.length : Int) != (l0.length : Int)) = true := bne_iff_ne.mpr c16
          have c16b2 : (t490.length == l0.length) = false := by first | simpa using c16 | (simp at c16 ⊢; omega)
          (first | rw [c16b0] | (simp only [i64_w, i32_w]; rw [c16b0]) | skip)
          have H' := Aside0.mk H
          clear H
          obtain ⟨Ao23, co23, eo23⟩ := Kd.R_slice HO492.out
          subst eo23
          go_wp2
          repeat (go_quiet (fail); try go_wp2)
          go_meet
          case rel => exact ⟨_, (true), (by first | rfl | (simp; done) | (simp [*]; done)), H', ⟨by first | omega | exact Nat.le_refl _⟩, ⟨by (with_reducible repeat (first | apply Kd.R_alloc | apply Kd.R_drewN | apply Kd.R_drew)); exact HO482.out⟩, ⟨by (with_reducible repeat (first | apply Kd.R_alloc | apply Kd.R_drewN | apply Kd.R_drew)); exact HO492.out⟩, ⟨by (with_reducible repeat (first | apply Kd.R_alloc | apply Kd.R_drewN | apply Kd.R_drew)); exact HO495.out⟩, ⟨by repeat (first | (with_reducible first | exact HB.out | apply below_alloc | apply pw_below_drewN | apply below_drew1) | exact HB.out)⟩⟩
      case rest =>
        clear HC10
        try clear c1
        try clear c2
        try clear p2
        try clear c4
        try clear p4
        try clear q4
        try clear hx4
        try clear qi4
        try clear c5
        try clear c7
        try clear c16
        try clear c16b0
        try clear c16b1
        try clear c16b2
        try clear c17
        try clear c17b0
        try clear c17b1
        try clear c20
        try clear c20b0
        try clear c20b1
        try clear hx496_0
        try clear p496
        try clear q496
        obtain ⟨kq, x63_9, rfl, HA, HJ9, HO_5, HO_6, HO_7, HB⟩ := hcut
        cases kq with
        | zero => exact absurd HA.out (by simp [swagelaw06_GraphOnward.j0])
        | succ kj9 =>
          have H := HA.out
          clear HA
          simp only [swagelaw06_GraphOnward.j0] at H
          by_cases c24 : x63_9 = true
          · subst c24
            have H1 : (some false) = some r := by rw [if_pos rfl] at H; exact H
            clear H
            have H := H1
            clear H1
            obtain rfl := Option.some.inj H
            go_wp2
            repeat (go_quiet (fail); try go_wp2)
            go_ret
            exact ⟨by first | rfl | (simp [errW_none, errW_some] <;> rfl) | (simp [*, errW_none, errW_some] <;> rfl), by repeat (first | (with_reducible first | exact HB.out | apply below_alloc | apply pw_below_drewN | apply below_drew1) | exact HB.out)⟩
          · replace c24 := Bool.eq_false_iff.mpr c24
            subst c24
            have H1 : (if 0 ≤ (l0.length : Int) then (if ((l0.length : Int) : Int).toNat ≤ 35184372088832 then (swagelaw06_GraphOnward.l0 kj9 l0 t478 t480 t490 t493 (List.replicate ((l0.length : Int) : Int).toNat 0) 0) else (none)) else (none)) = some r := by rw [if_neg (show ¬ (false = true) by decide)] at H; exact H
            clear H
            have H := H1
            clear H1
            by_cases c25 : 0 ≤ (l0.length : Int)
            · rw [if_pos c25] at H
              have c25b0 := eq_true c25
              have c25b1 : decide (0 ≤ (l0.length : Int)) = true := decide_eq_true c25
              clear c25
              by_cases c26 : ((l0.length : Int) : Int).toNat ≤ 35184372088832
              · rw [if_pos c26] at H
                have c26b0 := eq_true c26
                have c26b1 : decide (((l0.length : Int) : Int).toNat ≤ 35184372088832) = true := decide_eq_true c26
                clear c26
                obtain ⟨y497, hy497⟩ : ∃ y_ : List Int, y_ = (List.replicate ((l0.length : Int) : Int).toNat 0) := ⟨_, rfl⟩
                replace H : (swagelaw06_GraphOnward.l0 kj9 l0 t478 t480 t490 t493 y497 0) = some r := by first | (rw [hy497]; with_reducible exact H) | (have H2_ := (Option.bind_some _ _).symm.trans H; rw [hy497]; with_reducible exact H2_) | (have H2_ := (Option.bind_some _ _).symm.trans H; with_reducible exact H2_) | with_reducible exact H | (rw [hy497]; exact H) | exact H
                have Ny497 := Aside0.mk hy497
                clear hy497
                have H' := Aside0.mk H
                clear H
                go_wp2_with (first | ((with_reducible refine gate_dst (N := 66) rfl ?_); (try (refine gate_guard (by rfl) ?_; dsimp only)); refine Kd.R_make (Kd.int .i64) _ 3 rfl (N := 66) rfl 27 _ _ rfl (l0.length : Int) rfl rfl Try.underlying27 (.int .i64 0) 8 info3 rfl (by decide) (by omega) 0 (ok := fun _ => True) (okp := fun _ => True) rfl (fun _ hk => hk) trivial (of_decide_eq_true (by first | (with_reducible assumption) | assumption)) (Nat.le_trans (Nat.mul_le_mul_right _ (of_decide_eq_true (by first | (with_reducible assumption) | assumption) : (l0.length : Int).toNat ≤ 35184372088832)) (by omega)) (Below.refl _ _) (Nat.le_refl _) ?_; intro v498 w27 ho28 hb hg_ hnew_; clear hg_ hnew_; (first | rw [← Ny497.out] at ho28 | (simp only [Int.reduceToNat] at ho28; rw [← Ny497.out] at ho28)); have n0_ := Aside0.mk (Kd.R_elder' (by (with_reducible repeat (first | apply Kd.R_alloc | apply Kd.R_drewN | apply Kd.R_drew)); exact HO_5.out) (Kd.R_base ho28) hb); have n1_ := Aside0.mk (Kd.R_below (by (with_reducible repeat (first | apply Kd.R_alloc | apply Kd.R_drewN | apply Kd.R_drew)); exact HO_6.out) hb); have n2_ := Aside0.mk (Kd.R_below (by (with_reducible repeat (first | apply Kd.R_alloc | apply Kd.R_drewN | apply Kd.R_drew)); exact HO_7.out) hb); have n3_ := Aside0.mk (Kd.R_lower (Kd.R_new' ho28 (Kd.R_lt (by (with_reducible repeat (first | apply Kd.R_alloc | apply Kd.R_drewN | apply Kd.R_drew)); exact HO_5.out))) (below_size (by repeat (first | (with_reducible first | exact HB.out | apply below_alloc | apply pw_below_drewN | apply below_drew1) | exact HB.out)))); have n4_ := Aside0.mk (below_step (by repeat (first | (with_reducible first | exact HB.out | apply below_alloc | apply pw_below_drewN | apply below_drew1) | exact HB.out)) hb); clear HO_5; clear HO_6; clear HO_7; clear HB; have HO_5 := n0_; have HO_6 := n1_; have HO_7 := n2_; have HO499 := n3_; have HB := n4_; clear n0_ n1_ n2_ n3_ n4_; clear hb ho28))
                repeat (go_quiet (first | ((with_reducible refine gate_dst (N := 66) rfl ?_); (try (refine gate_guard (by rfl) ?_; dsimp only)); refine Kd.R_make (Kd.int .i64) _ 3 rfl (N := 66) rfl 27 _ _ rfl (l0.length : Int) rfl rfl Try.underlying27 (.int .i64 0) 8 info3 rfl (by decide) (by omega) 0 (ok := fun _ => True) (okp := fun _ => True) rfl (fun _ hk => hk) trivial (of_decide_eq_true (by first | (with_reducible assumption) | assumption)) (Nat.le_trans (Nat.mul_le_mul_right _ (of_decide_eq_true (by first | (with_reducible assumption) | assumption) : (l0.length : Int).toNat ≤ 35184372088832)) (by omega)) (Below.refl _ _) (Nat.le_refl _) ?_; intro v498 w27 ho28 hb hg_ hnew_; clear hg_ hnew_; (first | rw [← Ny497.out] at ho28 | (simp only [Int.reduceToNat] at ho28; rw [← Ny497.out] at ho28)); have n0_ := Aside0.mk (Kd.R_elder' (by (with_reducible repeat (first | apply Kd.R_alloc | apply Kd.R_drewN | apply Kd.R_drew)); exact HO_5.out) (Kd.R_base ho28) hb); have n1_ := Aside0.mk (Kd.R_below (by (with_reducible repeat (first | apply Kd.R_alloc | apply Kd.R_drewN | apply Kd.R_drew)); exact HO_6.out) hb); have n2_ := Aside0.mk (Kd.R_below (by (with_reducible repeat (first | apply Kd.R_alloc | apply Kd.R_drewN | apply Kd.R_drew)); exact HO_7.out) hb); have n3_ := Aside0.mk (Kd.R_lower (Kd.R_new' ho28 (Kd.R_lt (by (with_reducible repeat (first | apply Kd.R_alloc | apply Kd.R_drewN | apply Kd.R_drew)); exact HO_5.out))) (below_size (by repeat (first | (with_reducible first | exact HB.out | apply below_alloc | apply pw_below_drewN | apply below_drew1) | exact HB.out)))); have n4_ := Aside0.mk (below_step (by repeat (first | (with_reducible first | exact HB.out | apply below_alloc | apply pw_below_drewN | apply below_drew1) | exact HB.out)) hb); clear HO_5; clear HO_6; clear HO_7; clear HB; have HO_5 := n0_; have HO_6 := n1_; have HO_7 := n2_; have HO499 := n3_; have HB := n4_; clear n0_ n1_ n2_ n3_ n4_; clear hb ho28)); try go_wp2_with (first | ((with_reducible refine gate_dst (N := 66) rfl ?_); (try (refine gate_guard (by rfl) ?_; dsimp only)); refine Kd.R_make (Kd.int .i64) _ 3 rfl (N := 66) rfl 27 _ _ rfl (l0.length : Int) rfl rfl Try.underlying27 (.int .i64 0) 8 info3 rfl (by decide) (by omega) 0 (ok := fun _ => True) (okp := fun _ => True) rfl (fun _ hk => hk) trivial (of_decide_eq_true (by first | (with_reducible assumption) | assumption)) (Nat.le_trans (Nat.mul_le_mul_right _ (of_decide_eq_true (by first | (with_reducible assumption) | assumption) : (l0.length : Int).toNat ≤ 35184372088832)) (by omega)) (Below.refl _ _) (Nat.le_refl _) ?_; intro v498 w27 ho28 hb hg_ hnew_; clear hg_ hnew_; (first | rw [← Ny497.out] at ho28 | (simp only [Int.reduceToNat] at ho28; rw [← Ny497.out] at ho28)); have n0_ := Aside0.mk (Kd.R_elder' (by (with_reducible repeat (first | apply Kd.R_alloc | apply Kd.R_drewN | apply Kd.R_drew)); exact HO_5.out) (Kd.R_base ho28) hb); have n1_ := Aside0.mk (Kd.R_below (by (with_reducible repeat (first | apply Kd.R_alloc | apply Kd.R_drewN | apply Kd.R_drew)); exact HO_6.out) hb); have n2_ := Aside0.mk (Kd.R_below (by (with_reducible repeat (first | apply Kd.R_alloc | apply Kd.R_drewN | apply Kd.R_drew)); exact HO_7.out) hb); have n3_ := Aside0.mk (Kd.R_lower (Kd.R_new' ho28 (Kd.R_lt (by (with_reducible repeat (first | apply Kd.R_alloc | apply Kd.R_drewN | apply Kd.R_drew)); exact HO_5.out))) (below_size (by repeat (first | (with_reducible first | exact HB.out | apply below_alloc | apply pw_below_drewN | apply below_drew1) | exact HB.out)))); have n4_ := Aside0.mk (below_step (by repeat (first | (with_reducible first | exact HB.out | apply below_alloc | apply pw_below_drewN | apply below_drew1) | exact HB.out)) hb); clear HO_5; clear HO_6; clear HO_7; clear HB; have HO_5 := n0_; have HO_6 := n1_; have HO_7 := n2_; have HO499 := n3_; have HB := n4_; clear n0_ n1_ n2_ n3_ n4_; clear hb ho28)))
                go_loopg [9] kj9 (fun kq v9 w' => ∃ (x8_2 : List Int) (x9_2 : Int), v9 = .int .i64 x9_2 ∧ Aside0 (swagelaw06_GraphOnward.l0 kq l0 t478 t480 t490 t493 x8_2 x9_2 = some r) ∧ Aside0 (kq ≤ kj9) ∧ Aside0 (Kd.R (Kd.int .i64) 3 w' w.heap.size (fun k_ => some k_ ≠ (v498 : Value).ownBlock) v481 t480) ∧ Aside0 (Kd.R Kd.bool 4 w' w.heap.size (fun _ => True) v491 t490) ∧ Aside0 (Kd.R k37 37 w' w.heap.size (fun _ => True) v494 t493) ∧ Aside0 (Kd.R (Kd.int .i64) 3 w' w.heap.size (fun k_ => some k_ ≠ (v481 : Value).ownBlock) v498 x8_2) ∧ Aside0 (Below w.heap.size w w'))
                case atStart => exact ⟨(y497), (0), (by first | rfl | (simp; done) | (simp [*]; done)), H', ⟨Nat.le_refl _⟩, ⟨by (with_reducible repeat (first | apply Kd.R_alloc | apply Kd.R_drewN | apply Kd.R_drew)); exact Kd.R_mono HO_5.out (fun _ hk => hk.2)⟩, ⟨by (with_reducible repeat (first | apply Kd.R_alloc | apply Kd.R_drewN | apply Kd.R_drew)); exact HO_6.out⟩, ⟨by (with_reducible repeat (first | apply Kd.R_alloc | apply Kd.R_drewN | apply Kd.R_drew)); exact HO_7.out⟩, ⟨by (with_reducible repeat (first | apply Kd.R_alloc | apply Kd.R_drewN | apply Kd.R_drew)); exact Kd.R_mono HO499.out (fun _ hk => hk.2)⟩, ⟨by repeat (first | (with_reducible first | exact HB.out | apply below_alloc | apply pw_below_drewN | apply below_drew1) | exact HB.out)⟩⟩
                case round =>
                  clear H'
                  try clear c1
                  try clear c2
                  try clear p2
                  try clear c4
                  try clear p4
                  try clear q4
                  try clear hx4
                  try clear qi4
                  try clear c5
                  try clear c7
                  try clear c16
                  try clear c16b0
                  try clear c16b1
                  try clear c16b2
                  try clear c17
                  try clear c17b0
                  try clear c17b1
                  try clear c20
                  try clear c20b0
                  try clear c20b1
                  try clear c24
                  try clear c25
                  try clear c25b0
                  try clear c25b1
                  try clear c26
                  try clear c26b0
                  try clear c26b1
                  try clear hx496_0
                  try clear p2
                  try clear p4
                  try clear p496
                  try clear q4
                  try clear q496
                  obtain ⟨x8_2, x9_2, rfl, HA, HK2, HO_5, HO_6, HO_7, HO_8, HB⟩ := hrel
                  cases gk with
                  | zero => exact absurd HA.out (by simp [swagelaw06_GraphOnward.l0])
                  | succ k2 =>
                    have H := HA.out
                    clear HA
                    simp only [swagelaw06_GraphOnward.l0] at H
                    by_cases c29 : x9_2 < (t480.length : Int)
                    · rw [if_pos c29] at H
                      have c29b0 : decide (x9_2 < (t480.length : Int)) = true := decide_eq_true c29
                      clear c29
                      by_cases c30 : 0 ≤ x9_2
                      · rw [if_pos c30] at H
                        have c30b0 : decide (0 ≤ x9_2) = true := decide_eq_true c30
                        clear c30
                        by_cases c31 : (rd t480 x9_2) < 0
                        · rw [if_pos c31] at H
                          have c31b0 : decide ((rd t480 x9_2) < 0) = true := decide_eq_true c31
                          clear c31
                          obtain rfl := Option.some.inj H
                          obtain ⟨Ao32, co32, eo32⟩ := Kd.R_slice HO_5.out
                          subst eo32
                          have p500 : 0 ≤ (x9_2 : Int) := of_decide_eq_true (by first | (with_reducible assumption) | assumption)
                          have q500 : x9_2 < (t480.length : Int) := of_decide_eq_true (by first | (with_reducible assumption) | assumption)
                          obtain ⟨ad500, e500, hx500_0⟩ := Kd.at_int (Kd.R_reads' HO_5.out).2.2 x9_2 p500 q500
                          cases e500
                          replace p500 := eq_true p500
                          replace q500 := eq_true q500
                          go_wp2
                          repeat (go_quiet (fail); try go_wp2)
                          go_ret
                          exact ⟨by first | rfl | (simp [errW_none, errW_some] <;> rfl) | (simp [*, errW_none, errW_some] <;> rfl), by repeat (first | (with_reducible first | exact HB.out | apply below_alloc | apply pw_below_drewN | apply below_drew1) | exact HB.out)⟩
                        · rw [if_neg c31] at H
                          have c31b0 : decide ((rd t480 x9_2) < 0) = false := decide_eq_false c31
                          clear c31
                          by_cases c33 : (rd t480 x9_2) ≥ (l0.length : Int)
                          · rw [if_pos c33] at H
                            have c33b0 : decide ((l0.length : Int) ≤ (rd t480 x9_2)) = true := decide_eq_true c33
                            clear c33
                            obtain rfl := Option.some.inj H
                            obtain ⟨Ao34, co34, eo34⟩ := Kd.R_slice HO_5.out
                            subst eo34
                            have p500 : 0 ≤ (x9_2 : Int) := of_decide_eq_true (by first | (with_reducible assumption) | assumption)
                            have q500 : x9_2 < (t480.length : Int) := of_decide_eq_true (by first | (with_reducible assumption) | assumption)
                            obtain ⟨ad500, e500, hx500_0⟩ := Kd.at_int (Kd.R_reads' HO_5.out).2.2 x9_2 p500 q500
                            cases e500
                            replace p500 := eq_true p500
                            replace q500 := eq_true q500
                            have p501 : 0 ≤ (x9_2 : Int) := of_decide_eq_true (by first | (with_reducible assumption) | assumption)
                            have q501 : x9_2 < (t480.length : Int) := of_decide_eq_true (by first | (with_reducible assumption) | assumption)
                            obtain ⟨ad501, e501, hx501_0⟩ := Kd.at_int (Kd.R_reads' HO_5.out).2.2 x9_2 p501 q501
                            obtain rfl : ad500 = ad501 := (by injection e501)
                            replace p501 := eq_true p501
                            replace q501 := eq_true q501
                            go_wp2
                            repeat (go_quiet (fail); try go_wp2)
                            go_ret
                            exact ⟨by first | rfl | (simp [errW_none, errW_some] <;> rfl) | (simp [*, errW_none, errW_some] <;> rfl), by repeat (first | (with_reducible first | exact HB.out | apply below_alloc | apply pw_below_drewN | apply below_drew1) | exact HB.out)⟩
                          · rw [if_neg c33] at H
                            have c33b0 : decide ((l0.length : Int) ≤ (rd t480 x9_2)) = false := decide_eq_false c33
                            clear c33
                            by_cases c35 : 0 ≤ (rd t480 x9_2)
                            · rw [if_pos c35] at H
                              have c35b0 : decide (0 ≤ (rd t480 x9_2)) = true := decide_eq_true c35
                              clear c35
                              by_cases c36 : (rd t480 x9_2) < (x8_2.length : Int)
                              · rw [if_pos c36] at H
                                have c36b0 : decide ((rd t480 x9_2) < (x8_2.length : Int)) = true := decide_eq_true c36
                                clear c36
                                by_cases c37 : (rd x8_2 (rd t480 x9_2)) = 0
                                · rw [if_pos c37] at H
                                  have c37b0 : ((rd x8_2 (rd t480 x9_2)) == 0) = true := beq_iff_eq.mpr c37
                                  have c37b1 : ((rd x8_2 (rd t480 x9_2)) != 0) = false := bne_eq_false_iff_eq.mpr c37
                                  clear c37
                                  by_cases c38 : (rd t480 x9_2) < (t490.length : Int)
                                  · rw [if_pos c38] at H
                                    have c38b0 : decide ((rd t480 x9_2) < (t490.length : Int)) = true := decide_eq_true c38
                                    clear c38
                                    obtain ⟨bq39, hbq39⟩ : ∃ b_ : Bool, b_ = (rdOf false t490 (rd t480 x9_2)) := ⟨_, rfl⟩
                                    replace H : (if (bq39 = true) then (swagelaw06_GraphOnward.l0 k2 l0 t478 t480 t490 t493 (x8_2.set ((rd t480 x9_2) : Int).toNat (wrap64 (x9_2 + 1))) (wrap64 (x9_2 + 1))) else (some false)) = some r := by rw [← hbq39] at H; exact H
                                    have Nbq39 := Aside0.mk hbq39
                                    clear hbq39
                                    by_cases c40 : (bq39 = true)
                                    · subst c40
                                      have H1 : (swagelaw06_GraphOnward.l0 k2 l0 t478 t480 t490 t493 (x8_2.set ((rd t480 x9_2) : Int).toNat (wrap64 (x9_2 + 1))) (wrap64 (x9_2 + 1))) = some r := by rw [if_pos rfl] at H; exact H
                                      clear H
                                      have H := H1
                                      clear H1
                                      obtain ⟨y507, hy507⟩ : ∃ y_ : List Int, y_ = (x8_2.set ((rd t480 x9_2) : Int).toNat (wrap64 (x9_2 + 1))) := ⟨_, rfl⟩
                                      replace H : (swagelaw06_GraphOnward.l0 k2 l0 t478 t480 t490 t493 y507 (wrap64 (x9_2 + 1))) = some r := by first | (rw [hy507]; with_reducible exact H) | (have H2_ := (Option.bind_some _ _).symm.trans H; rw [hy507]; with_reducible exact H2_) | (have H2_ := (Option.bind_some _ _).symm.trans H; with_reducible exact H2_) | with_reducible exact H | (rw [hy507]; exact H) | exact H
                                      have Ny507 := Aside0.mk hy507
                                      clear hy507
                                      have H' := Aside0.mk H
                                      clear H
                                      obtain ⟨Ao42, co42, eo42⟩ := Kd.R_slice HO_5.out
                                      subst eo42
                                      have p500 : 0 ≤ (x9_2 : Int) := of_decide_eq_true (by first | (with_reducible assumption) | assumption)
                                      have q500 : x9_2 < (t480.length : Int) := of_decide_eq_true (by first | (with_reducible assumption) | assumption)
                                      obtain ⟨ad500, e500, hx500_0⟩ := Kd.at_int (Kd.R_reads' HO_5.out).2.2 x9_2 p500 q500
                                      cases e500
                                      replace p500 := eq_true p500
                                      replace q500 := eq_true q500
                                      have p501 : 0 ≤ (x9_2 : Int) := of_decide_eq_true (by first | (with_reducible assumption) | assumption)
                                      have q501 : x9_2 < (t480.length : Int) := of_decide_eq_true (by first | (with_reducible assumption) | assumption)
                                      obtain ⟨ad501, e501, hx501_0⟩ := Kd.at_int (Kd.R_reads' HO_5.out).2.2 x9_2 p501 q501
                                      obtain rfl : ad500 = ad501 := (by injection e501)
                                      replace p501 := eq_true p501
                                      replace q501 := eq_true q501
                                      have p502 : 0 ≤ (x9_2 : Int) := of_decide_eq_true (by first | (with_reducible assumption) | assumption)
                                      have q502 : x9_2 < (t480.length : Int) := of_decide_eq_true (by first | (with_reducible assumption) | assumption)
                                      obtain ⟨ad502, e502, hx502_0⟩ := Kd.at_int (Kd.R_reads' HO_5.out).2.2 x9_2 p502 q502
                                      obtain rfl : ad500 = ad502 := (by injection e502)
                                      replace p502 := eq_true p502
                                      replace q502 := eq_true q502
                                      obtain ⟨Ao43, co43, eo43⟩ := Kd.R_slice HO_8.out
                                      subst eo43
                                      have p503 : 0 ≤ ((rd t480 x9_2) : Int) := of_decide_eq_true (by first | (with_reducible assumption) | assumption)
                                      have q503 : (rd t480 x9_2) < (x8_2.length : Int) := of_decide_eq_true (by first | (with_reducible assumption) | assumption)
                                      obtain ⟨ad503, e503, hx503_0⟩ := Kd.at_int (Kd.R_reads' HO_8.out).2.2 (rd t480 x9_2) p503 q503
                                      cases e503
                                      replace p503 := eq_true p503
                                      replace q503 := eq_true q503
                                      have p504 : 0 ≤ (x9_2 : Int) := of_decide_eq_true (by first | (with_reducible assumption) | assumption)
                                      have q504 : x9_2 < (t480.length : Int) := of_decide_eq_true (by first | (with_reducible assumption) | assumption)
                                      obtain ⟨ad504, e504, hx504_0⟩ := Kd.at_int (Kd.R_reads' HO_5.out).2.2 x9_2 p504 q504
                                      obtain rfl : ad500 = ad504 := (by injection e504)
                                      replace p504 := eq_true p504
                                      replace q504 := eq_true q504
                                      obtain ⟨Ao44, co44, eo44⟩ := Kd.R_slice HO_6.out
                                      subst eo44
                                      have p505 : 0 ≤ ((rd t480 x9_2) : Int) := of_decide_eq_true (by first | (with_reducible assumption) | assumption)
                                      have q505 : (rd t480 x9_2) < (t490.length : Int) := of_decide_eq_true (by first | (with_reducible assumption) | assumption)
                                      obtain ⟨ad505, e505, hx505_0⟩ := Kd.at_bool (Kd.R_reads' HO_6.out).2.2 (rd t480 x9_2) p505 q505
                                      (try rw [← Nbq39.out] at hx505_0)
                                      cases e505
                                      replace p505 := eq_true p505
                                      replace q505 := eq_true q505
                                      have p506 : 0 ≤ (x9_2 : Int) := of_decide_eq_true (by first | (with_reducible assumption) | assumption)
                                      have q506 : x9_2 < (t480.length : Int) := of_decide_eq_true (by first | (with_reducible assumption) | assumption)
                                      obtain ⟨ad506, e506, hx506_0⟩ := Kd.at_int (Kd.R_reads' HO_5.out).2.2 x9_2 p506 q506
                                      obtain rfl : ad500 = ad506 := (by injection e506)
                                      replace p506 := eq_true p506
                                      replace q506 := eq_true q506
                                      have p41 : 0 ≤ ((rd t480 x9_2) : Int) := of_decide_eq_true (by first | (with_reducible assumption) | assumption)
                                      have q41 : ((rd t480 x9_2) : Int) < ((x8_2.length : Int) : Int) := of_decide_eq_true (by first | (with_reducible assumption) | assumption)
                                      obtain ⟨go41, co41, eo41, gb41, gl41, cl41, HG41⟩ := Kd.R_form HO_8.out (by omega)
                                      (first | cases eo41 | (injection eo41 with ea_ en_ ec_; (first | subst ea_ | (injection ea_ with ea_; subst ea_)); subst ec_; clear en_))
                                      have GB41 := Aside0.mk gb41
                                      have GG41 := Aside0.mk HG41
                                      clear gb41 gl41 HG41
                                      (first | simp only [add_plain] at hx503_0 | skip)
                                      obtain ⟨hx41_0, hf41_0⟩ := Kd.R_celln 0 HO_8.out ((rd t480 x9_2) : Int) p41 q41
                                      replace p41 := eq_true p41
                                      replace q41 := eq_true q41
                                      have HP45 := Kd.R_putg HO_8.out ((rd t480 x9_2) : Int) (wrap64 (x9_2 + 1))
                                      go_wp2_with (first | ((with_reducible refine gate_store (t := 3) (p := 114) rfl ?_); (try (rw [drewN_self wr]; generalize hq_ : World.drewN wr _ = wr; have n0_ := Aside0.mk (Kd.R_at hq_ HO_5.out); have n1_ := Aside0.mk (Kd.R_at hq_ HO_6.out); have n2_ := Aside0.mk (Kd.R_at hq_ HO_7.out); have n3_ := Aside0.mk (Kd.R_at hq_ HO_8.out); have n4_ := Aside0.mk (below_at hq_ HB.out); clear hq_ HO_5 HO_6 HO_7 HO_8 HB; have HO_5 := n0_; have HO_6 := n1_; have HO_7 := n2_; have HO_8 := n3_; have HB := n4_; clear n0_ n1_ n2_ n3_ n4_; (try (have HP45 := Kd.R_putg HO_8.out ((rd t480 x9_2) : Int) (wrap64 (x9_2 + 1)))))); refine store_event (t := 3) (p := 114) (v := ?vo_w46) (w1 := (wr.setCell ⟨go41, ((rd t480 x9_2) : Int).toNat, none⟩ (.int .i64 (wrap64 (x9_2 + 1))))) ?hg ?ho ?hn ?hr ?_; (case ho => rfl); (case hg => rfl); (case hn => rfl); (case hr => first | (go_simp; done) | (go_simp; rfl)); intro w46 hw; have hg : wr.grownBy w46 (some go41) := (by rw [hw]; exact HP45.2); have hp_ : Kd.R (Kd.int .i64) 3 w46 w.heap.size (fun k_ => some k_ ≠ (.slice (some ad500) t480.length co42 : Value).ownBlock) (.slice (some ⟨go41, 0, none⟩) x8_2.length co43) y507 := (by rw [hw, Ny507.out]; exact HP45.1); clear HP45; have n0_ := Aside0.mk (Kd.R_after (v := (.slice (some ⟨go41, 0, none⟩) x8_2.length co43)) (v1 := (.slice (some ⟨go41, 0, none⟩) x8_2.length co43)) (ok := (fun _ => True)) (by (with_reducible repeat (first | apply Kd.R_alloc | apply Kd.R_drewN | apply Kd.R_drew)); exact Kd.R_mono HO_5.out (fun _ hk => ⟨trivial, hk⟩)) hg (.inl rfl)); have n1_ := Aside0.mk (Kd.R_over' (v := (.slice (some ⟨go41, 0, none⟩) x8_2.length co43)) (by (with_reducible repeat (first | apply Kd.R_alloc | apply Kd.R_drewN | apply Kd.R_drew)); exact HO_6.out) (Kd.R_typed HO_8.out) (by decide) hg); have n2_ := Aside0.mk (Kd.R_over' (v := (.slice (some ⟨go41, 0, none⟩) x8_2.length co43)) (by (with_reducible repeat (first | apply Kd.R_alloc | apply Kd.R_drewN | apply Kd.R_drew)); exact HO_7.out) (Kd.R_typed HO_8.out) (by decide) hg); have n3_ := Aside0.mk (hp_); have n4_ := Aside0.mk ((by rw [hw]; exact below_set (HB.out) GB41.out : Below w.heap.size w w46)); clear HO_5; clear HO_6; clear HO_7; clear HO_8; clear HB; have HO_5 := n0_; have HO_6 := n1_; have HO_7 := n2_; have HO_8 := n3_; have HB := n4_; clear n0_ n1_ n2_ n3_ n4_; clear hg hw hp_))
                                      repeat (go_quiet (first | ((with_reducible refine gate_store (t := 3) (p := 114) rfl ?_); (try (rw [drewN_self wr]; generalize hq_ : World.drewN wr _ = wr; have n0_ := Aside0.mk (Kd.R_at hq_ HO_5.out); have n1_ := Aside0.mk (Kd.R_at hq_ HO_6.out); have n2_ := Aside0.mk (Kd.R_at hq_ HO_7.out); have n3_ := Aside0.mk (Kd.R_at hq_ HO_8.out); have n4_ := Aside0.mk (below_at hq_ HB.out); clear hq_ HO_5 HO_6 HO_7 HO_8 HB; have HO_5 := n0_; have HO_6 := n1_; have HO_7 := n2_; have HO_8 := n3_; have HB := n4_; clear n0_ n1_ n2_ n3_ n4_; (try (have HP45 := Kd.R_putg HO_8.out ((rd t480 x9_2) : Int) (wrap64 (x9_2 + 1)))))); refine store_event (t := 3) (p := 114) (v := ?vo_w46) (w1 := (wr.setCell ⟨go41, ((rd t480 x9_2) : Int).toNat, none⟩ (.int .i64 (wrap64 (x9_2 + 1))))) ?hg ?ho ?hn ?hr ?_; (case ho => rfl); (case hg => rfl); (case hn => rfl); (case hr => first | (go_simp; done) | (go_simp; rfl)); intro w46 hw; have hg : wr.grownBy w46 (some go41) := (by rw [hw]; exact HP45.2); have hp_ : Kd.R (Kd.int .i64) 3 w46 w.heap.size (fun k_ => some k_ ≠ (.slice (some ad500) t480.length co42 : Value).ownBlock) (.slice (some ⟨go41, 0, none⟩) x8_2.length co43) y507 := (by rw [hw, Ny507.out]; exact HP45.1); clear HP45; have n0_ := Aside0.mk (Kd.R_after (v := (.slice (some ⟨go41, 0, none⟩) x8_2.length co43)) (v1 := (.slice (some ⟨go41, 0, none⟩) x8_2.length co43)) (ok := (fun _ => True)) (by (with_reducible repeat (first | apply Kd.R_alloc | apply Kd.R_drewN | apply Kd.R_drew)); exact Kd.R_mono HO_5.out (fun _ hk => ⟨trivial, hk⟩)) hg (.inl rfl)); have n1_ := Aside0.mk (Kd.R_over' (v := (.slice (some ⟨go41, 0, none⟩) x8_2.length co43)) (by (with_reducible repeat (first | apply Kd.R_alloc | apply Kd.R_drewN | apply Kd.R_drew)); exact HO_6.out) (Kd.R_typed HO_8.out) (by decide) hg); have n2_ := Aside0.mk (Kd.R_over' (v := (.slice (some ⟨go41, 0, none⟩) x8_2.length co43)) (by (with_reducible repeat (first | apply Kd.R_alloc | apply Kd.R_drewN | apply Kd.R_drew)); exact HO_7.out) (Kd.R_typed HO_8.out) (by decide) hg); have n3_ := Aside0.mk (hp_); have n4_ := Aside0.mk ((by rw [hw]; exact below_set (HB.out) GB41.out : Below w.heap.size w w46)); clear HO_5; clear HO_6; clear HO_7; clear HO_8; clear HB; have HO_5 := n0_; have HO_6 := n1_; have HO_7 := n2_; have HO_8 := n3_; have HB := n4_; clear n0_ n1_ n2_ n3_ n4_; clear hg hw hp_)); try go_wp2_with (first | ((with_reducible refine gate_store (t := 3) (p := 114) rfl ?_); (try (rw [drewN_self wr]; generalize hq_ : World.drewN wr _ = wr; have n0_ := Aside0.mk (Kd.R_at hq_ HO_5.out); have n1_ := Aside0.mk (Kd.R_at hq_ HO_6.out); have n2_ := Aside0.mk (Kd.R_at hq_ HO_7.out); have n3_ := Aside0.mk (Kd.R_at hq_ HO_8.out); have n4_ := Aside0.mk (below_at hq_ HB.out); clear hq_ HO_5 HO_6 HO_7 HO_8 HB; have HO_5 := n0_; have HO_6 := n1_; have HO_7 := n2_; have HO_8 := n3_; have HB := n4_; clear n0_ n1_ n2_ n3_ n4_; (try (have HP45 := Kd.R_putg HO_8.out ((rd t480 x9_2) : Int) (wrap64 (x9_2 + 1)))))); refine store_event (t := 3) (p := 114) (v := ?vo_w46) (w1 := (wr.setCell ⟨go41, ((rd t480 x9_2) : Int).toNat, none⟩ (.int .i64 (wrap64 (x9_2 + 1))))) ?hg ?ho ?hn ?hr ?_; (case ho => rfl); (case hg => rfl); (case hn => rfl); (case hr => first | (go_simp; done) | (go_simp; rfl)); intro w46 hw; have hg : wr.grownBy w46 (some go41) := (by rw [hw]; exact HP45.2); have hp_ : Kd.R (Kd.int .i64) 3 w46 w.heap.size (fun k_ => some k_ ≠ (.slice (some ad500) t480.length co42 : Value).ownBlock) (.slice (some ⟨go41, 0, none⟩) x8_2.length co43) y507 := (by rw [hw, Ny507.out]; exact HP45.1); clear HP45; have n0_ := Aside0.mk (Kd.R_after (v := (.slice (some ⟨go41, 0, none⟩) x8_2.length co43)) (v1 := (.slice (some ⟨go41, 0, none⟩) x8_2.length co43)) (ok := (fun _ => True)) (by (with_reducible repeat (first | apply Kd.R_alloc | apply Kd.R_drewN | apply Kd.R_drew)); exact Kd.R_mono HO_5.out (fun _ hk => ⟨trivial, hk⟩)) hg (.inl rfl)); have n1_ := Aside0.mk (Kd.R_over' (v := (.slice (some ⟨go41, 0, none⟩) x8_2.length co43)) (by (with_reducible repeat (first | apply Kd.R_alloc | apply Kd.R_drewN | apply Kd.R_drew)); exact HO_6.out) (Kd.R_typed HO_8.out) (by decide) hg); have n2_ := Aside0.mk (Kd.R_over' (v := (.slice (some ⟨go41, 0, none⟩) x8_2.length co43)) (by (with_reducible repeat (first | apply Kd.R_alloc | apply Kd.R_drewN | apply Kd.R_drew)); exact HO_7.out) (Kd.R_typed HO_8.out) (by decide) hg); have n3_ := Aside0.mk (hp_); have n4_ := Aside0.mk ((by rw [hw]; exact below_set (HB.out) GB41.out : Below w.heap.size w w46)); clear HO_5; clear HO_6; clear HO_7; clear HO_8; clear HB; have HO_5 := n0_; have HO_6 := n1_; have HO_7 := n2_; have HO_8 := n3_; have HB := n4_; clear n0_ n1_ n2_ n3_ n4_; clear hg hw hp_)))
                                      go_roundg k2
                                      case measure => have := HJ9.out; have := HK2.out; omega
                                      case rel => exact ⟨(y507), (wrap64 (x9_2 + 1)), (by first | rfl | (simp; done) | (simp [*]; done)), H', ⟨by have := HJ9.out; have := HK2.out; omega⟩, ⟨by (with_reducible repeat (first | apply Kd.R_alloc | apply Kd.R_drewN | apply Kd.R_drew)); exact Kd.R_mono HO_5.out (fun _ hk => hk.2)⟩, ⟨by (with_reducible repeat (first | apply Kd.R_alloc | apply Kd.R_drewN | apply Kd.R_drew)); exact HO_6.out⟩, ⟨by (with_reducible repeat (first | apply Kd.R_alloc | apply Kd.R_drewN | apply Kd.R_drew)); exact HO_7.out⟩, ⟨by (with_reducible repeat (first | apply Kd.R_alloc | apply Kd.R_drewN | apply Kd.R_drew)); exact HO_8.out⟩, ⟨by repeat (first | (with_reducible first | exact HB.out | apply below_alloc | apply pw_below_drewN | apply below_drew1) | exact HB.out)⟩⟩
                                    · replace c40 := Bool.eq_false_iff.mpr c40
                                      subst c40
                                      have H1 : (some false) = some r := by rw [if_neg (show ¬ (false = true) by decide)] at H; exact H
                                      clear H
                                      have H := H1
                                      clear H1
                                      obtain rfl := Option.some.inj H
                                      obtain ⟨Ao47, co47, eo47⟩ := Kd.R_slice HO_5.out
                                      subst eo47
                                      have p500 : 0 ≤ (x9_2 : Int) := of_decide_eq_true (by first | (with_reducible assumption) | assumption)
                                      have q500 : x9_2 < (t480.length : Int) := of_decide_eq_true (by first | (with_reducible assumption) | assumption)
                                      obtain ⟨ad500, e500, hx500_0⟩ := Kd.at_int (Kd.R_reads' HO_5.out).2.2 x9_2 p500 q500
                                      cases e500
                                      replace p500 := eq_true p500
                                      replace q500 := eq_true q500
                                      have p501 : 0 ≤ (x9_2 : Int) := of_decide_eq_true (by first | (with_reducible assumption) | assumption)
                                      have q501 : x9_2 < (t480.length : Int) := of_decide_eq_true (by first | (with_reducible assumption) | assumption)
                                      obtain ⟨ad501, e501, hx501_0⟩ := Kd.at_int (Kd.R_reads' HO_5.out).2.2 x9_2 p501 q501
                                      obtain rfl : ad500 = ad501 := (by injection e501)
                                      replace p501 := eq_true p501
                                      replace q501 := eq_true q501
                                      have p502 : 0 ≤ (x9_2 : Int) := of_decide_eq_true (by first | (with_reducible assumption) | assumption)
                                      have q502 : x9_2 < (t480.length : Int) := of_decide_eq_true (by first | (with_reducible assumption) | assumption)
                                      obtain ⟨ad502, e502, hx502_0⟩ := Kd.at_int (Kd.R_reads' HO_5.out).2.2 x9_2 p502 q502
                                      obtain rfl : ad500 = ad502 := (by injection e502)
                                      replace p502 := eq_true p502
                                      replace q502 := eq_true q502
                                      obtain ⟨Ao48, co48, eo48⟩ := Kd.R_slice HO_8.out
                                      subst eo48
                                      have p503 : 0 ≤ ((rd t480 x9_2) : Int) := of_decide_eq_true (by first | (with_reducible assumption) | assumption)
                                      have q503 : (rd t480 x9_2) < (x8_2.length : Int) := of_decide_eq_true (by first | (with_reducible assumption) | assumption)
                                      obtain ⟨ad503, e503, hx503_0⟩ := Kd.at_int (Kd.R_reads' HO_8.out).2.2 (rd t480 x9_2) p503 q503
                                      cases e503
                                      replace p503 := eq_true p503
                                      replace q503 := eq_true q503
                                      have p504 : 0 ≤ (x9_2 : Int) := of_decide_eq_true (by first | (with_reducible assumption) | assumption)
                                      have q504 : x9_2 < (t480.length : Int) := of_decide_eq_true (by first | (with_reducible assumption) | assumption)
                                      obtain ⟨ad504, e504, hx504_0⟩ := Kd.at_int (Kd.R_reads' HO_5.out).2.2 x9_2 p504 q504
                                      obtain rfl : ad500 = ad504 := (by injection e504)
                                      replace p504 := eq_true p504
                                      replace q504 := eq_true q504
                                      obtain ⟨Ao49, co49, eo49⟩ := Kd.R_slice HO_6.out
                                      subst eo49
                                      have p505 : 0 ≤ ((rd t480 x9_2) : Int) := of_decide_eq_true (by first | (with_reducible assumption) | assumption)
                                      have q505 : (rd t480 x9_2) < (t490.length : Int) := of_decide_eq_true (by first | (with_reducible assumption) | assumption)
                                      obtain ⟨ad505, e505, hx505_0⟩ := Kd.at_bool (Kd.R_reads' HO_6.out).2.2 (rd t480 x9_2) p505 q505
                                      (try rw [← Nbq39.out] at hx505_0)
                                      cases e505
                                      replace p505 := eq_true p505
                                      replace q505 := eq_true q505
                                      go_wp2
                                      repeat (go_quiet (fail); try go_wp2)
                                      go_ret
                                      exact ⟨by first | rfl | (simp [errW_none, errW_some] <;> rfl) | (simp [*, errW_none, errW_some] <;> rfl), by repeat (first | (with_reducible first | exact HB.out | apply below_alloc | apply pw_below_drewN | apply below_drew1) | exact HB.out)⟩
                                  · rw [if_neg c38] at H
                                    exact absurd H (by simp)
                                · rw [if_neg c37] at H
                                  have c37b0 : ((rd x8_2 (rd t480 x9_2)) == 0) = false := beq_eq_false_iff_ne.mpr c37
                                  have c37b1 : ((rd x8_2 (rd t480 x9_2)) != 0) = true := bne_iff_ne.mpr c37
                                  obtain rfl := Option.some.inj H
                                  obtain ⟨Ao50, co50, eo50⟩ := Kd.R_slice HO_5.out
                                  subst eo50
                                  have p500 : 0 ≤ (x9_2 : Int) := of_decide_eq_true (by first | (with_reducible assumption) | assumption)
                                  have q500 : x9_2 < (t480.length : Int) := of_decide_eq_true (by first | (with_reducible assumption) | assumption)
                                  obtain ⟨ad500, e500, hx500_0⟩ := Kd.at_int (Kd.R_reads' HO_5.out).2.2 x9_2 p500 q500
                                  cases e500
                                  replace p500 := eq_true p500
                                  replace q500 := eq_true q500
                                  have p501 : 0 ≤ (x9_2 : Int) := of_decide_eq_true (by first | (with_reducible assumption) | assumption)
                                  have q501 : x9_2 < (t480.length : Int) := of_decide_eq_true (by first | (with_reducible assumption) | assumption)
                                  obtain ⟨ad501, e501, hx501_0⟩ := Kd.at_int (Kd.R_reads' HO_5.out).2.2 x9_2 p501 q501
                                  obtain rfl : ad500 = ad501 := (by injection e501)
                                  replace p501 := eq_true p501
                                  replace q501 := eq_true q501
                                  have p502 : 0 ≤ (x9_2 : Int) := of_decide_eq_true (by first | (with_reducible assumption) | assumption)
                                  have q502 : x9_2 < (t480.length : Int) := of_decide_eq_true (by first | (with_reducible assumption) | assumption)
                                  obtain ⟨ad502, e502, hx502_0⟩ := Kd.at_int (Kd.R_reads' HO_5.out).2.2 x9_2 p502 q502
                                  obtain rfl : ad500 = ad502 := (by injection e502)
                                  replace p502 := eq_true p502
                                  replace q502 := eq_true q502
                                  obtain ⟨Ao51, co51, eo51⟩ := Kd.R_slice HO_8.out
                                  subst eo51
                                  have p503 : 0 ≤ ((rd t480 x9_2) : Int) := of_decide_eq_true (by first | (with_reducible assumption) | assumption)
                                  have q503 : (rd t480 x9_2) < (x8_2.length : Int) := of_decide_eq_true (by first | (with_reducible assumption) | assumption)
                                  obtain ⟨ad503, e503, hx503_0⟩ := Kd.at_int (Kd.R_reads' HO_8.out).2.2 (rd t480 x9_2) p503 q503
                                  cases e503
                                  replace p503 := eq_true p503
                                  replace q503 := eq_true q503
                                  go_wp2
                                  repeat (go_quiet (fail); try go_wp2)
                                  go_ret
                                  exact ⟨by first | rfl | (simp [errW_none, errW_some] <;> rfl) | (simp [*, errW_none, errW_some] <;> rfl), by repeat (first | (with_reducible first | exact HB.out | apply below_alloc | apply pw_below_drewN | apply below_drew1) | exact HB.out)⟩
                              · rw [if_neg c36] at H
                                exact absurd H (by simp)
                            · rw [if_neg c35] at H
                              exact absurd H (by simp)
                      · rw [if_neg c30] at H
                        exact absurd H (by simp)
                    · rw [if_neg c29] at H
                      have c29b0 : decide (x9_2 < (t480.length : Int)) = false := decide_eq_false c29
                      clear c29
                      have H' := Aside0.mk H
                      clear H
                      obtain ⟨Ao52, co52, eo52⟩ := Kd.R_slice HO_5.out
                      subst eo52
                      go_wp2
                      repeat (go_quiet (fail); try go_wp2)
                      go_loopg [10, 11] k2 (fun kq v10 v11 w' => ∃ (x10_3 : Int) (x11_3 : Int), v10 = .int .i64 x10_3 ∧ v11 = .int .i64 x11_3 ∧ Aside0 (swagelaw06_GraphOnward.l1 kq l0 t478 t480 t490 t493 x8_2 x10_3 x11_3 = some r) ∧ Aside0 (kq ≤ k2) ∧ Aside0 (Kd.R (Kd.int .i64) 3 w' w.heap.size (fun k_ => some k_ ≠ (v498 : Value).ownBlock) (.slice Ao52 t480.length co52) t480) ∧ Aside0 (Kd.R Kd.bool 4 w' w.heap.size (fun _ => True) v491 t490) ∧ Aside0 (Kd.R k37 37 w' w.heap.size (fun _ => True) v494 t493) ∧ Aside0 (Kd.R (Kd.int .i64) 3 w' w.heap.size (fun k_ => some k_ ≠ ((.slice Ao52 t480.length co52) : Value).ownBlock) v498 x8_2) ∧ Aside0 (Below w.heap.size w w'))
                      case atStart => exact ⟨(0), (0), (by first | rfl | (simp; done) | (simp [*]; done)), (by first | rfl | (simp; done) | (simp [*]; done)), H', ⟨Nat.le_refl _⟩, ⟨by (with_reducible repeat (first | apply Kd.R_alloc | apply Kd.R_drewN | apply Kd.R_drew)); exact HO_5.out⟩, ⟨by (with_reducible repeat (first | apply Kd.R_alloc | apply Kd.R_drewN | apply Kd.R_drew)); exact HO_6.out⟩, ⟨by (with_reducible repeat (first | apply Kd.R_alloc | apply Kd.R_drewN | apply Kd.R_drew)); exact HO_7.out⟩, ⟨by (with_reducible repeat (first | apply Kd.R_alloc | apply Kd.R_drewN | apply Kd.R_drew)); exact HO_8.out⟩, ⟨by repeat (first | (with_reducible first | exact HB.out | apply below_alloc | apply pw_below_drewN | apply below_drew1) | exact HB.out)⟩⟩
                      case round =>
                        clear H'
                        try clear c1
                        try clear c2
                        try clear p2
                        try clear c3
                        try clear q3
                        try clear c4
                        try clear p4
                        try clear q4
                        try clear hx4
                        try clear qi4
                        try clear hf4
                        try clear c5
                        try clear p5
                        try clear q5
                        try clear hx5
                        try clear p6
                        try clear c7
                        try clear c16
                        try clear c16b0
                        try clear c16b1
                        try clear c16b2
                        try clear c17
                        try clear c17b0
                        try clear c17b1
                        try clear c20
                        try clear c20b0
                        try clear c20b1
                        try clear c24
                        try clear c25
                        try clear c25b0
                        try clear c25b1
                        try clear c26
                        try clear c26b0
                        try clear c26b1
                        try clear c29
                        try clear c29b0
                        try clear c30
                        try clear c30b0
                        try clear c31
                        try clear c31b0
                        try clear c33
                        try clear c33b0
                        try clear c35
                        try clear c35b0
                        try clear c36
                        try clear c36b0
                        try clear c37
                        try clear c37b0
                        try clear c37b1
                        try clear c38
                        try clear c38b0
                        try clear q39
                        try clear c40
                        try clear p41
                        try clear q41
                        try clear hx41
                        try clear hf41
                        try clear p49
                        try clear q49
                        try clear hx49
                        try clear qi49
                        try clear p50
                        try clear q50
                        try clear hx50
                        try clear hx41_0
                        try clear hx496_0
                        try clear hx500_0
                        try clear hx501_0
                        try clear hx502_0
                        try clear hx503_0
                        try clear hx504_0
                        try clear hx505_0
                        try clear hx506_0
                        try clear p2
                        try clear p4
                        try clear p41
                        try clear p496
                        try clear p500
                        try clear p501
                        try clear p502
                        try clear p503
                        try clear p504
                        try clear p505
                        try clear p506
                        try clear q4
                        try clear q41
                        try clear q496
                        try clear q500
                        try clear q501
                        try clear q502
                        try clear q503
                        try clear q504
                        try clear q505
                        try clear q506
                        obtain ⟨x10_3, x11_3, rfl, rfl, HA, HK3, HO_5, HO_6, HO_7, HO_8, HB⟩ := hrel
                        cases gk with
                        | zero => exact absurd HA.out (by simp [swagelaw06_GraphOnward.l1])
                        | succ k3 =>
                          have H := HA.out
                          clear HA
                          simp only [swagelaw06_GraphOnward.l1] at H
                          by_cases c53 : x11_3 < (l0.length : Int)
                          · rw [if_pos c53] at H
                            have c53b0 : decide (x11_3 < (l0.length : Int)) = true := decide_eq_true c53
                            clear c53
                            by_cases c54 : 0 ≤ x11_3
                            · rw [if_pos c54] at H
                              have c54b0 : decide (0 ≤ x11_3) = true := decide_eq_true c54
                              clear c54
                              by_cases c55 : x11_3 < (t490.length : Int)
                              · rw [if_pos c55] at H
                                have c55b0 : decide (x11_3 < (t490.length : Int)) = true := decide_eq_true c55
                                clear c55
                                have HC56 := Aside0.mk H
                                clear H
                                obtain ⟨Ao57, co57, eo57⟩ := Kd.R_slice HO_6.out
                                subst eo57
                                have p508 : 0 ≤ (x11_3 : Int) := of_decide_eq_true (by first | (with_reducible assumption) | assumption)
                                have q508 : x11_3 < (t490.length : Int) := of_decide_eq_true (by first | (with_reducible assumption) | assumption)
                                obtain ⟨ad508, e508, hx508_0⟩ := Kd.at_bool (Kd.R_reads' HO_6.out).2.2 x11_3 p508 q508
                                cases e508
                                replace p508 := eq_true p508
                                replace q508 := eq_true q508
                                go_upto_if 124 with (fail)
                                repeat (go_quiet (fail); go_upto_if 124 with (fail))
                                go_cut [10] (fun v10 wc => ∃ (kq : Nat) (x10_55 : Int), v10 = .int .i64 x10_55 ∧ Aside0 (swagelaw06_GraphOnward.j3 kq l0 t478 t480 t490 t493 x8_2 x10_55 x11_3 = some r) ∧ Aside0 (kq ≤ k3) ∧ Aside0 (Kd.R (Kd.int .i64) 3 wc w.heap.size (fun k_ => some k_ ≠ (v498 : Value).ownBlock) (.slice Ao52 t480.length co52) t480) ∧ Aside0 (Kd.R Kd.bool 4 wc w.heap.size (fun _ => True) (.slice (some ad508) t490.length co57) t490) ∧ Aside0 (Kd.R k37 37 wc w.heap.size (fun _ => True) v494 t493) ∧ Aside0 (Kd.R (Kd.int .i64) 3 wc w.heap.size (fun k_ => some k_ ≠ ((.slice Ao52 t480.length co52) : Value).ownBlock) v498 x8_2) ∧ Aside0 (Below w.heap.size w wc))
                                case first =>
                                  have H := HC56.out
                                  clear HC56
                                  obtain ⟨bq58, hbq58⟩ : ∃ b_ : Bool, b_ = (rdOf false t490 x11_3) := ⟨_, rfl⟩
                                  replace H : (if bq58 = true then (swagelaw06_GraphOnward.j3 k3 l0 t478 t480 t490 t493 x8_2 (wrap64 (x10_3 + 1)) x11_3) else (swagelaw06_GraphOnward.j3 k3 l0 t478 t480 t490 t493 x8_2 x10_3 x11_3)) = some r := by rw [← hbq58] at H; exact H
                                  have Nbq58 := Aside0.mk hbq58
                                  clear hbq58
                                  (try rw [← Nbq58.out])
                                  by_cases c59 : bq58 = true
                                  · subst c59
                                    have H1 : (swagelaw06_GraphOnward.j3 k3 l0 t478 t480 t490 t493 x8_2 (wrap64 (x10_3 + 1)) x11_3) = some r := by rw [if_pos rfl] at H; exact H
                                    clear H
                                    have H := H1
                                    clear H1
                                    have H' := Aside0.mk H
                                    clear H
                                    go_wp2
                                    repeat (go_quiet (fail); try go_wp2)
                                    go_meet
                                    case rel => exact ⟨_, (wrap64 (x10_3 + 1)), (by first | rfl | (simp; done) | (simp [*]; done)), H', ⟨by have := HJ9.out; have := HK2.out; have := HK3.out; first | omega | exact Nat.le_refl _⟩, ⟨by (with_reducible repeat (first | apply Kd.R_alloc | apply Kd.R_drewN | apply Kd.R_drew)); exact HO_5.out⟩, ⟨by (with_reducible repeat (first | apply Kd.R_alloc | apply Kd.R_drewN | apply Kd.R_drew)); exact HO_6.out⟩, ⟨by (with_reducible repeat (first | apply Kd.R_alloc | apply Kd.R_drewN | apply Kd.R_drew)); exact HO_7.out⟩, ⟨by (with_reducible repeat (first | apply Kd.R_alloc | apply Kd.R_drewN | apply Kd.R_drew)); exact HO_8.out⟩, ⟨by repeat (first | (with_reducible first | exact HB.out | apply below_alloc | apply pw_below_drewN | apply below_drew1) | exact HB.out)⟩⟩
                                  · replace c59 := Bool.eq_false_iff.mpr c59
                                    subst c59
                                    have H1 : (swagelaw06_GraphOnward.j3 k3 l0 t478 t480 t490 t493 x8_2 x10_3 x11_3) = some r := by rw [if_neg (show ¬ (false = true) by decide)] at H; exact H
                                    clear H
                                    have H := H1
                                    clear H1
                                    have H' := Aside0.mk H
                                    clear H
                                    go_wp2
                                    repeat (go_quiet (fail); try go_wp2)
                                    go_meet
                                    case rel => exact ⟨_, (x10_3), (by first | rfl | (simp; done) | (simp [*]; done)), H', ⟨by have := HJ9.out; have := HK2.out; have := HK3.out; first | omega | exact Nat.le_refl _⟩, ⟨by (with_reducible repeat (first | apply Kd.R_alloc | apply Kd.R_drewN | apply Kd.R_drew)); exact HO_5.out⟩, ⟨by (with_reducible repeat (first | apply Kd.R_alloc | apply Kd.R_drewN | apply Kd.R_drew)); exact HO_6.out⟩, ⟨by (with_reducible repeat (first | apply Kd.R_alloc | apply Kd.R_drewN | apply Kd.R_drew)); exact HO_7.out⟩, ⟨by (with_reducible repeat (first | apply Kd.R_alloc | apply Kd.R_drewN | apply Kd.R_drew)); exact HO_8.out⟩, ⟨by repeat (first | (with_reducible first | exact HB.out | apply below_alloc | apply pw_below_drewN | apply below_drew1) | exact HB.out)⟩⟩
                                case rest =>
                                  clear HC56
                                  try clear c1
                                  try clear c2
                                  try clear p2
                                  try clear c3
                                  try clear q3
                                  try clear c4
                                  try clear p4
                                  try clear q4
                                  try clear hx4
                                  try clear qi4
                                  try clear hf4
                                  try clear c5
                                  try clear p5
                                  try clear q5
                                  try clear hx5
                                  try clear p6
                                  try clear c7
                                  try clear c16
                                  try clear c16b0
                                  try clear c16b1
                                  try clear c16b2
                                  try clear c17
                                  try clear c17b0
                                  try clear c17b1
                                  try clear c20
                                  try clear c20b0
                                  try clear c20b1
                                  try clear c24
                                  try clear c25
                                  try clear c25b0
                                  try clear c25b1
                                  try clear c26
                                  try clear c26b0
                                  try clear c26b1
                                  try clear c29
                                  try clear c29b0
                                  try clear c30
                                  try clear c30b0
                                  try clear c31
                                  try clear c31b0
                                  try clear c33
                                  try clear c33b0
                                  try clear c35
                                  try clear c35b0
                                  try clear c36
                                  try clear c36b0
                                  try clear c37
                                  try clear c37b0
                                  try clear c37b1
                                  try clear c38
                                  try clear c38b0
                                  try clear q39
                                  try clear c40
                                  try clear p41
                                  try clear q41
                                  try clear hx41
                                  try clear hf41
                                  try clear p49
                                  try clear q49
                                  try clear hx49
                                  try clear qi49
                                  try clear p50
                                  try clear q50
                                  try clear hx50
                                  try clear c53
                                  try clear c53b0
                                  try clear c54
                                  try clear c54b0
                                  try clear c55
                                  try clear c55b0
                                  try clear q58
                                  try clear c59
                                  try clear hx41_0
                                  try clear hx496_0
                                  try clear hx500_0
                                  try clear hx501_0
                                  try clear hx502_0
                                  try clear hx503_0
                                  try clear hx504_0
                                  try clear hx505_0
                                  try clear hx506_0
                                  try clear hx508_0
                                  try clear p2
                                  try clear p4
                                  try clear p41
                                  try clear p49
                                  try clear p496
                                  try clear p5
                                  try clear p50
                                  try clear p500
                                  try clear p501
                                  try clear p502
                                  try clear p503
                                  try clear p504
                                  try clear p505
                                  try clear p506
                                  try clear p508
                                  try clear p6
                                  try clear q3
                                  try clear q39
                                  try clear q4
                                  try clear q41
                                  try clear q49
                                  try clear q496
                                  try clear q5
                                  try clear q50
                                  try clear q500
                                  try clear q501
                                  try clear q502
                                  try clear q503
                                  try clear q504
                                  try clear q505
                                  try clear q506
                                  try clear q508
                                  obtain ⟨kq, x10_55, rfl, HA, HJ55, HO_5, HO_6, HO_7, HO_8, HB⟩ := hcut
                                  cases kq with
                                  | zero => exact absurd HA.out (by simp [swagelaw06_GraphOnward.j3])
                                  | succ kj55 =>
                                    have H := HA.out
                                    clear HA
                                    simp only [swagelaw06_GraphOnward.j3] at H
                                    have H' := Aside0.mk H
                                    clear H
                                    go_wp2
                                    repeat (go_quiet (fail); try go_wp2)
                                    go_loopg [12] kj55 (fun kq v12 w' => ∃ (x12_5 : Int), v12 = .int .i64 x12_5 ∧ Aside0 (swagelaw06_GraphOnward.l2 kq l0 t478 t480 t490 t493 x8_2 x10_55 x11_3 x12_5 = some r) ∧ Aside0 (kq ≤ kj55) ∧ Aside0 (Kd.R (Kd.int .i64) 3 w' w.heap.size (fun k_ => some k_ ≠ (v498 : Value).ownBlock) (.slice Ao52 t480.length co52) t480) ∧ Aside0 (Kd.R Kd.bool 4 w' w.heap.size (fun _ => True) (.slice (some ad508) t490.length co57) t490) ∧ Aside0 (Kd.R k37 37 w' w.heap.size (fun _ => True) v494 t493) ∧ Aside0 (Kd.R (Kd.int .i64) 3 w' w.heap.size (fun k_ => some k_ ≠ ((.slice Ao52 t480.length co52) : Value).ownBlock) v498 x8_2) ∧ Aside0 (Below w.heap.size w w'))
                                    case atStart => exact ⟨(0), (by first | rfl | (simp; done) | (simp [*]; done)), H', ⟨Nat.le_refl _⟩, ⟨by (with_reducible repeat (first | apply Kd.R_alloc | apply Kd.R_drewN | apply Kd.R_drew)); exact HO_5.out⟩, ⟨by (with_reducible repeat (first | apply Kd.R_alloc | apply Kd.R_drewN | apply Kd.R_drew)); exact HO_6.out⟩, ⟨by (with_reducible repeat (first | apply Kd.R_alloc | apply Kd.R_drewN | apply Kd.R_drew)); exact HO_7.out⟩, ⟨by (with_reducible repeat (first | apply Kd.R_alloc | apply Kd.R_drewN | apply Kd.R_drew)); exact HO_8.out⟩, ⟨by repeat (first | (with_reducible first | exact HB.out | apply below_alloc | apply pw_below_drewN | apply below_drew1) | exact HB.out)⟩⟩
                                    case round =>
                                      clear H'
                                      try clear c1
                                      try clear c2
                                      try clear p2
                                      try clear c3
                                      try clear q3
                                      try clear c4
                                      try clear p4
                                      try clear q4
                                      try clear hx4
                                      try clear qi4
                                      try clear hf4
                                      try clear c5
                                      try clear p5
                                      try clear q5
                                      try clear hx5
                                      try clear p6
                                      try clear c7
                                      try clear c16
                                      try clear c16b0
                                      try clear c16b1
                                      try clear c16b2
                                      try clear c17
                                      try clear c17b0
                                      try clear c17b1
                                      try clear c20
                                      try clear c20b0
                                      try clear c20b1
                                      try clear c24
                                      try clear c25
                                      try clear c25b0
                                      try clear c25b1
                                      try clear c26
                                      try clear c26b0
                                      try clear c26b1
                                      try clear c29
                                      try clear c29b0
                                      try clear c30
                                      try clear c30b0
                                      try clear c31
                                      try clear c31b0
                                      try clear c33
                                      try clear c33b0
                                      try clear c35
                                      try clear c35b0
                                      try clear c36
                                      try clear c36b0
                                      try clear c37
                                      try clear c37b0
                                      try clear c37b1
                                      try clear c38
                                      try clear c38b0
                                      try clear q39
                                      try clear c40
                                      try clear p41
                                      try clear q41
                                      try clear hx41
                                      try clear hf41
                                      try clear p49
                                      try clear q49
                                      try clear hx49
                                      try clear qi49
                                      try clear p50
                                      try clear q50
                                      try clear hx50
                                      try clear c53
                                      try clear c53b0
                                      try clear c54
                                      try clear c54b0
                                      try clear c55
                                      try clear c55b0
                                      try clear q58
                                      try clear c59
                                      try clear hx41_0
                                      try clear hx496_0
                                      try clear hx500_0
                                      try clear hx501_0
                                      try clear hx502_0
                                      try clear hx503_0
                                      try clear hx504_0
                                      try clear hx505_0
                                      try clear hx506_0
                                      try clear hx508_0
                                      try clear p2
                                      try clear p4
                                      try clear p41
                                      try clear p49
                                      try clear p496
                                      try clear p5
                                      try clear p50
                                      try clear p500
                                      try clear p501
                                      try clear p502
                                      try clear p503
                                      try clear p504
                                      try clear p505
                                      try clear p506
                                      try clear p508
                                      try clear p6
                                      try clear q3
                                      try clear q39
                                      try clear q4
                                      try clear q41
                                      try clear q49
                                      try clear q496
                                      try clear q5
                                      try clear q50
                                      try clear q500
                                      try clear q501
                                      try clear q502
                                      try clear q503
                                      try clear q504
                                      try clear q505
                                      try clear q506
                                      try clear q508
                                      try clear q58
                                      obtain ⟨x12_5, rfl, HA, HK5, HO_5, HO_6, HO_7, HO_8, HB⟩ := hrel
                                      cases gk with
                                      | zero => exact absurd HA.out (by simp [swagelaw06_GraphOnward.l2])
                                      | succ k5 =>
                                        have H := HA.out
                                        clear HA
                                        simp only [swagelaw06_GraphOnward.l2] at H
                                        have HC60 := Aside0.mk H
                                        clear H
                                        go_upto_region 26 with (fail)
                                        repeat (go_quiet (fail); go_upto_region 26 with (fail))
                                        go_cut [139] (fun v139 wc => ∃ (kq : Nat) (x139_59 : Bool), v139 = .bool x139_59 ∧ Aside0 (swagelaw06_GraphOnward.j5 kq l0 t478 t480 t490 t493 x8_2 x10_55 x11_3 x12_5 x139_59 = some r) ∧ Aside0 (kq ≤ k5) ∧ Aside0 (Kd.R (Kd.int .i64) 3 wc w.heap.size (fun k_ => some k_ ≠ (v498 : Value).ownBlock) (.slice Ao52 t480.length co52) t480) ∧ Aside0 (Kd.R Kd.bool 4 wc w.heap.size (fun _ => True) (.slice (some ad508) t490.length co57) t490) ∧ Aside0 (Kd.R k37 37 wc w.heap.size (fun _ => True) v494 t493) ∧ Aside0 (Kd.R (Kd.int .i64) 3 wc w.heap.size (fun k_ => some k_ ≠ ((.slice Ao52 t480.length co52) : Value).ownBlock) v498 x8_2) ∧ Aside0 (Below w.heap.size w wc))
                                        case first =>
                                          have H := HC60.out
                                          clear HC60
                                          by_cases c61 : 0 ≤ x11_3
                                          · rw [if_pos c61] at H
                                            have c61b0 : decide (0 ≤ x11_3) = true := decide_eq_true c61
                                            clear c61
                                            (first | rw [c61b0] | (simp only [i64_w, i32_w]; rw [c61b0]) | skip)
                                            by_cases c62 : x11_3 < (l0.length : Int)
                                            · rw [if_pos c62] at H
                                              have c62b0 : decide (x11_3 < (l0.length : Int)) = true := decide_eq_true c62
                                              clear c62
                                              by_cases c63 : x12_5 < ((rd_L1 l0 x11_3).length : Int)
                                              · rw [if_pos c63] at H
                                                have c63b0 : decide (x12_5 < ((rd_L1 l0 x11_3).length : Int)) = true := decide_eq_true c63
                                                clear c63
                                                by_cases c64 : x11_3 < (t490.length : Int)
                                                · rw [if_pos c64] at H
                                                  have c64b0 : decide (x11_3 < (t490.length : Int)) = true := decide_eq_true c64
                                                  clear c64
                                                  have H' := Aside0.mk H
                                                  clear H
                                                  have p509 : 0 ≤ (x11_3 : Int) := of_decide_eq_true (by first | (with_reducible assumption) | assumption)
                                                  have q509 : x11_3 < (l0.length : Int) := of_decide_eq_true (by first | (with_reducible assumption) | assumption)
                                                  obtain ⟨ad509, A509_0, c509_0, e509, hx509_0, hl509_0, hi509_0⟩ := at_L1 HR0.out x11_3 p509 q509
                                                  cases e509
                                                  replace hx509_0 := (HB.out.cell (World.block_lt_of_cell? w _ hx509_0)).trans hx509_0
                                                  have HR509_0 := Aside0.mk hi509_0
                                                  have HC509_0 := Aside0.mk hl509_0
                                                  clear hi509_0 hl509_0
                                                  replace p509 := eq_true p509
                                                  replace q509 := eq_true q509
                                                  have p510 : 0 ≤ (x11_3 : Int) := of_decide_eq_true (by first | (with_reducible assumption) | assumption)
                                                  have q510 : x11_3 < (t490.length : Int) := of_decide_eq_true (by first | (with_reducible assumption) | assumption)
                                                  obtain ⟨ad510, e510, hx510_0⟩ := Kd.at_bool (Kd.R_reads' HO_6.out).2.2 x11_3 p510 q510
                                                  obtain rfl : ad508 = ad510 := (by injection e510)
                                                  replace p510 := eq_true p510
                                                  replace q510 := eq_true q510
                                                  go_wp2
                                                  repeat (go_quiet (fail); try go_wp2)
                                                  go_meet
                                                  case rel => exact ⟨_, (rdOf false t490 x11_3), (by first | rfl | (simp; done) | (simp [*]; done)), H', ⟨by have := HJ9.out; have := HK2.out; have := HK3.out; have := HJ55.out; have := HK5.out; first | omega | exact Nat.le_refl _⟩, ⟨by (with_reducible repeat (first | apply Kd.R_alloc | apply Kd.R_drewN | apply Kd.R_drew)); exact HO_5.out⟩, ⟨by (with_reducible repeat (first | apply Kd.R_alloc | apply Kd.R_drewN | apply Kd.R_drew)); exact HO_6.out⟩, ⟨by (with_reducible repeat (first | apply Kd.R_alloc | apply Kd.R_drewN | apply Kd.R_drew)); exact HO_7.out⟩, ⟨by (with_reducible repeat (first | apply Kd.R_alloc | apply Kd.R_drewN | apply Kd.R_drew)); exact HO_8.out⟩, ⟨by repeat (first | (with_reducible first | exact HB.out | apply below_alloc | apply pw_below_drewN | apply below_drew1) | exact HB.out)⟩⟩
                                                · rw [if_neg c64] at H
                                                  exact absurd H (by simp)
                                              · rw [if_neg c63] at H
                                                have c63b0 : decide (x12_5 < ((rd_L1 l0 x11_3).length : Int)) = false := decide_eq_false c63
                                                clear c63
                                                have H' := Aside0.mk H
                                                clear H
                                                have p509 : 0 ≤ (x11_3 : Int) := of_decide_eq_true (by first | (with_reducible assumption) | assumption)
                                                have q509 : x11_3 < (l0.length : Int) := of_decide_eq_true (by first | (with_reducible assumption) | assumption)
                                                obtain ⟨ad509, A509_0, c509_0, e509, hx509_0, hl509_0, hi509_0⟩ := at_L1 HR0.out x11_3 p509 q509
                                                cases e509
                                                replace hx509_0 := (HB.out.cell (World.block_lt_of_cell? w _ hx509_0)).trans hx509_0
                                                have HR509_0 := Aside0.mk hi509_0
                                                have HC509_0 := Aside0.mk hl509_0
                                                clear hi509_0 hl509_0
                                                replace p509 := eq_true p509
                                                replace q509 := eq_true q509
                                                go_wp2
                                                repeat (go_quiet (fail); try go_wp2)
                                                go_meet
                                                case rel => exact ⟨_, (false), (by first | rfl | (simp; done) | (simp [*]; done)), H', ⟨by have := HJ9.out; have := HK2.out; have := HK3.out; have := HJ55.out; have := HK5.out; first | omega | exact Nat.le_refl _⟩, ⟨by (with_reducible repeat (first | apply Kd.R_alloc | apply Kd.R_drewN | apply Kd.R_drew)); exact HO_5.out⟩, ⟨by (with_reducible repeat (first | apply Kd.R_alloc | apply Kd.R_drewN | apply Kd.R_drew)); exact HO_6.out⟩, ⟨by (with_reducible repeat (first | apply Kd.R_alloc | apply Kd.R_drewN | apply Kd.R_drew)); exact HO_7.out⟩, ⟨by (with_reducible repeat (first | apply Kd.R_alloc | apply Kd.R_drewN | apply Kd.R_drew)); exact HO_8.out⟩, ⟨by repeat (first | (with_reducible first | exact HB.out | apply below_alloc | apply pw_below_drewN | apply below_drew1) | exact HB.out)⟩⟩
                                            · rw [if_neg c62] at H
                                              exact absurd H (by simp)
                                          · rw [if_neg c61] at H
                                            exact absurd H (by simp)
                                        case rest =>
                                          clear HC60
                                          try clear c1
                                          try clear c2
                                          try clear p2
                                          try clear c3
                                          try clear q3
                                          try clear c4
                                          try clear p4
                                          try clear q4
                                          try clear hx4
                                          try clear qi4
                                          try clear hf4
                                          try clear c5
                                          try clear p5
                                          try clear q5
                                          try clear hx5
                                          try clear c6
                                          try clear p6
                                          try clear c7
                                          try clear c16
                                          try clear c16b0
                                          try clear c16b1
                                          try clear c16b2
                                          try clear c17
                                          try clear c17b0
                                          try clear c17b1
                                          try clear c20
                                          try clear c20b0
                                          try clear c20b1
                                          try clear c24
                                          try clear c25
                                          try clear c25b0
                                          try clear c25b1
                                          try clear c26
                                          try clear c26b0
                                          try clear c26b1
                                          try clear c29
                                          try clear c29b0
                                          try clear c30
                                          try clear c30b0
                                          try clear c31
                                          try clear c31b0
                                          try clear c33
                                          try clear c33b0
                                          try clear c35
                                          try clear c35b0
                                          try clear c36
                                          try clear c36b0
                                          try clear c37
                                          try clear c37b0
                                          try clear c37b1
                                          try clear c38
                                          try clear c38b0
                                          try clear q39
                                          try clear c40
                                          try clear p41
                                          try clear q41
                                          try clear hx41
                                          try clear hf41
                                          try clear p49
                                          try clear q49
                                          try clear hx49
                                          try clear qi49
                                          try clear c50
                                          try clear p50
                                          try clear q50
                                          try clear hx50
                                          try clear p51
                                          try clear q51
                                          try clear hx51
                                          try clear c53
                                          try clear c53b0
                                          try clear c54
                                          try clear c54b0
                                          try clear c55
                                          try clear c55b0
                                          try clear q58
                                          try clear c59
                                          try clear c61
                                          try clear c61b0
                                          try clear c62
                                          try clear c62b0
                                          try clear c63
                                          try clear c63b0
                                          try clear c64
                                          try clear c64b0
                                          try clear p64
                                          try clear hx41_0
                                          try clear hx496_0
                                          try clear hx500_0
                                          try clear hx501_0
                                          try clear hx502_0
                                          try clear hx503_0
                                          try clear hx504_0
                                          try clear hx505_0
                                          try clear hx506_0
                                          try clear hx508_0
                                          try clear hx509_0
                                          try clear hx510_0
                                          try clear p2
                                          try clear p4
                                          try clear p41
                                          try clear p49
                                          try clear p496
                                          try clear p5
                                          try clear p50
                                          try clear p500
                                          try clear p501
                                          try clear p502
                                          try clear p503
                                          try clear p504
                                          try clear p505
                                          try clear p506
                                          try clear p508
                                          try clear p509
                                          try clear p510
                                          try clear p6
                                          try clear q3
                                          try clear q39
                                          try clear q4
                                          try clear q41
                                          try clear q49
                                          try clear q496
                                          try clear q5
                                          try clear q50
                                          try clear q500
                                          try clear q501
                                          try clear q502
                                          try clear q503
                                          try clear q504
                                          try clear q505
                                          try clear q506
                                          try clear q508
                                          try clear q509
                                          try clear q510
                                          try clear q58
                                          obtain ⟨kq, x139_59, rfl, HA, HJ59, HO_5, HO_6, HO_7, HO_8, HB⟩ := hcut
                                          cases kq with
                                          | zero => exact absurd HA.out (by simp [swagelaw06_GraphOnward.j5])
                                          | succ kj59 =>
                                            have H := HA.out
                                            clear HA
                                            simp only [swagelaw06_GraphOnward.j5] at H
                                            by_cases c65 : x139_59 = true
                                            · subst c65
                                              have H1 : (swagelaw06_GraphOnward.l3 kj59 l0 t478 t480 t490 t493 x8_2 x10_55 x11_3 x12_5 false 0) = some r := by rw [if_pos rfl] at H; exact H
                                              clear H
                                              have H := H1
                                              clear H1
                                              have H' := Aside0.mk H
                                              clear H
                                              go_wp2
                                              repeat (go_quiet (fail); try go_wp2)
                                              go_loopg [13, 14] kj59 (fun kq v13 v14 w' => ∃ (x13_7 : Bool) (x14_7 : Int), v13 = .bool x13_7 ∧ v14 = .int .i64 x14_7 ∧ Aside0 (swagelaw06_GraphOnward.l3 kq l0 t478 t480 t490 t493 x8_2 x10_55 x11_3 x12_5 x13_7 x14_7 = some r) ∧ Aside0 (kq ≤ kj59) ∧ Aside0 (Kd.R (Kd.int .i64) 3 w' w.heap.size (fun k_ => some k_ ≠ (v498 : Value).ownBlock) (.slice Ao52 t480.length co52) t480) ∧ Aside0 (Kd.R Kd.bool 4 w' w.heap.size (fun _ => True) (.slice (some ad508) t490.length co57) t490) ∧ Aside0 (Kd.R k37 37 w' w.heap.size (fun _ => True) v494 t493) ∧ Aside0 (Kd.R (Kd.int .i64) 3 w' w.heap.size (fun k_ => some k_ ≠ ((.slice Ao52 t480.length co52) : Value).ownBlock) v498 x8_2) ∧ Aside0 (Below w.heap.size w w'))
                                              case atStart => exact ⟨(false), (0), (by first | rfl | (simp; done) | (simp [*]; done)), (by first | rfl | (simp; done) | (simp [*]; done)), H', ⟨Nat.le_refl _⟩, ⟨by (with_reducible repeat (first | apply Kd.R_alloc | apply Kd.R_drewN | apply Kd.R_drew)); exact HO_5.out⟩, ⟨by (with_reducible repeat (first | apply Kd.R_alloc | apply Kd.R_drewN | apply Kd.R_drew)); exact HO_6.out⟩, ⟨by (with_reducible repeat (first | apply Kd.R_alloc | apply Kd.R_drewN | apply Kd.R_drew)); exact HO_7.out⟩, ⟨by (with_reducible repeat (first | apply Kd.R_alloc | apply Kd.R_drewN | apply Kd.R_drew)); exact HO_8.out⟩, ⟨by repeat (first | (with_reducible first | exact HB.out | apply below_alloc | apply pw_below_drewN | apply below_drew1) | exact HB.out)⟩⟩
                                              case round =>
                                                clear H'
                                                try clear c1
                                                try clear c2
                                                try clear p2
                                                try clear c3
                                                try clear q3
                                                try clear c4
                                                try clear p4
                                                try clear q4
                                                try clear hx4
                                                try clear qi4
                                                try clear hf4
                                                try clear c5
                                                try clear p5
                                                try clear q5
                                                try clear hx5
                                                try clear c6
                                                try clear p6
                                                try clear c7
                                                try clear c16
                                                try clear c16b0
                                                try clear c16b1
                                                try clear c16b2
                                                try clear c17
                                                try clear c17b0
                                                try clear c17b1
                                                try clear c20
                                                try clear c20b0
                                                try clear c20b1
                                                try clear c24
                                                try clear c25
                                                try clear c25b0
                                                try clear c25b1
                                                try clear c26
                                                try clear c26b0
                                                try clear c26b1
                                                try clear c29
                                                try clear c29b0
                                                try clear c30
                                                try clear c30b0
                                                try clear c31
                                                try clear c31b0
                                                try clear c33
                                                try clear c33b0
                                                try clear c35
                                                try clear c35b0
                                                try clear c36
                                                try clear c36b0
                                                try clear c37
                                                try clear c37b0
                                                try clear c37b1
                                                try clear c38
                                                try clear c38b0
                                                try clear q39
                                                try clear c40
                                                try clear p41
                                                try clear q41
                                                try clear hx41
                                                try clear hf41
                                                try clear p49
                                                try clear q49
                                                try clear hx49
                                                try clear qi49
                                                try clear c50
                                                try clear p50
                                                try clear q50
                                                try clear hx50
                                                try clear p51
                                                try clear q51
                                                try clear hx51
                                                try clear c53
                                                try clear c53b0
                                                try clear c54
                                                try clear c54b0
                                                try clear c55
                                                try clear c55b0
                                                try clear q58
                                                try clear c59
                                                try clear c61
                                                try clear c61b0
                                                try clear c62
                                                try clear c62b0
                                                try clear c63
                                                try clear c63b0
                                                try clear c64
                                                try clear c64b0
                                                try clear p64
                                                try clear c65
                                                try clear hx41_0
                                                try clear hx496_0
                                                try clear hx500_0
                                                try clear hx501_0
                                                try clear hx502_0
                                                try clear hx503_0
                                                try clear hx504_0
                                                try clear hx505_0
                                                try clear hx506_0
                                                try clear hx508_0
                                                try clear hx509_0
                                                try clear hx510_0
                                                try clear p2
                                                try clear p4
                                                try clear p41
                                                try clear p49
                                                try clear p496
                                                try clear p5
                                                try clear p50
                                                try clear p500
                                                try clear p501
                                                try clear p502
                                                try clear p503
                                                try clear p504
                                                try clear p505
                                                try clear p506
                                                try clear p508
                                                try clear p509
                                                try clear p51
                                                try clear p510
                                                try clear p6
                                                try clear p64
                                                try clear q3
                                                try clear q39
                                                try clear q4
                                                try clear q41
                                                try clear q49
                                                try clear q496
                                                try clear q5
                                                try clear q50
                                                try clear q500
                                                try clear q501
                                                try clear q502
                                                try clear q503
                                                try clear q504
                                                try clear q505
                                                try clear q506
                                                try clear q508
                                                try clear q509
                                                try clear q51
                                                try clear q510
                                                try clear q58
                                                obtain ⟨x13_7, x14_7, rfl, rfl, HA, HK7, HO_5, HO_6, HO_7, HO_8, HB⟩ := hrel
                                                cases gk with
                                                | zero => exact absurd HA.out (by simp [swagelaw06_GraphOnward.l3])
                                                | succ k7 =>
                                                  have H := HA.out
                                                  clear HA
                                                  simp only [swagelaw06_GraphOnward.l3] at H
                                                  by_cases c66 : x14_7 < (t493.length : Int)
                                                  · rw [if_pos c66] at H
                                                    have c66b0 : decide (x14_7 < (t493.length : Int)) = true := decide_eq_true c66
                                                    clear c66
                                                    by_cases c67 : x13_7 = true
                                                    · subst c67
                                                      have H1 : (swagelaw06_GraphOnward.l3 k7 l0 t478 t480 t490 t493 x8_2 x10_55 x11_3 x12_5 true (wrap64 (x14_7 + 1))) = some r := by rw [if_pos rfl] at H; exact H
                                                      clear H
                                                      have H := H1
                                                      clear H1
                                                      have H' := Aside0.mk H
                                                      clear H
                                                      obtain ⟨Ao68, co68, eo68⟩ := Kd.R_slice HO_7.out
                                                      subst eo68
                                                      go_wp2
                                                      repeat (go_quiet (fail); try go_wp2)
                                                      go_roundg k7
                                                      case measure => have := HJ9.out; have := HK2.out; have := HK3.out; have := HJ55.out; have := HK5.out; have := HJ59.out; have := HK7.out; omega
                                                      case rel => exact ⟨(true), (wrap64 (x14_7 + 1)), (by first | rfl | (simp; done) | (simp [*]; done)), (by first | rfl | (simp; done) | (simp [*]; done)), H', ⟨by have := HJ9.out; have := HK2.out; have := HK3.out; have := HJ55.out; have := HK5.out; have := HJ59.out; have := HK7.out; omega⟩, ⟨by (with_reducible repeat (first | apply Kd.R_alloc | apply Kd.R_drewN | apply Kd.R_drew)); exact HO_5.out⟩, ⟨by (with_reducible repeat (first | apply Kd.R_alloc | apply Kd.R_drewN | apply Kd.R_drew)); exact HO_6.out⟩, ⟨by (with_reducible repeat (first | apply Kd.R_alloc | apply Kd.R_drewN | apply Kd.R_drew)); exact HO_7.out⟩, ⟨by (with_reducible repeat (first | apply Kd.R_alloc | apply Kd.R_drewN | apply Kd.R_drew)); exact HO_8.out⟩, ⟨by repeat (first | (with_reducible first | exact HB.out | apply below_alloc | apply pw_below_drewN | apply below_drew1) | exact HB.out)⟩⟩
                                                    · replace c67 := Bool.eq_false_iff.mpr c67
                                                      subst c67
                                                      have H1 : (if 0 ≤ x14_7 then (if 0 ≤ x11_3 then (if x11_3 < (l0.length : Int) then (if 0 ≤ x12_5 then (if x12_5 < ((rd_L1 l0 x11_3).length : Int) then (swagelaw06_GraphOnward.l3 k7 l0 t478 t480 t490 t493 x8_2 x10_55 x11_3 x12_5 (((rd_T37 t493 x14_7).f0) == x11_3 && (((rd_T37 t493 x14_7).f1) == (rd (rd_L1 l0 x11_3) x12_5))) (wrap64 (x14_7 + 1))) else (none)) else (none)) else (none)) else (none)) else (none)) = some r := by rw [if_neg (show ¬ (false = true) by decide)] at H; exact H
                                                      clear H
                                                      have H := H1
                                                      clear H1
                                                      by_cases c69 : 0 ≤ x14_7
                                                      · rw [if_pos c69] at H
                                                        have c69b0 : decide (0 ≤ x14_7) = true := decide_eq_true c69
                                                        clear c69
                                                        by_cases c70 : 0 ≤ x11_3
                                                        · rw [if_pos c70] at H
                                                          have c70b0 : decide (0 ≤ x11_3) = true := decide_eq_true c70
                                                          clear c70
                                                          by_cases c71 : x11_3 < (l0.length : Int)
                                                          · rw [if_pos c71] at H
                                                            have c71b0 : decide (x11_3 < (l0.length : Int)) = true := decide_eq_true c71
                                                            clear c71
                                                            by_cases c72 : 0 ≤ x12_5
                                                            · rw [if_pos c72] at H
                                                              have c72b0 : decide (0 ≤ x12_5) = true := decide_eq_true c72
                                                              clear c72
                                                              by_cases c73 : x12_5 < ((rd_L1 l0 x11_3).length : Int)
                                                              · rw [if_pos c73] at H
                                                                have c73b0 : decide (x12_5 < ((rd_L1 l0 x11_3).length : Int)) = true := decide_eq_true c73
                                                                clear c73
                                                                have H' := Aside0.mk H
                                                                clear H
                                                                obtain ⟨Ao74, co74, eo74⟩ := Kd.R_slice HO_7.out
                                                                subst eo74
                                                                have p511 : 0 ≤ (x14_7 : Int) := of_decide_eq_true (by first | (with_reducible assumption) | assumption)
                                                                have q511 : x14_7 < (t493.length : Int) := of_decide_eq_true (by first | (with_reducible assumption) | assumption)
                                                                obtain ⟨ad511, e511, hx511_0, hx511_1⟩ := at_T37 (Kd.R_reads' HO_7.out).2.2 x14_7 p511 q511
                                                                cases e511
                                                                replace p511 := eq_true p511
                                                                replace q511 := eq_true q511
                                                                have p512 : 0 ≤ (x11_3 : Int) := of_decide_eq_true (by first | (with_reducible assumption) | assumption)
                                                                have q512 : x11_3 < (l0.length : Int) := of_decide_eq_true (by first | (with_reducible assumption) | assumption)
                                                                obtain ⟨ad512, A512_0, c512_0, e512, hx512_0, hl512_0, hi512_0⟩ := at_L1 HR0.out x11_3 p512 q512
                                                                cases e512
                                                                replace hx512_0 := (HB.out.cell (World.block_lt_of_cell? w _ hx512_0)).trans hx512_0
                                                                have HR512_0 := Aside0.mk hi512_0
                                                                have HC512_0 := Aside0.mk hl512_0
                                                                clear hi512_0 hl512_0
                                                                replace p512 := eq_true p512
                                                                replace q512 := eq_true q512
                                                                have p513 : 0 ≤ (x12_5 : Int) := of_decide_eq_true (by first | (with_reducible assumption) | assumption)
                                                                have q513 : x12_5 < ((rd_L1 l0 x11_3).length : Int) := of_decide_eq_true (by first | (with_reducible assumption) | assumption)
                                                                obtain ⟨ad513, e513, hx513_0⟩ := Kd.at_int HR512_0.out x12_5 p513 q513
                                                                cases e513
                                                                replace hx513_0 := (HB.out.cell (World.block_lt_of_cell? w _ hx513_0)).trans hx513_0
                                                                replace p513 := eq_true p513
                                                                replace q513 := eq_true q513
                                                                go_wp2
                                                                repeat (go_quiet (fail); try go_wp2)
                                                                go_roundg k7
                                                                case measure => have := HJ9.out; have := HK2.out; have := HK3.out; have := HJ55.out; have := HK5.out; have := HJ59.out; have := HK7.out; omega
                                                                case rel => exact ⟨((((rd_T37 t493 x14_7).f0) == x11_3 && (((rd_T37 t493 x14_7).f1) == (rd (rd_L1 l0 x11_3) x12_5)))), (wrap64 (x14_7 + 1)), (by first | rfl | (simp; done) | (simp [*]; done)), (by first | rfl | (simp; done) | (simp [*]; done)), H', ⟨by have := HJ9.out; have := HK2.out; have := HK3.out; have := HJ55.out; have := HK5.out; have := HJ59.out; have := HK7.out; omega⟩, ⟨by (with_reducible repeat (first | apply Kd.R_alloc | apply Kd.R_drewN | apply Kd.R_drew)); exact HO_5.out⟩, ⟨by (with_reducible repeat (first | apply Kd.R_alloc | apply Kd.R_drewN | apply Kd.R_drew)); exact HO_6.out⟩, ⟨by (with_reducible repeat (first | apply Kd.R_alloc | apply Kd.R_drewN | apply Kd.R_drew)); exact HO_7.out⟩, ⟨by (with_reducible repeat (first | apply Kd.R_alloc | apply Kd.R_drewN | apply Kd.R_drew)); exact HO_8.out⟩, ⟨by repeat (first | (with_reducible first | exact HB.out | apply below_alloc | apply pw_below_drewN | apply below_drew1) | exact HB.out)⟩⟩
                                                              · rw [if_neg c73] at H
                                                                exact absurd H (by simp)
                                                            · rw [if_neg c72] at H
                                                              exact absurd H (by simp)
                                                          · rw [if_neg c71] at H
                                                            exact absurd H (by simp)
                                                        · rw [if_neg c70] at H
                                                          exact absurd H (by simp)
                                                      · rw [if_neg c69] at H
                                                        exact absurd H (by simp)
                                                  · rw [if_neg c66] at H
                                                    have c66b0 : decide (x14_7 < (t493.length : Int)) = false := decide_eq_false c66
                                                    clear c66
                                                    by_cases c75 : 0 ≤ x11_3
                                                    · rw [if_pos c75] at H
                                                      have c75b0 : decide (0 ≤ x11_3) = true := decide_eq_true c75
                                                      clear c75
                                                      by_cases c76 : x11_3 < (l0.length : Int)
                                                      · rw [if_pos c76] at H
                                                        have c76b0 : decide (x11_3 < (l0.length : Int)) = true := decide_eq_true c76
                                                        clear c76
                                                        by_cases c77 : 0 ≤ x12_5
                                                        · rw [if_pos c77] at H
                                                          have c77b0 : decide (0 ≤ x12_5) = true := decide_eq_true c77
                                                          clear c77
                                                          by_cases c78 : x12_5 < ((rd_L1 l0 x11_3).length : Int)
                                                          · rw [if_pos c78] at H
                                                            have c78b0 : decide (x12_5 < ((rd_L1 l0 x11_3).length : Int)) = true := decide_eq_true c78
                                                            clear c78
                                                            by_cases c79 : 0 ≤ (rd (rd_L1 l0 x11_3) x12_5)
                                                            · rw [if_pos c79] at H
                                                              have c79b0 : decide (0 ≤ (rd (rd_L1 l0 x11_3) x12_5)) = true := decide_eq_true c79
                                                              clear c79
                                                              by_cases c80 : (rd (rd_L1 l0 x11_3) x12_5) < (x8_2.length : Int)
                                                              · rw [if_pos c80] at H
                                                                have c80b0 : decide ((rd (rd_L1 l0 x11_3) x12_5) < (x8_2.length : Int)) = true := decide_eq_true c80
                                                                clear c80
                                                                by_cases c81 : x11_3 < (x8_2.length : Int)
                                                                · rw [if_pos c81] at H
                                                                  have c81b0 : decide (x11_3 < (x8_2.length : Int)) = true := decide_eq_true c81
                                                                  clear c81
                                                                  by_cases c82 : (x13_7 == (decide ((rd x8_2 (rd (rd_L1 l0 x11_3) x12_5)) > (rd x8_2 x11_3)))) = true
                                                                  · rw [if_pos c82] at H
                                                                    have c82b0 : (x13_7 == (decide ((rd x8_2 (rd (rd_L1 l0 x11_3) x12_5)) > (rd x8_2 x11_3)))) = true := c82
                                                                    (try (have c82b1 : decide (x13_7 = (decide ((rd x8_2 (rd (rd_L1 l0 x11_3) x12_5)) > (rd x8_2 x11_3)))) = true := by simpa using c82))
                                                                    (try (have c82b2 : (x13_7 == (decide ((rd x8_2 (rd (rd_L1 l0 x11_3) x12_5)) > (rd x8_2 x11_3)))) = true := by simpa using c82))
                                                                    clear c82
                                                                    obtain rfl := Option.some.inj H
                                                                    obtain ⟨Ao83, co83, eo83⟩ := Kd.R_slice HO_7.out
                                                                    subst eo83
                                                                    have p514 : 0 ≤ (x11_3 : Int) := of_decide_eq_true (by first | (with_reducible assumption) | assumption)
                                                                    have q514 : x11_3 < (l0.length : Int) := of_decide_eq_true (by first | (with_reducible assumption) | assumption)
                                                                    obtain ⟨ad514, A514_0, c514_0, e514, hx514_0, hl514_0, hi514_0⟩ := at_L1 HR0.out x11_3 p514 q514
                                                                    cases e514
                                                                    replace hx514_0 := (HB.out.cell (World.block_lt_of_cell? w _ hx514_0)).trans hx514_0
                                                                    have HR514_0 := Aside0.mk hi514_0
                                                                    have HC514_0 := Aside0.mk hl514_0
                                                                    clear hi514_0 hl514_0
                                                                    replace p514 := eq_true p514
                                                                    replace q514 := eq_true q514
                                                                    have p515 : 0 ≤ (x12_5 : Int) := of_decide_eq_true (by first | (with_reducible assumption) | assumption)
                                                                    have q515 : x12_5 < ((rd_L1 l0 x11_3).length : Int) := of_decide_eq_true (by first | (with_reducible assumption) | assumption)
                                                                    obtain ⟨ad515, e515, hx515_0⟩ := Kd.at_int HR514_0.out x12_5 p515 q515
                                                                    cases e515
                                                                    replace hx515_0 := (HB.out.cell (World.block_lt_of_cell? w _ hx515_0)).trans hx515_0
                                                                    replace p515 := eq_true p515
                                                                    replace q515 := eq_true q515
                                                                    obtain ⟨Ao84, co84, eo84⟩ := Kd.R_slice HO_8.out
                                                                    subst eo84
                                                                    have p516 : 0 ≤ ((rd (rd_L1 l0 x11_3) x12_5) : Int) := of_decide_eq_true (by first | (with_reducible assumption) | assumption)
                                                                    have q516 : (rd (rd_L1 l0 x11_3) x12_5) < (x8_2.length : Int) := of_decide_eq_true (by first | (with_reducible assumption) | assumption)
                                                                    obtain ⟨ad516, e516, hx516_0⟩ := Kd.at_int (Kd.R_reads' HO_8.out).2.2 (rd (rd_L1 l0 x11_3) x12_5) p516 q516
                                                                    cases e516
                                                                    replace p516 := eq_true p516
                                                                    replace q516 := eq_true q516
                                                                    have p517 : 0 ≤ (x11_3 : Int) := of_decide_eq_true (by first | (with_reducible assumption) | assumption)
                                                                    have q517 : x11_3 < (x8_2.length : Int) := of_decide_eq_true (by first | (with_reducible assumption) | assumption)
                                                                    obtain ⟨ad517, e517, hx517_0⟩ := Kd.at_int (Kd.R_reads' HO_8.out).2.2 x11_3 p517 q517
                                                                    obtain rfl : ad516 = ad517 := (by injection e517)
                                                                    replace p517 := eq_true p517
                                                                    replace q517 := eq_true q517
                                                                    go_wp2
                                                                    repeat (go_quiet (fail); try go_wp2)
                                                                    go_ret
                                                                    exact ⟨by first | rfl | (simp [errW_none, errW_some] <;> rfl) | (simp [*, errW_none, errW_some] <;> rfl), by repeat (first | (with_reducible first | exact HB.out | apply below_alloc | apply pw_below_drewN | apply below_drew1) | exact HB.out)⟩
                                                                  · rw [if_neg c82] at H
                                                                    have c82b0 : (x13_7 == (decide ((rd x8_2 (rd (rd_L1 l0 x11_3) x12_5)) > (rd x8_2 x11_3)))) = false := by simpa using c82
                                                                    (try (have c82b1 : decide (x13_7 = (decide ((rd x8_2 (rd (rd_L1 l0 x11_3) x12_5)) > (rd x8_2 x11_3)))) = false := by simpa using c82))
                                                                    (try (have c82b2 : (x13_7 == (decide ((rd x8_2 (rd (rd_L1 l0 x11_3) x12_5)) > (rd x8_2 x11_3)))) = false := by simpa using c82))
                                                                    (try (have c82b3 : ¬ (x13_7 = (decide ((rd x8_2 (rd (rd_L1 l0 x11_3) x12_5)) > (rd x8_2 x11_3)))) := by simpa using c82))
                                                                    clear c82
                                                                    have H' := Aside0.mk H
                                                                    clear H
                                                                    obtain ⟨Ao85, co85, eo85⟩ := Kd.R_slice HO_7.out
                                                                    subst eo85
                                                                    have p514 : 0 ≤ (x11_3 : Int) := of_decide_eq_true (by first | (with_reducible assumption) | assumption)
                                                                    have q514 : x11_3 < (l0.length : Int) := of_decide_eq_true (by first | (with_reducible assumption) | assumption)
                                                                    obtain ⟨ad514, A514_0, c514_0, e514, hx514_0, hl514_0, hi514_0⟩ := at_L1 HR0.out x11_3 p514 q514
                                                                    cases e514
                                                                    replace hx514_0 := (HB.out.cell (World.block_lt_of_cell? w _ hx514_0)).trans hx514_0
                                                                    have HR514_0 := Aside0.mk hi514_0
                                                                    have HC514_0 := Aside0.mk hl514_0
                                                                    clear hi514_0 hl514_0
                                                                    replace p514 := eq_true p514
                                                                    replace q514 := eq_true q514
                                                                    have p515 : 0 ≤ (x12_5 : Int) := of_decide_eq_true (by first | (with_reducible assumption) | assumption)
                                                                    have q515 : x12_5 < ((rd_L1 l0 x11_3).length : Int) := of_decide_eq_true (by first | (with_reducible assumption) | assumption)
                                                                    obtain ⟨ad515, e515, hx515_0⟩ := Kd.at_int HR514_0.out x12_5 p515 q515
                                                                    cases e515
                                                                    replace hx515_0 := (HB.out.cell (World.block_lt_of_cell? w _ hx515_0)).trans hx515_0
                                                                    replace p515 := eq_true p515
                                                                    replace q515 := eq_true q515
                                                                    obtain ⟨Ao86, co86, eo86⟩ := Kd.R_slice HO_8.out
                                                                    subst eo86
                                                                    have p516 : 0 ≤ ((rd (rd_L1 l0 x11_3) x12_5) : Int) := of_decide_eq_true (by first | (with_reducible assumption) | assumption)
                                                                    have q516 : (rd (rd_L1 l0 x11_3) x12_5) < (x8_2.length : Int) := of_decide_eq_true (by first | (with_reducible assumption) | assumption)
                                                                    obtain ⟨ad516, e516, hx516_0⟩ := Kd.at_int (Kd.R_reads' HO_8.out).2.2 (rd (rd_L1 l0 x11_3) x12_5) p516 q516
                                                                    cases e516
                                                                    replace p516 := eq_true p516
                                                                    replace q516 := eq_true q516
                                                                    have p517 : 0 ≤ (x11_3 : Int) := of_decide_eq_true (by first | (with_reducible assumption) | assumption)
                                                                    have q517 : x11_3 < (x8_2.length : Int) := of_decide_eq_true (by first | (with_reducible assumption) | assumption)
                                                                    obtain ⟨ad517, e517, hx517_0⟩ := Kd.at_int (Kd.R_reads' HO_8.out).2.2 x11_3 p517 q517
                                                                    obtain rfl : ad516 = ad517 := (by injection e517)
                                                                    replace p517 := eq_true p517
                                                                    replace q517 := eq_true q517
                                                                    go_wp2
                                                                    repeat (go_quiet (fail); try go_wp2)
                                                                    go_roundg k7
                                                                    case measure => have := HJ9.out; have := HK2.out; have := HK3.out; have := HJ55.out; have := HK5.out; have := HJ59.out; have := HK7.out; omega
                                                                    case rel => exact ⟨(wrap64 (x12_5 + 1)), (by first | rfl | (simp; done) | (simp [*]; done)), H', ⟨by have := HJ9.out; have := HK2.out; have := HK3.out; have := HJ55.out; have := HK5.out; have := HJ59.out; have := HK7.out; omega⟩, ⟨by (with_reducible repeat (first | apply Kd.R_alloc | apply Kd.R_drewN | apply Kd.R_drew)); exact HO_5.out⟩, ⟨by (with_reducible repeat (first | apply Kd.R_alloc | apply Kd.R_drewN | apply Kd.R_drew)); exact HO_6.out⟩, ⟨by (with_reducible repeat (first | apply Kd.R_alloc | apply Kd.R_drewN | apply Kd.R_drew)); exact HO_7.out⟩, ⟨by (with_reducible repeat (first | apply Kd.R_alloc | apply Kd.R_drewN | apply Kd.R_drew)); exact HO_8.out⟩, ⟨by repeat (first | (with_reducible first | exact HB.out | apply below_alloc | apply pw_below_drewN | apply below_drew1) | exact HB.out)⟩⟩
                                                                · rw [if_neg c81] at H
                                                                  exact absurd H (by simp)
                                                              · rw [if_neg c80] at H
                                                                exact absurd H (by simp)
                                                            · rw [if_neg c79] at H
                                                              exact absurd H (by simp)
                                                          · rw [if_neg c78] at H
                                                            exact absurd H (by simp)
                                                        · rw [if_neg c77] at H
                                                          exact absurd H (by simp)
                                                      · rw [if_neg c76] at H
                                                        exact absurd H (by simp)
                                                    · rw [if_neg c75] at H
                                                      exact absurd H (by simp)
                                            · replace c65 := Bool.eq_false_iff.mpr c65
                                              subst c65
                                              have H1 : (swagelaw06_GraphOnward.l1 kj59 l0 t478 t480 t490 t493 x8_2 x10_55 (wrap64 (x11_3 + 1))) = some r := by rw [if_neg (show ¬ (false = true) by decide)] at H; exact H
                                              clear H
                                              have H := H1
                                              clear H1
                                              have H' := Aside0.mk H
                                              clear H
                                              go_wp2
                                              repeat (go_quiet (fail); try go_wp2)
                                              go_roundg kj59
                                              case measure => have := HJ9.out; have := HK2.out; have := HK3.out; have := HJ55.out; have := HK5.out; have := HJ59.out; omega
                                              case rel => exact ⟨(x10_55), (wrap64 (x11_3 + 1)), (by first | rfl | (simp; done) | (simp [*]; done)), (by first | rfl | (simp; done) | (simp [*]; done)), H', ⟨by have := HJ9.out; have := HK2.out; have := HK3.out; have := HJ55.out; have := HK5.out; have := HJ59.out; omega⟩, ⟨by (with_reducible repeat (first | apply Kd.R_alloc | apply Kd.R_drewN | apply Kd.R_drew)); exact HO_5.out⟩, ⟨by (with_reducible repeat (first | apply Kd.R_alloc | apply Kd.R_drewN | apply Kd.R_drew)); exact HO_6.out⟩, ⟨by (with_reducible repeat (first | apply Kd.R_alloc | apply Kd.R_drewN | apply Kd.R_drew)); exact HO_7.out⟩, ⟨by (with_reducible repeat (first | apply Kd.R_alloc | apply Kd.R_drewN | apply Kd.R_drew)); exact HO_8.out⟩, ⟨by repeat (first | (with_reducible first | exact HB.out | apply below_alloc | apply pw_below_drewN | apply below_drew1) | exact HB.out)⟩⟩
                              · rw [if_neg c55] at H
                                exact absurd H (by simp)
                            · rw [if_neg c54] at H
                              exact absurd H (by simp)
                          · rw [if_neg c53] at H
                            have c53b0 : decide (x11_3 < (l0.length : Int)) = false := decide_eq_false c53
                            clear c53
                            by_cases c87 : t478 = true
                            · subst c87
                              have H1 : (some (x10_3 == (t480.length : Int))) = some r := by rw [if_pos rfl] at H; exact H
                              clear H
                              have H := H1
                              clear H1
                              obtain rfl := Option.some.inj H
                              go_wp2
                              repeat (go_quiet (fail); try go_wp2)
                              go_ret
                              exact ⟨by first | rfl | (simp [errW_none, errW_some] <;> rfl) | (simp [*, errW_none, errW_some] <;> rfl), by repeat (first | (with_reducible first | exact HB.out | apply below_alloc | apply pw_below_drewN | apply below_drew1) | exact HB.out)⟩
                            · replace c87 := Bool.eq_false_iff.mpr c87
                              subst c87
                              have H1 : (some false) = some r := by rw [if_neg (show ¬ (false = true) by decide)] at H; exact H
                              clear H
                              have H := H1
                              clear H1
                              obtain rfl := Option.some.inj H
                              go_wp2
                              repeat (go_quiet (fail); try go_wp2)
                              go_ret
                              exact ⟨by first | rfl | (simp [errW_none, errW_some] <;> rfl) | (simp [*, errW_none, errW_some] <;> rfl), by repeat (first | (with_reducible first | exact HB.out | apply below_alloc | apply pw_below_drewN | apply below_drew1) | exact HB.out)⟩
              · rw [if_neg c26] at H
                exact absurd H (by simp)
            · rw [if_neg c25] at H
              exact absurd H (by simp)
    · replace c7 := Bool.eq_false_iff.mpr c7
      subst c7
      have H1 : (if t478 = true then (if (t480.length : Int) = 0 then ((graph_Back.f k l0).bind fun t484 => (if (t484.length : Int) = 0 then ((graph_Loops.f l0).bind fun t487 => (some ((t487.length : Int) == 0))) else (some false))) else (some false)) else (some false)) = some r := by rw [if_neg (show ¬ (false = true) by decide)] at H; exact H
      clear H
      have H := H1
      clear H1
      by_cases c88 : t478 = true
      · subst c88
        have H1 : (if (t480.length : Int) = 0 then ((graph_Back.f k l0).bind fun t484 => (if (t484.length : Int) = 0 then ((graph_Loops.f l0).bind fun t487 => (some ((t487.length : Int) == 0))) else (some false))) else (some false)) = some r := by rw [if_pos rfl] at H; exact H
        clear H
        have H := H1
        clear H1
        by_cases c89 : (t480.length : Int) = 0
        · rw [if_pos c89] at H
          have c89b0 : ((t480.length : Int) == 0) = true := beq_iff_eq.mpr c89
          have c89b1 : ((t480.length : Int) != 0) = false := bne_eq_false_iff_eq.mpr c89
          clear c89
          replace H := Option.bind_eq_some_iff.mp H
          obtain ⟨t484, A900, H⟩ := H
          replace H : (if (t484.length : Int) = 0 then ((graph_Loops.f l0).bind fun t487 => (some ((t487.length : Int) == 0))) else (some false)) = some r := H
          have A90 := Aside0.mk A900
          clear A900
          by_cases c91 : (t484.length : Int) = 0
          · rw [if_pos c91] at H
            have c91b0 : ((t484.length : Int) == 0) = true := beq_iff_eq.mpr c91
            have c91b1 : ((t484.length : Int) != 0) = false := bne_eq_false_iff_eq.mpr c91
            clear c91
            replace H := Option.bind_eq_some_iff.mp H
            obtain ⟨t487, A920, H⟩ := H
            replace H : (some ((t487.length : Int) == 0)) = some r := H
            have A92 := Aside0.mk A920
            clear A920
            obtain rfl := Option.some.inj H
            go_enter Try.func5, Try.ntmps5
            go_wp2_with (first | (go_at_call 13; (with_reducible refine (swagelaw06_small.calls  true _ A2.out).mono ?_); rintro e w93 ⟨rfl, hb⟩; have n0_ := Aside0.mk (below_step (by repeat (first | (with_reducible first | exact HB.out | apply below_alloc | apply pw_below_drewN | apply below_drew1) | exact HB.out)) hb); clear HB; have HB := n0_; clear n0_; (try clear hb); (try clear hb2); (try clear hk); (try clear hi)) | (go_at_call 14; (with_reducible refine (swagelaw06_Few.calls k _ _ l0 true _ ?side1 ?side2 A3.out).mono ?_); (case side1 => repeat (first | exact (Kd.C_below HR0.out HB.out) | (with_reducible refine Kd.C_alloc ?_ _) | (with_reducible refine Kd.C_drewN ?_ _) | (with_reducible refine Kd.C_drew ?_))); (case side2 => exact HC0.out); rintro e w' ⟨rfl, ⟨nd, rfl⟩⟩; (try first | exact ⟨rfl, _, World.drewN_drewN _ _ _⟩ | exact ⟨rfl, _, Eq.trans (World.drewN_drewN _ _ _) (congrArg (World.drewN _) (Nat.add_assoc _ _ _))⟩)) | (go_at_call 28; (with_reducible refine (graph_Order.calls _ _ l0 t480 _ ?side1 ?side2 A5.out).mono ?_); (case side1 => repeat (first | exact (Kd.C_below HR0.out (by repeat (first | (with_reducible first | exact HB.out | apply below_alloc | apply pw_below_drewN | apply below_drew1) | exact HB.out))) | (with_reducible refine Kd.C_alloc ?_ _) | (with_reducible refine Kd.C_drewN ?_ _) | (with_reducible refine Kd.C_drew ?_))); (case side2 => exact HC0.out); rintro e w94 ⟨v481, rfl, ho0, hb⟩; have n0_ := Aside0.mk (Kd.R_lower ho0 (below_size (by repeat (first | (with_reducible first | exact HB.out | apply below_alloc | apply pw_below_drewN | apply below_drew1) | exact HB.out)))); have n1_ := Aside0.mk (below_step (by repeat (first | (with_reducible first | exact HB.out | apply below_alloc | apply pw_below_drewN | apply below_drew1) | exact HB.out)) hb); clear HB; have HO482 := n0_; have HB := n1_; clear n0_ n1_; (try clear hb); (try clear hb2); (try clear hk); (try clear hi); (try clear ho0)) | (go_at_call 19; (with_reducible refine (graph_Right.calls _ _ l0 false _ ?side1 ?side2 A6.out).mono ?_); (case side1 => repeat (first | exact (Kd.C_below HR0.out HB.out) | (with_reducible refine Kd.C_alloc ?_ _) | (with_reducible refine Kd.C_drewN ?_ _) | (with_reducible refine Kd.C_drew ?_))); (case side2 => exact HC0.out); rintro e w95 ⟨rfl, hb⟩; have n0_ := Aside0.mk (Kd.R_below (by (with_reducible repeat (first | apply Kd.R_alloc | apply Kd.R_drewN | apply Kd.R_drew)); exact HO482.out) hb); have n1_ := Aside0.mk (below_step (by repeat (first | (with_reducible first | exact HB.out | apply below_alloc | apply pw_below_drewN | apply below_drew1) | exact HB.out)) hb); clear HO482; clear HB; have HO482 := n0_; have HB := n1_; clear n0_ n1_; (try clear hb); (try clear hb2); (try clear hk); (try clear hi); obtain ⟨Ao96, co96, eo96⟩ := Kd.R_slice HO482.out; subst eo96) | (go_at_call 30; (with_reducible refine (graph_Back.calls k _ _ l0 t484 _ ?side1 ?side2 A90.out).mono ?_); (case side1 => repeat (first | exact (Kd.C_below HR0.out HB.out) | (with_reducible refine Kd.C_alloc ?_ _) | (with_reducible refine Kd.C_drewN ?_ _) | (with_reducible refine Kd.C_drew ?_))); (case side2 => exact HC0.out); rintro e w97 ⟨v485, rfl, ho0, hb⟩; have n0_ := Aside0.mk (Kd.R_below (by (with_reducible repeat (first | apply Kd.R_alloc | apply Kd.R_drewN | apply Kd.R_drew)); exact HO482.out) hb); have n1_ := Aside0.mk (Kd.R_lower ho0 (below_size (by repeat (first | (with_reducible first | exact HB.out | apply below_alloc | apply pw_below_drewN | apply below_drew1) | exact HB.out)))); have n2_ := Aside0.mk (below_step (by repeat (first | (with_reducible first | exact HB.out | apply below_alloc | apply pw_below_drewN | apply below_drew1) | exact HB.out)) hb); clear HO482; clear HB; have HO482 := n0_; have HO486 := n1_; have HB := n2_; clear n0_ n1_ n2_; (try clear hb); (try clear hb2); (try clear hk); (try clear hi); (try clear ho0); obtain ⟨Ao98, co98, eo98⟩ := Kd.R_slice HO486.out; subst eo98) | (go_at_call 32; (with_reducible refine (graph_Loops.calls _ _ l0 t487 _ ?side1 ?side2 A92.out).mono ?_); (case side1 => repeat (first | exact (Kd.C_below HR0.out HB.out) | (with_reducible refine Kd.C_alloc ?_ _) | (with_reducible refine Kd.C_drewN ?_ _) | (with_reducible refine Kd.C_drew ?_))); (case side2 => exact HC0.out); rintro e w99 ⟨v488, rfl, ho0, hb⟩; have n0_ := Aside0.mk (Kd.R_below (by (with_reducible repeat (first | apply Kd.R_alloc | apply Kd.R_drewN | apply Kd.R_drew)); exact HO482.out) hb); have n1_ := Aside0.mk (Kd.R_below (by (with_reducible repeat (first | apply Kd.R_alloc | apply Kd.R_drewN | apply Kd.R_drew)); exact HO486.out) hb); have n2_ := Aside0.mk (Kd.S_lower (Kd.S_new' ho0 (Kd.R_lt (by (with_reducible repeat (first | apply Kd.R_alloc | apply Kd.R_drewN | apply Kd.R_drew)); exact HO482.out))) (below_size (by repeat (first | (with_reducible first | exact HB.out | apply below_alloc | apply pw_below_drewN | apply below_drew1) | exact HB.out)))); have n3_ := Aside0.mk (below_step (by repeat (first | (with_reducible first | exact HB.out | apply below_alloc | apply pw_below_drewN | apply below_drew1) | exact HB.out)) hb); clear HO482; clear HO486; clear HB; have HO482 := n0_; have HO486 := n1_; have HO489 := n2_; have HB := n3_; clear n0_ n1_ n2_ n3_; (try clear hb); (try clear hb2); (try clear hk); (try clear hi); (try clear ho0); obtain ⟨Ao100, co100, eo100⟩ := Kd.S_slice HO489.out; subst eo100))
            repeat (go_quiet (first | (go_at_call 13; (with_reducible refine (swagelaw06_small.calls  true _ A2.out).mono ?_); rintro e w93 ⟨rfl, hb⟩; have n0_ := Aside0.mk (below_step (by repeat (first | (with_reducible first | exact HB.out | apply below_alloc | apply pw_below_drewN | apply below_drew1) | exact HB.out)) hb); clear HB; have HB := n0_; clear n0_; (try clear hb); (try clear hb2); (try clear hk); (try clear hi)) | (go_at_call 14; (with_reducible refine (swagelaw06_Few.calls k _ _ l0 true _ ?side1 ?side2 A3.out).mono ?_); (case side1 => repeat (first | exact (Kd.C_below HR0.out HB.out) | (with_reducible refine Kd.C_alloc ?_ _) | (with_reducible refine Kd.C_drewN ?_ _) | (with_reducible refine Kd.C_drew ?_))); (case side2 => exact HC0.out); rintro e w' ⟨rfl, ⟨nd, rfl⟩⟩; (try first | exact ⟨rfl, _, World.drewN_drewN _ _ _⟩ | exact ⟨rfl, _, Eq.trans (World.drewN_drewN _ _ _) (congrArg (World.drewN _) (Nat.add_assoc _ _ _))⟩)) | (go_at_call 28; (with_reducible refine (graph_Order.calls _ _ l0 t480 _ ?side1 ?side2 A5.out).mono ?_); (case side1 => repeat (first | exact (Kd.C_below HR0.out (by repeat (first | (with_reducible first | exact HB.out | apply below_alloc | apply pw_below_drewN | apply below_drew1) | exact HB.out))) | (with_reducible refine Kd.C_alloc ?_ _) | (with_reducible refine Kd.C_drewN ?_ _) | (with_reducible refine Kd.C_drew ?_))); (case side2 => exact HC0.out); rintro e w94 ⟨v481, rfl, ho0, hb⟩; have n0_ := Aside0.mk (Kd.R_lower ho0 (below_size (by repeat (first | (with_reducible first | exact HB.out | apply below_alloc | apply pw_below_drewN | apply below_drew1) | exact HB.out)))); have n1_ := Aside0.mk (below_step (by repeat (first | (with_reducible first | exact HB.out | apply below_alloc | apply pw_below_drewN | apply below_drew1) | exact HB.out)) hb); clear HB; have HO482 := n0_; have HB := n1_; clear n0_ n1_; (try clear hb); (try clear hb2); (try clear hk); (try clear hi); (try clear ho0)) | (go_at_call 19; (with_reducible refine (graph_Right.calls _ _ l0 false _ ?side1 ?side2 A6.out).mono ?_); (case side1 => repeat (first | exact (Kd.C_below HR0.out HB.out) | (with_reducible refine Kd.C_alloc ?_ _) | (with_reducible refine Kd.C_drewN ?_ _) | (with_reducible refine Kd.C_drew ?_))); (case side2 => exact HC0.out); rintro e w95 ⟨rfl, hb⟩; have n0_ := Aside0.mk (Kd.R_below (by (with_reducible repeat (first | apply Kd.R_alloc | apply Kd.R_drewN | apply Kd.R_drew)); exact HO482.out) hb); have n1_ := Aside0.mk (below_step (by repeat (first | (with_reducible first | exact HB.out | apply below_alloc | apply pw_below_drewN | apply below_drew1) | exact HB.out)) hb); clear HO482; clear HB; have HO482 := n0_; have HB := n1_; clear n0_ n1_; (try clear hb); (try clear hb2); (try clear hk); (try clear hi); obtain ⟨Ao96, co96, eo96⟩ := Kd.R_slice HO482.out; subst eo96) | (go_at_call 30; (with_reducible refine (graph_Back.calls k _ _ l0 t484 _ ?side1 ?side2 A90.out).mono ?_); (case side1 => repeat (first | exact (Kd.C_below HR0.out HB.out) | (with_reducible refine Kd.C_alloc ?_ _) | (with_reducible refine Kd.C_drewN ?_ _) | (with_reducible refine Kd.C_drew ?_))); (case side2 => exact HC0.out); rintro e w97 ⟨v485, rfl, ho0, hb⟩; have n0_ := Aside0.mk (Kd.R_below (by (with_reducible repeat (first | apply Kd.R_alloc | apply Kd.R_drewN | apply Kd.R_drew)); exact HO482.out) hb); have n1_ := Aside0.mk (Kd.R_lower ho0 (below_size (by repeat (first | (with_reducible first | exact HB.out | apply below_alloc | apply pw_below_drewN | apply below_drew1) | exact HB.out)))); have n2_ := Aside0.mk (below_step (by repeat (first | (with_reducible first | exact HB.out | apply below_alloc | apply pw_below_drewN | apply below_drew1) | exact HB.out)) hb); clear HO482; clear HB; have HO482 := n0_; have HO486 := n1_; have HB := n2_; clear n0_ n1_ n2_; (try clear hb); (try clear hb2); (try clear hk); (try clear hi); (try clear ho0); obtain ⟨Ao98, co98, eo98⟩ := Kd.R_slice HO486.out; subst eo98) | (go_at_call 32; (with_reducible refine (graph_Loops.calls _ _ l0 t487 _ ?side1 ?side2 A92.out).mono ?_); (case side1 => repeat (first | exact (Kd.C_below HR0.out HB.out) | (with_reducible refine Kd.C_alloc ?_ _) | (with_reducible refine Kd.C_drewN ?_ _) | (with_reducible refine Kd.C_drew ?_))); (case side2 => exact HC0.out); rintro e w99 ⟨v488, rfl, ho0, hb⟩; have n0_ := Aside0.mk (Kd.R_below (by (with_reducible repeat (first | apply Kd.R_alloc | apply Kd.R_drewN | apply Kd.R_drew)); exact HO482.out) hb); have n1_ := Aside0.mk (Kd.R_below (by (with_reducible repeat (first | apply Kd.R_alloc | apply Kd.R_drewN | apply Kd.R_drew)); exact HO486.out) hb); have n2_ := Aside0.mk (Kd.S_lower (Kd.S_new' ho0 (Kd.R_lt (by (with_reducible repeat (first | apply Kd.R_alloc | apply Kd.R_drewN | apply Kd.R_drew)); exact HO482.out))) (below_size (by repeat (first | (with_reducible first | exact HB.out | apply below_alloc | apply pw_below_drewN | apply below_drew1) | exact HB.out)))); have n3_ := Aside0.mk (below_step (by repeat (first | (with_reducible first | exact HB.out | apply below_alloc | apply pw_below_drewN | apply below_drew1) | exact HB.out)) hb); clear HO482; clear HO486; clear HB; have HO482 := n0_; have HO486 := n1_; have HO489 := n2_; have HB := n3_; clear n0_ n1_ n2_ n3_; (try clear hb); (try clear hb2); (try clear hk); (try clear hi); (try clear ho0); obtain ⟨Ao100, co100, eo100⟩ := Kd.S_slice HO489.out; subst eo100)); try go_wp2_with (first | (go_at_call 13; (with_reducible refine (swagelaw06_small.calls  true _ A2.out).mono ?_); rintro e w93 ⟨rfl, hb⟩; have n0_ := Aside0.mk (below_step (by repeat (first | (with_reducible first | exact HB.out | apply below_alloc | apply pw_below_drewN | apply below_drew1) | exact HB.out)) hb); clear HB; have HB := n0_; clear n0_; (try clear hb); (try clear hb2); (try clear hk); (try clear hi)) | (go_at_call 14; (with_reducible refine (swagelaw06_Few.calls k _ _ l0 true _ ?side1 ?side2 A3.out).mono ?_); (case side1 => repeat (first | exact (Kd.C_below HR0.out HB.out) | (with_reducible refine Kd.C_alloc ?_ _) | (with_reducible refine Kd.C_drewN ?_ _) | (with_reducible refine Kd.C_drew ?_))); (case side2 => exact HC0.out); rintro e w' ⟨rfl, ⟨nd, rfl⟩⟩; (try first | exact ⟨rfl, _, World.drewN_drewN _ _ _⟩ | exact ⟨rfl, _, Eq.trans (World.drewN_drewN _ _ _) (congrArg (World.drewN _) (Nat.add_assoc _ _ _))⟩)) | (go_at_call 28; (with_reducible refine (graph_Order.calls _ _ l0 t480 _ ?side1 ?side2 A5.out).mono ?_); (case side1 => repeat (first | exact (Kd.C_below HR0.out (by repeat (first | (with_reducible first | exact HB.out | apply below_alloc | apply pw_below_drewN | apply below_drew1) | exact HB.out))) | (with_reducible refine Kd.C_alloc ?_ _) | (with_reducible refine Kd.C_drewN ?_ _) | (with_reducible refine Kd.C_drew ?_))); (case side2 => exact HC0.out); rintro e w94 ⟨v481, rfl, ho0, hb⟩; have n0_ := Aside0.mk (Kd.R_lower ho0 (below_size (by repeat (first | (with_reducible first | exact HB.out | apply below_alloc | apply pw_below_drewN | apply below_drew1) | exact HB.out)))); have n1_ := Aside0.mk (below_step (by repeat (first | (with_reducible first | exact HB.out | apply below_alloc | apply pw_below_drewN | apply below_drew1) | exact HB.out)) hb); clear HB; have HO482 := n0_; have HB := n1_; clear n0_ n1_; (try clear hb); (try clear hb2); (try clear hk); (try clear hi); (try clear ho0)) | (go_at_call 19; (with_reducible refine (graph_Right.calls _ _ l0 false _ ?side1 ?side2 A6.out).mono ?_); (case side1 => repeat (first | exact (Kd.C_below HR0.out HB.out) | (with_reducible refine Kd.C_alloc ?_ _) | (with_reducible refine Kd.C_drewN ?_ _) | (with_reducible refine Kd.C_drew ?_))); (case side2 => exact HC0.out); rintro e w95 ⟨rfl, hb⟩; have n0_ := Aside0.mk (Kd.R_below (by (with_reducible repeat (first | apply Kd.R_alloc | apply Kd.R_drewN | apply Kd.R_drew)); exact HO482.out) hb); have n1_ := Aside0.mk (below_step (by repeat (first | (with_reducible first | exact HB.out | apply below_alloc | apply pw_below_drewN | apply below_drew1) | exact HB.out)) hb); clear HO482; clear HB; have HO482 := n0_; have HB := n1_; clear n0_ n1_; (try clear hb); (try clear hb2); (try clear hk); (try clear hi); obtain ⟨Ao96, co96, eo96⟩ := Kd.R_slice HO482.out; subst eo96) | (go_at_call 30; (with_reducible refine (graph_Back.calls k _ _ l0 t484 _ ?side1 ?side2 A90.out).mono ?_); (case side1 => repeat (first | exact (Kd.C_below HR0.out HB.out) | (with_reducible refine Kd.C_alloc ?_ _) | (with_reducible refine Kd.C_drewN ?_ _) | (with_reducible refine Kd.C_drew ?_))); (case side2 => exact HC0.out); rintro e w97 ⟨v485, rfl, ho0, hb⟩; have n0_ := Aside0.mk (Kd.R_below (by (with_reducible repeat (first | apply Kd.R_alloc | apply Kd.R_drewN | apply Kd.R_drew)); exact HO482.out) hb); have n1_ := Aside0.mk (Kd.R_lower ho0 (below_size (by repeat (first | (with_reducible first | exact HB.out | apply below_alloc | apply pw_below_drewN | apply below_drew1) | exact HB.out)))); have n2_ := Aside0.mk (below_step (by repeat (first | (with_reducible first | exact HB.out | apply below_alloc | apply pw_below_drewN | apply below_drew1) | exact HB.out)) hb); clear HO482; clear HB; have HO482 := n0_; have HO486 := n1_; have HB := n2_; clear n0_ n1_ n2_; (try clear hb); (try clear hb2); (try clear hk); (try clear hi); (try clear ho0); obtain ⟨Ao98, co98, eo98⟩ := Kd.R_slice HO486.out; subst eo98) | (go_at_call 32; (with_reducible refine (graph_Loops.calls _ _ l0 t487 _ ?side1 ?side2 A92.out).mono ?_); (case side1 => repeat (first | exact (Kd.C_below HR0.out HB.out) | (with_reducible refine Kd.C_alloc ?_ _) | (with_reducible refine Kd.C_drewN ?_ _) | (with_reducible refine Kd.C_drew ?_))); (case side2 => exact HC0.out); rintro e w99 ⟨v488, rfl, ho0, hb⟩; have n0_ := Aside0.mk (Kd.R_below (by (with_reducible repeat (first | apply Kd.R_alloc | apply Kd.R_drewN | apply Kd.R_drew)); exact HO482.out) hb); have n1_ := Aside0.mk (Kd.R_below (by (with_reducible repeat (first | apply Kd.R_alloc | apply Kd.R_drewN | apply Kd.R_drew)); exact HO486.out) hb); have n2_ := Aside0.mk (Kd.S_lower (Kd.S_new' ho0 (Kd.R_lt (by (with_reducible repeat (first | apply Kd.R_alloc | apply Kd.R_drewN | apply Kd.R_drew)); exact HO482.out))) (below_size (by repeat (first | (with_reducible first | exact HB.out | apply below_alloc | apply pw_below_drewN | apply below_drew1) | exact HB.out)))); have n3_ := Aside0.mk (below_step (by repeat (first | (with_reducible first | exact HB.out | apply below_alloc | apply pw_below_drewN | apply below_drew1) | exact HB.out)) hb); clear HO482; clear HO486; clear HB; have HO482 := n0_; have HO486 := n1_; have HO489 := n2_; have HB := n3_; clear n0_ n1_ n2_ n3_; (try clear hb); (try clear hb2); (try clear hk); (try clear hi); (try clear ho0); obtain ⟨Ao100, co100, eo100⟩ := Kd.S_slice HO489.out; subst eo100)))
            go_ret
            exact ⟨by first | rfl | (simp [errW_none, errW_some] <;> rfl) | (simp [*, errW_none, errW_some] <;> rfl), by repeat (first | (with_reducible first | exact HB.out | apply below_alloc | apply pw_below_drewN | apply below_drew1) | exact HB.out)⟩
          · rw [if_neg c91] at H
            have c91b0 : ((t484.length : Int) == 0) = false := beq_eq_false_iff_ne.mpr c91
            have c91b1 : ((t484.length : Int) != 0) = true := bne_iff_ne.mpr c91
            have c91b2 : ¬ (t484 = []) := fun h_ => c91 (by rw [h_]; rfl)
            obtain rfl := Option.some.inj H
            go_enter Try.func5, Try.ntmps5
            go_wp2_with (first | (go_at_call 13; (with_reducible refine (swagelaw06_small.calls  true _ A2.out).mono ?_); rintro e w101 ⟨rfl, hb⟩; have n0_ := Aside0.mk (below_step (by repeat (first | (with_reducible first | exact HB.out | apply below_alloc | apply pw_below_drewN | apply below_drew1) | exact HB.out)) hb); clear HB; have HB := n0_; clear n0_; (try clear hb); (try clear hb2); (try clear hk); (try clear hi)) | (go_at_call 14; (with_reducible refine (swagelaw06_Few.calls k _ _ l0 true _ ?side1 ?side2 A3.out).mono ?_); (case side1 => repeat (first | exact (Kd.C_below HR0.out HB.out) | (with_reducible refine Kd.C_alloc ?_ _) | (with_reducible refine Kd.C_drewN ?_ _) | (with_reducible refine Kd.C_drew ?_))); (case side2 => exact HC0.out); rintro e w' ⟨rfl, ⟨nd, rfl⟩⟩; (try first | exact ⟨rfl, _, World.drewN_drewN _ _ _⟩ | exact ⟨rfl, _, Eq.trans (World.drewN_drewN _ _ _) (congrArg (World.drewN _) (Nat.add_assoc _ _ _))⟩)) | (go_at_call 28; (with_reducible refine (graph_Order.calls _ _ l0 t480 _ ?side1 ?side2 A5.out).mono ?_); (case side1 => repeat (first | exact (Kd.C_below HR0.out (by repeat (first | (with_reducible first | exact HB.out | apply below_alloc | apply pw_below_drewN | apply below_drew1) | exact HB.out))) | (with_reducible refine Kd.C_alloc ?_ _) | (with_reducible refine Kd.C_drewN ?_ _) | (with_reducible refine Kd.C_drew ?_))); (case side2 => exact HC0.out); rintro e w102 ⟨v481, rfl, ho0, hb⟩; have n0_ := Aside0.mk (Kd.R_lower ho0 (below_size (by repeat (first | (with_reducible first | exact HB.out | apply below_alloc | apply pw_below_drewN | apply below_drew1) | exact HB.out)))); have n1_ := Aside0.mk (below_step (by repeat (first | (with_reducible first | exact HB.out | apply below_alloc | apply pw_below_drewN | apply below_drew1) | exact HB.out)) hb); clear HB; have HO482 := n0_; have HB := n1_; clear n0_ n1_; (try clear hb); (try clear hb2); (try clear hk); (try clear hi); (try clear ho0)) | (go_at_call 19; (with_reducible refine (graph_Right.calls _ _ l0 false _ ?side1 ?side2 A6.out).mono ?_); (case side1 => repeat (first | exact (Kd.C_below HR0.out HB.out) | (with_reducible refine Kd.C_alloc ?_ _) | (with_reducible refine Kd.C_drewN ?_ _) | (with_reducible refine Kd.C_drew ?_))); (case side2 => exact HC0.out); rintro e w103 ⟨rfl, hb⟩; have n0_ := Aside0.mk (Kd.R_below (by (with_reducible repeat (first | apply Kd.R_alloc | apply Kd.R_drewN | apply Kd.R_drew)); exact HO482.out) hb); have n1_ := Aside0.mk (below_step (by repeat (first | (with_reducible first | exact HB.out | apply below_alloc | apply pw_below_drewN | apply below_drew1) | exact HB.out)) hb); clear HO482; clear HB; have HO482 := n0_; have HB := n1_; clear n0_ n1_; (try clear hb); (try clear hb2); (try clear hk); (try clear hi); obtain ⟨Ao104, co104, eo104⟩ := Kd.R_slice HO482.out; subst eo104) | (go_at_call 30; (with_reducible refine (graph_Back.calls k _ _ l0 t484 _ ?side1 ?side2 A90.out).mono ?_); (case side1 => repeat (first | exact (Kd.C_below HR0.out HB.out) | (with_reducible refine Kd.C_alloc ?_ _) | (with_reducible refine Kd.C_drewN ?_ _) | (with_reducible refine Kd.C_drew ?_))); (case side2 => exact HC0.out); rintro e w105 ⟨v485, rfl, ho0, hb⟩; have n0_ := Aside0.mk (Kd.R_below (by (with_reducible repeat (first | apply Kd.R_alloc | apply Kd.R_drewN | apply Kd.R_drew)); exact HO482.out) hb); have n1_ := Aside0.mk (Kd.R_lower ho0 (below_size (by repeat (first | (with_reducible first | exact HB.out | apply below_alloc | apply pw_below_drewN | apply below_drew1) | exact HB.out)))); have n2_ := Aside0.mk (below_step (by repeat (first | (with_reducible first | exact HB.out | apply below_alloc | apply pw_below_drewN | apply below_drew1) | exact HB.out)) hb); clear HO482; clear HB; have HO482 := n0_; have HO486 := n1_; have HB := n2_; clear n0_ n1_ n2_; (try clear hb); (try clear hb2); (try clear hk); (try clear hi); (try clear ho0); obtain ⟨Ao106, co106, eo106⟩ := Kd.R_slice HO486.out; subst eo106))
            repeat (go_quiet (first | (go_at_call 13; (with_reducible refine (swagelaw06_small.calls  true _ A2.out).mono ?_); rintro e w101 ⟨rfl, hb⟩; have n0_ := Aside0.mk (below_step (by repeat (first | (with_reducible first | exact HB.out | apply below_alloc | apply pw_below_drewN | apply below_drew1) | exact HB.out)) hb); clear HB; have HB := n0_; clear n0_; (try clear hb); (try clear hb2); (try clear hk); (try clear hi)) | (go_at_call 14; (with_reducible refine (swagelaw06_Few.calls k _ _ l0 true _ ?side1 ?side2 A3.out).mono ?_); (case side1 => repeat (first | exact (Kd.C_below HR0.out HB.out) | (with_reducible refine Kd.C_alloc ?_ _) | (with_reducible refine Kd.C_drewN ?_ _) | (with_reducible refine Kd.C_drew ?_))); (case side2 => exact HC0.out); rintro e w' ⟨rfl, ⟨nd, rfl⟩⟩; (try first | exact ⟨rfl, _, World.drewN_drewN _ _ _⟩ | exact ⟨rfl, _, Eq.trans (World.drewN_drewN _ _ _) (congrArg (World.drewN _) (Nat.add_assoc _ _ _))⟩)) | (go_at_call 28; (with_reducible refine (graph_Order.calls _ _ l0 t480 _ ?side1 ?side2 A5.out).mono ?_); (case side1 => repeat (first | exact (Kd.C_below HR0.out (by repeat (first | (with_reducible first | exact HB.out | apply below_alloc | apply pw_below_drewN | apply below_drew1) | exact HB.out))) | (with_reducible refine Kd.C_alloc ?_ _) | (with_reducible refine Kd.C_drewN ?_ _) | (with_reducible refine Kd.C_drew ?_))); (case side2 => exact HC0.out); rintro e w102 ⟨v481, rfl, ho0, hb⟩; have n0_ := Aside0.mk (Kd.R_lower ho0 (below_size (by repeat (first | (with_reducible first | exact HB.out | apply below_alloc | apply pw_below_drewN | apply below_drew1) | exact HB.out)))); have n1_ := Aside0.mk (below_step (by repeat (first | (with_reducible first | exact HB.out | apply below_alloc | apply pw_below_drewN | apply below_drew1) | exact HB.out)) hb); clear HB; have HO482 := n0_; have HB := n1_; clear n0_ n1_; (try clear hb); (try clear hb2); (try clear hk); (try clear hi); (try clear ho0)) | (go_at_call 19; (with_reducible refine (graph_Right.calls _ _ l0 false _ ?side1 ?side2 A6.out).mono ?_); (case side1 => repeat (first | exact (Kd.C_below HR0.out HB.out) | (with_reducible refine Kd.C_alloc ?_ _) | (with_reducible refine Kd.C_drewN ?_ _) | (with_reducible refine Kd.C_drew ?_))); (case side2 => exact HC0.out); rintro e w103 ⟨rfl, hb⟩; have n0_ := Aside0.mk (Kd.R_below (by (with_reducible repeat (first | apply Kd.R_alloc | apply Kd.R_drewN | apply Kd.R_drew)); exact HO482.out) hb); have n1_ := Aside0.mk (below_step (by repeat (first | (with_reducible first | exact HB.out | apply below_alloc | apply pw_below_drewN | apply below_drew1) | exact HB.out)) hb); clear HO482; clear HB; have HO482 := n0_; have HB := n1_; clear n0_ n1_; (try clear hb); (try clear hb2); (try clear hk); (try clear hi); obtain ⟨Ao104, co104, eo104⟩ := Kd.R_slice HO482.out; subst eo104) | (go_at_call 30; (with_reducible refine (graph_Back.calls k _ _ l0 t484 _ ?side1 ?side2 A90.out).mono ?_); (case side1 => repeat (first | exact (Kd.C_below HR0.out HB.out) | (with_reducible refine Kd.C_alloc ?_ _) | (with_reducible refine Kd.C_drewN ?_ _) | (with_reducible refine Kd.C_drew ?_))); (case side2 => exact HC0.out); rintro e w105 ⟨v485, rfl, ho0, hb⟩; have n0_ := Aside0.mk (Kd.R_below (by (with_reducible repeat (first | apply Kd.R_alloc | apply Kd.R_drewN | apply Kd.R_drew)); exact HO482.out) hb); have n1_ := Aside0.mk (Kd.R_lower ho0 (below_size (by repeat (first | (with_reducible first | exact HB.out | apply below_alloc | apply pw_below_drewN | apply below_drew1) | exact HB.out)))); have n2_ := Aside0.mk (below_step (by repeat (first | (with_reducible first | exact HB.out | apply below_alloc | apply pw_below_drewN | apply below_drew1) | exact HB.out)) hb); clear HO482; clear HB; have HO482 := n0_; have HO486 := n1_; have HB := n2_; clear n0_ n1_ n2_; (try clear hb); (try clear hb2); (try clear hk); (try clear hi); (try clear ho0); obtain ⟨Ao106, co106, eo106⟩ := Kd.R_slice HO486.out; subst eo106)); try go_wp2_with (first | (go_at_call 13; (with_reducible refine (swagelaw06_small.calls  true _ A2.out).mono ?_); rintro e w101 ⟨rfl, hb⟩; have n0_ := Aside0.mk (below_step (by repeat (first | (with_reducible first | exact HB.out | apply below_alloc | apply pw_below_drewN | apply below_drew1) | exact HB.out)) hb); clear HB; have HB := n0_; clear n0_; (try clear hb); (try clear hb2); (try clear hk); (try clear hi)) | (go_at_call 14; (with_reducible refine (swagelaw06_Few.calls k _ _ l0 true _ ?side1 ?side2 A3.out).mono ?_); (case side1 => repeat (first | exact (Kd.C_below HR0.out HB.out) | (with_reducible refine Kd.C_alloc ?_ _) | (with_reducible refine Kd.C_drewN ?_ _) | (with_reducible refine Kd.C_drew ?_))); (case side2 => exact HC0.out); rintro e w' ⟨rfl, ⟨nd, rfl⟩⟩; (try first | exact ⟨rfl, _, World.drewN_drewN _ _ _⟩ | exact ⟨rfl, _, Eq.trans (World.drewN_drewN _ _ _) (congrArg (World.drewN _) (Nat.add_assoc _ _ _))⟩)) | (go_at_call 28; (with_reducible refine (graph_Order.calls _ _ l0 t480 _ ?side1 ?side2 A5.out).mono ?_); (case side1 => repeat (first | exact (Kd.C_below HR0.out (by repeat (first | (with_reducible first | exact HB.out | apply below_alloc | apply pw_below_drewN | apply below_drew1) | exact HB.out))) | (with_reducible refine Kd.C_alloc ?_ _) | (with_reducible refine Kd.C_drewN ?_ _) | (with_reducible refine Kd.C_drew ?_))); (case side2 => exact HC0.out); rintro e w102 ⟨v481, rfl, ho0, hb⟩; have n0_ := Aside0.mk (Kd.R_lower ho0 (below_size (by repeat (first | (with_reducible first | exact HB.out | apply below_alloc | apply pw_below_drewN | apply below_drew1) | exact HB.out)))); have n1_ := Aside0.mk (below_step (by repeat (first | (with_reducible first | exact HB.out | apply below_alloc | apply pw_below_drewN | apply below_drew1) | exact HB.out)) hb); clear HB; have HO482 := n0_; have HB := n1_; clear n0_ n1_; (try clear hb); (try clear hb2); (try clear hk); (try clear hi); (try clear ho0)) | (go_at_call 19; (with_reducible refine (graph_Right.calls _ _ l0 false _ ?side1 ?side2 A6.out).mono ?_); (case side1 => repeat (first | exact (Kd.C_below HR0.out HB.out) | (with_reducible refine Kd.C_alloc ?_ _) | (with_reducible refine Kd.C_drewN ?_ _) | (with_reducible refine Kd.C_drew ?_))); (case side2 => exact HC0.out); rintro e w103 ⟨rfl, hb⟩; have n0_ := Aside0.mk (Kd.R_below (by (with_reducible repeat (first | apply Kd.R_alloc | apply Kd.R_drewN | apply Kd.R_drew)); exact HO482.out) hb); have n1_ := Aside0.mk (below_step (by repeat (first | (with_reducible first | exact HB.out | apply below_alloc | apply pw_below_drewN | apply below_drew1) | exact HB.out)) hb); clear HO482; clear HB; have HO482 := n0_; have HB := n1_; clear n0_ n1_; (try clear hb); (try clear hb2); (try clear hk); (try clear hi); obtain ⟨Ao104, co104, eo104⟩ := Kd.R_slice HO482.out; subst eo104) | (go_at_call 30; (with_reducible refine (graph_Back.calls k _ _ l0 t484 _ ?side1 ?side2 A90.out).mono ?_); (case side1 => repeat (first | exact (Kd.C_below HR0.out HB.out) | (with_reducible refine Kd.C_alloc ?_ _) | (with_reducible refine Kd.C_drewN ?_ _) | (with_reducible refine Kd.C_drew ?_))); (case side2 => exact HC0.out); rintro e w105 ⟨v485, rfl, ho0, hb⟩; have n0_ := Aside0.mk (Kd.R_below (by (with_reducible repeat (first | apply Kd.R_alloc | apply Kd.R_drewN | apply Kd.R_drew)); exact HO482.out) hb); have n1_ := Aside0.mk (Kd.R_lower ho0 (below_size (by repeat (first | (with_reducible first | exact HB.out | apply below_alloc | apply pw_below_drewN | apply below_drew1) | exact HB.out)))); have n2_ := Aside0.mk (below_step (by repeat (first | (with_reducible first | exact HB.out | apply below_alloc | apply pw_below_drewN | apply below_drew1) | exact HB.out)) hb); clear HO482; clear HB; have HO482 := n0_; have HO486 := n1_; have HB := n2_; clear n0_ n1_ n2_; (try clear hb); (try clear hb2); (try clear hk); (try clear hi); (try clear ho0); obtain ⟨Ao106, co106, eo106⟩ := Kd.R_slice HO486.out; subst eo106)))
            go_ret
            exact ⟨by first | rfl | (simp [errW_none, errW_some] <;> rfl) | (simp [*, errW_none, errW_some] <;> rfl), by repeat (first | (with_reducible first | exact HB.out | apply below_alloc | apply pw_below_drewN | apply below_drew1) | exact HB.out)⟩
        · rw [if_neg c89] at H
          have c89b0 : ((t480.length : Int) == 0) = false := beq_eq_false_iff_ne.mpr c89
          have c89b1 : ((t480.length : Int) != 0) = true := bne_iff_ne.mpr c89
          have c89b2 : ¬ (t480 = []) := fun h_ => c89 (by rw [h_]; rfl)
          obtain rfl := Option.some.inj H
          go_enter Try.func5, Try.ntmps5
          go_wp2_with (first | (go_at_call 13; (with_reducible refine (swagelaw06_small.calls  true _ A2.out).mono ?_); rintro e w107 ⟨rfl, hb⟩; have n0_ := Aside0.mk (below_step (by repeat (first | (with_reducible first | exact HB.out | apply below_alloc | apply pw_below_drewN | apply below_drew1) | exact HB.out)) hb); clear HB; have HB := n0_; clear n0_; (try clear hb); (try clear hb2); (try clear hk); (try clear hi)) | (go_at_call 14; (with_reducible refine (swagelaw06_Few.calls k _ _ l0 true _ ?side1 ?side2 A3.out).mono ?_); (case side1 => repeat (first | exact (Kd.C_below HR0.out HB.out) | (with_reducible refine Kd.C_alloc ?_ _) | (with_reducible refine Kd.C_drewN ?_ _) | (with_reducible refine Kd.C_drew ?_))); (case side2 => exact HC0.out); rintro e w' ⟨rfl, ⟨nd, rfl⟩⟩; (try first | exact ⟨rfl, _, World.drewN_drewN _ _ _⟩ | exact ⟨rfl, _, Eq.trans (World.drewN_drewN _ _ _) (congrArg (World.drewN _) (Nat.add_assoc _ _ _))⟩)) | (go_at_call 28; (with_reducible refine (graph_Order.calls _ _ l0 t480 _ ?side1 ?side2 A5.out).mono ?_); (case side1 => repeat (first | exact (Kd.C_below HR0.out (by repeat (first | (with_reducible first | exact HB.out | apply below_alloc | apply pw_below_drewN | apply below_drew1) | exact HB.out))) | (with_reducible refine Kd.C_alloc ?_ _) | (with_reducible refine Kd.C_drewN ?_ _) | (with_reducible refine Kd.C_drew ?_))); (case side2 => exact HC0.out); rintro e w108 ⟨v481, rfl, ho0, hb⟩; have n0_ := Aside0.mk (Kd.R_lower ho0 (below_size (by repeat (first | (with_reducible first | exact HB.out | apply below_alloc | apply pw_below_drewN | apply below_drew1) | exact HB.out)))); have n1_ := Aside0.mk (below_step (by repeat (first | (with_reducible first | exact HB.out | apply below_alloc | apply pw_below_drewN | apply below_drew1) | exact HB.out)) hb); clear HB; have HO482 := n0_; have HB := n1_; clear n0_ n1_; (try clear hb); (try clear hb2); (try clear hk); (try clear hi); (try clear ho0)) | (go_at_call 19; (with_reducible refine (graph_Right.calls _ _ l0 false _ ?side1 ?side2 A6.out).mono ?_); (case side1 => repeat (first | exact (Kd.C_below HR0.out HB.out) | (with_reducible refine Kd.C_alloc ?_ _) | (with_reducible refine Kd.C_drewN ?_ _) | (with_reducible refine Kd.C_drew ?_))); (case side2 => exact HC0.out); rintro e w109 ⟨rfl, hb⟩; have n0_ := Aside0.mk (Kd.R_below (by (with_reducible repeat (first | apply Kd.R_alloc | apply Kd.R_drewN | apply Kd.R_drew)); exact HO482.out) hb); have n1_ := Aside0.mk (below_step (by repeat (first | (with_reducible first | exact HB.out | apply below_alloc | apply pw_below_drewN | apply below_drew1) | exact HB.out)) hb); clear HO482; clear HB; have HO482 := n0_; have HB := n1_; clear n0_ n1_; (try clear hb); (try clear hb2); (try clear hk); (try clear hi); obtain ⟨Ao110, co110, eo110⟩ := Kd.R_slice HO482.out; subst eo110))
          repeat (go_quiet (first | (go_at_call 13; (with_reducible refine (swagelaw06_small.calls  true _ A2.out).mono ?_); rintro e w107 ⟨rfl, hb⟩; have n0_ := Aside0.mk (below_step (by repeat (first | (with_reducible first | exact HB.out | apply below_alloc | apply pw_below_drewN | apply below_drew1) | exact HB.out)) hb); clear HB; have HB := n0_; clear n0_; (try clear hb); (try clear hb2); (try clear hk); (try clear hi)) | (go_at_call 14; (with_reducible refine (swagelaw06_Few.calls k _ _ l0 true _ ?side1 ?side2 A3.out).mono ?_); (case side1 => repeat (first | exact (Kd.C_below HR0.out HB.out) | (with_reducible refine Kd.C_alloc ?_ _) | (with_reducible refine Kd.C_drewN ?_ _) | (with_reducible refine Kd.C_drew ?_))); (case side2 => exact HC0.out); rintro e w' ⟨rfl, ⟨nd, rfl⟩⟩; (try first | exact ⟨rfl, _, World.drewN_drewN _ _ _⟩ | exact ⟨rfl, _, Eq.trans (World.drewN_drewN _ _ _) (congrArg (World.drewN _) (Nat.add_assoc _ _ _))⟩)) | (go_at_call 28; (with_reducible refine (graph_Order.calls _ _ l0 t480 _ ?side1 ?side2 A5.out).mono ?_); (case side1 => repeat (first | exact (Kd.C_below HR0.out (by repeat (first | (with_reducible first | exact HB.out | apply below_alloc | apply pw_below_drewN | apply below_drew1) | exact HB.out))) | (with_reducible refine Kd.C_alloc ?_ _) | (with_reducible refine Kd.C_drewN ?_ _) | (with_reducible refine Kd.C_drew ?_))); (case side2 => exact HC0.out); rintro e w108 ⟨v481, rfl, ho0, hb⟩; have n0_ := Aside0.mk (Kd.R_lower ho0 (below_size (by repeat (first | (with_reducible first | exact HB.out | apply below_alloc | apply pw_below_drewN | apply below_drew1) | exact HB.out)))); have n1_ := Aside0.mk (below_step (by repeat (first | (with_reducible first | exact HB.out | apply below_alloc | apply pw_below_drewN | apply below_drew1) | exact HB.out)) hb); clear HB; have HO482 := n0_; have HB := n1_; clear n0_ n1_; (try clear hb); (try clear hb2); (try clear hk); (try clear hi); (try clear ho0)) | (go_at_call 19; (with_reducible refine (graph_Right.calls _ _ l0 false _ ?side1 ?side2 A6.out).mono ?_); (case side1 => repeat (first | exact (Kd.C_below HR0.out HB.out) | (with_reducible refine Kd.C_alloc ?_ _) | (with_reducible refine Kd.C_drewN ?_ _) | (with_reducible refine Kd.C_drew ?_))); (case side2 => exact HC0.out); rintro e w109 ⟨rfl, hb⟩; have n0_ := Aside0.mk (Kd.R_below (by (with_reducible repeat (first | apply Kd.R_alloc | apply Kd.R_drewN | apply Kd.R_drew)); exact HO482.out) hb); have n1_ := Aside0.mk (below_step (by repeat (first | (with_reducible first | exact HB.out | apply below_alloc | apply pw_below_drewN | apply below_drew1) | exact HB.out)) hb); clear HO482; clear HB; have HO482 := n0_; have HB := n1_; clear n0_ n1_; (try clear hb); (try clear hb2); (try clear hk); (try clear hi); obtain ⟨Ao110, co110, eo110⟩ := Kd.R_slice HO482.out; subst eo110)); try go_wp2_with (first | (go_at_call 13; (with_reducible refine (swagelaw06_small.calls  true _ A2.out).mono ?_); rintro e w107 ⟨rfl, hb⟩; have n0_ := Aside0.mk (below_step (by repeat (first | (with_reducible first | exact HB.out | apply below_alloc | apply pw_below_drewN | apply below_drew1) | exact HB.out)) hb); clear HB; have HB := n0_; clear n0_; (try clear hb); (try clear hb2); (try clear hk); (try clear hi)) | (go_at_call 14; (with_reducible refine (swagelaw06_Few.calls k _ _ l0 true _ ?side1 ?side2 A3.out).mono ?_); (case side1 => repeat (first | exact (Kd.C_below HR0.out HB.out) | (with_reducible refine Kd.C_alloc ?_ _) | (with_reducible refine Kd.C_drewN ?_ _) | (with_reducible refine Kd.C_drew ?_))); (case side2 => exact HC0.out); rintro e w' ⟨rfl, ⟨nd, rfl⟩⟩; (try first | exact ⟨rfl, _, World.drewN_drewN _ _ _⟩ | exact ⟨rfl, _, Eq.trans (World.drewN_drewN _ _ _) (congrArg (World.drewN _) (Nat.add_assoc _ _ _))⟩)) | (go_at_call 28; (with_reducible refine (graph_Order.calls _ _ l0 t480 _ ?side1 ?side2 A5.out).mono ?_); (case side1 => repeat (first | exact (Kd.C_below HR0.out (by repeat (first | (with_reducible first | exact HB.out | apply below_alloc | apply pw_below_drewN | apply below_drew1) | exact HB.out))) | (with_reducible refine Kd.C_alloc ?_ _) | (with_reducible refine Kd.C_drewN ?_ _) | (with_reducible refine Kd.C_drew ?_))); (case side2 => exact HC0.out); rintro e w108 ⟨v481, rfl, ho0, hb⟩; have n0_ := Aside0.mk (Kd.R_lower ho0 (below_size (by repeat (first | (with_reducible first | exact HB.out | apply below_alloc | apply pw_below_drewN | apply below_drew1) | exact HB.out)))); have n1_ := Aside0.mk (below_step (by repeat (first | (with_reducible first | exact HB.out | apply below_alloc | apply pw_below_drewN | apply below_drew1) | exact HB.out)) hb); clear HB; have HO482 := n0_; have HB := n1_; clear n0_ n1_; (try clear hb); (try clear hb2); (try clear hk); (try clear hi); (try clear ho0)) | (go_at_call 19; (with_reducible refine (graph_Right.calls _ _ l0 false _ ?side1 ?side2 A6.out).mono ?_); (case side1 => repeat (first | exact (Kd.C_below HR0.out HB.out) | (with_reducible refine Kd.C_alloc ?_ _) | (with_reducible refine Kd.C_drewN ?_ _) | (with_reducible refine Kd.C_drew ?_))); (case side2 => exact HC0.out); rintro e w109 ⟨rfl, hb⟩; have n0_ := Aside0.mk (Kd.R_below (by (with_reducible repeat (first | apply Kd.R_alloc | apply Kd.R_drewN | apply Kd.R_drew)); exact HO482.out) hb); have n1_ := Aside0.mk (below_step (by repeat (first | (with_reducible first | exact HB.out | apply below_alloc | apply pw_below_drewN | apply below_drew1) | exact HB.out)) hb); clear HO482; clear HB; have HO482 := n0_; have HB := n1_; clear n0_ n1_; (try clear hb); (try clear hb2); (try clear hk); (try clear hi); obtain ⟨Ao110, co110, eo110⟩ := Kd.R_slice HO482.out; subst eo110)))
          go_ret
          exact ⟨by first | rfl | (simp [errW_none, errW_some] <;> rfl) | (simp [*, errW_none, errW_some] <;> rfl), by repeat (first | (with_reducible first | exact HB.out | apply below_alloc | apply pw_below_drewN | apply below_drew1) | exact HB.out)⟩
      · replace c88 := Bool.eq_false_iff.mpr c88
        subst c88
        have H1 : (some false) = some r := by rw [if_neg (show ¬ (false = true) by decide)] at H; exact H
        clear H
        have H := H1
        clear H1
        obtain rfl := Option.some.inj H
        go_enter Try.func5, Try.ntmps5
        go_wp2_with (first | (go_at_call 13; (with_reducible refine (swagelaw06_small.calls  false _ A2.out).mono ?_); rintro e w111 ⟨rfl, hb⟩; have n0_ := Aside0.mk (below_step (by repeat (first | (with_reducible first | exact HB.out | apply below_alloc | apply pw_below_drewN | apply below_drew1) | exact HB.out)) hb); clear HB; have HB := n0_; clear n0_; (try clear hb); (try clear hb2); (try clear hk); (try clear hi)) | (go_at_call 14; (with_reducible refine (swagelaw06_Few.calls k _ _ l0 true _ ?side1 ?side2 A3.out).mono ?_); (case side1 => repeat (first | exact (Kd.C_below HR0.out HB.out) | (with_reducible refine Kd.C_alloc ?_ _) | (with_reducible refine Kd.C_drewN ?_ _) | (with_reducible refine Kd.C_drew ?_))); (case side2 => exact HC0.out); rintro e w' ⟨rfl, ⟨nd, rfl⟩⟩; (try first | exact ⟨rfl, _, World.drewN_drewN _ _ _⟩ | exact ⟨rfl, _, Eq.trans (World.drewN_drewN _ _ _) (congrArg (World.drewN _) (Nat.add_assoc _ _ _))⟩)) | (go_at_call 28; (with_reducible refine (graph_Order.calls _ _ l0 t480 _ ?side1 ?side2 A5.out).mono ?_); (case side1 => repeat (first | exact (Kd.C_below HR0.out (by repeat (first | (with_reducible first | exact HB.out | apply below_alloc | apply pw_below_drewN | apply below_drew1) | exact HB.out))) | (with_reducible refine Kd.C_alloc ?_ _) | (with_reducible refine Kd.C_drewN ?_ _) | (with_reducible refine Kd.C_drew ?_))); (case side2 => exact HC0.out); rintro e w112 ⟨v481, rfl, ho0, hb⟩; have n0_ := Aside0.mk (Kd.R_lower ho0 (below_size (by repeat (first | (with_reducible first | exact HB.out | apply below_alloc | apply pw_below_drewN | apply below_drew1) | exact HB.out)))); have n1_ := Aside0.mk (below_step (by repeat (first | (with_reducible first | exact HB.out | apply below_alloc | apply pw_below_drewN | apply below_drew1) | exact HB.out)) hb); clear HB; have HO482 := n0_; have HB := n1_; clear n0_ n1_; (try clear hb); (try clear hb2); (try clear hk); (try clear hi); (try clear ho0)) | (go_at_call 19; (with_reducible refine (graph_Right.calls _ _ l0 false _ ?side1 ?side2 A6.out).mono ?_); (case side1 => repeat (first | exact (Kd.C_below HR0.out HB.out) | (with_reducible refine Kd.C_alloc ?_ _) | (with_reducible refine Kd.C_drewN ?_ _) | (with_reducible refine Kd.C_drew ?_))); (case side2 => exact HC0.out); rintro e w113 ⟨rfl, hb⟩; have n0_ := Aside0.mk (Kd.R_below (by (with_reducible repeat (first | apply Kd.R_alloc | apply Kd.R_drewN | apply Kd.R_drew)); exact HO482.out) hb); have n1_ := Aside0.mk (below_step (by repeat (first | (with_reducible first | exact HB.out | apply below_alloc | apply pw_below_drewN | apply below_drew1) | exact HB.out)) hb); clear HO482; clear HB; have HO482 := n0_; have HB := n1_; clear n0_ n1_; (try clear hb); (try clear hb2); (try clear hk); (try clear hi)))
        repeat (go_quiet (first | (go_at_call 13; (with_reducible refine (swagelaw06_small.calls  false _ A2.out).mono ?_); rintro e w111 ⟨rfl, hb⟩; have n0_ := Aside0.mk (below_step (by repeat (first | (with_reducible first | exact HB.out | apply below_alloc | apply pw_below_drewN | apply below_drew1) | exact HB.out)) hb); clear HB; have HB := n0_; clear n0_; (try clear hb); (try clear hb2); (try clear hk); (try clear hi)) | (go_at_call 14; (with_reducible refine (swagelaw06_Few.calls k _ _ l0 true _ ?side1 ?side2 A3.out).mono ?_); (case side1 => repeat (first | exact (Kd.C_below HR0.out HB.out) | (with_reducible refine Kd.C_alloc ?_ _) | (with_reducible refine Kd.C_drewN ?_ _) | (with_reducible refine Kd.C_drew ?_))); (case side2 => exact HC0.out); rintro e w' ⟨rfl, ⟨nd, rfl⟩⟩; (try first | exact ⟨rfl, _, World.drewN_drewN _ _ _⟩ | exact ⟨rfl, _, Eq.trans (World.drewN_drewN _ _ _) (congrArg (World.drewN _) (Nat.add_assoc _ _ _))⟩)) | (go_at_call 28; (with_reducible refine (graph_Order.calls _ _ l0 t480 _ ?side1 ?side2 A5.out).mono ?_); (case side1 => repeat (first | exact (Kd.C_below HR0.out (by repeat (first | (with_reducible first | exact HB.out | apply below_alloc | apply pw_below_drewN | apply below_drew1) | exact HB.out))) | (with_reducible refine Kd.C_alloc ?_ _) | (with_reducible refine Kd.C_drewN ?_ _) | (with_reducible refine Kd.C_drew ?_))); (case side2 => exact HC0.out); rintro e w112 ⟨v481, rfl, ho0, hb⟩; have n0_ := Aside0.mk (Kd.R_lower ho0 (below_size (by repeat (first | (with_reducible first | exact HB.out | apply below_alloc | apply pw_below_drewN | apply below_drew1) | exact HB.out)))); have n1_ := Aside0.mk (below_step (by repeat (first | (with_reducible first | exact HB.out | apply below_alloc | apply pw_below_drewN | apply below_drew1) | exact HB.out)) hb); clear HB; have HO482 := n0_; have HB := n1_; clear n0_ n1_; (try clear hb); (try clear hb2); (try clear hk); (try clear hi); (try clear ho0)) | (go_at_call 19; (with_reducible refine (graph_Right.calls _ _ l0 false _ ?side1 ?side2 A6.out).mono ?_); (case side1 => repeat (first | exact (Kd.C_below HR0.out HB.out) | (with_reducible refine Kd.C_alloc ?_ _) | (with_reducible refine Kd.C_drewN ?_ _) | (with_reducible refine Kd.C_drew ?_))); (case side2 => exact HC0.out); rintro e w113 ⟨rfl, hb⟩; have n0_ := Aside0.mk (Kd.R_below (by (with_reducible repeat (first | apply Kd.R_alloc | apply Kd.R_drewN | apply Kd.R_drew)); exact HO482.out) hb); have n1_ := Aside0.mk (below_step (by repeat (first | (with_reducible first | exact HB.out | apply below_alloc | apply pw_below_drewN | apply below_drew1) | exact HB.out)) hb); clear HO482; clear HB; have HO482 := n0_; have HB := n1_; clear n0_ n1_; (try clear hb); (try clear hb2); (try clear hk); (try clear hi))); try go_wp2_with (first | (go_at_call 13; (with_reducible refine (swagelaw06_small.calls  false _ A2.out).mono ?_); rintro e w111 ⟨rfl, hb⟩; have n0_ := Aside0.mk (below_step (by repeat (first | (with_reducible first | exact HB.out | apply below_alloc | apply pw_below_drewN | apply below_drew1) | exact HB.out)) hb); clear HB; have HB := n0_; clear n0_; (try clear hb); (try clear hb2); (try clear hk); (try clear hi)) | (go_at_call 14; (with_reducible refine (swagelaw06_Few.calls k _ _ l0 true _ ?side1 ?side2 A3.out).mono ?_); (case side1 => repeat (first | exact (Kd.C_below HR0.out HB.out) | (with_reducible refine Kd.C_alloc ?_ _) | (with_reducible refine Kd.C_drewN ?_ _) | (with_reducible refine Kd.C_drew ?_))); (case side2 => exact HC0.out); rintro e w' ⟨rfl, ⟨nd, rfl⟩⟩; (try first | exact ⟨rfl, _, World.drewN_drewN _ _ _⟩ | exact ⟨rfl, _, Eq.trans (World.drewN_drewN _ _ _) (congrArg (World.drewN _) (Nat.add_assoc _ _ _))⟩)) | (go_at_call 28; (with_reducible refine (graph_Order.calls _ _ l0 t480 _ ?side1 ?side2 A5.out).mono ?_); (case side1 => repeat (first | exact (Kd.C_below HR0.out (by repeat (first | (with_reducible first | exact HB.out | apply below_alloc | apply pw_below_drewN | apply below_drew1) | exact HB.out))) | (with_reducible refine Kd.C_alloc ?_ _) | (with_reducible refine Kd.C_drewN ?_ _) | (with_reducible refine Kd.C_drew ?_))); (case side2 => exact HC0.out); rintro e w112 ⟨v481, rfl, ho0, hb⟩; have n0_ := Aside0.mk (Kd.R_lower ho0 (below_size (by repeat (first | (with_reducible first | exact HB.out | apply below_alloc | apply pw_below_drewN | apply below_drew1) | exact HB.out)))); have n1_ := Aside0.mk (below_step (by repeat (first | (with_reducible first | exact HB.out | apply below_alloc | apply pw_below_drewN | apply below_drew1) | exact HB.out)) hb); clear HB; have HO482 := n0_; have HB := n1_; clear n0_ n1_; (try clear hb); (try clear hb2); (try clear hk); (try clear hi); (try clear ho0)) | (go_at_call 19; (with_reducible refine (graph_Right.calls _ _ l0 false _ ?side1 ?side2 A6.out).mono ?_); (case side1 => repeat (first | exact (Kd.C_below HR0.out HB.out) | (with_reducible refine Kd.C_alloc ?_ _) | (with_reducible refine Kd.C_drewN ?_ _) | (with_reducible refine Kd.C_drew ?_))); (case side2 => exact HC0.out); rintro e w113 ⟨rfl, hb⟩; have n0_ := Aside0.mk (Kd.R_below (by (with_reducible repeat (first | apply Kd.R_alloc | apply Kd.R_drewN | apply Kd.R_drew)); exact HO482.out) hb); have n1_ := Aside0.mk (below_step (by repeat (first | (with_reducible first | exact HB.out | apply below_alloc | apply pw_below_drewN | apply below_drew1) | exact HB.out)) hb); clear HO482; clear HB; have HO482 := n0_; have HB := n1_; clear n0_ n1_; (try clear hb); (try clear hb2); (try clear hk); (try clear hi))))
        go_ret
        exact ⟨by first | rfl | (simp [errW_none, errW_some] <;> rfl) | (simp [*, errW_none, errW_some] <;> rfl), by repeat (first | (with_reducible first | exact HB.out | apply below_alloc | apply pw_below_drewN | apply below_drew1) | exact HB.out)⟩
  · replace c4 := Bool.eq_false_iff.mpr c4
    subst c4
    have H1 : (some t478) = some r := by rw [if_neg (show ¬ (false = true) by decide)] at H; exact H
    clear H
    have H := H1
    clear H1
    obtain rfl := Option.some.inj H
    go_enter Try.func5, Try.ntmps5
    go_wp2_with (first | (go_at_call 13; (with_reducible refine (swagelaw06_small.calls  t478 _ A2.out).mono ?_); rintro e w114 ⟨rfl, hb⟩; have n0_ := Aside0.mk (below_step (by repeat (first | (with_reducible first | exact HB.out | apply below_alloc | apply pw_below_drewN | apply below_drew1) | exact HB.out)) hb); clear HB; have HB := n0_; clear n0_; (try clear hb); (try clear hb2); (try clear hk); (try clear hi)) | (go_at_call 14; (with_reducible refine (swagelaw06_Few.calls k _ _ l0 false _ ?side1 ?side2 A3.out).mono ?_); (case side1 => repeat (first | exact (Kd.C_below HR0.out HB.out) | (with_reducible refine Kd.C_alloc ?_ _) | (with_reducible refine Kd.C_drewN ?_ _) | (with_reducible refine Kd.C_drew ?_))); (case side2 => exact HC0.out); rintro e w' ⟨rfl, ⟨nd, rfl⟩⟩; (try first | exact ⟨rfl, _, World.drewN_drewN _ _ _⟩ | exact ⟨rfl, _, Eq.trans (World.drewN_drewN _ _ _) (congrArg (World.drewN _) (Nat.add_assoc _ _ _))⟩)))
    repeat (go_quiet (first | (go_at_call 13; (with_reducible refine (swagelaw06_small.calls  t478 _ A2.out).mono ?_); rintro e w114 ⟨rfl, hb⟩; have n0_ := Aside0.mk (below_step (by repeat (first | (with_reducible first | exact HB.out | apply below_alloc | apply pw_below_drewN | apply below_drew1) | exact HB.out)) hb); clear HB; have HB := n0_; clear n0_; (try clear hb); (try clear hb2); (try clear hk); (try clear hi)) | (go_at_call 14; (with_reducible refine (swagelaw06_Few.calls k _ _ l0 false _ ?side1 ?side2 A3.out).mono ?_); (case side1 => repeat (first | exact (Kd.C_below HR0.out HB.out) | (with_reducible refine Kd.C_alloc ?_ _) | (with_reducible refine Kd.C_drewN ?_ _) | (with_reducible refine Kd.C_drew ?_))); (case side2 => exact HC0.out); rintro e w' ⟨rfl, ⟨nd, rfl⟩⟩; (try first | exact ⟨rfl, _, World.drewN_drewN _ _ _⟩ | exact ⟨rfl, _, Eq.trans (World.drewN_drewN _ _ _) (congrArg (World.drewN _) (Nat.add_assoc _ _ _))⟩))); try go_wp2_with (first | (go_at_call 13; (with_reducible refine (swagelaw06_small.calls  t478 _ A2.out).mono ?_); rintro e w114 ⟨rfl, hb⟩; have n0_ := Aside0.mk (below_step (by repeat (first | (with_reducible first | exact HB.out | apply below_alloc | apply pw_below_drewN | apply below_drew1) | exact HB.out)) hb); clear HB; have HB := n0_; clear n0_; (try clear hb); (try clear hb2); (try clear hk); (try clear hi)) | (go_at_call 14; (with_reducible refine (swagelaw06_Few.calls k _ _ l0 false _ ?side1 ?side2 A3.out).mono ?_); (case side1 => repeat (first | exact (Kd.C_below HR0.out HB.out) | (with_reducible refine Kd.C_alloc ?_ _) | (with_reducible refine Kd.C_drewN ?_ _) | (with_reducible refine Kd.C_drew ?_))); (case side2 => exact HC0.out); rintro e w' ⟨rfl, ⟨nd, rfl⟩⟩; (try first | exact ⟨rfl, _, World.drewN_drewN _ _ _⟩ | exact ⟨rfl, _, Eq.trans (World.drewN_drewN _ _ _) (congrArg (World.drewN _) (Nat.add_assoc _ _ _))⟩))))
    go_ret
    exact ⟨by first | rfl | (simp [errW_none, errW_some] <;> rfl) | (simp [*, errW_none, errW_some] <;> rfl), by repeat (first | (with_reducible first | exact HB.out | apply below_alloc | apply pw_below_drewN | apply below_drew1) | exact HB.out)⟩

end Go.Proofs.Ytkmbhknmjnbanaa.A


namespace Go.Proofs.Ytkmbhknmjnbanaa.A
open Go.RowKit Go.Proofs.YtkmbhknmjnbanaaW.PrintWords Go.Proofs.YtkmbhknmjnbanaaW.PrintLast Go.Shelf
set_option linter.unusedVariables false
set_option linter.unusedSimpArgs false

/-- places, one more each -/
def at1 (g : List (List Int)) (m : Nat) : List Int := (plfold (orderOf g) g.length m).map (· + 1)
theorem at1_len (g : List (List Int)) (m : Nat) : (at1 g m).length = g.length := by unfold at1; rw [List.length_map, plfold_len]
theorem at1_get (g : List (List Int)) (m i : Nat) (hi : i < g.length) : (at1 g m).getD i 0 = (plfold (orderOf g) g.length m).getD i 0 + 1 := by
  unfold at1
  have hl := plfold_len (orderOf g) g.length m
  rw [List.getD_eq_getElem?_getD, List.getElem?_map, List.getD_eq_getElem?_getD, List.getElem?_eq_getElem (by omega)]
  rfl
theorem at1_succ (g : List (List Int)) {m : Nat} (hm : m < (orderOf g).length) : at1 g (m + 1) = (at1 g m).set (orderOf g)[m].toNat ((m + 1 : Nat) : Int) := by
  unfold at1
  rw [plfold_succ, List.map_set, show (orderOf g).getD m 0 = (orderOf g)[m] by simp [List.getD_eq_getElem?_getD, hm]]
  rfl
theorem order_first {g : List (List Int)} (hr : rightB g = true) : ∃ l, orderOf g = 0 :: l := by
  obtain ⟨h1, h2, h3⟩ := right_rows hr
  obtain ⟨o, e⟩ := walk_last (g := g) (a := 0) (by omega)
  unfold orderOf
  rw [if_pos hr, e, List.reverse_append]
  exact ⟨o.reverse, rfl⟩

/-- an edge stands among those that lead back just if it does not lead onward -/
theorem on_l3 {g : List (List Int)} (hr : rightB g = true) (hg : InG g) (hn : g.length ≤ 4096) (h8 : ∀ l ∈ g, l.length ≤ 8) {m : List Bool} (hml : m.length = g.length) (hmk : ∀ i, i < g.length → (Mk m i ↔ Way g 0 i)) {c : Int} {i kk : Nat} (hi : i < g.length) (hk : kk < (rowOf g i).length) (hw : Way g 0 i) {r : Bool}
    (hnext : Evt (fun k => swagelaw06_GraphOnward.l2 k g true (orderOf g) m (backOf g) (at1 g (orderOf g).length) c i ((kk + 1 : Nat) : Int)) r) :
    ∀ (d j : Nat) (b : Bool), j + d = (backOf g).length → b = ((backOf g).take j).any (isE i (rowOf g i)[kk]) → Evt (fun k => swagelaw06_GraphOnward.l3 k g true (orderOf g) m (backOf g) (at1 g (orderOf g).length) c i kk b j) r := by
  intro d
  have h88 := h8 _ (rowOf_mem hi)
  have hbl := back_len g
  have hx := hg _ (rowOf_mem hi) _ (List.getElem_mem hk)
  obtain ⟨x, ex⟩ := Int.eq_ofNat_of_zero_le hx.1
  have hal := at1_len g (orderOf g).length
  induction d with
  | zero =>
    intro j b hj hb
    obtain rfl : j = (backOf g).length := by omega
    rw [List.take_length] at hb
    have he : Edge g i x := by unfold Edge; rw [← ex]; exact List.getElem_mem hk
    have hbx : b = true ↔ (placesOf g).getD x 0 ≤ (placesOf g).getD i 0 := by
      rw [hb, List.any_eq_true]
      constructor
      · rintro ⟨e, he1, he2⟩
        unfold isE at he2
        rw [Bool.and_eq_true, decide_eq_true_eq, decide_eq_true_eq] at he2
        obtain ⟨i', x', e3, _, _, h5⟩ := (back_mem hr e).1 he1
        rw [e3] at he2
        dsimp only at he2
        obtain rfl : i = i' := by omega
        obtain rfl : x = x' := by omega
        exact h5
      · intro h
        refine ⟨⟨i, x⟩, (back_mem hr _).2 ⟨i, x, rfl, he, (place_pos g hi).2 ((order_mem hr i).2 hw), h⟩, ?_⟩
        unfold isE
        simp [ex]
    have hax : rd (at1 g (orderOf g).length) (x : Int) = (placesOf g).getD x 0 + 1 := by rw [rdD]; exact at1_get g _ x (by omega)
    have hai : rd (at1 g (orderOf g).length) (i : Int) = (placesOf g).getD i 0 + 1 := by rw [rdD]; exact at1_get g _ i hi
    refine Evt.step hnext fun k => ?_
    rw [swagelaw06_GraphOnward.l3, if_neg (by omega), if_pos (by omega), if_pos (by omega), if_pos (by omega), rdL, if_pos (by omega), rdI hk, ex, if_pos (by omega), if_pos (by omega), if_pos (by omega), hax, hai, if_neg, wsucc (by omega)]
    intro h
    rw [beq_iff_eq] at h
    by_cases hb1 : b = true
    · rw [hb1] at h
      have := of_decide_eq_true h.symm
      have := hbx.1 hb1
      omega
    · rw [Bool.not_eq_true] at hb1
      rw [hb1] at h
      have := of_decide_eq_false h.symm
      have : ¬ b = true := by rw [hb1]; simp
      exact this (hbx.2 (by omega))
  | succ d ih =>
    intro j b hj hb
    have hlt : j < (backOf g).length := by omega
    have htk : (backOf g).take (j + 1) = (backOf g).take j ++ [(backOf g)[j]] := List.take_succ_eq_append_getElem hlt
    have hany : ((backOf g).take (j + 1)).any (isE i (rowOf g i)[kk]) = (b || isE i (rowOf g i)[kk] (backOf g)[j]) := by
      rw [htk, List.any_append, ← hb]; simp
    cases b with
    | true =>
      refine Evt.step (ih (j + 1) true (by omega) (by rw [hany]; rfl)) fun k => ?_
      rw [swagelaw06_GraphOnward.l3, if_pos (by omega), if_pos rfl, wsucc (by omega)]
    | false =>
      refine Evt.step (ih (j + 1) (isE i (rowOf g i)[kk] (backOf g)[j]) (by omega) (by rw [hany]; rfl)) fun k => ?_
      rw [swagelaw06_GraphOnward.l3, if_pos (by omega), if_neg (by simp), if_pos (by omega), if_pos (by omega), if_pos (by omega), if_pos (by omega), rdL, if_pos (by omega), rd37 hlt, rdI hk, wsucc (by omega)]
      congr 1
      unfold isE
      rw [Bool.eq_iff_iff, Bool.and_eq_true, Bool.and_eq_true, beq_iff_eq, beq_iff_eq, decide_eq_true_eq, decide_eq_true_eq]
      exact ⟨fun h => ⟨h.1.symm, h.2.symm⟩, fun h => ⟨h.1.symm, h.2.symm⟩⟩
theorem on_l2 {g : List (List Int)} (hr : rightB g = true) (hg : InG g) (hn : g.length ≤ 4096) (h8 : ∀ l ∈ g, l.length ≤ 8) {m : List Bool} (hml : m.length = g.length) (hmk : ∀ i, i < g.length → (Mk m i ↔ Way g 0 i)) {c : Int} {i : Nat} (hi : i < g.length) {r : Bool} (hnext : Evt (fun k => swagelaw06_GraphOnward.l1 k g true (orderOf g) m (backOf g) (at1 g (orderOf g).length) c ((i + 1 : Nat) : Int)) r) :
    ∀ (d kk : Nat), kk + d = (rowOf g i).length → Evt (fun k => swagelaw06_GraphOnward.l2 k g true (orderOf g) m (backOf g) (at1 g (orderOf g).length) c i kk) r := by
  intro d
  have h88 := h8 _ (rowOf_mem hi)
  have stopf : ∀ kk : Nat, (∀ k, swagelaw06_GraphOnward.l2 (k + 1) g true (orderOf g) m (backOf g) (at1 g (orderOf g).length) c i kk = swagelaw06_GraphOnward.j5 k g true (orderOf g) m (backOf g) (at1 g (orderOf g).length) c i kk false) → Evt (fun k => swagelaw06_GraphOnward.l2 k g true (orderOf g) m (backOf g) (at1 g (orderOf g).length) c i kk) r := fun kk h =>
    Evt.step (Evt.step hnext (f := fun k => swagelaw06_GraphOnward.j5 k g true (orderOf g) m (backOf g) (at1 g (orderOf g).length) c i kk false) fun k => by rw [swagelaw06_GraphOnward.j5, if_neg (by simp), wsucc (by omega)]) h
  induction d with
  | zero =>
    intro kk hk
    exact stopf kk fun k => by rw [swagelaw06_GraphOnward.l2, if_pos (by omega), if_pos (by omega), rdL, if_neg (by omega)]
  | succ d ih =>
    intro kk hk
    have hlt : kk < (rowOf g i).length := by omega
    by_cases hw : Way g 0 i
    · refine Evt.step (Evt.step (on_l3 hr hg hn h8 hml hmk (c := c) hi hlt hw (ih (kk + 1) (by omega)) (backOf g).length 0 false (by omega) (by simp)) (f := fun k => swagelaw06_GraphOnward.j5 k g true (orderOf g) m (backOf g) (at1 g (orderOf g).length) c i kk true) fun k => ?_) fun k => ?_
      · rw [swagelaw06_GraphOnward.j5, if_pos rfl]; rfl
      · rw [swagelaw06_GraphOnward.l2, if_pos (by omega), if_pos (by omega), rdL, if_pos (by omega), if_pos (by omega), (rdm hml hmk hi).2 hw]
    · refine stopf kk fun k => ?_
      have : rdOf false m (i : Int) = false := by rw [← Bool.not_eq_true]; exact fun h => hw ((rdm hml hmk hi).1 h)
      rw [swagelaw06_GraphOnward.l2, if_pos (by omega), if_pos (by omega), rdL, if_pos (by omega), if_pos (by omega), this]
theorem on_l1 {g : List (List Int)} (hr : rightB g = true) (hg : InG g) (hn : g.length ≤ 4096) (h8 : ∀ l ∈ g, l.length ≤ 8) {m : List Bool} (hml : m.length = g.length) (hmk : ∀ i, i < g.length → (Mk m i ↔ Way g 0 i)) : ∀ (d i : Nat), i + d = g.length → Evt (fun k => swagelaw06_GraphOnward.l1 k g true (orderOf g) m (backOf g) (at1 g (orderOf g).length) (cntIn (walkOf g 0) i : Int) i) true := by
  intro d
  induction d with
  | zero =>
    intro i hi
    obtain rfl : i = g.length := by omega
    refine Evt.step (Evt.const rfl) fun k => ?_
    have hg0 : 0 < g.length := by have := (right_rows hr).2.1; omega
    rw [swagelaw06_GraphOnward.l1, if_neg (by omega), if_pos rfl, cntIn_all (walk_nodup hg hg0) (visit_in_range hg g.length (met0 g) 0 hg0)]
    unfold orderOf
    rw [if_pos hr, List.length_reverse]
    simp
  | succ d ih =>
    intro i hi
    have hil : i < g.length := by omega
    have hg0 : 0 < g.length := by omega
    have hc := cntIn_le (walkOf g 0) i
    have ih' := ih (i + 1) (by omega)
    rw [cntIn_succ] at ih'
    by_cases hw : Way g 0 i
    · rw [if_pos ((walk_mem hg hg0 i).2 hw)] at ih'
      refine Evt.step (Evt.step (on_l2 hr hg hn h8 hml hmk hil ih' (rowOf g i).length 0 (by omega)) (f := fun k => swagelaw06_GraphOnward.j3 k g true (orderOf g) m (backOf g) (at1 g (orderOf g).length) ((cntIn (walkOf g 0) i + 1 : Nat) : Int) i) fun k => ?_) fun k => ?_
      · rw [swagelaw06_GraphOnward.j3]; rfl
      · rw [swagelaw06_GraphOnward.l1, if_pos (by omega), if_pos (by omega), if_pos (by omega), if_pos ((rdm hml hmk hil).2 hw), wsucc (by omega)]
    · rw [if_neg (fun h => hw ((walk_mem hg hg0 i).1 h))] at ih'
      refine Evt.step (Evt.step (on_l2 hr hg hn h8 hml hmk hil ih' (rowOf g i).length 0 (by omega)) (f := fun k => swagelaw06_GraphOnward.j3 k g true (orderOf g) m (backOf g) (at1 g (orderOf g).length) (cntIn (walkOf g 0) i : Int) i) fun k => ?_) fun k => ?_
      · rw [swagelaw06_GraphOnward.j3]; rfl
      · rw [swagelaw06_GraphOnward.l1, if_pos (by omega), if_pos (by omega), if_pos (by omega), if_neg (fun h => hw ((rdm hml hmk hil).1 h))]
theorem on_l0 {g : List (List Int)} (hr : rightB g = true) (hg : InG g) (hn : g.length ≤ 4096) (h8 : ∀ l ∈ g, l.length ≤ 8) {m : List Bool} (hml : m.length = g.length) (hmk : ∀ i, i < g.length → (Mk m i ↔ Way g 0 i)) : ∀ (d i : Nat), i + d = (orderOf g).length → Evt (fun k => swagelaw06_GraphOnward.l0 k g true (orderOf g) m (backOf g) (at1 g i) i) true := by
  intro d
  have hol := orderOf_len g
  induction d with
  | zero =>
    intro i hi
    obtain rfl : i = (orderOf g).length := by omega
    refine Evt.step (on_l1 hr hg hn h8 hml hmk g.length 0 (by omega)) fun k => ?_
    rw [swagelaw06_GraphOnward.l0, if_neg (by omega)]
    rfl
  | succ d ih =>
    intro i hi
    have hlt : i < (orderOf g).length := by omega
    have hx := orderOf_in g _ (List.getElem_mem hlt)
    obtain ⟨x, ex⟩ := Int.eq_ofNat_of_zero_le hx.1
    have hxl : x < g.length := by omega
    have hal := at1_len g i
    have ha0 : rd (at1 g i) (x : Int) = 0 := by
      rw [rdD, at1_get g i x hxl, (plfold_spec (order_nodup g) (orderOf_in g) i (by omega)).2 x hxl ?_]
      · rfl
      · rw [← ex]
        intro h
        obtain ⟨j, hj, e⟩ := List.getElem_of_mem h
        rw [List.getElem_take] at e
        have := (List.getElem_inj (order_nodup g)).1 e
        rw [List.length_take] at hj
        omega
    have hw : Way g 0 x := (order_mem hr x).1 (by rw [← ex]; exact List.getElem_mem hlt)
    have ih' := ih (i + 1) (by omega)
    rw [at1_succ g hlt, ex, Int.toNat_natCast] at ih'
    refine Evt.step ih' fun k => ?_
    rw [swagelaw06_GraphOnward.l0, if_pos (by omega), if_pos (by omega), rdI hlt, ex, if_neg (by omega), if_neg (by omega), if_pos (by omega), if_pos (by omega), if_pos ha0, if_pos (by omega), if_pos ((rdm hml hmk hxl).2 hw), wsucc (by omega), Int.toNat_natCast]
theorem onward_pure (g : List (List Int)) : ∃ k, swagelaw06_GraphOnward.f k g = some true := by
  obtain ⟨r, hf, hr⟩ := few_ev g
  suffices H : Evt (fun k => swagelaw06_GraphOnward.f k g) true from H.get
  unfold swagelaw06_GraphOnward.f swagelaw06_small.f
  simp only [Option.bind_some]
  refine Evt.bind hf ?_
  cases r with
  | false => exact Evt.const rfl
  | true =>
    have hn : g.length ≤ 40 := hr rfl
    unfold graph_Reach.f graph_Right.f graph_Order.f graph_Loops.f
    simp only [if_true, Option.bind_some]
    have hb := back_ev g
    cases hrt : rightB g
    · have e1 : orderOf g = [] := by unfold orderOf; rw [hrt]; rfl
      have e2 : backOf g = [] := by unfold backOf; rw [hrt]; rfl
      have e3 : loopsOf g = [] := by unfold loopsOf headsOf; rw [e2]; simp [hfold]
      rw [e2] at hb
      rw [e1, e3]
      simp only [Bool.false_eq_true, if_false]
      refine Evt.congr (Evt.bind hb (h := fun _ (t484 : List S37) => if (t484.length : Int) = 0 then some true else some false) (Evt.const rfl)) fun k => ?_
      rw [if_pos (by simp)]
      rfl
    · obtain ⟨e1, e2, hg⟩ := right_rows hrt
      simp only [if_true]
      refine Evt.bind hb ?_
      obtain ⟨l, hl⟩ := order_first hrt
      have er : reachRes g 0 = marks g.length (walkOf g 0) := by unfold reachRes; rw [if_pos ⟨hrt, by omega, by omega⟩]; rfl
      have hmk : ∀ i, i < g.length → (Mk (marks g.length (walkOf g 0)) i ↔ Way g 0 i) := fun i hi => by rw [mk_marks hi, walk_mem hg (by omega)]
      have hml := marks_len g.length (walkOf g 0)
      have h0 := on_l0 hrt hg e1 (right_8 hrt) hml hmk (orderOf g).length 0 (by omega)
      have hol : 1 ≤ (orderOf g).length := by rw [hl]; simp
      rw [er]
      have ha1 : at1 g 0 = List.replicate g.length 0 := by
        unfold at1 plfold
        rw [List.range_zero, List.foldl_nil, List.map_replicate]
        rfl
      rw [ha1] at h0
      refine Evt.congr (Evt.step h0 (f := fun k => swagelaw06_GraphOnward.j0 k g true (orderOf g) (marks g.length (walkOf g 0)) (backOf g) false) fun k => ?_) fun k => ?_
      · rw [swagelaw06_GraphOnward.j0, if_neg (by simp), if_pos (by omega), if_pos (by omega), Int.toNat_natCast]
        rfl
      · rw [if_pos (by omega), if_neg (by omega), if_pos (by omega), show rd (orderOf g) 0 = 0 by rw [hl]; rfl]
        rfl
theorem law_onward (A : Option Addr) (c : Nat) (g : List (List Int)) (w : World) (hC : Kd.C (Kd.slice 3 (Kd.int .i64)) w A g.length g) (hc : g.length ≤ c) (hp : ∀ x ∈ g, ∀ y ∈ x, (Lit.int .i64 y).wf = true) :
    Calls Try.prog 5 #[.slice A g.length c] w fun e w' => e = .returned (.bool true) ∧ Below w.heap.size w w' := by
  obtain ⟨k, hk⟩ := onward_pure g
  exact swagelaw06_GraphOnward.calls k A c g true w hC hc hk
end Go.Proofs.Ytkmbhknmjnbanaa.A


namespace Go.Proofs.Ytkmbhknmjnbanaa.A
open Go.Deep Go.RowKit Go.Proofs.YtkmbhknmjnbanaaW.PrintWords Go.Proofs.YtkmbhknmjnbanaaW.PrintLast
set_option linter.unusedVariables false
set_option linter.unusedSimpArgs false

section
variable {H : Type} {enc : TypeId × Value → H} {P : Program} {w : World} {base : Nat} {α : Type} [Inhabited α]

def Opens (enc : TypeId × Value → H) (P : Program) (w : World) (base : Nat) (t : TypeId) (d : Kd α) (p : α → Prop) : Prop :=
  ∀ fuel cs x, DataW.trod enc P w base (fun _ => true) true fuel t cs = some x → ∃ y, d.K w y cs ∧ p y

theorem opens_int {t : TypeId} {k : IntKind} (ht : P.underlying t = some (.int k)) : Opens enc P w base t (Kd.int k) (fun n => (Lit.int k n).wf = true) := by
  intro fuel cs x h
  obtain ⟨n, rfl, _, hw⟩ := DataW.trod_int ht h
  exact ⟨n, rfl, hw⟩

theorem opens_slice {t e : TypeId} {d : Kd α} {p : α → Prop} (ht : P.underlying t = some (.slice e)) (hc : P.cellsOf e = d.sz) (ho : Opens enc P w base e d p) : Opens enc P w base t (Kd.slice e d) (fun xs => ∀ x ∈ xs, p x) := by
  intro fuel cs x h
  rcases open_slice ht h with ⟨rfl, _⟩ | ⟨a, len, cap, m, n, D, Pl, rfl, hb, hl, hm, hmm, _, hx⟩
  · exact ⟨[], ⟨none, 0, rfl, Nat.le_refl _, rfl, by simp, fun h => by simp at h⟩, fun x hx => by simp at hx⟩
  · simp only [if_true] at hmm
    obtain ⟨Y, hY⟩ := choose_lt (α := α) (n := len) (p := fun i y => p y ∧ ∃ c, d.K w y c ∧ ∀ j u, c[j]? = some u → w.cell? (a.add (i * d.sz + j)) = some u) (fun i hi => by
      obtain ⟨cs', h1, h2⟩ := hx i (by omega)
      obtain ⟨y, hy, hp⟩ := ho _ _ _ h2
      obtain ⟨_, hlen, hcell⟩ := World.cells?_some h1
      refine ⟨y, hp, cs', hy, fun j u hj => ?_⟩
      have hj' : j < cs'.length := (List.getElem?_eq_some_iff.1 hj).1
      have := hcell j (by omega)
      rw [hj, hc] at this
      rwa [Addr.add_add] at this)
    have hlen : ((List.range len).map Y).length = len := by simp
    refine ⟨(List.range len).map Y, ⟨some a, cap, by rw [hlen], by rw [hlen]; exact hl, hlen.trans hlen.symm, by rw [hlen]; unfold maxLen at hm; omega, fun _ => ⟨a, rfl, fun j y hj => ?_⟩⟩, fun y hy => ?_⟩
    · have hjl : j < len := by have := (List.getElem?_eq_some_iff.1 hj).1; omega
      rw [List.getElem?_map, List.getElem?_range hjl] at hj
      obtain rfl := Option.some.inj hj
      obtain ⟨_, c, hk, hcell⟩ := hY j hjl
      exact ⟨c, d.K_len hk, hk, hcell⟩
    · obtain ⟨i, hi, rfl⟩ := List.mem_map.1 hy
      exact (hY i (List.mem_range.1 hi)).1
omit [Inhabited α] in
/-- of a parameter: a slice -/
theorem opens_param {t e : TypeId} {d : Kd α} {p : List α → Prop} (ho : Opens enc P w base t (Kd.slice e d) p) {A : Option Addr} {len cap : Nat} {x : DataW H} {ps : List MemPlace} (h : DataW.Trod enc P w base (fun _ => true) true t (.slice A len cap) x ps) :
    ∃ xs : List α, len = xs.length ∧ xs.length ≤ cap ∧ d.C w A xs.length xs ∧ p xs := by
  obtain ⟨fuel, hf⟩ := h
  obtain ⟨xs, ⟨A', c', he, hl, hC⟩, hp⟩ := ho _ _ _ hf
  simp [Value.cells] at he
  obtain ⟨rfl, rfl, rfl⟩ := he
  exact ⟨xs, rfl, hl, hC, hp⟩
end

theorem opens_graph {H : Type} {enc : TypeId × Value → H} {w : World} {base : Nat} : Opens enc Try.prog w base 22 (Kd.slice 27 (Kd.slice 3 (Kd.int .i64))) (fun xs => ∀ x ∈ xs, ∀ y ∈ x, (Lit.int .i64 y).wf = true) :=
  opens_slice Try.underlying22 (by kernel_rfl) (opens_slice Try.underlying27 (by kernel_rfl) (opens_int Try.underlying3))
end Go.Proofs.Ytkmbhknmjnbanaa.A

